/- awake's parts: what its calls answer. -/
import Derived.Test.YtgkmfedjmmleeaaRead
import Derived.Test.YtgkmfedjmmleeaaLay
namespace Go.Proofs.Ytgkmfedjmmleeaa
open Go.RowKit Go.Proofs.YtgkmfedjmmleeaaW.PrintWords
set_option linter.unusedVariables false
set_option linter.unusedSimpArgs false

theorem dat_calls (a : ByteArray) (w : World) : Calls Try.prog 19 #[.string a] w (Ret (.agg #[.string ⟨#[73, 68, 65, 84]⟩, .string a]) (fun w' => Eff w.heap.size [] w w')) :=
  (PHeadReads.vitrinelaw08_dat.calls a ⟨#[73, 68, 65, 84]⟩ a w rfl).mono fun _ _ ⟨he, hb⟩ => ⟨he, (Eff.refl _ _ _).of_below hb⟩
theorem lends_calls (w : World) : Calls Try.prog 20 #[] w (Ret (.agg #[.string ⟨#[73, 69, 78, 68]⟩, .string ⟨#[]⟩]) (fun w' => Eff w.heap.size [] w w')) :=
  (PHeadReads.vitrinelaw08_ends.calls ⟨#[73, 69, 78, 68]⟩ ⟨#[]⟩ w rfl).mono fun _ _ ⟨he, hb⟩ => ⟨he, (Eff.refl _ _ _).of_below hb⟩
theorem grey_calls (w : World) : Calls Try.prog 25 #[] w (Ret (.agg #[.int .i64 1, .int .i64 1, .int .i64 8, .int .i64 0, .int .i64 0]) (fun w' => Eff w.heap.size [] w w')) :=
  (PHeadReads.vitrinelaw08_grey.calls 1 1 8 0 0 w rfl).mono fun _ _ ⟨he, hb⟩ => ⟨he, (Eff.refl _ _ _).of_below hb⟩

theorem chs_of_cells {w : World} {g : Nat} {t : TypeId} {cs : Array Value} {l : List (ByteArray × ByteArray)} (h : w.heap[g]? = some (.cells cs t (0, 0)))
    (hc : ∀ i T D, l[i]? = some (T, D) → cs[i * 2]? = some (.string T) ∧ cs[i * 2 + 1]? = some (.string D)) : Chs w (some ⟨g, 0, none⟩) l := by
  intro i T D hi
  obtain ⟨c0, c1⟩ := hc i T D hi
  refine ⟨_, rfl, ?_, ?_⟩
  · rw [add_plain]; rw [blk_cell h]; exact c0
  · rw [add_plain]; rw [blk_cell h]; exact c1

def ch2 (GB : ByteArray) : List (ByteArray × ByteArray) := [(⟨#[73, 72, 68, 82]⟩, GB), (⟨#[73, 68, 65, 84]⟩, ⟨#[120]⟩), (⟨#[73, 68, 65, 84]⟩, ⟨#[121]⟩), (⟨#[73, 69, 78, 68]⟩, ⟨#[]⟩)]
def ch3 (GB : ByteArray) : List (ByteArray × ByteArray) := [(⟨#[73, 72, 68, 82]⟩, GB), (⟨#[73, 69, 78, 68]⟩, ⟨#[]⟩)]
def ch4 (GB : ByteArray) : List (ByteArray × ByteArray) := [(⟨#[73, 72, 68, 82]⟩, GB), (⟨#[73, 68, 65, 84]⟩, ⟨#[120]⟩), (⟨#[116, 69, 88, 116]⟩, ⟨#[]⟩), (⟨#[73, 68, 65, 84]⟩, ⟨#[121]⟩), (⟨#[73, 69, 78, 68]⟩, ⟨#[]⟩)]
def ch5 (GB : ByteArray) : List (ByteArray × ByteArray) := [(⟨#[73, 72, 68, 82]⟩, GB), (⟨#[65, 66, 67, 68]⟩, ⟨#[]⟩), (⟨#[73, 68, 65, 84]⟩, ⟨#[120]⟩), (⟨#[73, 69, 78, 68]⟩, ⟨#[]⟩)]

theorem read2 : readP (ch2 (strOfNums (layBytes 1 1 8 0 0))) = (⟨1, 1, 8, 0, 0, ⟨#[]⟩, ⟨#[]⟩, false⟩, [120, 121], 0) := by kernel_rfl
theorem read3 : (readP (ch3 (strOfNums (layBytes 1 1 8 0 0)))).2.2 = 23 := by kernel_rfl
theorem read4 : (readP (ch4 (strOfNums (layBytes 1 1 8 0 0)))).2.2 = 23 := by kernel_rfl
theorem read5 : (readP (ch5 (strOfNums (layBytes 1 1 8 0 0)))).2.2 = 27 := by kernel_rfl
theorem right1 : rightP 1 1 8 1 0 = 24 := by decide +kernel
theorem right2 : rightP 1025 1 8 0 0 = 5 := by decide +kernel

def chVals (l : List (ByteArray × ByteArray)) : List Value := l.flatMap fun x => [.string x.1, .string x.2]
theorem chVals_get : ∀ (l : List (ByteArray × ByteArray)) (i : Nat) (T D : ByteArray), l[i]? = some (T, D) → (chVals l)[i * 2]? = some (.string T) ∧ (chVals l)[i * 2 + 1]? = some (.string D)
  | [], i, T, D, h => by simp at h
  | x :: l, 0, T, D, h => by
    simp only [List.getElem?_cons_zero, Option.some.injEq] at h
    subst h
    exact ⟨rfl, rfl⟩
  | x :: l, i + 1, T, D, h => by
    have := chVals_get l i T D (by simpa using h)
    rw [show (i + 1) * 2 = i * 2 + 1 + 1 by omega]
    exact this
theorem chs_new {w : World} {g : Nat} {t : TypeId} {l : List (ByteArray × ByteArray)} (h : w.heap[g]? = some (.cells (chVals l).toArray t (0, 0))) : Chs w (some ⟨g, 0, none⟩) l :=
  chs_of_cells h (fun i T D hi => by
    rw [List.getElem?_toArray, List.getElem?_toArray]
    exact chVals_get l i T D hi)

theorem sz0 : (⟨#[]⟩ : ByteArray).size = 0 := rfl
theorem sz1 : (⟨#[120]⟩ : ByteArray).size = 1 := rfl
theorem sz2 : (⟨#[121]⟩ : ByteArray).size = 1 := rfl
theorem ok2 {GB : ByteArray} (h : GB.size = 13) : (∀ x ∈ ch2 GB, x.2.size ≤ 140737488351232) ∧ total (ch2 GB) ≤ 140737488355328 := by simp [ch2, total, h, sz0, sz1, sz2]
theorem ok3 {GB : ByteArray} (h : GB.size = 13) : (∀ x ∈ ch3 GB, x.2.size ≤ 140737488351232) ∧ total (ch3 GB) ≤ 140737488355328 := by simp [ch3, total, h, sz0, sz1, sz2]
theorem ok4 {GB : ByteArray} (h : GB.size = 13) : (∀ x ∈ ch4 GB, x.2.size ≤ 140737488351232) ∧ total (ch4 GB) ≤ 140737488355328 := by simp [ch4, total, h, sz0, sz1, sz2]
theorem ok5 {GB : ByteArray} (h : GB.size = 13) : (∀ x ∈ ch5 GB, x.2.size ≤ 140737488351232) ∧ total (ch5 GB) ≤ 140737488355328 := by simp [ch5, total, h, sz0, sz1, sz2]
theorem size13 : (strOfNums (layBytes 1 1 8 0 0)).size = 13 := by kernel_rfl

structure AwEnv where
  sl : Value
  g : Nat

/-- The world of one of awake's regions that read: the list (a), the block of the shape (b), the shape laid (c). -/
structure AwInv (W1 : World) (n : Nat) (l : List (ByteArray × ByteArray)) (s : Shp) (env : AwEnv) (a b r c : Bool) (w : World) : Prop where
  eff : Eff W1.heap.size [] W1 w
  sl : a = true → c = false → ∃ A, env.sl = .slice A n n ∧ Chs w A l
  al : b = true → W1.heap.size ≤ env.g ∧ w.heap[env.g]? = some (.cells (if c = true then s.vals.toArray else shp0) 36 (0, 0))
  cr : c = true → r = true
  ca : c = true → b = true

theorem AwInv.mono {W1 : World} {n : Nat} {l : List (ByteArray × ByteArray)} {s : Shp} {env : AwEnv} {a b r c : Bool} {w w' : World} (h : AwInv W1 n l s env a b r c w) (k : Eff w.heap.size [] w w') : AwInv W1 n l s env a b r c w' :=
  ⟨h.eff.trans (k.mono h.eff.size (by simp)), fun x y => by obtain ⟨A, q, e⟩ := h.sl x y; exact ⟨A, q, e.below (k.below (Nat.le_refl _))⟩,
    fun x => ⟨(h.al x).1, k.blockB (h.al x).2 (blk_lt (h.al x).2)⟩, h.cr, h.ca⟩

theorem AwInv.stored {W1 : World} {n : Nat} {l : List (ByteArray × ByteArray)} {s : Shp} {env : AwEnv} {a : Bool} {w : World} (h : AwInv W1 n l s env a true true false w) :
    AwInv W1 n l s env a true true true (storeL env.g s.vals 0 w) := by
  have h1 := h.al rfl
  refine ⟨storeL_new h1.1 _ _ _ h.eff, (fun _ hc => Bool.noConfusion hc), fun _ => ⟨h1.1, ?_⟩, fun _ => rfl, fun _ => rfl⟩
  exact blk_store8 (v0 := .int .i64 s.W) (v1 := .int .i64 s.H) (v2 := .int .i64 s.D) (v3 := .int .i64 s.C) (v4 := .int .i64 s.L) (v5 := .string s.pal) (v6 := .string s.trans) (v7 := .bool s.hasT) h1.2

end Go.Proofs.Ytgkmfedjmmleeaa
