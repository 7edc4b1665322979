/- head.Read, walked. -/
import Derived.Test.YtgkmfedjmmleeaaTakes
import Derived.Test.YtgkmfedjmmleeaaFirst
import Derived.Test.YtgkmfedjmmleeaaStoreW
namespace Go.Proofs.Ytgkmfedjmmleeaa
open Go.RowKit Go.Proofs.YtgkmfedjmmleeaaW.PrintWords
set_option linter.unusedVariables false

/-- Chunks that lie one behind the other from an address on. -/
def Chs (w : World) (A : Option Addr) (l : List (ByteArray × ByteArray)) : Prop :=
  ∀ i T D, l[i]? = some (T, D) → ∃ ad, A = some ad ∧ w.cell? (ad.add (i * 2)) = some (.string T) ∧ w.cell? ⟨(ad.add (i * 2)).block, (ad.add (i * 2)).off + 1, none⟩ = some (.string D)

theorem add_zero_ (a : Addr) : a.add 0 = a := by unfold Addr.add; simp
theorem add_add_ (a : Addr) (i j : Nat) : (a.add i).add j = a.add (i + j) := by
  unfold Addr.add
  by_cases hi : i = 0 <;> by_cases hj : j = 0 <;> simp [hi, hj, Nat.add_assoc]
theorem add_block (a : Addr) (i : Nat) : (a.add i).block = a.block := by unfold Addr.add; split <;> rfl

theorem Chs.tail {w : World} {A : Option Addr} {x : ByteArray × ByteArray} {l : List (ByteArray × ByteArray)} (h : Chs w A (x :: l)) : Chs w (A.map (·.add 2)) l := by
  intro i T D hi
  obtain ⟨ad, rfl, h1, h2⟩ := h (i + 1) T D (by simpa using hi)
  refine ⟨ad.add 2, rfl, ?_, ?_⟩
  · rw [add_add_, show 2 + i * 2 = (i + 1) * 2 by omega]; exact h1
  · rw [add_add_, show 2 + i * 2 = (i + 1) * 2 by omega]; exact h2
theorem Chs.below {w w' : World} {A : Option Addr} {l : List (ByteArray × ByteArray)} (h : Chs w A l) (hb : Below w.heap.size w w') : Chs w' A l := by
  intro i T D hi
  obtain ⟨ad, e, h1, h2⟩ := h i T D hi
  exact ⟨ad, e, pw_cell_below hb h1, pw_cell_below hb h2⟩

def Shp.agg (s : Shp) : Value := .agg #[.int .i64 s.W, .int .i64 s.H, .int .i64 s.D, .int .i64 s.C, .int .i64 s.L, .string s.pal, .string s.trans, .bool s.hasT]
def Shp.vals (s : Shp) : List Value := [.int .i64 s.W, .int .i64 s.H, .int .i64 s.D, .int .i64 s.C, .int .i64 s.L, .string s.pal, .string s.trans, .bool s.hasT]

/-- Bytes of all data. -/
def total (l : List (ByteArray × ByteArray)) : Nat := (l.map (·.2.size)).sum

theorem sliceInfo : (Try.prog.info? 30).map (fun i => i.size) = some 2 := by kernel_rfl

def readRes (p : Shp × List UInt8 × Int) : Value := .tuple #[p.1.agg, .string ⟨p.2.1.toArray⟩, .int .i64 p.2.2]

theorem cells8 {w : World} {g : Nat} {t : TypeId} {v0 v1 v2 v3 v4 v5 v6 v7 : Value} (h : w.heap[g]? = some (.cells #[v0, v1, v2, v3, v4, v5, v6, v7] t (0, 0))) :
    w.cell? ⟨g, 0, none⟩ = some v0 ∧ w.cell? ⟨g, 1, none⟩ = some v1 ∧ w.cell? ⟨g, 2, none⟩ = some v2 ∧ w.cell? ⟨g, 3, none⟩ = some v3 ∧ w.cell? ⟨g, 4, none⟩ = some v4 ∧ w.cell? ⟨g, 5, none⟩ = some v5 ∧ w.cell? ⟨g, 6, none⟩ = some v6 ∧ w.cell? ⟨g, 7, none⟩ = some v7 :=
  ⟨blk_cell h 0, blk_cell h 1, blk_cell h 2, blk_cell h 3, blk_cell h 4, blk_cell h 5, blk_cell h 6, blk_cell h 7⟩
theorem frozen8 {w : World} {g : Nat} {t : TypeId} {cs : Array Value} (h : w.heap[g]? = some (.cells cs t (0, 0))) :
    w.frozen? ⟨g, 0, none⟩ = false ∧ w.frozen? ⟨g, 1, none⟩ = false ∧ w.frozen? ⟨g, 2, none⟩ = false ∧ w.frozen? ⟨g, 3, none⟩ = false ∧ w.frozen? ⟨g, 4, none⟩ = false ∧ w.frozen? ⟨g, 5, none⟩ = false ∧ w.frozen? ⟨g, 6, none⟩ = false ∧ w.frozen? ⟨g, 7, none⟩ = false :=
  ⟨blk_frozen h 0, blk_frozen h 1, blk_frozen h 2, blk_frozen h 3, blk_frozen h 4, blk_frozen h 5, blk_frozen h 6, blk_frozen h 7⟩

theorem rdCells8 {w : World} {g : Nat} {t : TypeId} {r : Rd} {p v : Value} (h : w.heap[g]? = some (.cells (r.cells p v) t (0, 0))) :
    w.cell? ⟨g, 0, none⟩ = some (.int .i64 r.W) ∧ w.cell? ⟨g, 1, none⟩ = some (.int .i64 r.H) ∧ w.cell? ⟨g, 2, none⟩ = some (.int .i64 r.D) ∧ w.cell? ⟨g, 3, none⟩ = some (.int .i64 r.C) ∧ w.cell? ⟨g, 4, none⟩ = some (.int .i64 r.L) ∧ w.cell? ⟨g, 5, none⟩ = some (.string r.pal) ∧ w.cell? ⟨g, 6, none⟩ = some (.string r.trans) ∧ w.cell? ⟨g, 7, none⟩ = some (.bool r.hasT) :=
  ⟨blk_cell h 0, blk_cell h 1, blk_cell h 2, blk_cell h 3, blk_cell h 4, blk_cell h 5, blk_cell h 6, blk_cell h 7⟩

/-- The zero shape, in the block of the first result. -/
def shp0 : Array Value := #[.int .i64 0, .int .i64 0, .int .i64 0, .int .i64 0, .int .i64 0, .string ⟨#[]⟩, .string ⟨#[]⟩, .bool false]

set_option maxHeartbeats 2000000 in
theorem read_nil (w : World) (A : Option Addr) (c : Nat) : Calls Try.prog 17 #[.slice A 0 c] w (Ret (readRes (readP [])) (fun w' => Eff w.heap.size [] w w')) := by
  go_enter Try.func17, Try.ntmps17
  go_wp2_with fail
  refine bodyPost_ret (v := .tuple #[.agg shp0, .string ⟨#[]⟩, .int .i64 23]) (by simp [results, Try.results17, go_sem, shp0]) rfl (Ret.mk' rfl ?_)
  repeat (first | (with_reducible exact Eff.refl _ _ _) | (with_reducible apply Eff.alloc))

set_option maxHeartbeats 4000000 in
theorem read_first (w : World) (A : Option Addr) (c : Nat) (T D : ByteArray) (l : List (ByteArray × ByteArray)) (h : Chs w A ((T, D) :: l)) (hl : l.length < 1000000) (hD : D.size ≤ 9223372036854775807) (he : (firstP T D).2 ≠ 0) :
    Calls Try.prog 17 #[.slice A (l.length + 1) c] w (Ret (readRes (readP ((T, D) :: l))) (fun w' => Eff w.heap.size [] w w')) := by
  have hf : readP ((T, D) :: l) = (shpZero, [], (firstP T D).2) := by simp only [readP]; rw [if_pos he]
  rw [hf]
  obtain ⟨ad, rfl, k0, k1⟩ := h 0 T D rfl
  have hadb : ad.block < w.heap.size := by have := World.block_lt_of_cell? w _ k0; rwa [add_block] at this
  rw [Nat.zero_mul, add_zero_] at k0 k1
  have hc : ∀ w, Calls Try.prog 29 #[.agg #[.string T, .string D]] w (Ret (.tuple #[.agg #[.int .i64 (firstP T D).1.W, .int .i64 (firstP T D).1.H, .int .i64 (firstP T D).1.D, .int .i64 (firstP T D).1.C, .int .i64 (firstP T D).1.L], .int .i64 (firstP T D).2]) (fun w' => Eff w.heap.size [] w w')) := fun w => first_calls T D hD w
  generalize firstP T D = q at hc he ⊢
  obtain ⟨q1, q2⟩ := q
  have hl0 : (((l.length + 1 : Nat) : Int) == 0) = false := by simp; omega
  have HC := Aside0.mk hc
  have hne : (q2 != 0) = true := by simp [bne_iff_ne]; exact he
  clear hc hf h he
  dsimp only
  go_enter Try.func17, Try.ntmps17
  go_wp2_with (go_at_call 29; refine (HC.out _).mono ?_)
  rintro e w1 ⟨rfl, h1⟩
  have hg : w1.heap[w.heap.size]? = some (.cells #[.int .i64 0, .int .i64 0, .int .i64 0, .int .i64 0, .int .i64 0, .string ⟨#[]⟩, .string ⟨#[]⟩, .bool false] 36 (0, 0)) := h1.blockB (heap_alloc_new w (.cells shp0 36)) (by simp)
  have hsz : w.heap.size < w1.heap.size := blk_lt hg
  obtain ⟨z0, z1, z2, z3, z4, z5, z6, z7⟩ := cells8 hg
  obtain ⟨f0, f1, f2, f3, f4, f5, f6, f7⟩ := frozen8 hg
  have H1 := Aside0.mk h1
  have HG := Aside0.mk hg
  clear h1 hg
  go_wp2_with fail
  refine bodyPost_ret (results_cell3 rfl _ _ w.heap.size 36 shp0 (0, 0) _ rfl ?_ Try.underlying36 rfl (by kernel_rfl)) rfl (Ret.mk' ?_ ?_)
  · refine blk_alloc ?_ _
    have e := blk_store8 (v0 := .int .i64 0) (v1 := .int .i64 0) (v2 := .int .i64 0) (v3 := .int .i64 0) (v4 := .int .i64 0) (v5 := .string ⟨#[]⟩) (v6 := .string ⟨#[]⟩) (v7 := .bool false) HG.out
    simp only [storeL, Nat.zero_add, Nat.reduceAdd] at e
    exact e
  · rfl
  · have h2 := ((Eff.refl w.heap.size [] w).alloc (.cells shp0 36)).trans (H1.out.mono (by simp) (by simp))
    repeat (first | (with_reducible exact h2) | (with_reducible apply Eff.alloc) | (with_reducible refine Eff.setNew ?_ (by first | exact Nat.le_refl _ | omega) _ _))

/-- The loop's relation: so many chunks behind the first are behind us. -/
structure ReadInv (w : World) (b : Nat) (l : List (ByteArray × ByteArray)) (res : Shp × List UInt8 × Int) (k : Nat) (r : Rd) (bs : List UInt8) (wr : World) : Prop where
  rd : RdAt wr w.heap.size b r bs
  ok : r.ok
  len : bs.length + total (l.drop k) ≤ 140737488355328
  res : goOnP r bs (l.drop k) = res
  blk : wr.heap[w.heap.size]? = some (.cells #[.int .i64 0, .int .i64 0, .int .i64 0, .int .i64 0, .int .i64 0, .string ⟨#[]⟩, .string ⟨#[]⟩, .bool false] 36 (0, 0))
  eff : Eff w.heap.size [] w wr

set_option maxRecDepth 100000 in
set_option maxHeartbeats 20000000 in
theorem read_good (w : World) (A : Option Addr) (c : Nat) (T D : ByteArray) (l : List (ByteArray × ByteArray)) (h : Chs w A ((T, D) :: l)) (hc : l.length + 1 ≤ c) (hl : l.length < 1000000) (hD : D.size ≤ 9223372036854775807) (he : (firstP T D).2 = 0)
    (hds : ∀ x ∈ l, x.2.size ≤ 140737488351232) (htot : total l ≤ 140737488355328) :
    Calls Try.prog 17 #[.slice A (l.length + 1) c] w (Ret (readRes (readP ((T, D) :: l))) (fun w' => Eff w.heap.size [] w w')) := by
  have hf : readP ((T, D) :: l) = goOnP (rdOf (firstP T D).1) [] l := by simp only [readP]; rw [if_neg (by simpa using he)]
  rw [hf]
  have hok : (rdOf (firstP T D).1).ok := by
    have h2 : (firstP T D).1 = firstHd D ∧ (firstHd D).right = 0 := by
      unfold firstP at he ⊢
      split at he
      · cases he
      · rename_i h1
        split at he
        · cases he
        · rename_i h2
          rw [if_neg h1, if_neg h2]
          exact ⟨rfl, he⟩
    rw [h2.1]
    have := right_bounds h2.2
    exact ⟨by show 0 ≤ (firstHd D).D; omega, by show (firstHd D).D ≤ 16; omega, by show (0 : Nat) ≤ _; omega⟩
  obtain ⟨ad, rfl, k0, k1⟩ := h 0 T D rfl
  have hadb : ad.block < w.heap.size := by have := World.block_lt_of_cell? w _ k0; rwa [add_block] at this
  rw [Nat.zero_mul, add_zero_] at k0 k1
  have hcf : ∀ w, Calls Try.prog 29 #[.agg #[.string T, .string D]] w (Ret (.tuple #[.agg #[.int .i64 (firstP T D).1.W, .int .i64 (firstP T D).1.H, .int .i64 (firstP T D).1.D, .int .i64 (firstP T D).1.C, .int .i64 (firstP T D).1.L], .int .i64 (firstP T D).2]) (fun w' => Eff w.heap.size [] w w')) := fun w => first_calls T D hD w
  rw [he] at hcf
  have ht := h.tail
  generalize (firstP T D).1 = q at hcf hok ⊢
  obtain ⟨res, hres⟩ : ∃ res, goOnP (rdOf q) [] l = res := ⟨_, rfl⟩
  rw [hres]
  have HRES := Aside0.mk hres
  clear hres
  have hl0 : (((l.length + 1 : Nat) : Int) == 0) = false := by simp; omega
  have hslice : ∀ W, Sem.run Try.prog (Instr.slice 33 (Value.slice (some ad) (l.length + 1) c) (some (Value.int .i64 1)) none none) W = Result.ok (Value.slice (if c = 1 then some ad else some (ad.add 2)) l.length (c - 1)) W := by
    obtain ⟨i0, hi, hz⟩ := Option.map_eq_some_iff.1 sliceInfo
    intro W
    have := cut_from (P := Try.prog) 33 30 .i64 Try.underlying33 hi 2 hz (some ad) (l.length + 1) c 1 (by omega) (by omega) W
    simpa using this
  generalize hA' : (if c = 1 then some ad else some (ad.add 2)) = A' at hslice
  have hch : Chs w A' l := by
    by_cases h0 : l = []
    · subst h0; intro i T D hi; simp at hi
    · have : 0 < l.length := List.length_pos_iff.2 h0
      rw [if_neg (by omega)] at hA'
      subst hA'
      exact ht
  have HC := Aside0.mk hcf
  have HCH := Aside0.mk hch
  have HOK := Aside0.mk hok
  have HDS := Aside0.mk hds
  have HTOT := Aside0.mk htot
  have HCC := Aside0.mk hc
  clear hcf hch hok hds htot hf h ht he hA' hc
  go_enter Try.func17, Try.ntmps17
  go_wp2_with (go_at_call 29; refine (HC.out _).mono ?_)
  rintro e w1 ⟨rfl, h1⟩
  have hg : w1.heap[w.heap.size]? = some (.cells #[.int .i64 0, .int .i64 0, .int .i64 0, .int .i64 0, .int .i64 0, .string ⟨#[]⟩, .string ⟨#[]⟩, .bool false] 36 (0, 0)) := h1.blockB (heap_alloc_new w (.cells shp0 36)) (by simp)
  have hsz : w.heap.size < w1.heap.size := blk_lt hg
  have h2 := ((Eff.refl w.heap.size [] w).alloc (.cells shp0 36)).trans (h1.mono (by simp) (by simp))
  have H2 := Aside0.mk h2
  have HG := Aside0.mk hg
  clear h1 h2 hg
  go_wp2_with fail
  have hrd0 : RdAt ((w1.alloc (.cells #[.int .i64 q.W, .int .i64 q.H, .int .i64 q.D, .int .i64 q.C, .int .i64 q.L] 23)).alloc (.cells #[.int .i64 q.W, .int .i64 q.H, .int .i64 q.D, .int .i64 q.C, .int .i64 q.L, .string ⟨#[]⟩, .string ⟨#[]⟩, .bool false, .bool false, .pointer none, .slice none 0 0, .bool false, .bool false] 62)) w.heap.size (w1.heap.size + 1) (rdOf q) [] := by
    refine ⟨.pointer none, .slice none 0 0, ?_, ?_, .inl rfl, .slice none 0 0, rfl, World.ownsRow_nil _ _ _ _⟩
    · omega
    · exact heap_alloc2_new w1 _ _
  have hinv0 : ReadInv w (w1.heap.size + 1) l res 0 (rdOf q) [] ((w1.alloc (.cells #[.int .i64 q.W, .int .i64 q.H, .int .i64 q.D, .int .i64 q.C, .int .i64 q.L] 23)).alloc (.cells #[.int .i64 q.W, .int .i64 q.H, .int .i64 q.D, .int .i64 q.C, .int .i64 q.L, .string ⟨#[]⟩, .string ⟨#[]⟩, .bool false, .bool false, .pointer none, .slice none 0 0, .bool false, .bool false] 62)) :=
    ⟨hrd0, HOK.out, by have := HTOT.out; simp; exact this, by rw [List.drop_zero]; exact HRES.out, blk_alloc (blk_alloc HG.out _) _, (H2.out.alloc _).alloc _⟩
  generalize ((w1.alloc (.cells #[.int .i64 q.W, .int .i64 q.H, .int .i64 q.D, .int .i64 q.C, .int .i64 q.L] 23)).alloc (.cells #[.int .i64 q.W, .int .i64 q.H, .int .i64 q.D, .int .i64 q.C, .int .i64 q.L, .string ⟨#[]⟩, .string ⟨#[]⟩, .bool false, .bool false, .pointer none, .slice none 0 0, .bool false, .bool false] 62)) = W0 at hrd0 hinv0 ⊢
  have HINV0 := Aside0.mk hinv0
  have HL : l.length ≤ 1000000 := by omega
  clear hinv0 hrd0
  go_loopw [34] (fun i wr => ∃ (k : Nat) (r : Rd) (bs : List UInt8), k ≤ l.length ∧ i = .int .i64 k ∧ Aside0 (ReadInv w (w1.heap.size + 1) l res k r bs wr)) (fun i _ => l.length - (intOf i).toNat)
  case atStart => exact ⟨0, _, _, Nat.zero_le _, rfl, HINV0⟩
  case round =>
    obtain ⟨k, r, bs, hk, rfl, hinv⟩ := hrel
    have hwr : w.heap.size < wr.heap.size := blk_lt hinv.out.blk
    have hbr : w1.heap.size + 1 < wr.heap.size := by obtain ⟨_, _, h⟩ := hinv.out.rd; exact blk_lt h.2.1
    by_cases hlt : k < l.length
    · obtain ⟨T', D', hTD⟩ : ∃ T' D', l[k]? = some (T', D') := ⟨l[k].1, l[k].2, by rw [List.getElem?_eq_getElem hlt]⟩
      obtain ⟨ad', rfl, c0, c1⟩ := (HCH.out.below (hinv.out.eff.below' (Nat.le_refl _))) k T' D' hTD
      have hab : (ad'.add (k * 2)).block < wr.heap.size := World.block_lt_of_cell? wr _ c0
      have hdrop : l.drop k = (T', D') :: l.drop (k + 1) := by
        rw [List.drop_eq_getElem_cons hlt]
        rw [List.getElem?_eq_getElem hlt] at hTD
        injection hTD with hTD
        rw [hTD]
      have hmem : (T', D') ∈ l := List.mem_of_getElem? hTD
      have hDs : D'.size ≤ 140737488351232 := HDS.out _ hmem
      have HDR := Aside0.mk hdrop
      clear hdrop hTD hmem
      by_cases hie : T'.toList = tIEND
      · have tie : (T'.toList == [73, 69, 78, 68]) = true := by rw [hie]; rfl
        have HIE := Aside0.mk hie
        clear hie
        go_wp2_with (go_at_call 30; refine (ends_calls _ w.heap.size (w1.heap.size + 1) r bs T' D' _ (hinv.out.rd.alloc _)).mono ?_)
        rintro e w3 ⟨rfl, he3⟩
        have hn : ((l.length : Int) + 1 - 2 - k) = ((l.drop (k + 1)).length : Int) := by rw [List.length_drop]; omega
        have hstep : goOnP r bs (l.drop k) = if endsP r D' (l.drop (k + 1)).length = 0 then (r.shp, bs, 0) else (shpZero, [], endsP r D' (l.drop (k + 1)).length) := by
          rw [HDR.out]; simp only [goOnP]; rw [if_pos HIE.out]
        rw [hinv.out.res] at hstep
        rw [hn]
        clear hn
        have hblk := he3.keep (blk_alloc hinv.out.blk (.cells #[.string T', .string D'] 30)) (by simp)
        have heff := (hinv.out.eff.alloc (.cells #[.string T', .string D'] 30)).trans (he3.mono (by have := hinv.out.eff.size; simp; omega) (by simp))
        have hrd3 := (hinv.out.rd.alloc (.cells #[.string T', .string D'] 30)).keep he3 (by simp) (by simp)
        have hsz3 : w.heap.size < w3.heap.size := blk_lt hblk
        generalize endsP r D' (l.drop (k + 1)).length = en at hstep ⊢
        have HRD3 := Aside0.mk hrd3
        have HBLK := Aside0.mk hblk
        have HEFF := Aside0.mk heff
        have HSTEP := Aside0.mk hstep
        clear hrd3 he3 hblk heff hstep
        by_cases hen : en = 0
        · subst hen
          have hresq : res = (r.shp, bs, 0) := by simpa using HSTEP.out
          obtain ⟨p0, v0, hb0⟩ := HRD3.out
          have hne : w1.heap.size + 1 ≠ w.heap.size := by omega
          have HB0 := Aside0.mk hb0
          have HNE := Aside0.mk hne
          have HRQ := Aside0.mk hresq
          clear hresq hb0 hne
          go_wp2
          refine wp_region_all (Env := Unit) (vals := fun _ => [.pointer (some ⟨w1.heap.size + 1, 0, none⟩), .pointer (some ⟨w1.heap.size + 1, 0, none⟩), .pointer (some ⟨w1.heap.size + 1, 0, none⟩), .agg #[.int .i64 r.W, .int .i64 r.H, .int .i64 r.D, .int .i64 r.C, .int .i64 r.L, .string r.pal, .string r.trans, .bool r.hasT], .pointer (some ⟨w1.heap.size + 1, 0, none⟩), .pointer (some ⟨w1.heap.size + 1, 0, none⟩), .pointer (some ⟨w1.heap.size + 1, 9, none⟩), .string ⟨bs.toArray⟩, undef, .string ⟨bs.toArray⟩, .int .i64 0])
            (WI := fun _ D w' => StoreW w3 w.heap.size [5] w.heap.size [.int .i64 r.W, .int .i64 r.H, .int .i64 r.D, .int .i64 r.C, .int .i64 r.L, .string r.pal, .string r.trans, .bool r.hasT] (D 7) (D 8) w')
            (dsts := [some 54, some 55, some 56, some 57, some 58, some 59, some 60, some 61, none, some 3, some 4])
            (deps := [([], []), ([0], [0]), ([1], [1]), ([2], [2]), ([], []), ([4], [4]), ([5], [5]), ([6], [6]), ([3, 7, 0, 1, 2, 3], [3]), ([7, 8, 0, 1, 2, 3, 4, 5, 6, 7, 8], [7]), ([9, 0, 1, 2, 3, 4, 5, 6, 7, 8, 9], [])])
            (all := [0, 1, 2, 3, 4, 5, 6, 7, 8, 9, 10]) (by kernel_rfl) (by kernel_rfl) (by kernel_rfl) (by kernel_rfl) (by rfl) () ?_ ?_ _ (fun _ => rfl) ?_
          · refine StepsL.val ?_ ?_ ?_
            · intro env D wq hD hw
              simpa [upd] using hw
            · intro env D wq hd hw
              clear hd hw
              generalize hA : rfillL _ _ _ _ = a
              have q7 : a.tmps[7]? = some (.pointer (some ⟨w1.heap.size + 1, 0, none⟩)) := by subst hA; kernel_rfl
              have r7 : a.tmps.getD 7 undef = (.pointer (some ⟨w1.heap.size + 1, 0, none⟩)) := by subst hA; kernel_rfl
              clear hA
              unfold StepVal
              rw [if_pos (by rfl)]
              go_simp
            refine StepsL.val ?_ ?_ ?_
            · intro env D wq hD hw
              simpa [upd] using hw
            · intro env D wq hd hw
              clear hd hw
              generalize hA : rfillL _ _ _ _ = a
              have q54 : a.tmps[54]? = some (.pointer (some ⟨w1.heap.size + 1, 0, none⟩)) := by subst hA; kernel_rfl
              have r54 : a.tmps.getD 54 undef = (.pointer (some ⟨w1.heap.size + 1, 0, none⟩)) := by subst hA; kernel_rfl
              clear hA
              unfold StepVal
              rw [if_pos (by rfl)]
              go_simp
            refine StepsL.val ?_ ?_ ?_
            · intro env D wq hD hw
              simpa [upd] using hw
            · intro env D wq hd hw
              clear hd hw
              generalize hA : rfillL _ _ _ _ = a
              have q55 : a.tmps[55]? = some (.pointer (some ⟨w1.heap.size + 1, 0, none⟩)) := by subst hA; kernel_rfl
              have r55 : a.tmps.getD 55 undef = (.pointer (some ⟨w1.heap.size + 1, 0, none⟩)) := by subst hA; kernel_rfl
              clear hA
              unfold StepVal
              rw [if_pos (by rfl)]
              go_simp
            refine StepsL.val ?_ ?_ ?_
            · intro env D wq hD hw
              simpa [upd] using hw
            · intro env D wq hd hw
              clear hd
              obtain ⟨u0, u1, u2, u3, u4, u5, u6, u7⟩ := rdCells8 (hw.keep HB0.out.2.1 HNE.out (by decide))
              clear hw
              generalize hA : rfillL _ _ _ _ = a
              have q56 : a.tmps[56]? = some (.pointer (some ⟨w1.heap.size + 1, 0, none⟩)) := by subst hA; kernel_rfl
              have r56 : a.tmps.getD 56 undef = (.pointer (some ⟨w1.heap.size + 1, 0, none⟩)) := by subst hA; kernel_rfl
              clear hA
              unfold StepVal
              rw [if_pos (by rfl)]
              go_simp
            refine StepsL.val ?_ ?_ ?_
            · intro env D wq hD hw
              simpa [upd] using hw
            · intro env D wq hd hw
              clear hd hw
              generalize hA : rfillL _ _ _ _ = a
              have q7 : a.tmps[7]? = some (.pointer (some ⟨w1.heap.size + 1, 0, none⟩)) := by subst hA; kernel_rfl
              have r7 : a.tmps.getD 7 undef = (.pointer (some ⟨w1.heap.size + 1, 0, none⟩)) := by subst hA; kernel_rfl
              clear hA
              unfold StepVal
              rw [if_pos (by rfl)]
              go_simp
            refine StepsL.val ?_ ?_ ?_
            · intro env D wq hD hw
              simpa [upd] using hw
            · intro env D wq hd hw
              clear hd hw
              generalize hA : rfillL _ _ _ _ = a
              have q58 : a.tmps[58]? = some (.pointer (some ⟨w1.heap.size + 1, 0, none⟩)) := by subst hA; kernel_rfl
              have r58 : a.tmps.getD 58 undef = (.pointer (some ⟨w1.heap.size + 1, 0, none⟩)) := by subst hA; kernel_rfl
              clear hA
              unfold StepVal
              rw [if_pos (by rfl)]
              go_simp
            refine StepsL.val ?_ ?_ ?_
            · intro env D wq hD hw
              simpa [upd] using hw
            · intro env D wq hd hw
              clear hd hw
              generalize hA : rfillL _ _ _ _ = a
              have q59 : a.tmps[59]? = some (.pointer (some ⟨w1.heap.size + 1, 0, none⟩)) := by subst hA; kernel_rfl
              have r59 : a.tmps.getD 59 undef = (.pointer (some ⟨w1.heap.size + 1, 0, none⟩)) := by subst hA; kernel_rfl
              clear hA
              unfold StepVal
              rw [if_pos (by rfl)]
              go_simp
            refine StepsL.one ?_ ?_
            · intro env D wq hD hd hw
              have hD7 : D 7 = false := hD
              rw [hD7] at hw
              have hb1 := HB0.out.keep (hw.quiet_ rfl) (by simp) (by simp)
              have HWW := Aside0.mk hw
              have HB1 := Aside0.mk hb1
              clear hd hw hD hD7 hb1
              generalize hA : rfillL _ _ _ _ = a
              have q60 : a.tmps[60]? = some (.pointer (some ⟨w1.heap.size + 1, 9, none⟩)) := by subst hA; kernel_rfl
              have r60 : a.tmps.getD 60 undef = (.pointer (some ⟨w1.heap.size + 1, 9, none⟩)) := by subst hA; kernel_rfl
              clear hA
              unfold StepOk
              rw [if_pos (by rfl)]
              go_simp
              refine (string_calls _ w.heap.size _ 9 _ _ bs HB1.out).mono ?_
              rintro e w2 ⟨rfl, he⟩
              refine ⟨_, rfl, rfl, ?_⟩
              show StoreW _ _ _ _ _ (upd D 7 7) (upd D 7 8) _
              have e1 : upd D 7 7 = true := by simp [upd]
              have e2 : upd D 7 8 = D 8 := by simp [upd]
              rw [e1, e2]
              exact HWW.out.call he
            refine StepsL.one ?_ ?_
            · intro env D wq hD hd hw
              have h7 : D 7 = true := hd 7 (by decide)
              have hD8 : D 8 = false := hD
              rw [hD8, h7] at hw
              obtain ⟨u0, u1, u2, u3, u4, u5, u6, u7⟩ := cells8 (hw.zero HBLK.out (by decide))
              obtain ⟨f0, f1, f2, f3, f4, f5, f6, f7⟩ := frozen8 (hw.zero HBLK.out (by decide))
              have HWW := Aside0.mk hw
              have H7 := Aside0.mk h7
              clear hd hw hD hD8 h7
              generalize hA : rfillL _ _ _ _ = a
              have q2 : a.tmps[2]? = some (.pointer (some ⟨w.heap.size, 0, none⟩)) := by subst hA; kernel_rfl
              have r2 : a.tmps.getD 2 undef = (.pointer (some ⟨w.heap.size, 0, none⟩)) := by subst hA; kernel_rfl
              have q57 : a.tmps[57]? = some (.agg #[.int .i64 r.W, .int .i64 r.H, .int .i64 r.D, .int .i64 r.C, .int .i64 r.L, .string r.pal, .string r.trans, .bool r.hasT]) := by subst hA; kernel_rfl
              have r57 : a.tmps.getD 57 undef = (.agg #[.int .i64 r.W, .int .i64 r.H, .int .i64 r.D, .int .i64 r.C, .int .i64 r.L, .string r.pal, .string r.trans, .bool r.hasT]) := by subst hA; kernel_rfl
              clear hA
              unfold StepOk
              rw [if_pos (by rfl)]
              go_simp
              have e1 : upd D 8 7 = true := by simp [upd, H7.out]
              have e2 : upd D 8 8 = true := by simp [upd]
              show StoreW _ _ _ _ _ (upd D 8 7) (upd D 8 8) _
              rw [e1, e2]
              exact HWW.out.stored
            refine StepsL.val ?_ ?_ ?_
            · intro env D wq hD hw
              simpa [upd] using hw
            · intro env D wq hd hw
              clear hd hw
              generalize hA : rfillL _ _ _ _ = a
              have q61 : a.tmps[61]? = some (.string ⟨bs.toArray⟩) := by subst hA; kernel_rfl
              have r61 : a.tmps.getD 61 undef = (.string ⟨bs.toArray⟩) := by subst hA; kernel_rfl
              clear hA
              unfold StepVal
              rw [if_pos (by rfl)]
              go_simp
            refine StepsL.val ?_ ?_ ?_
            · intro env D wq hD hw
              simpa [upd] using hw
            · intro env D wq hd hw
              clear hd hw
              generalize hA : rfillL _ _ _ _ = a
              clear hA
              unfold StepVal
              rw [if_pos (by rfl)]
              go_simp
            exact StepsL.nil
          · exact StoreW.start _ _ _ _ _
          · intro env D w' hD hw
            rw [hD 7 (by decide), hD 8 (by decide)] at hw
            obtain ⟨w4, h4, rfl⟩ := hw.done
            have hblk4 := h4.keep HBLK.out (by decide)
            have HE4 := Aside0.mk ((HEFF.out.andB (Nat.le_refl _) h4))
            have HB4 := Aside0.mk hblk4
            clear hw hD env h4 hblk4
            generalize hA : rfillL _ _ _ _ = af
            have q2 : af.tmps.getD 2 undef = .pointer (some ⟨w.heap.size, 0, none⟩) := by subst hA; kernel_rfl
            have q3 : af.tmps.getD 3 undef = .string ⟨bs.toArray⟩ := by subst hA; kernel_rfl
            have q4 : af.tmps.getD 4 undef = .int .i64 0 := by subst hA; kernel_rfl
            have qd : af.defers = [] := by subst hA; kernel_rfl
            clear hA
            have e8 := blk_store8 (v0 := .int .i64 r.W) (v1 := .int .i64 r.H) (v2 := .int .i64 r.D) (v3 := .int .i64 r.C) (v4 := .int .i64 r.L) (v5 := .string r.pal) (v6 := .string r.trans) (v7 := .bool r.hasT) HB4.out
            have hnew := storeL_new (Nat.le_refl _) [.int .i64 r.W, .int .i64 r.H, .int .i64 r.D, .int .i64 r.C, .int .i64 r.L, .string r.pal, .string r.trans, .bool r.hasT] 0 _ HE4.out
            generalize storeL w.heap.size [.int .i64 r.W, .int .i64 r.H, .int .i64 r.D, .int .i64 r.C, .int .i64 r.L, .string r.pal, .string r.trans, .bool r.hasT] 0 w4 = W5 at e8 hnew ⊢
            have E8 := Aside0.mk e8
            have HNEW := Aside0.mk hnew
            have Q2 := Aside0.mk q2
            have Q3 := Aside0.mk q3
            have Q4 := Aside0.mk q4
            have QD := Aside0.mk qd
            clear e8 hnew q2 q3 q4 qd
            go_wp2
            refine bodyPost_ret (results_cell3 rfl _ _ w.heap.size 36 _ (0, 0) _ Q2.out E8.out Try.underlying36 rfl (by kernel_rfl)) QD.out (Ret.mk' ?_ HNEW.out)
            rw [HRQ.out, Q3.out, Q4.out]
            kernel_rfl
        · have henb : (en != 0) = true := by simp [bne_iff_ne]; exact hen
          have hresq : res = (shpZero, [], en) := by have := HSTEP.out; rw [if_neg hen] at this; exact this
          have HRQ := Aside0.mk hresq
          clear hresq hen
          obtain ⟨z0, z1, z2, z3, z4, z5, z6, z7⟩ := cells8 HBLK.out
          obtain ⟨f0, f1, f2, f3, f4, f5, f6, f7⟩ := frozen8 HBLK.out
          go_wp2
          refine bodyPost_ret (results_cell3 rfl _ _ w.heap.size 36 shp0 (0, 0) _ rfl ?_ Try.underlying36 rfl (by kernel_rfl)) rfl (Ret.mk' ?_ ?_)
          · (with_reducible repeat (refine blk_alloc ?_ _))
            have e := blk_store8 (v0 := .int .i64 0) (v1 := .int .i64 0) (v2 := .int .i64 0) (v3 := .int .i64 0) (v4 := .int .i64 0) (v5 := .string ⟨#[]⟩) (v6 := .string ⟨#[]⟩) (v7 := .bool false) HBLK.out
            simp only [storeL, Nat.zero_add, Nat.reduceAdd] at e
            exact e
          · rw [HRQ.out]; rfl
          · have h2 := HEFF.out
            repeat (first | (with_reducible exact h2) | (with_reducible apply Eff.alloc) | (with_reducible refine Eff.setNew ?_ (by first | exact Nat.le_refl _ | omega) _ _))
      · have tie : (T'.toList == [73, 69, 78, 68]) = false := by rw [beq_eq_false_iff_ne]; exact hie
        have HIE := Aside0.mk hie
        clear hie
        go_wp2_with (go_at_call 32; refine (takes_calls _ w.heap.size (w1.heap.size + 1) r bs T' D' (hinv.out.rd.alloc _) (by simp; omega) hinv.out.ok hDs (by have h1 := hinv.out.len; rw [HDR.out] at h1; simp [total] at h1; omega)).mono ?_)
        rintro e w3 ⟨rfl, hr3, he3⟩
        have hblk := he3.keep (blk_alloc hinv.out.blk (.cells #[.string T', .string D'] 30)) (by decide)
        have heff := (hinv.out.eff.alloc (.cells #[.string T', .string D'] 30)).andB (Nat.le_refl _) he3
        have hstep : goOnP r bs (l.drop k) = if (takesP r T' D').1 = 0 then goOnP (takesP r T' D').2.1 (bs ++ (takesP r T' D').2.2) (l.drop (k + 1)) else (shpZero, [], (takesP r T' D').1) := by
          rw [HDR.out]; simp only [goOnP]; rw [if_neg HIE.out]
        rw [hinv.out.res] at hstep
        have hlen3 : (bs ++ (takesP r T' D').2.2).length + total (l.drop (k + 1)) ≤ 140737488355328 := by
          have h1 := hinv.out.len
          rw [HDR.out] at h1
          have h2 := takesP_len r T' D'
          simp [total] at h1 ⊢
          omega
        have hok3 := takesP_ok (T := T') hinv.out.ok hDs
        have hsz3 : w.heap.size < w3.heap.size := blk_lt hblk
        obtain ⟨z0, z1, z2, z3, z4, z5, z6, z7⟩ := cells8 hblk
        obtain ⟨f0, f1, f2, f3, f4, f5, f6, f7⟩ := frozen8 hblk
        generalize takesP r T' D' = tp at hr3 hstep hlen3 hok3 ⊢
        obtain ⟨t1, t2, t3⟩ := tp
        dsimp only at hr3 hstep hlen3 hok3
        have HR3 := Aside0.mk hr3
        have HBLK := Aside0.mk hblk
        have HEFF := Aside0.mk heff
        have HLEN3 := Aside0.mk hlen3
        have HOK3 := Aside0.mk hok3
        have HSTEP := Aside0.mk hstep
        clear hr3 he3 hblk heff hlen3 hok3 hstep
        by_cases ht1 : t1 = 0
        · subst ht1
          go_wp2
          go_roundw
          case rel => exact ⟨k + 1, t2, bs ++ t3, by omega, by go_num, ⟨HR3.out, HOK3.out, HLEN3.out, by simpa using HSTEP.out.symm, HBLK.out, HEFF.out⟩⟩
          case measure => simp [intOf]; omega
        · have ht1b : (t1 != 0) = true := by simp [bne_iff_ne]; exact ht1
          have hresq : res = (shpZero, [], t1) := by have := HSTEP.out; rw [if_neg ht1] at this; exact this
          have HRQ := Aside0.mk hresq
          clear hresq ht1
          go_wp2
          refine bodyPost_ret (results_cell3 rfl _ _ w.heap.size 36 shp0 (0, 0) _ rfl ?_ Try.underlying36 rfl (by kernel_rfl)) rfl (Ret.mk' ?_ ?_)
          · (with_reducible repeat (refine blk_alloc ?_ _))
            have e := blk_store8 (v0 := .int .i64 0) (v1 := .int .i64 0) (v2 := .int .i64 0) (v3 := .int .i64 0) (v4 := .int .i64 0) (v5 := .string ⟨#[]⟩) (v6 := .string ⟨#[]⟩) (v7 := .bool false) HBLK.out
            simp only [storeL, Nat.zero_add, Nat.reduceAdd] at e
            exact e
          · rw [HRQ.out]; rfl
          · have h2 := HEFF.out
            repeat (first | (with_reducible exact h2) | (with_reducible apply Eff.alloc) | (with_reducible refine Eff.setNew ?_ (by first | exact Nat.le_refl _ | omega) _ _))
    · have hend : res = (shpZero, [], 3) := by
        have := hinv.out.res
        rw [List.drop_eq_nil_of_le (by omega)] at this
        exact this.symm
      have HEND := Aside0.mk hend
      clear hend
      obtain ⟨z0, z1, z2, z3, z4, z5, z6, z7⟩ := cells8 hinv.out.blk
      obtain ⟨f0, f1, f2, f3, f4, f5, f6, f7⟩ := frozen8 hinv.out.blk
      go_wp2
      refine bodyPost_ret (results_cell3 rfl _ _ w.heap.size 36 shp0 (0, 0) _ rfl ?_ Try.underlying36 rfl (by kernel_rfl)) rfl (Ret.mk' ?_ ?_)
      · (with_reducible repeat (refine blk_alloc ?_ _))
        have e := blk_store8 (v0 := .int .i64 0) (v1 := .int .i64 0) (v2 := .int .i64 0) (v3 := .int .i64 0) (v4 := .int .i64 0) (v5 := .string ⟨#[]⟩) (v6 := .string ⟨#[]⟩) (v7 := .bool false) hinv.out.blk
        simp only [storeL, Nat.zero_add, Nat.reduceAdd] at e
        exact e
      · rw [HEND.out]; rfl
      · have h2 := hinv.out.eff
        repeat (first | (with_reducible exact h2) | (with_reducible apply Eff.alloc) | (with_reducible refine Eff.setNew ?_ (by first | exact Nat.le_refl _ | omega) _ _))

/-- Read. -/
theorem read_calls (w : World) (A : Option Addr) (c : Nat) (l : List (ByteArray × ByteArray)) (h : Chs w A l) (hc : l.length ≤ c) (hl : l.length ≤ 1000000) (hds : ∀ x ∈ l, x.2.size ≤ 140737488351232) (htot : total l ≤ 140737488355328) :
    Calls Try.prog 17 #[.slice A l.length c] w (Ret (readRes (readP l)) (fun w' => Eff w.heap.size [] w w')) := by
  match l, h, hc, hl, hds, htot with
  | [], h, hc, hl, hds, htot => exact read_nil w A c
  | (T, D) :: l, h, hc, hl, hds, htot =>
    have hD := hds (T, D) List.mem_cons_self
    have hD' : D.size ≤ 9223372036854775807 := by have : D.size ≤ 140737488351232 := hD; omega
    simp only [List.length_cons] at hc hl
    by_cases he : (firstP T D).2 = 0
    · exact read_good w A c T D l h hc (by omega) hD' he (fun x hx => hds x (List.mem_cons_of_mem _ hx)) (by simp [total] at htot ⊢; omega)
    · exact read_first w A c T D l h (by omega) hD' he

end Go.Proofs.Ytgkmfedjmmleeaa
