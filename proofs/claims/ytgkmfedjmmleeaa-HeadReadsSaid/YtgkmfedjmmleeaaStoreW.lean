/- A region that reads, calls a function that changes rows of the types ts alone, and stores a row of values into block g. -/
import Derived.Test.YtgkmfedjmmleeaaRegion
import Derived.Test.YtgkmfedjmmleeaaBase
namespace Go.Proofs.Ytgkmfedjmmleeaa
open Go.RowKit Go.Proofs.YtgkmfedjmmleeaaW.PrintWords

theorem Eff.andB {B : Nat} {ts ts' : List TypeId} {w a b : World} (h : Eff B ts w a) (hB : w.heap.size ≤ B) (k : Eff B ts' a b) : Eff B ts w b :=
  ⟨k.os.trans h.os, k.tape.trans h.tape, k.output.trans h.output, Nat.le_trans h.size k.size, fun i hi ho => (k.block i (Nat.lt_of_lt_of_le hi h.size) (.inl (by omega))).trans (h.block i hi ho)⟩

def storeL (g : Nat) : List Value → Nat → World → World
  | [], _, w => w
  | v :: vs, i, w => storeL g vs (i + 1) (w.setCell ⟨g, i, none⟩ v)

theorem storeL_far (g : Nat) : ∀ (vs : List Value) (i : Nat) (w : World) (k : Nat), k ≠ g → (storeL g vs i w).heap[k]? = w.heap[k]?
  | [], _, _, _, _ => rfl
  | v :: vs, i, w, k, h => by
    simp only [storeL]
    rw [storeL_far g vs (i + 1) _ k h, Below.heap_setCell _ _ _ _ h]

theorem storeL_new {B : Nat} {ts : List TypeId} {w0 : World} {g : Nat} (hg : w0.heap.size ≤ g) : ∀ (vs : List Value) (i : Nat) (w : World), Eff B ts w0 w → Eff B ts w0 (storeL g vs i w)
  | [], _, _, h => h
  | v :: vs, i, w, h => by
    simp only [storeL]
    exact storeL_new hg vs (i + 1) _ (h.setNew hg i v)

structure StoreW (W : World) (B : Nat) (ts : List TypeId) (g : Nat) (vs : List Value) (a b : Bool) (w : World) : Prop where
  ba : b = true → a = true
  at_ : ∃ w1, Eff B ts W w1 ∧ w = if b = true then storeL g vs 0 w1 else w1
  quiet_ : a = false → Eff B [] W w

theorem StoreW.start (W : World) (B : Nat) (ts : List TypeId) (g : Nat) (vs : List Value) : StoreW W B ts g vs false false W.drew := ⟨fun h => h, ⟨_, (Eff.refl _ _ _).drew, rfl⟩, fun _ => (Eff.refl _ _ _).drew⟩
theorem StoreW.keep {W : World} {B : Nat} {ts : List TypeId} {g : Nat} {vs : List Value} {a b : Bool} {w : World} (hs : StoreW W B ts g vs a b w) {k : Nat} {cs : Array Value} {t : TypeId} {fr : Nat × Nat} (hk : W.heap[k]? = some (.cells cs t fr)) (hne : k ≠ g) (ht : t ∉ ts) :
    w.heap[k]? = some (.cells cs t fr) := by
  obtain ⟨_, ⟨w1, h1, rfl⟩, _⟩ := hs
  have e1 := h1.keep hk ht
  cases b
  · exact e1
  · exact (storeL_far g vs 0 w1 k hne).trans e1
theorem StoreW.zero {W : World} {B : Nat} {ts : List TypeId} {g : Nat} {vs : List Value} {a : Bool} {w : World} (hs : StoreW W B ts g vs a false w) {cs : Array Value} {t : TypeId} {fr : Nat × Nat} (hk : W.heap[g]? = some (.cells cs t fr)) (ht : t ∉ ts) : w.heap[g]? = some (.cells cs t fr) := by
  obtain ⟨_, ⟨w1, h1, rfl⟩, _⟩ := hs
  exact h1.keep hk ht
theorem StoreW.eff {W : World} {B : Nat} {ts : List TypeId} {g : Nat} {vs : List Value} {a : Bool} {w : World} (hs : StoreW W B ts g vs a false w) : Eff B ts W w := by
  obtain ⟨_, ⟨w1, h1, rfl⟩, _⟩ := hs
  exact h1
theorem StoreW.before {W : World} {B : Nat} {ts : List TypeId} {g : Nat} {vs : List Value} {b : Bool} {w : World} (hs : StoreW W B ts g vs false b w) : b = false := by
  cases b
  · rfl
  · exact absurd (hs.ba rfl) (by simp)
theorem StoreW.call {W : World} {B : Nat} {ts : List TypeId} {g : Nat} {vs : List Value} {b : Bool} {w w' : World} (hs : StoreW W B ts g vs false b w) (he : Eff B ts w w') : StoreW W B ts g vs true b w' := by
  have := hs.before
  subst this
  exact ⟨(fun h => Bool.noConfusion h), ⟨_, hs.eff.trans he, rfl⟩, fun h => Bool.noConfusion h⟩
theorem StoreW.stored {W : World} {B : Nat} {ts : List TypeId} {g : Nat} {vs : List Value} {w : World} (hs : StoreW W B ts g vs true false w) : StoreW W B ts g vs true true (storeL g vs 0 w) :=
  ⟨fun _ => rfl, ⟨_, hs.eff, rfl⟩, fun h => Bool.noConfusion h⟩
theorem StoreW.done {W : World} {B : Nat} {ts : List TypeId} {g : Nat} {vs : List Value} {w : World} (hs : StoreW W B ts g vs true true w) : ∃ w1, Eff B ts W w1 ∧ w = storeL g vs 0 w1 := by
  obtain ⟨_, ⟨w1, h1, h2⟩, _⟩ := hs
  exact ⟨w1, h1, h2⟩

theorem results_cell3 {P : Program} {fn : Func} {p u x : Tmp} {ty : TypeId} (h : fn.results = #[.cell p ty, .tmp u, .tmp x]) (tmps : Array Value) (w : World) (g : Nat) (t : TypeId) (cs : Array Value) (fr : Nat × Nat) (d : TypeDesc)
    (hp : tmps.getD p undef = .pointer (some ⟨g, 0, none⟩)) (hg : w.heap[g]? = some (.cells cs t fr))
    (hu : P.underlying ty = some d) (hd : (match d with | .struct _ | .array _ _ => true | _ => false) = true) (hi : (P.info? ty).map (·.size) = some cs.size) :
    (results fn tmps).run P w = .ok (.tuple #[.agg cs, tmps.getD u undef, tmps.getD x undef]) w := by
  have hp' : tmps[p]?.getD undef = .pointer (some ⟨g, 0, none⟩) := by simpa using hp
  simp [results, h, hp', asAddr, run_loadVar_row w g t ty cs fr d hg hu hd hi]
theorem results_cell2 {P : Program} {fn : Func} {p u : Tmp} {ty : TypeId} (h : fn.results = #[.cell p ty, .tmp u]) (tmps : Array Value) (w : World) (g : Nat) (t : TypeId) (cs : Array Value) (fr : Nat × Nat) (d : TypeDesc)
    (hp : tmps.getD p undef = .pointer (some ⟨g, 0, none⟩)) (hg : w.heap[g]? = some (.cells cs t fr))
    (hu : P.underlying ty = some d) (hd : (match d with | .struct _ | .array _ _ => true | _ => false) = true) (hi : (P.info? ty).map (·.size) = some cs.size) :
    (results fn tmps).run P w = .ok (.tuple #[.agg cs, tmps.getD u undef]) w := by
  have hp' : tmps[p]?.getD undef = .pointer (some ⟨g, 0, none⟩) := by simpa using hp
  simp [results, h, hp', asAddr, run_loadVar_row w g t ty cs fr d hg hu hd hi]

theorem blk_store8 {w : World} {g : Nat} {t : TypeId} {c0 c1 c2 c3 c4 c5 c6 c7 v0 v1 v2 v3 v4 v5 v6 v7 : Value} (h : w.heap[g]? = some (.cells #[c0, c1, c2, c3, c4, c5, c6, c7] t (0, 0))) :
    (storeL g [v0, v1, v2, v3, v4, v5, v6, v7] 0 w).heap[g]? = some (.cells #[v0, v1, v2, v3, v4, v5, v6, v7] t (0, 0)) := by
  have e := blk_set (blk_set (blk_set (blk_set (blk_set (blk_set (blk_set (blk_set h 0 v0) 1 v1) 2 v2) 3 v3) 4 v4) 5 v5) 6 v6) 7 v7
  simp only [List.setIfInBounds_toArray, List.set_cons_zero, List.set_cons_succ] at e
  exact e
theorem blk_store5 {w : World} {g : Nat} {t : TypeId} {c0 c1 c2 c3 c4 v0 v1 v2 v3 v4 : Value} (h : w.heap[g]? = some (.cells #[c0, c1, c2, c3, c4] t (0, 0))) :
    (storeL g [v0, v1, v2, v3, v4] 0 w).heap[g]? = some (.cells #[v0, v1, v2, v3, v4] t (0, 0)) := by
  have e := blk_set (blk_set (blk_set (blk_set (blk_set h 0 v0) 1 v1) 2 v2) 3 v3) 4 v4
  simp only [List.setIfInBounds_toArray, List.set_cons_zero, List.set_cons_succ] at e
  exact e

end Go.Proofs.Ytgkmfedjmmleeaa
