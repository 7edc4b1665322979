/- Words for memory and for posts, used by all of this seat's walks. No program in sight. -/
import Derived.Test.YtgkmfedjmmleeaaWMore
namespace Go.Proofs.Ytgkmfedjmmleeaa
open Go.RowKit Go.Proofs.YtgkmfedjmmleeaaW.PrintWords

/-- A post behind a name: the call returns v, and Q holds of the world. -/
def Ret (v : Value) (Q : World → Prop) (e : Ending) (w' : World) : Prop := e = .returned v ∧ Q w'
theorem Ret.mk' {v v' : Value} {Q : World → Prop} {w' : World} (h : v' = v) (hq : Q w') : Ret v Q (.returned v') w' := ⟨by rw [h], hq⟩
/-- A post with a value that is found. -/
def RetEx (Q : Value → World → Prop) (e : Ending) (w' : World) : Prop := ∃ v, e = .returned v ∧ Q v w'
theorem RetEx.mk' {v : Value} {Q : Value → World → Prop} {w' : World} (hq : Q v w') : RetEx Q (.returned v) w' := ⟨v, rfl, hq⟩

theorem int_eq {k : IntKind} {a b : Int} (h : a = b) : Value.int k a = .int k b := by rw [h]
theorem str_eq {a b : ByteArray} (h : a = b) : Value.string a = .string b := by rw [h]
theorem str_of_list {s t : ByteArray} (h : s.toList = t.toList) : s = t := by
  have h1 : s.data.toList = t.data.toList := by rw [← ByteArray.toList_eq, ← ByteArray.toList_eq]; exact h
  cases s; cases t
  simp only [ByteArray.mk.injEq]
  exact Array.toList_inj.1 h1

/-- The block k of w is not a row of one of the types ts. -/
def Off (ts : List TypeId) (w : World) (k : Nat) : Prop := ∀ cs t fr, w.heap[k]? = some (.cells cs t fr) → t ∉ ts

/-- What was there stands: below B every block, from B on every block but rows of the types ts. -/
structure Eff (B : Nat) (ts : List TypeId) (w w' : World) : Prop where
  os : w'.os = w.os
  tape : w'.tape = w.tape
  output : w'.output = w.output
  size : w.heap.size ≤ w'.heap.size
  block : ∀ k, k < w.heap.size → (k < B ∨ Off ts w k) → w'.heap[k]? = w.heap[k]?

theorem Eff.refl (B : Nat) (ts : List TypeId) (w : World) : Eff B ts w w := ⟨rfl, rfl, rfl, Nat.le_refl _, fun _ _ _ => rfl⟩
theorem Eff.trans {B : Nat} {ts : List TypeId} {a b c : World} (h : Eff B ts a b) (k : Eff B ts b c) : Eff B ts a c :=
  ⟨k.os.trans h.os, k.tape.trans h.tape, k.output.trans h.output, Nat.le_trans h.size k.size, fun i hi ho => by
    have e1 := h.block i hi ho
    refine (k.block i (Nat.lt_of_lt_of_le hi h.size) ?_).trans e1
    rcases ho with ho | ho
    · exact .inl ho
    · exact .inr (fun cs t fr hh => ho cs t fr (e1 ▸ hh))⟩
theorem Eff.mono {B B' : Nat} {ts ts' : List TypeId} {a b : World} (h : Eff B ts a b) (hB : B' ≤ B) (ht : ∀ t, t ∈ ts → t ∈ ts') : Eff B' ts' a b :=
  ⟨h.os, h.tape, h.output, h.size, fun i hi ho => h.block i hi (by
    rcases ho with ho | ho
    · exact .inl (by omega)
    · exact .inr (fun cs t fr hh hm => ho cs t fr hh (ht t hm)))⟩
theorem Eff.of_below {B : Nat} {ts : List TypeId} {w w1 w2 : World} (h : Eff B ts w w1) (k : Below w1.heap.size w1 w2) : Eff B ts w w2 :=
  h.trans ⟨k.os, k.tape, k.output, k.size, fun i hi _ => k.block i hi⟩
theorem Eff.below {B : Nat} {ts : List TypeId} {w w' : World} (h : Eff B ts w w') (hB : B ≤ w.heap.size) : Below B w w' :=
  ⟨h.os, h.tape, h.output, h.size, fun k hk => h.block k (by omega) (.inl hk)⟩
theorem Eff.below' {B : Nat} {ts : List TypeId} {w w' : World} (h : Eff B ts w w') (hB : w.heap.size ≤ B) : Below w.heap.size w w' :=
  ⟨h.os, h.tape, h.output, h.size, fun k hk => h.block k hk (.inl (by omega))⟩
theorem Eff.drewN {B : Nat} {ts : List TypeId} {w w' : World} (h : Eff B ts w w') (n : Nat) : Eff B ts w (w'.drewN n) :=
  h.of_below (pw_below_drewN (Below.refl _ _) n)
theorem Eff.drew {B : Nat} {ts : List TypeId} {w w' : World} (h : Eff B ts w w') : Eff B ts w w'.drew :=
  h.of_below (Below.refl _ _).drew
theorem Eff.alloc {B : Nat} {ts : List TypeId} {w w' : World} (h : Eff B ts w w') (o : Obj) : Eff B ts w (w'.alloc o) :=
  h.of_below (below_alloc (Below.refl _ _) o)
/-- A store into a row of one of the types, from B on. -/
theorem Eff.set_ {B : Nat} {ts : List TypeId} {w w' : World} (h : Eff B ts w w') {g : Nat} {cs : Array Value} {t : TypeId} {fr : Nat × Nat}
    (hb : w'.heap[g]? = some (.cells cs t fr)) (ht : t ∈ ts) (hg : B ≤ g) (i : Nat) (u : Value) : Eff B ts w (w'.setCell ⟨g, i, none⟩ u) :=
  h.trans ⟨rfl, rfl, rfl, by simp [World.setCell], fun k hk ho => Below.heap_setCell _ _ _ _ (by
    intro e
    have e : k = g := e
    subst e
    rcases ho with ho | ho
    · omega
    · exact ho cs t fr hb ht)⟩
/-- A store into a block that is new since w. -/
theorem Eff.setNew {B : Nat} {ts : List TypeId} {w w' : World} (h : Eff B ts w w') {g : Nat} (hg : w.heap.size ≤ g) (i : Nat) (u : Value) : Eff B ts w (w'.setCell ⟨g, i, none⟩ u) :=
  ⟨h.os, h.tape, h.output, by simpa [World.setCell] using h.size, fun k hk ho => by
    rw [Below.heap_setCell _ _ _ _ (by simp; omega)]
    exact h.block k hk ho⟩
/-- Behind a law that ends in grownBy. -/
theorem Eff.grown {B : Nat} {ts : List TypeId} {w w1 w2 : World} (h : Eff B ts w w1) {row : Option Nat} (hg : w1.grownBy w2 row)
    (hr : ∀ g, row = some g → B ≤ g ∧ ∃ cs t fr, w1.heap[g]? = some (.cells cs t fr) ∧ t ∈ ts) : Eff B ts w w2 :=
  h.trans ⟨hg.os, hg.tape, hg.output, hg.size, fun k hk ho => hg.block k hk (by
    intro e
    obtain ⟨h1, cs, t, fr, h2, h3⟩ := hr k e.symm
    rcases ho with ho | ho
    · omega
    · exact ho cs t fr h2 h3)⟩
theorem Eff.keep {B : Nat} {ts : List TypeId} {w w' : World} (h : Eff B ts w w') {g : Nat} {cs : Array Value} {t : TypeId} {fr : Nat × Nat}
    (hb : w.heap[g]? = some (.cells cs t fr)) (ht : t ∉ ts) : w'.heap[g]? = some (.cells cs t fr) :=
  (h.block g (blk_lt hb) (.inr (fun cs' t' fr' hh => by rw [hb] at hh; injection hh with hh; injection hh with _ e _; subst e; exact ht))).trans hb
theorem Eff.lt {B : Nat} {ts : List TypeId} {w w' : World} (h : Eff B ts w w') {g : Nat} (hg : g < w.heap.size) : g < w'.heap.size := Nat.lt_of_lt_of_le hg h.size
/-- An owned row of another type stays. -/
theorem Eff.own {B : Nat} {ts : List TypeId} {w w' : World} (h : Eff B ts w w') {base : Nat} {e : TypeId} {size n : Nat} {v : Value} {xs : List Value}
    (ho : w.ownsRow base e size v n xs) (he : e ∉ ts) : w'.ownsRow base e size v n xs := by
  refine ⟨ho.1, ?_⟩
  rcases ho.2 with h0 | ⟨g, cap, cur, hv, hb, hg, r⟩
  · exact .inl h0
  · exact .inr ⟨g, cap, cur, hv, hb, h.keep hg he, r⟩
/-- Below B. -/
theorem Eff.blockB {B : Nat} {ts : List TypeId} {w w' : World} (h : Eff B ts w w') {g : Nat} {o : Obj} (hb : w.heap[g]? = some o) (hg : g < B) : w'.heap[g]? = some o :=
  (h.block g (blk_lt hb) (.inl hg)).trans hb

theorem own_typed {w : World} {base : Nat} {e : TypeId} {size n : Nat} {v : Value} {xs : List Value} (h : w.ownsRow base e size v n xs) :
    ∀ g, v.ownBlock = some g → base ≤ g ∧ ∃ cs t fr, w.heap[g]? = some (.cells cs t fr) ∧ t = e := by
  intro g hg
  rcases h.2 with ⟨rfl, _⟩ | ⟨g', cap, cur, rfl, hb, hh, _⟩
  · simp [Value.ownBlock] at hg
  · simp [Value.ownBlock] at hg
    subst hg
    exact ⟨hb, cur, e, (0, 0), hh, rfl⟩

end Go.Proofs.Ytgkmfedjmmleeaa
