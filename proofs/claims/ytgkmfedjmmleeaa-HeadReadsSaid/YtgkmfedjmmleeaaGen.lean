/- A region that draws its order, of which all operations but the last change rows of the types ts from block B on alone: one obligation for each. -/
import Derived.Test.YtgkmfedjmmleeaaRegion
import Derived.Test.YtgkmfedjmmleeaaBase
namespace Go.Proofs.Ytgkmfedjmmleeaa
open Go.RowKit Go.Proofs.YtgkmfedjmmleeaaW.PrintWords
set_option linter.unusedSimpArgs false

/-- The value of an operation: known, or found when it runs. -/
inductive Sl where
  | c (v : Value)
  | e

def slVals : List Sl → Nat → (Nat → Value) → List Value
  | [], _, _ => []
  | .c v :: r, i, env => v :: slVals r (i + 1) env
  | .e :: r, i, env => env i :: slVals r (i + 1) env

def okAt (sp : List Sl) (i : Nat) (v : Value) : Prop := match sp.getD i .e with | .c u => v = u | .e => True

theorem slVals_get : ∀ (sp : List Sl) (k i : Nat) (env : Nat → Value), (slVals sp k env).getD i undef = match sp[i]? with | none => undef | some (.c v) => v | some .e => env (k + i)
  | [], k, i, env => by simp [slVals]
  | .c v :: r, k, 0, env => by simp [slVals]
  | .e :: r, k, 0, env => by simp [slVals]
  | .c v :: r, k, i + 1, env => by
    have := slVals_get r (k + 1) i env
    simp only [List.getD_eq_getElem?_getD] at this
    simp only [slVals, List.getD_cons_succ, List.getElem?_cons_succ, List.getD_eq_getElem?_getD, this]
    rw [show k + 1 + i = k + (i + 1) by omega]
  | .e :: r, k, i + 1, env => by
    have := slVals_get r (k + 1) i env
    simp only [List.getD_eq_getElem?_getD] at this
    simp only [slVals, List.getD_cons_succ, List.getElem?_cons_succ, List.getD_eq_getElem?_getD, this]
    rw [show k + 1 + i = k + (i + 1) by omega]

def setE (env : Nat → Value) (i : Nat) (v : Value) : Nat → Value := fun j => if j = i then v else env j

theorem slVals_set {sp : List Sl} {env : Nat → Value} {i : Nat} {v : Value} (hi : i < sp.length) (hok : okAt sp i v) : v = (slVals sp 0 (setE env i v)).getD i undef := by
  rw [slVals_get, List.getElem?_eq_getElem hi]
  unfold okAt at hok
  rw [List.getD_eq_getElem?_getD, List.getElem?_eq_getElem hi, Option.getD_some] at hok
  cases h : sp[i] with
  | c u => rw [h] at hok; exact hok
  | e => simp [setE]
theorem slVals_other {sp : List Sl} {env : Nat → Value} {i j : Nat} {v : Value} (h : j ≠ i) : (slVals sp 0 (setE env i v)).getD j undef = (slVals sp 0 env).getD j undef := by
  rw [slVals_get, slVals_get]
  split
  · rfl
  · rfl
  · simp [setE, h]

abbrev Fact := Value → World → Prop
def noFact : Fact := fun _ _ => True
def factAt (Φ : List Fact) (i : Nat) : Fact := Φ.getD i noFact
def MonoP (B : Nat) (ts : List TypeId) (p : Fact) : Prop := ∀ v w w', B ≤ w.heap.size → p v w → Eff B ts w w' → p v w'
def MonoAll (B : Nat) (ts : List TypeId) : List Fact → Prop
  | [] => True
  | p :: r => MonoP B ts p ∧ MonoAll B ts r
theorem monoNo {B : Nat} {ts : List TypeId} : MonoP B ts noFact := fun _ _ _ _ _ _ => trivial
theorem monoAt {B : Nat} {ts : List TypeId} : ∀ {Φ : List Fact} {i : Nat}, MonoAll B ts Φ → MonoP B ts (factAt Φ i)
  | [], i, _ => by unfold factAt; simp only [List.getD_nil]; exact monoNo
  | p :: r, 0, h => h.1
  | p :: r, i + 1, h => by
    have := monoAt (i := i) h.2
    unfold factAt at this ⊢
    simpa only [List.getD_cons_succ] using this

/-- The obligations: all operations but the last add; behind the last the walk goes on. -/
def GSteps (P : Program) (ops : Array Oper) (Q : Exit → Act → World → Prop) (dsts : List (Option Tmp)) (a0 : Act) (sp : List Sl) (B : Nat) (ts : List TypeId) (w0 : World) (Φ : List Fact) (fin : (Nat → Value) → Act) : List Oper → List (List Nat × List Nat) → Nat → Prop
  | o :: rest, d :: ds, i =>
    if rest.isEmpty = true then
      (∀ j, j < i → j ∈ d.1) ∧ ∀ env w, Eff B ts w0 w → (∀ j, j < i → factAt Φ j (env j) w) →
        StepOk P ops o (rfillL dsts (slVals sp 0 env) d.2 a0) w (fun v w' => okAt sp i v ∧ Q .normal (fin (setE env i v)) w')
    else
      (∀ env w, Eff B ts w0 w → (∀ j ∈ d.1, factAt Φ j (env j) w) →
        StepOk P ops o (rfillL dsts (slVals sp 0 env) d.2 a0) w (fun v w' => okAt sp i v ∧ Eff B ts w w' ∧ factAt Φ i v w')) ∧ GSteps P ops Q dsts a0 sp B ts w0 Φ fin rest ds (i + 1)
  | _, _, _ => False

section
variable {P : Program} {ops : Array Oper} {Q : Exit → Act → World → Prop} {dsts : List (Option Tmp)} {a0 : Act} {sp : List Sl} {B : Nat} {ts : List TypeId} {w0 : World} {Φ : List Fact} {fin : (Nat → Value) → Act}

/-- A plain operation: its value is known. -/
theorem GSteps.con {o o' : Oper} {rest : List Oper} {d n : List Nat} {ds : List (List Nat × List Nat)} {i : Nat} (u : Value) (hu : okAt sp i u) (hf : ∀ w, factAt Φ i u w)
    (h : ∀ env w, Eff B ts w0 w → (∀ j ∈ d, factAt Φ j (env j) w) → StepVal P ops o (rfillL dsts (slVals sp 0 env) n a0) w u)
    (hs : GSteps P ops Q dsts a0 sp B ts w0 Φ fin (o' :: rest) ds (i + 1)) : GSteps P ops Q dsts a0 sp B ts w0 Φ fin (o :: o' :: rest) ((d, n) :: ds) i :=
  ⟨fun env w hE hF => (h env w hE hF).stepOk ⟨hu, Eff.refl _ _ _, hf w⟩, hs⟩
/-- A plain operation whose value is found. -/
theorem GSteps.val {o o' : Oper} {rest : List Oper} {d n : List Nat} {ds : List (List Nat × List Nat)} {i : Nat}
    (h : ∀ env w, Eff B ts w0 w → (∀ j ∈ d, factAt Φ j (env j) w) → ∃ u, okAt sp i u ∧ factAt Φ i u w ∧ StepVal P ops o (rfillL dsts (slVals sp 0 env) n a0) w u)
    (hs : GSteps P ops Q dsts a0 sp B ts w0 Φ fin (o' :: rest) ds (i + 1)) : GSteps P ops Q dsts a0 sp B ts w0 Φ fin (o :: o' :: rest) ((d, n) :: ds) i :=
  ⟨fun env w hE hF => by obtain ⟨u, h1, h2, h3⟩ := h env w hE hF; exact h3.stepOk ⟨h1, Eff.refl _ _ _, h2⟩, hs⟩
/-- Any operation. -/
theorem GSteps.any {o o' : Oper} {rest : List Oper} {d n : List Nat} {ds : List (List Nat × List Nat)} {i : Nat}
    (h : ∀ env w, Eff B ts w0 w → (∀ j ∈ d, factAt Φ j (env j) w) → ∀ K : Value → World → Prop, (∀ v w', okAt sp i v → Eff B ts w w' → factAt Φ i v w' → K v w') →
        StepOk P ops o (rfillL dsts (slVals sp 0 env) n a0) w K)
    (hs : GSteps P ops Q dsts a0 sp B ts w0 Φ fin (o' :: rest) ds (i + 1)) : GSteps P ops Q dsts a0 sp B ts w0 Φ fin (o :: o' :: rest) ((d, n) :: ds) i :=
  ⟨fun env w hE hF => h env w hE hF _ (fun _ _ h1 h2 h3 => ⟨h1, h2, h3⟩), hs⟩
theorem last_mk {o : Oper} {d n : List Nat} {ds : List (List Nat × List Nat)} {i : Nat} (hd : (List.range i).all (d.contains ·) = true)
    (h : ∀ env w, Eff B ts w0 w → (∀ j, j < i → factAt Φ j (env j) w) →
        StepOk P ops o (rfillL dsts (slVals sp 0 env) n a0) w (fun v w' => okAt sp i v ∧ Q .normal (fin (setE env i v)) w')) :
    GSteps P ops Q dsts a0 sp B ts w0 Φ fin [o] ((d, n) :: ds) i :=
  ⟨fun j hj => by
    have := List.all_eq_true.1 hd j (List.mem_range.2 hj)
    simpa using this, h⟩
/-- The last: a plain one, its value known. -/
theorem GSteps.lastVal {o : Oper} {d n : List Nat} {ds : List (List Nat × List Nat)} {i : Nat} (hd : (List.range i).all (d.contains ·) = true) (u : Value) (hu : okAt sp i u) (hfe : ∀ env, fin (setE env i u) = fin env)
    (h : ∀ env w, Eff B ts w0 w → (∀ j, j < i → factAt Φ j (env j) w) → StepVal P ops o (rfillL dsts (slVals sp 0 env) n a0) w u)
    (hQ : ∀ env w, Eff B ts w0 w → (∀ j, j < i → factAt Φ j (env j) w) → Q .normal (fin env) w) :
    GSteps P ops Q dsts a0 sp B ts w0 Φ fin [o] ((d, n) :: ds) i :=
  last_mk hd (fun env w hE hF => (h env w hE hF).stepOk ⟨hu, by rw [hfe]; exact hQ env w hE hF⟩)
/-- The last: a plain one, its value found. -/
theorem GSteps.lastFind {o : Oper} {d n : List Nat} {ds : List (List Nat × List Nat)} {i : Nat} (hd : (List.range i).all (d.contains ·) = true)
    (h : ∀ env w, Eff B ts w0 w → (∀ j, j < i → factAt Φ j (env j) w) → ∃ u, okAt sp i u ∧ StepVal P ops o (rfillL dsts (slVals sp 0 env) n a0) w u ∧ Q .normal (fin (setE env i u)) w) :
    GSteps P ops Q dsts a0 sp B ts w0 Φ fin [o] ((d, n) :: ds) i :=
  last_mk hd (fun env w hE hF => by obtain ⟨u, h1, h2, h3⟩ := h env w hE hF; exact h2.stepOk ⟨h1, h3⟩)
/-- The last: one that stores, or calls, and whose value nobody asks for. -/
theorem GSteps.lastDo {o : Oper} {d n : List Nat} {ds : List (List Nat × List Nat)} {i : Nat} (hd : (List.range i).all (d.contains ·) = true) (hu : okAt sp i undef) (hfe : ∀ env, fin (setE env i undef) = fin env)
    (h : ∀ env w, Eff B ts w0 w → (∀ j, j < i → factAt Φ j (env j) w) → ∀ K : Value → World → Prop, (∀ w', Q .normal (fin env) w' → K undef w') →
        StepOk P ops o (rfillL dsts (slVals sp 0 env) n a0) w K) :
    GSteps P ops Q dsts a0 sp B ts w0 Φ fin [o] ((d, n) :: ds) i :=
  last_mk hd (fun env w hE hF => h env w hE hF _ (fun w' h1 => ⟨hu, by rw [hfe]; exact h1⟩))

/-- What is known while the region runs. -/
structure GInv (Q : Exit → Act → World → Prop) (B : Nat) (ts : List TypeId) (w0 : World) (Φ : List Fact) (fin : (Nat → Value) → Act) (last : Nat) (env : Nat → Value) (D : Nat → Bool) (w : World) : Prop where
  on : D last = false → Eff B ts w0 w ∧ ∀ i, D i = true → factAt Φ i (env i) w
  off : D last = true → (∀ j, j < last → D j = true) ∧ Q .normal (fin env) w

theorem gsteps_L (hB : B ≤ w0.heap.size) (hmono : MonoAll B ts Φ) : ∀ (m : List Oper) (ds : List (List Nat × List Nat)) (i : Nat), GSteps P ops Q dsts a0 sp B ts w0 Φ fin m ds i → i + m.length = sp.length →
    StepsL P ops dsts a0 (slVals sp 0) (GInv Q B ts w0 Φ fin (sp.length - 1)) m ds i
  | [], _, _, h, _ => by simp [GSteps] at h
  | o :: rest, [], _, h, _ => by simp [GSteps] at h
  | [o], d :: ds, i, h, hl => by
    have hi : i = sp.length - 1 := by simp at hl; omega
    have hil : i < sp.length := by simp at hl; omega
    have h1 : (∀ j, j < i → j ∈ d.1) ∧ ∀ env w, Eff B ts w0 w → (∀ j, j < i → factAt Φ j (env j) w) →
        StepOk P ops o (rfillL dsts (slVals sp 0 env) d.2 a0) w (fun v w' => okAt sp i v ∧ Q .normal (fin (setE env i v)) w') := h
    refine ⟨fun env D w hD hd hw => ?_, trivial⟩
    obtain ⟨hE, hF⟩ := hw.on (hi ▸ hD)
    have := h1.2 env w hE (fun j hj => hF j (hd j (h1.1 j hj)))
    have key : ∀ v w', (okAt sp i v ∧ Q .normal (fin (setE env i v)) w') → ∃ env', v = (slVals sp 0 env').getD i undef ∧ (∀ j, D j = true → (slVals sp 0 env').getD j undef = (slVals sp 0 env).getD j undef) ∧ GInv Q B ts w0 Φ fin (sp.length - 1) env' (upd D i) w' := by
      rintro v w' ⟨h2, h3⟩
      refine ⟨setE env i v, slVals_set hil h2, fun j hj => slVals_other (fun e => by subst e; rw [hD] at hj; cases hj), ⟨fun hx => ?_, fun _ => ⟨fun j hj => ?_, h3⟩⟩⟩
      · simp [upd, ← hi] at hx
      · have : D j = true := hd j (h1.1 j (by omega))
        simp [upd, this]
    unfold StepOk at this ⊢
    split
    · rename_i hw'
      rw [if_pos hw'] at this
      refine Oper.wp_mono ?_ this
      rintro a w ⟨v, rfl, hK⟩
      exact ⟨v, rfl, key v w hK⟩
    · rename_i hw'
      rw [if_neg hw'] at this
      exact key _ _ this
  | o :: o' :: rest, d :: ds, i, h, hl => by
    have hlast : i ≠ sp.length - 1 := by simp at hl; omega
    have hil : i < sp.length := by simp at hl; omega
    have h1 : (∀ env w, Eff B ts w0 w → (∀ j ∈ d.1, factAt Φ j (env j) w) →
        StepOk P ops o (rfillL dsts (slVals sp 0 env) d.2 a0) w (fun v w' => okAt sp i v ∧ Eff B ts w w' ∧ factAt Φ i v w')) ∧ GSteps P ops Q dsts a0 sp B ts w0 Φ fin (o' :: rest) ds (i + 1) := h
    refine ⟨fun env D w hD hd hw => ?_, gsteps_L hB hmono (o' :: rest) ds (i + 1) h1.2 (by simp at hl ⊢; omega)⟩
    have hDl : D (sp.length - 1) = false := by
      cases hx : D (sp.length - 1) with
      | false => rfl
      | true =>
        have := (hw.off hx).1 i (by simp at hl; omega)
        rw [hD] at this; cases this
    obtain ⟨hE, hF⟩ := hw.on hDl
    have := h1.1 env w hE (fun j hj => hF j (hd j hj))
    have key : ∀ v w', (okAt sp i v ∧ Eff B ts w w' ∧ factAt Φ i v w') → ∃ env', v = (slVals sp 0 env').getD i undef ∧ (∀ j, D j = true → (slVals sp 0 env').getD j undef = (slVals sp 0 env).getD j undef) ∧ GInv Q B ts w0 Φ fin (sp.length - 1) env' (upd D i) w' := by
      rintro v w' ⟨h2, h3, h4⟩
      refine ⟨setE env i v, slVals_set hil h2, fun j hj => slVals_other (fun e => by subst e; rw [hD] at hj; cases hj), ⟨fun _ => ⟨hE.trans h3, fun j hj => ?_⟩, fun hx => ?_⟩⟩
      · by_cases e : j = i
        · subst e; simpa [setE] using h4
        · have hj' : D j = true := by
            simp only [upd, Bool.or_eq_true, beq_iff_eq] at hj
            exact hj.resolve_right e
          have := monoAt hmono (env j) w w' (Nat.le_trans hB hE.size) (hF j hj') h3
          simpa [setE, e] using this
      · exfalso
        simp only [upd, Bool.or_eq_true, beq_iff_eq] at hx
        rcases hx with hx | hx
        · rw [hDl] at hx; cases hx
        · exact hlast hx.symm
    unfold StepOk at this ⊢
    split
    · rename_i hw'
      rw [if_pos hw'] at this
      refine Oper.wp_mono ?_ this
      rintro a w ⟨v, rfl, hK⟩
      exact ⟨v, rfl, key v w hK⟩
    · rename_i hw'
      rw [if_neg hw'] at this
      exact key _ _ this

/-- A region whose last operation waits for all others. -/
theorem wp_region_gen {id : Nat} {l : List Oper} {deps : List (List Nat × List Nat)} {all : List Nat} (B : Nat) (ts : List TypeId) (sp : List Sl) (Φ : List Fact) (dsts : List (Option Tmp)) (hm : P.follows .mixedOrders = true) (hok : regionOk l.toArray a0.tmps.size = true)
    (hd : l.map (·.dst) = dsts) (he : l.map (fun o => (RDeps o, RNeed o)) = deps) (hall : List.range l.length = all) (hlen : l.length = sp.length)
    (fin : (Nat → Value) → Act) (hfin : ∀ env, rfillL dsts (slVals sp 0 env) all a0 = fin env) (hpos : 0 < sp.length) (hB : B ≤ w0.heap.size) (hmono : MonoAll B ts Φ)
    (hstep : GSteps P l.toArray Q dsts a0 sp B ts w0 Φ fin l deps 0) : (Code.region id l.toArray true).wp P Q a0 w0 := by
  refine wp_region_all (Env := Nat → Value) (vals := slVals sp 0) (WI := GInv Q B ts w0 Φ fin (sp.length - 1)) hm hok hd he hall (fun _ => undef) (gsteps_L hB hmono l deps 0 hstep (by omega)) ?_ fin hfin ?_
  · exact ⟨fun _ => ⟨(Eff.refl _ _ _).drew, fun i h => Bool.noConfusion h⟩, fun h => Bool.noConfusion h⟩
  · intro env D w hD hw
    exact (hw.off (hD _ (by omega))).2
end
end Go.Proofs.Ytgkmfedjmmleeaa
