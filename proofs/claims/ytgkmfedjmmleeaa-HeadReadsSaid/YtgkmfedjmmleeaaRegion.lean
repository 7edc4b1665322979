/- A region that draws its order, whatever the order: one obligation for each operation. -/
import Derived.Orders
import Derived.WalkKit
import Derived.Deep.Draws
namespace Go.Proofs.Ytgkmfedjmmleeaa

def RDeps (o : Oper) : List Nat := (o.after.toList.filter fun e => Region.binds .any e).map (·.on)

def RNeed (o : Oper) : List Nat := (o.after.toList.filter fun e => e.ground == .data || e.ground == .guard).map (·.on)
theorem need_deps {o : Oper} {j : Nat} (h : j ∈ RNeed o) : j ∈ RDeps o := by
  unfold RNeed at h
  obtain ⟨e, he, rfl⟩ := List.mem_map.1 h
  obtain ⟨h1, h2⟩ := List.mem_filter.1 he
  refine List.mem_map.2 ⟨e, List.mem_filter.2 ⟨h1, ?_⟩, rfl⟩
  simp only [Bool.or_eq_true, beq_iff_eq] at h2
  rcases h2 with h2 | h2 <;> simp [Region.binds, h2]

def rput (ops : Array Oper) (V : Nat → Value) (a : Act) (j : Nat) : Act := a.put ((ops[j]?).bind (·.dst)) (V j)
/-- The frame behind the operations of a list. -/
def rfill (ops : Array Oper) (V : Nat → Value) (l : List Nat) (a : Act) : Act := l.foldl (rput ops V) a

def rdst (ops : Array Oper) (j : Nat) : Option Tmp := (ops[j]?).bind (·.dst)

/-- No slot is written twice; what an operation looks at is written by one that it waits for, or by none of this region, or by one that waits for it; all slots lie in the frame. -/
def regionOk (ops : Array Oper) (size : Nat) : Bool :=
  Region.noSelect ops &&
  (List.range ops.size).all fun i =>
    (match rdst ops i with | none => true | some d => decide (d < size) && (List.range ops.size).all fun j => j == i || rdst ops j != some d) &&
    (match ops[i]? with
     | none => true
     | some o => (RDeps o).all (fun j => decide (j < i)) && (o.looksAt ops).all fun t => (List.range ops.size).all fun j => rdst ops j != some t || (RNeed o).contains j ||
        (match ops[j]? with | none => true | some oj => (RDeps oj).contains i))

def upd (D : Nat → Bool) (i : Nat) : Nat → Bool := fun j => D j || j == i

/-- One operation, at a frame and a world: K of its value and of the world behind it; it does not panic. -/
def StepOk (P : Program) (ops : Array Oper) (o : Oper) (a : Act) (w : World) (K : Value → World → Prop) : Prop :=
  if Region.wanted o (yielded ops a.tmps) = true then o.wp P a w (fun a' w' => ∃ v, a' = a.put o.dst v ∧ K v w') (fun _ _ _ => False) else K undef w

/-- The obligations for a list of operations, the first of which has the number i. -/
def StepsOk {Env : Type} (P : Program) (ops : Array Oper) (a0 : Act) (V : Env → Nat → Value) (WI : Env → (Nat → Bool) → World → Prop) : List Oper → Nat → Prop
  | [], _ => True
  | o :: rest, i => (∀ env D w, D i = false → (∀ j ∈ RDeps o, D j = true) → WI env D w →
      StepOk P ops o (rfill ops (V env) (RNeed o) a0) w (fun v w' => ∃ env', v = V env' i ∧ (∀ j, D j = true → V env' j = V env j) ∧ WI env' (upd D i) w')) ∧ StepsOk P ops a0 V WI rest (i + 1)

theorem StepsOk.nil {Env : Type} {P : Program} {ops : Array Oper} {a0 : Act} {V : Env → Nat → Value} {WI : Env → (Nat → Bool) → World → Prop} {i : Nat} : StepsOk P ops a0 V WI [] i := trivial
theorem StepsOk.cons {Env : Type} {P : Program} {ops : Array Oper} {a0 : Act} {V : Env → Nat → Value} {WI : Env → (Nat → Bool) → World → Prop} {o : Oper} {rest : List Oper} {i : Nat}
    (h : ∀ env D w, D i = false → (∀ j ∈ RDeps o, D j = true) → WI env D w →
      StepOk P ops o (rfill ops (V env) (RNeed o) a0) w (fun v w' => ∃ env', v = V env' i ∧ (∀ j, D j = true → V env' j = V env j) ∧ WI env' (upd D i) w'))
    (hs : StepsOk P ops a0 V WI rest (i + 1)) : StepsOk P ops a0 V WI (o :: rest) i := ⟨h, hs⟩
theorem StepsOk.get {Env : Type} {P : Program} {ops : Array Oper} {a0 : Act} {V : Env → Nat → Value} {WI : Env → (Nat → Bool) → World → Prop} :
    ∀ {l : List Oper} {i : Nat}, StepsOk P ops a0 V WI l i → ∀ k o, l[k]? = some o → ∀ env D w, D (i + k) = false → (∀ j ∈ RDeps o, D j = true) → WI env D w →
      StepOk P ops o (rfill ops (V env) (RNeed o) a0) w (fun v w' => ∃ env', v = V env' (i + k) ∧ (∀ j, D j = true → V env' j = V env j) ∧ WI env' (upd D (i + k)) w')
  | [], _, _, _, _, h => by simp at h
  | o :: rest, i, hs, 0, o', h => by
    simp only [List.getElem?_cons_zero, Option.some.injEq] at h
    subst h
    exact hs.1
  | o :: rest, i, hs, k + 1, o', h => by
    have := StepsOk.get (l := rest) (i := i + 1) hs.2 k o' (by simpa using h)
    rw [show i + 1 + k = i + (k + 1) from by omega] at this
    exact this

/-- What is known of a frame when the operations D are behind it. -/
structure RAgree (ops : Array Oper) (V : Nat → Value) (a0 : Act) (D : Nat → Bool) (a : Act) : Prop where
  defers : a.defers = a0.defers
  size : a.tmps.size = a0.tmps.size
  done : ∀ j d, rdst ops j = some d → D j = true → a.tmps[d]? = some (V j)
  old : ∀ t, (∀ j, D j = true → rdst ops j ≠ some t) → a.tmps[t]? = a0.tmps[t]?

section
variable {ops : Array Oper} {size : Nat}

theorem regionOk_dst (h : regionOk ops size = true) {i d : Nat} (hd : rdst ops i = some d) : d < size ∧ ∀ j, rdst ops j = some d → j = i := by
  have lt : ∀ k d, rdst ops k = some d → k < ops.size := by
    intro k d hk
    rcases Nat.lt_or_ge k ops.size with h' | h'
    · exact h'
    · simp [rdst, Array.getElem?_eq_none h'] at hk
  simp only [regionOk, Bool.and_eq_true, List.all_eq_true, List.mem_range] at h
  have h1 := (h.2 i (lt i d hd)).1
  simp only [hd, Bool.and_eq_true, decide_eq_true_eq, List.all_eq_true, List.mem_range, Bool.or_eq_true, beq_iff_eq, bne_iff_ne] at h1
  refine ⟨h1.1, fun j hj => ?_⟩
  rcases h1.2 j (lt j d hj) with h2 | h2
  · exact h2
  · exact absurd hj h2

theorem regionOk_looks (h : regionOk ops size = true) {i : Nat} {o : Oper} (ho : ops[i]? = some o) {t : Tmp} (ht : t ∈ o.looksAt ops) {j : Nat} (hj : rdst ops j = some t) :
    j ∈ RNeed o ∨ ∃ oj, ops[j]? = some oj ∧ i ∈ RDeps oj := by
  have hi : i < ops.size := (Array.getElem?_eq_some_iff.1 ho).1
  have hjl : j < ops.size := by
    rcases Nat.lt_or_ge j ops.size with h' | h'
    · exact h'
    · simp [rdst, Array.getElem?_eq_none h'] at hj
  simp only [regionOk, Bool.and_eq_true, List.all_eq_true, List.mem_range] at h
  have h1 := (h.2 i hi).2
  simp only [ho, Bool.and_eq_true, List.all_eq_true, List.mem_range, Bool.or_eq_true, bne_iff_ne] at h1
  rcases h1.2 t ht j hjl with (h2 | h2) | h2
  · exact absurd hj h2
  · exact .inl (by simpa using h2)
  · cases hoj : ops[j]? with
    | none => simp [rdst, hoj] at hj
    | some oj =>
      rw [hoj] at h2
      exact .inr ⟨oj, rfl, by simpa using h2⟩

theorem regionOk_deps (h : regionOk ops size = true) {i : Nat} {o : Oper} (ho : ops[i]? = some o) : ∀ j ∈ RDeps o, j < i := by
  have hi : i < ops.size := (Array.getElem?_eq_some_iff.1 ho).1
  simp only [regionOk, Bool.and_eq_true, List.all_eq_true, List.mem_range] at h
  have h1 := (h.2 i hi).2
  simp only [ho, Bool.and_eq_true, List.all_eq_true, decide_eq_true_eq] at h1
  exact h1.1

theorem RAgree.refl (V : Nat → Value) (a0 : Act) : RAgree ops V a0 (fun _ => false) a0 := ⟨rfl, rfl, fun _ _ _ h => Bool.noConfusion h, fun _ _ => rfl⟩

theorem put_tmps_some (a : Act) (d : Tmp) (v : Value) : (a.put (some d) v).tmps = a.tmps.setIfInBounds d v := rfl

theorem RAgree.put {V : Nat → Value} {a0 : Act} {D : Nat → Bool} {a : Act} (hok : regionOk ops size = true) (hsz : a0.tmps.size = size) (h : RAgree ops V a0 D a) (i : Nat) :
    RAgree ops V a0 (upd D i) (rput ops V a i) := by
  unfold rput
  cases hd : (ops[i]?).bind (·.dst) with
  | none =>
    have hd' : rdst ops i = none := hd
    refine ⟨h.defers, h.size, fun j d hj hD => ?_, fun t ht => ?_⟩
    · have : D j = true := by
        simp only [upd, Bool.or_eq_true, beq_iff_eq] at hD
        rcases hD with hD | hD
        · exact hD
        · subst hD; rw [hd'] at hj; cases hj
      exact h.done j d hj this
    · exact h.old t (fun j hD => ht j (by simp [upd, hD]))
  | some d =>
    have hd' : rdst ops i = some d := hd
    have hlt := (regionOk_dst hok hd').1
    refine ⟨h.defers, by simp [Act.put, h.size], fun j d' hj hD => ?_, fun t ht => ?_⟩
    · rw [put_tmps_some]
      by_cases he : d' = d
      · subst he
        have hji := (regionOk_dst hok hd').2 j hj
        subst hji
        rw [Array.getElem?_setIfInBounds_self_of_lt (by rw [h.size, hsz]; exact hlt)]
      · rw [Array.getElem?_setIfInBounds_ne (fun e => he e.symm)]
        refine h.done j d' hj ?_
        simp only [upd, Bool.or_eq_true, beq_iff_eq] at hD
        rcases hD with hD | hD
        · exact hD
        · subst hD; rw [hd'] at hj; injection hj with hj; exact absurd hj.symm he
    · rw [put_tmps_some]
      have hne : d ≠ t := fun e => ht i (by simp [upd]) (by rw [hd', e])
      rw [Array.getElem?_setIfInBounds_ne hne]
      exact h.old t (fun j hD => ht j (by simp [upd, hD]))

def listed (l : List Nat) : Nat → Bool := fun j => l.contains j

theorem RAgree.fill {V : Nat → Value} {a0 : Act} (hok : regionOk ops size = true) (hsz : a0.tmps.size = size) :
    ∀ (l : List Nat) (D : Nat → Bool) (a : Act), RAgree ops V a0 D a → RAgree ops V a0 (fun j => D j || l.contains j) (l.foldl (rput ops V) a)
  | [], D, a, h => by simpa using h
  | i :: l, D, a, h => by
    have := RAgree.fill hok hsz l (upd D i) (rput ops V a i) (h.put hok hsz i)
    simp only [List.foldl_cons]
    have e : (fun j => upd D i j || l.contains j) = (fun j => D j || (i :: l).contains j) := by
      funext j
      simp only [upd, List.contains_cons, Bool.or_assoc]
    rw [e] at this
    exact this

theorem RAgree.eq {V : Nat → Value} {a0 : Act} {D : Nat → Bool} {a b : Act} (ha : RAgree ops V a0 D a) (hb : RAgree ops V a0 D b) : a = b := by
  have ht : a.tmps = b.tmps := by
    apply Array.ext_getElem?
    intro t
    by_cases h : ∃ j, D j = true ∧ rdst ops j = some t
    · obtain ⟨j, h1, h2⟩ := h
      rw [ha.done j t h2 h1, hb.done j t h2 h1]
    · rw [ha.old t (fun j h1 h2 => h ⟨j, h1, h2⟩), hb.old t (fun j h1 h2 => h ⟨j, h1, h2⟩)]
  have hd := ha.defers.trans hb.defers.symm
  cases a; cases b
  simp_all

theorem RAgree.val {V V' : Nat → Value} {a0 : Act} {D : Nat → Bool} {a : Act} (ha : RAgree ops V a0 D a) (h : ∀ j, D j = true → V' j = V j) : RAgree ops V' a0 D a :=
  ⟨ha.defers, ha.size, fun j d hj hD => by rw [h j hD]; exact ha.done j d hj hD, ha.old⟩

/-- The slots that an operation looks at read alike at two frames. -/
theorem eval_of_alike {a b : Act} {o : Oper} (h : ∀ t ∈ o.looksAt ops, a.tmps[t]? = b.tmps[t]?) (hs : ∀ cs b, o.op ≠ .select cs b) : execOp a.eval o = execOp b.eval o := by
  refine execOp_congr o hs fun x hx => ?_
  cases x with
  | tmp t =>
    have := h t (List.mem_append_left _ (List.mem_filterMap.2 ⟨.tmp t, by simpa using hx, rfl⟩))
    simp [Act.eval, this]
  | _ => rfl
theorem wanted_of_alike {a b : Act} {o : Oper} (h : ∀ t ∈ o.looksAt ops, a.tmps[t]? = b.tmps[t]?) : Region.wanted o (yielded ops a.tmps) = Region.wanted o (yielded ops b.tmps) := by
  unfold Region.wanted
  cases hg : o.guard with
  | none => rfl
  | some gw =>
    obtain ⟨g, want⟩ := gw
    have : yielded ops a.tmps g = yielded ops b.tmps g := by
      unfold yielded
      cases ht : (ops[g]?).bind (·.dst) with
      | none => rfl
      | some t => simp [h t (by simp [Oper.looksAt, hg, ht])]
    simp only [this]
end

theorem stepOk_wpOp {P : Program} {ops : Array Oper} {Q : Exit → Act → World → Prop} {i : Nat} {o : Oper} {a b : Act} {w : World} {K : Value → World → Prop} (ho : ops[i]? = some o)
    (hs : ∀ cs b, o.op ≠ .select cs b) (h : ∀ t ∈ o.looksAt ops, b.tmps[t]? = a.tmps[t]?) (hd : ∀ d, o.dst = some d → d < a.tmps.size) (hk : StepOk P ops o a w K) :
    wpOp P ops Q i (fun a' w' => ∃ v, a' = b.put o.dst v ∧ K v w') b w := by
  unfold wpOp
  simp only [ho]
  unfold StepOk at hk
  rw [wanted_of_alike h]
  split
  · rename_i hw
    rw [if_pos hw] at hk
    left
    unfold Oper.wp at hk ⊢
    rw [eval_of_alike h hs]
    generalize (execOp a.eval o).run P w = r at hk
    have key : ∀ v w', (∃ u, a.put o.dst v = a.put o.dst u ∧ K u w') → ∃ u, b.put o.dst v = b.put o.dst u ∧ K u w' := by
      rintro v w' ⟨u, he, hK⟩
      refine ⟨u, ?_, hK⟩
      cases hod : o.dst with
      | none => rfl
      | some d =>
        rw [hod] at he
        have hlt := hd d hod
        have h1 := congrArg (fun x : Act => x.tmps[d]?) he
        simp only [put_tmps_some] at h1
        rw [Array.getElem?_setIfInBounds_self_of_lt hlt, Array.getElem?_setIfInBounds_self_of_lt hlt] at h1
        injection h1 with h1
        rw [h1]
    cases r with
    | ok n w' =>
      cases n <;> simp only [Oper.upon] at hk ⊢
      case value v => exact key v w' hk
      case skip => exact key undef w' hk
      case defer d =>
        obtain ⟨u, he, _⟩ := hk
        have h1 := congrArg (fun x : Act => x.defers.length) he
        cases hod : o.dst <;> rw [hod] at h1 <;> simp [Act.put] at h1
      case enter f args =>
        refine Calls.mono hk fun e w'' he => ?_
        cases e with
        | returned v => exact key v w'' he
        | panicked c => exact he.elim
        | outgrown => obtain ⟨_, _, hf⟩ := he; exact hf.elim
      case row row args => exact Rows.mono hk fun v w'' he => key v w'' he
    | halt x w' =>
      cases x <;> simp only [Oper.upon] at hk
  · rename_i hw
    rw [if_neg hw] at hk
    exact ⟨undef, rfl, hk⟩

theorem wpOp_out {P : Program} {ops : Array Oper} {Q : Exit → Act → World → Prop} {i : Nat} {K : Act → World → Prop} {a : Act} {w : World}
    (h : wpOp P ops (fun _ _ _ => False) i K a w) : wpOp P ops Q i K a w := by
  unfold wpOp at *
  split
  · rename_i ho; simpa [ho] using h
  · rename_i o ho
    simp only [ho] at h
    split
    · rename_i hw
      rw [if_pos hw] at h
      rcases h with h | ⟨_, _, _, hf⟩
      · left
        unfold Oper.wp at *
        generalize (execOp a.eval o).run P w = r at *
        cases r with
        | ok n w' =>
          cases n <;> simp only [Oper.upon] at h ⊢
          case enter f args =>
            refine Calls.mono h fun e w'' he => ?_
            cases e with
            | returned v => exact he
            | panicked c => exact he.elim
            | outgrown => obtain ⟨_, _, hf⟩ := he; exact hf.elim
          all_goals exact h
        | halt x w' => cases x <;> simp only [Oper.upon] at h
      · exact hf.elim
    · rename_i hw
      rw [if_neg hw] at h
      exact h

theorem count_set : ∀ (l : List Bool) (i : Nat), l[i]? = some false → (l.filter (!·)).length = ((l.set i true).filter (!·)).length + 1
  | [], i, h => by simp at h
  | b :: l, 0, h => by
    simp only [List.getElem?_cons_zero, Option.some.injEq] at h
    subst h
    simp
  | b :: l, i + 1, h => by
    have := count_set l i (by simpa using h)
    cases b <;> simp [this]

section
variable {P : Program} {ops : Array Oper} {Q : Exit → Act → World → Prop} {a0 : Act} {Env : Type} {V : Env → Nat → Value} {WI : Env → (Nat → Bool) → World → Prop}

/-- Closed: what is done waits for nothing that is not. -/
def RClosed (ops : Array Oper) (D : Nat → Bool) : Prop := ∀ j o, ops[j]? = some o → D j = true → ∀ k ∈ RDeps o, D k = true

theorem region_any (hok : regionOk ops a0.tmps.size = true) (hstep : StepsOk P ops a0 V WI ops.toList 0)
    (hend : ∀ env D w, (∀ j, j < ops.size → D j = true) → WI env D w → Q .normal (rfill ops (V env) (List.range ops.size) a0) w) :
    ∀ (fuel : Nat) (lst : Array Bool) (env : Env) (a : Act) (w : World), lst.size = ops.size → RClosed ops (fun j => lst.getD j false) →
      RAgree ops (V env) a0 (fun j => lst.getD j false) a → WI env (fun j => lst.getD j false) w → (lst.toList.filter (!·)).length ≤ fuel → wpAny P .any ops Q fuel lst a w := by
  have hsel : Region.noSelect ops = true := by
    simp only [regionOk, Bool.and_eq_true] at hok
    exact hok.1
  -- where nothing is ready, all is done
  have allDone : ∀ lst : Array Bool, lst.size = ops.size → (∀ j, j < ops.size → lst.getD j false = true) → ∀ (env : Env) (a : Act) (w : World), RAgree ops (V env) a0 (fun j => lst.getD j false) a → WI env (fun j => lst.getD j false) w → Q .normal a w := by
    intro lst hl hall env a w ha hw
    have h1 := hend env _ w hall hw
    have h2 : RAgree ops (V env) a0 (fun j => (fun _ => false) j || (List.range ops.size).contains j) (rfill ops (V env) (List.range ops.size) a0) := RAgree.fill hok rfl _ _ _ (RAgree.refl _ _)
    have e : (fun j => (fun _ => false) j || (List.range ops.size).contains j) = (fun j => lst.getD j false) := by
      funext j
      by_cases hj : j < ops.size
      · rw [hall j hj]; simp [hj]
      · have : lst.getD j false = false := by simp [Array.getD, hl, hj]
        rw [this]; simp [hj]
    rw [e] at h2
    rw [ha.eq h2]
    exact h1
  -- the least that is not done is ready
  have some_ready : ∀ lst : Array Bool, lst.size = ops.size → Region.ready .any ops lst = [] → ∀ j, j < ops.size → lst.getD j false = true := by
    intro lst hl hr j
    induction j using Nat.strongRecOn with
    | ind j ih =>
      intro hj
      cases hd : lst.getD j false with
      | true => rfl
      | false =>
        exfalso
        obtain ⟨o, ho⟩ : ∃ o, ops[j]? = some o := ⟨ops[j], Array.getElem?_eq_getElem hj⟩
        have hm : j ∈ Region.ready .any ops lst := by
          refine mem_ready.2 ⟨?_, o, ho, fun e he hb => ?_⟩
          · have hjl : j < lst.size := by omega
            simp [Array.getD, hjl] at hd ⊢
            exact hd
          · have hk : e.on ∈ RDeps o := by
              unfold RDeps
              exact List.mem_map.2 ⟨e, List.mem_filter.2 ⟨by simpa using he, hb⟩, rfl⟩
            have := regionOk_deps hok ho _ hk
            exact ih _ this (by omega)
        rw [hr] at hm
        cases hm
  intro fuel
  induction fuel with
  | zero =>
    intro lst env a w hl hc ha hw hf
    have hall : ∀ j, j < ops.size → lst.getD j false = true := by
      intro j hj
      have hjl : j < lst.size := by omega
      have hnil : lst.toList.filter (!·) = [] := List.eq_nil_of_length_eq_zero (by omega)
      rw [List.filter_eq_nil_iff] at hnil
      have := hnil lst[j] (by simp)
      simpa [Array.getD, hjl] using this
    refine ⟨?_, allDone lst hl hall env a w ha hw⟩
    cases hr : Region.ready .any ops lst with
    | nil => rfl
    | cons k ks =>
      have hk : k ∈ Region.ready .any ops lst := by rw [hr]; exact List.mem_cons_self
      obtain ⟨h0, o, ho, _⟩ := mem_ready.1 hk
      have hkl : k < ops.size := (Array.getElem?_eq_some_iff.1 ho).1
      have := hall k hkl
      have hkl' : k < lst.size := by omega
      simp [Array.getD, hkl'] at h0 this
      rw [h0] at this
      cases this
  | succ fuel ih =>
    intro lst env a w hl hc ha hw hf
    refine ⟨fun hr => allDone lst hl (some_ready lst hl hr) env a w ha hw, fun i hi => ?_⟩
    obtain ⟨h0, o, ho, hall⟩ := mem_ready.1 hi
    have hil : i < ops.size := (Array.getElem?_eq_some_iff.1 ho).1
    have hil' : i < lst.size := by omega
    have hD : lst.getD i false = false := by
      simp [Array.getD, hil'] at h0 ⊢
      exact h0
    have hdeps : ∀ j ∈ RDeps o, lst.getD j false = true := by
      intro j hj
      unfold RDeps at hj
      obtain ⟨e, he, rfl⟩ := List.mem_map.1 hj
      obtain ⟨he1, he2⟩ := List.mem_filter.1 he
      exact hall e (by simpa using he1) he2
    have hstep' := hstep.get i o (by simpa using ho) env (fun j => lst.getD j false) w (by rw [Nat.zero_add]; exact hD) hdeps hw
    rw [Nat.zero_add] at hstep'
    have hfill : RAgree ops (V env) a0 (fun j => (fun _ => false) j || (RNeed o).contains j) (rfill ops (V env) (RNeed o) a0) := RAgree.fill hok rfl _ _ _ (RAgree.refl _ _)
    have halike : ∀ t ∈ o.looksAt ops, a.tmps[t]? = (rfill ops (V env) (RNeed o) a0).tmps[t]? := by
      intro t ht
      by_cases hx : ∃ j, rdst ops j = some t
      · obtain ⟨j, hj⟩ := hx
        rcases regionOk_looks hok ho ht hj with h1 | ⟨oj, hoj, h1⟩
        · rw [ha.done j t hj (hdeps j (need_deps h1)), hfill.done j t hj (by simpa using h1)]
        · have hnd : ∀ k, rdst ops k = some t → k = j := (regionOk_dst hok hj).2
          rw [ha.old t (fun k hk1 hk2 => ?_), hfill.old t (fun k hk1 hk2 => ?_)]
          · have := hnd k hk2
            subst this
            have hk1' : k ∈ RNeed o := by simpa using hk1
            have h2 := regionOk_deps hok ho _ (need_deps hk1')
            have h3 := regionOk_deps hok hoj _ h1
            omega
          · have := hnd k hk2
            subst this
            have h4 : lst.getD i false = true := hc k oj hoj hk1 i h1
            rw [hD] at h4
            cases h4
      · rw [ha.old t (fun k _ hk2 => hx ⟨k, hk2⟩), hfill.old t (fun k _ hk2 => hx ⟨k, hk2⟩)]
    have hdst : ∀ d, o.dst = some d → d < (rfill ops (V env) (RNeed o) a0).tmps.size := by
      intro d hd
      rw [hfill.size]
      exact (regionOk_dst hok (i := i) (by simp [rdst, ho, hd])).1
    refine wpOp_mono ?_ (wpOp_out (stepOk_wpOp ho (fun cs b => Region.noSelect_spec hsel i o cs b ho) halike hdst hstep'))
    rintro a' w' ⟨v, rfl, env', rfl, hV, hW⟩
    have hlst : (fun j => (lst.setIfInBounds i true).getD j false) = upd (fun j => lst.getD j false) i := by
      funext j
      simp only [upd]
      by_cases hji : j = i
      · subst hji
        have hs : j < (lst.setIfInBounds j true).size := by simpa using hil'
        simp [Array.getD, hil']
      · rw [getD_set_ne false (fun e => hji e.symm)]
        simp [hji]
    have hput : rput ops (V env') a i = a.put o.dst (V env' i) := by simp [rput, ho]
    refine ih (lst.setIfInBounds i true) env' (a.put o.dst (V env' i)) w' (by simpa using hl) ?_ ?_ ?_ ?_
    · intro j oj hoj hj k hk
      rw [hlst] at hj
      have hsub : ∀ k, lst.getD k false = true → (lst.setIfInBounds i true).getD k false = true := fun k h => getD_set_true h
      simp only [upd, Bool.or_eq_true, beq_iff_eq] at hj
      rcases hj with hj | hj
      · exact hsub k (hc j oj hoj hj k hk)
      · subst hj
        rw [ho] at hoj
        injection hoj with hoj
        subst hoj
        exact hsub k (hdeps k hk)
    · rw [hlst, ← hput]
      exact (ha.val hV).put hok rfl i
    · rw [hlst]; exact hW
    · have hcount : (lst.toList.filter (!·)).length = ((lst.setIfInBounds i true).toList.filter (!·)).length + 1 := by
        rw [Array.toList_setIfInBounds]
        have hx : lst.toList[i]? = some false := by
          simp [Array.getD, hil'] at hD
          simp [hil', hD]
        exact count_set _ _ hx
      omega

theorem wp_region_steps {id : Nat} {w0 : World} (hm : P.follows .mixedOrders = true) (hok : regionOk ops a0.tmps.size = true) (hstep : StepsOk P ops a0 V WI ops.toList 0)
    (env0 : Env) (h0 : WI env0 (fun _ => false) w0.drew)
    (hend : ∀ env D w, (∀ j, j < ops.size → D j = true) → WI env D w → Q .normal (rfill ops (V env) (List.range ops.size) a0) w) : (Code.region id ops true).wp P Q a0 w0 := by
  refine wp_region_any hm ?_
  have e : (fun j => (Array.replicate ops.size false).getD j false) = (fun _ => false) := by
    funext j
    by_cases hj : j < ops.size <;> simp [Array.getD, hj]
  refine region_any hok hstep hend ops.size (Array.replicate ops.size false) env0 a0 _ (by simp) ?_ ?_ ?_ ?_
  · rw [e]; intro j o _ h; cases h
  · rw [e]; exact RAgree.refl _ _
  · rw [e]; exact h0
  · refine Nat.le_trans (List.length_filter_le _ _) (by simp)
end

/-! ### The same with the numbers written out -/

/-- The frame behind the operations of a list, their slots written out. -/
def rfillL (dsts : List (Option Tmp)) (vals : List Value) (l : List Nat) (a : Act) : Act := l.foldl (fun a j => a.put (dsts.getD j none) (vals.getD j undef)) a

/-- The value of a plain operation, in a world that it leaves alone. -/
def StepVal (P : Program) (ops : Array Oper) (o : Oper) (a : Act) (w : World) (v : Value) : Prop :=
  if Region.wanted o (yielded ops a.tmps) = true then (execOp a.eval o).run P w = .ok (.value v) w else v = undef

theorem StepVal.stepOk {P : Program} {ops : Array Oper} {o : Oper} {a : Act} {w : World} {v : Value} {K : Value → World → Prop} (h : StepVal P ops o a w v) (hK : K v w) : StepOk P ops o a w K := by
  unfold StepVal at h
  unfold StepOk
  split
  · rename_i hw
    rw [if_pos hw] at h
    unfold Oper.wp
    rw [h]
    exact ⟨v, rfl, hK⟩
  · rename_i hw
    rw [if_neg hw] at h
    rw [← h]
    exact hK

def StepsL {Env : Type} (P : Program) (ops : Array Oper) (dsts : List (Option Tmp)) (a0 : Act) (vals : Env → List Value) (WI : Env → (Nat → Bool) → World → Prop) : List Oper → List (List Nat × List Nat) → Nat → Prop
  | o :: rest, d :: ds, i => (∀ env D w, D i = false → (∀ j ∈ d.1, D j = true) → WI env D w →
      StepOk P ops o (rfillL dsts (vals env) d.2 a0) w (fun v w' => ∃ env', v = (vals env').getD i undef ∧ (∀ j, D j = true → (vals env').getD j undef = (vals env).getD j undef) ∧ WI env' (upd D i) w')) ∧ StepsL P ops dsts a0 vals WI rest ds (i + 1)
  | _, _, _ => True

section
variable {P : Program} {ops : Array Oper} {Q : Exit → Act → World → Prop} {a0 : Act} {Env : Type} {vals : Env → List Value} {WI : Env → (Nat → Bool) → World → Prop} {dsts : List (Option Tmp)}

theorem StepsL.nil {ds : List (List Nat × List Nat)} {i : Nat} : StepsL P ops dsts a0 vals WI [] ds i := trivial
/-- Any operation. -/
theorem StepsL.any {o : Oper} {rest : List Oper} {d n : List Nat} {ds : List (List Nat × List Nat)} {i : Nat}
    (h : ∀ env D w, D i = false → (∀ j ∈ d, D j = true) → WI env D w →
      StepOk P ops o (rfillL dsts (vals env) n a0) w (fun v w' => ∃ env', v = (vals env').getD i undef ∧ (∀ j, D j = true → (vals env').getD j undef = (vals env).getD j undef) ∧ WI env' (upd D i) w'))
    (hs : StepsL P ops dsts a0 vals WI rest ds (i + 1)) : StepsL P ops dsts a0 vals WI (o :: rest) ((d, n) :: ds) i := ⟨h, hs⟩
/-- A plain operation: its value; it changes nothing. -/
theorem StepsL.val {o : Oper} {rest : List Oper} {d n : List Nat} {ds : List (List Nat × List Nat)} {i : Nat}
    (hW : ∀ env D w, D i = false → WI env D w → WI env (upd D i) w)
    (h : ∀ env D w, (∀ j ∈ d, D j = true) → WI env D w → StepVal P ops o (rfillL dsts (vals env) n a0) w ((vals env).getD i undef))
    (hs : StepsL P ops dsts a0 vals WI rest ds (i + 1)) : StepsL P ops dsts a0 vals WI (o :: rest) ((d, n) :: ds) i :=
  ⟨fun env D w hD hd hw => (h env D w hd hw).stepOk ⟨env, rfl, fun _ _ => rfl, hW env D w hD hw⟩, hs⟩
/-- An operation whose value is the same whatever the env. -/
theorem StepsL.one {o : Oper} {rest : List Oper} {d n : List Nat} {ds : List (List Nat × List Nat)} {i : Nat}
    (h : ∀ env D w, D i = false → (∀ j ∈ d, D j = true) → WI env D w →
      StepOk P ops o (rfillL dsts (vals env) n a0) w (fun v w' => v = (vals env).getD i undef ∧ WI env (upd D i) w'))
    (hs : StepsL P ops dsts a0 vals WI rest ds (i + 1)) : StepsL P ops dsts a0 vals WI (o :: rest) ((d, n) :: ds) i :=
  ⟨fun env D w hD hd hw => by
    have := h env D w hD hd hw
    unfold StepOk at this ⊢
    split
    · rename_i hw'
      rw [if_pos hw'] at this
      refine Oper.wp_mono ?_ this
      rintro a w ⟨v, rfl, rfl, hW⟩
      exact ⟨_, rfl, env, rfl, fun _ _ => rfl, hW⟩
    · rename_i hw'
      rw [if_neg hw'] at this
      exact ⟨env, this.1, fun _ _ => rfl, this.2⟩, hs⟩

theorem rfill_eq {l : List Oper} (hd : l.map (·.dst) = dsts) (v : List Value) (js : List Nat) (a : Act) : rfill l.toArray (fun j => v.getD j undef) js a = rfillL dsts v js a := by
  subst hd
  unfold rfill rfillL
  congr 1
  funext a j
  unfold rput
  congr 1
  simp only [List.getElem?_toArray, List.getD_eq_getElem?_getD, List.getElem?_map]
  cases l[j]? <;> rfl

theorem stepsL_get {l : List Oper} (hd : l.map (·.dst) = dsts) : ∀ (m : List Oper) (ds : List (List Nat × List Nat)) (i : Nat), m.map (fun o => (RDeps o, RNeed o)) = ds → StepsL P l.toArray dsts a0 vals WI m ds i →
    StepsOk P l.toArray a0 (fun env j => (vals env).getD j undef) WI m i
  | [], _, _, _, _ => trivial
  | o :: rest, ds, i, he, h => by
    subst he
    refine ⟨?_, stepsL_get hd rest _ (i + 1) rfl h.2⟩
    intro env D w hD hdeps hW
    rw [rfill_eq hd]
    exact h.1 env D w hD hdeps hW

/-- A REGION, WHATEVER THE ORDER: its slots, what each operation waits for, the values, what holds of the world when the operations D are behind it. -/
theorem wp_region_all {id : Nat} {w0 : World} {l : List Oper} {deps : List (List Nat × List Nat)} {all : List Nat} (hm : P.follows .mixedOrders = true) (hok : regionOk l.toArray a0.tmps.size = true)
    (hd : l.map (·.dst) = dsts) (he : l.map (fun o => (RDeps o, RNeed o)) = deps) (hall : List.range l.length = all) (env0 : Env)
    (hstep : StepsL P l.toArray dsts a0 vals WI l deps 0) (h0 : WI env0 (fun _ => false) w0.drew)
    (fin : Env → Act) (hfin : ∀ env, rfillL dsts (vals env) all a0 = fin env)
    (hend : ∀ env D w, (∀ j, j < l.length → D j = true) → WI env D w → Q .normal (fin env) w) : (Code.region id l.toArray true).wp P Q a0 w0 := by
  refine wp_region_steps (V := fun env j => (vals env).getD j undef) (WI := WI) hm hok (stepsL_get hd l deps 0 he hstep) env0 h0 ?_
  intro env D w hD hW
  have := hend env D w (by simpa using hD) hW
  rw [rfill_eq hd]
  rw [← hfin env, ← hall] at this
  simpa using this
end

end Go.Proofs.Ytgkmfedjmmleeaa
