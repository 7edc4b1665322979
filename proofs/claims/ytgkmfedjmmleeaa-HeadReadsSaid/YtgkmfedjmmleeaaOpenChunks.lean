/- Opening a slice of structs of two strings: its cells, its sizes. -/
import Derived.Test.YtgkmfedjmmleeaaRead
import Derived.Test.YtgkmfedjmmleeaaLaw
import Derived.SizedLaws
import Derived.ChangeSame
import Derived.ProofKit
import Derived.OpenShut
namespace Go.Proofs.Ytgkmfedjmmleeaa
open Go.ChangeShapes Go.WideShapes Go.ChangeAt Go.RowKit Go.Proofs.YtgkmfedjmmleeaaW.PrintWords
set_option linter.unusedVariables false
set_option linter.unusedSimpArgs false

theorem list_of_each {α : Type} {Q : Nat → α → Prop} : ∀ n : Nat, (∀ i, i < n → ∃ x, Q i x) → ∃ l : List α, l.length = n ∧ ∀ i x, l[i]? = some x → Q i x
  | 0, _ => ⟨[], rfl, fun i x h => by simp at h⟩
  | n + 1, h => by
    obtain ⟨l, h1, h2⟩ := list_of_each n (fun i hi => h i (by omega))
    obtain ⟨y, hy⟩ := h n (by omega)
    refine ⟨l ++ [y], by simp [h1], fun i x hx => ?_⟩
    rcases Nat.lt_or_ge i l.length with hi | hi
    · rw [List.getElem?_append_left hi] at hx
      exact h2 i x hx
    · rw [List.getElem?_append_right hi] at hx
      have h0 : i - l.length = 0 := by
        rcases Nat.eq_zero_or_pos (i - l.length) with h0 | h0
        · exact h0
        · rw [List.getElem?_eq_none (by simp; omega)] at hx; cases hx
      rw [h0] at hx
      simp at hx
      subst hx
      have : i = n := by omega
      subst this
      exact hy

theorem weightsAll_mem {H : Type} {P : Program} {e : TypeId} : ∀ {l : List (DataW H)} {d : DataW H} {n : Nat}, d ∈ l → n ∈ d.weights P e → n ∈ DataW.weightsAll P e l
  | [], _, _, h, _ => by cases h
  | x :: r, d, n, h, hn => by
    unfold DataW.weightsAll
    rcases List.mem_cons.1 h with rfl | h
    · exact List.mem_append_left _ hn
    · exact List.mem_append_right _ (weightsAll_mem h hn)

theorem open_chunks {H : Type} {enc : TypeId × Value → H} {P : Program} {W : World} {base : Nat} {spare : Nat → Bool} {held : Bool} {t e : TypeId} {f0 f1 : Field} {a : Option Addr} {len cap : Nat} {d : DataW H} {ps : List MemPlace} {ts : List TypeId} {ds : List (DataW H)} {j : Nat}
    (hsz : (DataW.weightsEach P ts ds).all (· ≤ reachBytes) = true) (ht : ts[j]? = some t) (hd : ds[j]? = some d) (hu : P.underlying t = some (.slice e)) (he : P.underlying e = some (.struct #[f0, f1]))
    (h0 : P.underlying f0.type = some .string) (h1 : P.underlying f1.type = some .string) (ho0 : f0.offset = 0) (hc0 : P.cellsOf f0.type = 1) (ho1 : f1.offset = 1) (hc1 : P.cellsOf f1.type = 1) (hC : P.cellsOf e = 2) (hB : P.bytesOf e = 32)
    (h : DataW.Trod enc P W base spare held t (.slice a len cap) d ps) :
    ∃ l : List (ByteArray × ByteArray), l.length = len ∧ Chs W a l ∧ len ≤ cap ∧ (a = none → len = 0 ∧ cap = 0) ∧ len ≤ 140737488351232 ∧ ∀ x ∈ l, x.2.size ≤ 140737488351232 := by
  obtain ⟨fuel, hf⟩ := h
  rcases DataW.trod_slice hu hf with ⟨hcs, hx⟩ | ⟨ad, len', cap', elems, rest, n, _, hcs, hx, hb, hl, hm, hlen, hel, _, _⟩
  · simp [Value.cells] at hcs
    obtain ⟨rfl, rfl, rfl⟩ := hcs
    exact ⟨[], rfl, fun i T D hi => by simp at hi, Nat.le_refl _, fun _ => ⟨rfl, rfl⟩, by omega, fun x hx => by simp at hx⟩
  · simp [Value.cells] at hcs
    obtain ⟨rfl, rfl, rfl⟩ := hcs
    simp only [Prod.mk.injEq] at hx
    obtain ⟨rfl, _⟩ := hx
    have hw := List.all_eq_true.1 hsz
    have hlenb : len ≤ 140737488351232 := by
      have := sized_slice hsz ht hd hu
      rw [hB] at this
      simp [reachBytes, hlen] at this
      omega
    have key : ∀ i, i < len → ∃ x : ByteArray × ByteArray, W.cell? (ad.add (i * 2)) = some (.string x.1) ∧ W.cell? ⟨(ad.add (i * 2)).block, (ad.add (i * 2)).off + 1, none⟩ = some (.string x.2) ∧ x.2.size ≤ 140737488351232 := by
      intro i hi
      have h2 := hel i hi
      have hel' : elems[i]? = some (elems[i]'(by omega)) := List.getElem?_eq_getElem (by omega)
      rw [hel', Option.bind_eq_some_iff] at h2
      obtain ⟨cs', hcells, hy⟩ := h2
      rw [hC] at hcells
      obtain ⟨_, hcl, hcell⟩ := World.cells?_some hcells
      obtain ⟨y0, y1, n', hyy, _, e0, e1⟩ := trod_struct2 he hy
      rw [ho0, hc0] at e0
      rw [ho1, hc1] at e1
      obtain ⟨s0, q0, r0, _⟩ := DataW.trod_string h0 e0
      obtain ⟨s1, q1, r1, _⟩ := DataW.trod_string h1 e1
      have k0 := hcell 0 (by omega)
      have k1 := hcell 1 (by omega)
      match cs', hcl with
      | [c0, c1], _ =>
        simp at q0 q1
        subst q0 q1
        rw [add_add_, Nat.add_zero] at k0
        rw [add_add_, add_field _ _ 1 (by omega)] at k1
        refine ⟨(s0, s1), k0, k1, ?_⟩
        have hmem : (elems[i]'(by omega)).1 ∈ elems.map (·.1) := List.mem_map.2 ⟨_, List.getElem_mem _, rfl⟩
        have hn : s1.data.toList.length ∈ (elems[i]'(by omega)).1.weights P e := by
          rw [hyy, r0, r1]
          simp [DataW.weights, DataW.weightsEach, he]
        have := hw _ (DataW.weights_mem_each ht hd _ (show s1.data.toList.length ∈ (DataW.slice (elems.map (·.1)) (rest.map (·.1))).weights P t by
          unfold DataW.weights
          rw [hu]
          exact List.mem_cons_of_mem _ (List.mem_append_left _ (weightsAll_mem hmem hn))))
        have := of_decide_eq_true this
        rw [data_length] at this
        exact this
    obtain ⟨l, hll, hq⟩ := list_of_each len key
    refine ⟨l, hll, fun i T D hi => ⟨ad, rfl, (hq i _ hi).1, (hq i _ hi).2.1⟩, hl, (fun hn => by cases hn), hlenb, fun x hx => ?_⟩
    obtain ⟨i, hi⟩ := List.getElem?_of_mem hx
    exact (hq i _ hi).2.2
end Go.Proofs.Ytgkmfedjmmleeaa
