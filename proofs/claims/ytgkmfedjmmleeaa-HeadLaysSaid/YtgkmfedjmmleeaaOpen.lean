/- Opening a struct of five whole numbers. -/
import Derived.Test.YtgkmfedjmmleeaaLaw
import Derived.WalkKit
import Derived.ProofKit
import Derived.OpenShut
import Derived.Deep.Fields
namespace Go.Proofs.Ytgkmfedjmmleeaa
open Go.ChangeShapes Go.WideShapes Go.ChangeAt Go.RowKit Go.Deep
set_option linter.unusedVariables false
set_option linter.unusedSimpArgs false

theorem open_ints5 {H : Type} {enc : TypeId × Value → H} {P : Program} {w : World} {base : Nat} {spare : Nat → Bool} {held : Bool} {r : Reach} {b0 : Nat} {t e : TypeId} {fs : Array Field} {v : Value} {d : DataW H} {p : List MemPlace}
    (hs : P.underlying t = some (.struct fs)) (hn : fs.size = 5) (hone : oneCellFields P fs = true) (hty : fs.all (fun f => f.type == e) = true) (he : P.underlying e = some (.int .i64)) (hC : P.cellsOf t = 5)
    (hv : Value.okWide P w r b0 t v) (h : DataW.Trod enc P w base spare held t v d p) :
    ∃ a0 a1 a2 a3 a4 : Int, v = .agg #[.int .i64 a0, .int .i64 a1, .int .i64 a2, .int .i64 a3, .int .i64 a4] ∧ (Lit.int .i64 a4).wf = true := by
  obtain ⟨cs, rfl, hsz⟩ := okWide_struct hs hv
  obtain ⟨l⟩ := cs
  obtain ⟨fuel, hf⟩ := h
  obtain ⟨xs, n, _, hx, _, hlen, hg⟩ := DataW.trod_struct hs hf
  have hl5 : l.length = 5 := by simpa using hsz.trans hC
  have key : ∀ i, i < 5 → ∃ m, l[i]? = some (.int .i64 m) ∧ (Lit.int .i64 m).wf = true := by
    intro i hi
    have hfi : fs[i]? = some fs[i] := Array.getElem?_eq_getElem (by omega)
    have h1 := hg i _ hfi
    obtain ⟨o, k⟩ := hone_of hone i _ hfi
    have hte : fs[i].type = e := by
      have := (Array.all_eq_true.1 hty) i (by omega)
      simpa using this
    rw [o, k, hte, List.getElem?_eq_getElem (by omega)] at h1
    obtain ⟨m, hm, _, hw⟩ := DataW.trod_int he h1
    refine ⟨m, ?_, hw⟩
    replace hm : (l.drop i).take 1 = [.int .i64 m] := hm
    rw [take1_drop l i undef (by omega)] at hm
    injection hm with hm _
    rw [List.getD_eq_getElem?_getD, List.getElem?_eq_getElem (by omega), Option.getD_some] at hm
    rw [List.getElem?_eq_getElem (by omega), hm]
  obtain ⟨m0, e0, _⟩ := key 0 (by omega)
  obtain ⟨m1, e1, _⟩ := key 1 (by omega)
  obtain ⟨m2, e2, _⟩ := key 2 (by omega)
  obtain ⟨m3, e3, _⟩ := key 3 (by omega)
  obtain ⟨m4, e4, w4⟩ := key 4 (by omega)
  obtain ⟨c0, c1, c2, c3, c4, rfl⟩ : ∃ c0 c1 c2 c3 c4, l = [c0, c1, c2, c3, c4] := by
    clear key hg hf hsz hv e0 e1 e2 e3 e4
    match l, hl5 with
    | [c0, c1, c2, c3, c4], _ => exact ⟨_, _, _, _, _, rfl⟩
  simp only [List.getElem?_cons_zero, List.getElem?_cons_succ, Option.some.injEq] at e0 e1 e2 e3 e4
  subst e0 e1 e2 e3 e4
  exact ⟨m0, m1, m2, m3, m4, rfl, w4⟩

end Go.Proofs.Ytgkmfedjmmleeaa
