/- For any chunks: the law HeadReads answers true, and never panics. -/
import Derived.Test.YtgkmfedjmmleeaaRows
import Derived.Test.YtgkmfedjmmleeaaReadsAll
import Derived.Test.YtgkmfedjmmleeaaOpenChunks
import Derived.WalkKit
import Derived.ProofKit
import Derived.OpenShut
namespace Go.Proofs.Ytgkmfedjmmleeaa.headReads
open Go.ChangeShapes Go.WideShapes Go.ChangeAt Go.RowKit Go.Deep Go.Proofs.YtgkmfedjmmleeaaW.PrintWords
set_option linter.unusedVariables false
set_option linter.unusedSimpArgs false

theorem own : ownKnob Try.prog.godebug = none := by kernel_rfl
theorem laid : laidOutB Try.prog = true := by kernel_rfl

theorem walk (w : World) (A : Option Addr) (c : Nat) (l : List (ByteArray × ByteArray)) (h : Chs w A l) (hc : l.length ≤ c) (hn : A = none → l.length = 0 ∧ c = 0) (hl : l.length ≤ 140737488351232) (hds : ∀ x ∈ l, x.2.size ≤ 140737488351232) :
    Calls Try.prog 5 #[.slice A l.length c] w (Ret (.bool true) (fun w' => Eff w.heap.size [] w w')) := by
  cases hf : fewB 0 l with
  | false => exact headReads_not w A c l h (by omega) hds hf
  | true =>
    cases A with
    | none =>
      obtain ⟨h0, rfl⟩ := hn rfl
      rw [h0]
      exact headReads_nil w
    | some ad => exact headReads_few w (some ad) c l h hc hf ad rfl

set_option maxRecDepth 100000 in
theorem lifted (os : Os) (started : os.Started) (H : Type) (enc : TypeId × Value → H) :
    ReturnsInHanded {} Try.checked os 5 .any (Rows.headReadsSpec.pre6 enc Try.prog Try.f5 Rows.headReadsRow.domain false) (Rows.headReadsSpec.post enc Try.prog Try.f5 false true false false) := by
  refine returnsInHanded_of_change_sized (C := Try.checked) own started (by kernel_rfl) Try.func5
    (ChangeSpec.witness6 (enc := enc) (C := Try.checked) false ⟨#[], #[.slice none 0 0], []⟩ 8 (by kernel_rfl) (by kernel_rfl) (by kernel_rfl) (by kernel_rfl)) ?_
  intro W base args ds gs before hval0 hW hcnd hsz0 _
  have hsz : (DataW.weightsEach Try.prog (Try.f5.params.toList ++ Rows.headReadsSpec.plain.varTypes Try.prog) (ds ++ gs)).all (· ≤ reachBytes) = true := hsz0
  have hval : ∀ (j : Nat) t v, Try.f5.params[j]? = some t → args[j]? = some v → Value.okWide Try.prog W .any base t v := hval0
  have hW' := hW
  obtain ⟨p, q, hA0, hV, rfl, hfz, hnd⟩ := hW
  have hA : DataW.TrodAll enc Try.prog W 0 (fun _ => true) true Try.f5.params.toList args.toList ds p := hA0
  have hAk := hA
  rw [Try.params5] at hA hval hsz
  obtain ⟨v0, vs0, d0, ds0, p0, q0, hargs, rfl, rfl, h0, r0⟩ := trodAll_cons hA
  obtain ⟨rfl, rfl, rfl⟩ := trodAll_nil r0
  obtain rfl : args = #[v0] := by cases args; simp_all
  obtain ⟨rfl, rfl⟩ := trodVars_none hV
  obtain ⟨a, len, cap, rfl⟩ := okWide_slice Try.underlying33 (hval 0 33 v0 rfl rfl)
  obtain ⟨l, rfl, hch, hlc, hn, hl, hds⟩ := open_chunks hsz (j := 0) (t := 33) rfl rfl Try.underlying33 Try.underlying30 Try.underlying9 Try.underlying9 rfl (by kernel_rfl) rfl (by kernel_rfl) (by kernel_rfl) (by kernel_rfl) h0
  clear hA0 hval0 hsz0 hsz
  have hlt := hW'.lt
  refine (walk W a cap l hch hlc hn hl hds).mono fun e W' ⟨he, hg⟩ => ?_
  subst he
  refine ⟨_, rfl, law_post hW' hg rfl (fun _ _ _ => (trodAll_cons_mk (shut_bool Try.underlying4 _) trodAll_mk0)) (fun sp hsp => ?_) (fun _ _ => rfl) (ok_one (by kernel_rfl) rfl (okWide_bool_mk Try.underlying4 _))⟩
  exact args_carry laid (hg.below (Nat.le_refl _)) (of_decide_eq_true (by kernel_rfl)) hAk (fun x hx => hlt x (by simpa using hx)) (fun x hx => hsp x (by simpa using hx))

theorem proved : Rows.HeadReadsSaid :=
  OpenClaim.holds_of_wide 5 Try.f5 rfl rfl rfl rfl rfl rfl rfl ⟨rfl, rfl, rfl, rfl, rfl⟩ rfl rfl rfl rfl rfl (by kernel_rfl) Try.func5 (by kernel_rfl)
    (of_decide_eq_true (by kernel_rfl)) (by unfold Func.isWrapper; first | (rw [if_pos (by decide +kernel)]; kernel_rfl) | (rw [if_neg (by decide +kernel)]; exact ⟨rfl, rfl⟩))
    (fun os started H enc _ => lifted os started H enc)
end Go.Proofs.Ytgkmfedjmmleeaa.headReads
