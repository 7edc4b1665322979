/- For every colour: the law HeadSamples answers true (whatever the number), and never panics. -/
import Derived.Test.YtgkmfedjmmleeaaRows
import Derived.Test.YtgkmfedjmmleeaaAwake
import Derived.Test.YtgkmfedjmmleeaaLaw
import Derived.WalkKit
import Derived.ProofKit
import Derived.OpenShut
namespace Go.Proofs.Ytgkmfedjmmleeaa.headSamples
open Go.ChangeShapes Go.WideShapes Go.ChangeAt Go.RowKit Go.Proofs.YtgkmfedjmmleeaaW.PrintWords
set_option linter.unusedVariables false
set_option linter.unusedSimpArgs false

theorem own : ownKnob Try.prog.godebug = none := by kernel_rfl

set_option maxRecDepth 100000 in
set_option maxHeartbeats 8000000 in
theorem walk (a0 : Int) (w0 : (Lit.int .i64 a0).wf = true) (w : World) :
    Calls Try.prog 8 #[.int .i64 a0] w (Ret (.bool true) (fun w' => Eff w.heap.size [] w w')) := by
  by_cases h0 : a0 = 0
  · subst h0
    go_enter Try.func8, Try.ntmps8
    go_wp2_with (go_at_call 11; refine (samples_calls 0 _).mono ?_)
    rintro e w1 ⟨rfl, h1⟩
    rw [show samplesP 0 = 1 from by decide]
    have H1 := Aside0.mk h1
    clear h1
    go_wp2_with (go_at_call 13; refine (awake_calls _).mono ?_)
    rintro e w2 ⟨rfl, h2⟩
    have H2 := Aside0.mk (H1.out.trans (h2.mono H1.out.size (by simp)))
    clear h2
    go_wp2_with fail
    refine bodyPost_ret (v := .bool true) (by simp [results, Try.results8, go_sem]) rfl (Ret.mk' rfl ?_)
    repeat (first | (with_reducible exact H2.out) | (with_reducible apply Eff.alloc) | (with_reducible apply Eff.drewN))
  by_cases h3 : a0 = 3
  · subst h3
    go_enter Try.func8, Try.ntmps8
    go_wp2_with (go_at_call 11; refine (samples_calls 3 _).mono ?_)
    rintro e w1 ⟨rfl, h1⟩
    rw [show samplesP 3 = 1 from by decide]
    have H1 := Aside0.mk h1
    clear h1
    go_wp2_with (go_at_call 13; refine (awake_calls _).mono ?_)
    rintro e w2 ⟨rfl, h2⟩
    have H2 := Aside0.mk (H1.out.trans (h2.mono H1.out.size (by simp)))
    clear h2
    go_wp2_with fail
    refine bodyPost_ret (v := .bool true) (by simp [results, Try.results8, go_sem]) rfl (Ret.mk' rfl ?_)
    repeat (first | (with_reducible exact H2.out) | (with_reducible apply Eff.alloc) | (with_reducible apply Eff.drewN))
  by_cases h2 : a0 = 2
  · subst h2
    go_enter Try.func8, Try.ntmps8
    go_wp2_with (go_at_call 11; refine (samples_calls 2 _).mono ?_)
    rintro e w1 ⟨rfl, h1⟩
    rw [show samplesP 2 = 3 from by decide]
    have H1 := Aside0.mk h1
    clear h1
    go_wp2_with (go_at_call 13; refine (awake_calls _).mono ?_)
    rintro e w2 ⟨rfl, h2⟩
    have H2 := Aside0.mk (H1.out.trans (h2.mono H1.out.size (by simp)))
    clear h2
    go_wp2_with fail
    refine bodyPost_ret (v := .bool true) (by simp [results, Try.results8, go_sem]) rfl (Ret.mk' rfl ?_)
    repeat (first | (with_reducible exact H2.out) | (with_reducible apply Eff.alloc) | (with_reducible apply Eff.drewN))
  by_cases h4 : a0 = 4
  · subst h4
    go_enter Try.func8, Try.ntmps8
    go_wp2_with (go_at_call 11; refine (samples_calls 4 _).mono ?_)
    rintro e w1 ⟨rfl, h1⟩
    rw [show samplesP 4 = 2 from by decide]
    have H1 := Aside0.mk h1
    clear h1
    go_wp2_with (go_at_call 13; refine (awake_calls _).mono ?_)
    rintro e w2 ⟨rfl, h2⟩
    have H2 := Aside0.mk (H1.out.trans (h2.mono H1.out.size (by simp)))
    clear h2
    go_wp2_with fail
    refine bodyPost_ret (v := .bool true) (by simp [results, Try.results8, go_sem]) rfl (Ret.mk' rfl ?_)
    repeat (first | (with_reducible exact H2.out) | (with_reducible apply Eff.alloc) | (with_reducible apply Eff.drewN))
  by_cases h6 : a0 = 6
  · subst h6
    go_enter Try.func8, Try.ntmps8
    go_wp2_with (go_at_call 11; refine (samples_calls 6 _).mono ?_)
    rintro e w1 ⟨rfl, h1⟩
    rw [show samplesP 6 = 4 from by decide]
    have H1 := Aside0.mk h1
    clear h1
    go_wp2_with (go_at_call 13; refine (awake_calls _).mono ?_)
    rintro e w2 ⟨rfl, h2⟩
    have H2 := Aside0.mk (H1.out.trans (h2.mono H1.out.size (by simp)))
    clear h2
    go_wp2_with fail
    refine bodyPost_ret (v := .bool true) (by simp [results, Try.results8, go_sem]) rfl (Ret.mk' rfl ?_)
    repeat (first | (with_reducible exact H2.out) | (with_reducible apply Eff.alloc) | (with_reducible apply Eff.drewN))
  · have hs : samplesP a0 = 0 := by simp [samplesP, h0, h2, h3, h4, h6]
    have b0 : (a0 == 0) = false := by simpa using h0
    have b3 : (a0 == 3) = false := by simpa using h3
    have b2 : (a0 == 2) = false := by simpa using h2
    have b4 : (a0 == 4) = false := by simpa using h4
    have b6 : (a0 == 6) = false := by simpa using h6
    go_enter Try.func8, Try.ntmps8
    go_wp2_with (go_at_call 11; refine (samples_calls a0 _).mono ?_)
    rintro e w1 ⟨rfl, h1⟩
    rw [show samplesP a0 = 0 from hs]
    have H1 := Aside0.mk h1
    clear h1
    go_wp2_with (go_at_call 13; refine (awake_calls _).mono ?_)
    rintro e w2 ⟨rfl, h2⟩
    have H2 := Aside0.mk (H1.out.trans (h2.mono H1.out.size (by simp)))
    clear h2
    go_wp2_with fail
    refine bodyPost_ret (v := .bool true) (by simp [results, Try.results8, go_sem]) rfl (Ret.mk' rfl ?_)
    repeat (first | (with_reducible exact H2.out) | (with_reducible apply Eff.alloc) | (with_reducible apply Eff.drewN))

set_option maxRecDepth 100000 in
theorem lifted (os : Os) (started : os.Started) (H : Type) (enc : TypeId × Value → H) :
    ReturnsInHanded {} Try.checked os 8 .any (Rows.headSamplesSpec.pre6 enc Try.prog Try.f8 Rows.headSamplesRow.domain false) (Rows.headSamplesSpec.post enc Try.prog Try.f8 false true false false) := by
  refine returnsInHanded_of_change (C := Try.checked) own started (by kernel_rfl) Try.func8
    (ChangeSpec.witness6 (enc := enc) (C := Try.checked) false ⟨#[], #[.int .i64 0], []⟩ 8 (by kernel_rfl) (by kernel_rfl) (by kernel_rfl) (by kernel_rfl)) ?_
  intro W base args ds gs before hval0 hW hcnd _
  have hval : ∀ (j : Nat) t v, Try.f8.params[j]? = some t → args[j]? = some v → Value.okWide Try.prog W .any base t v := hval0
  have hW' := hW
  obtain ⟨p, q, hA0, hV, rfl, hfz, hnd⟩ := hW
  have hA : DataW.TrodAll enc Try.prog W 0 (fun _ => true) true Try.f8.params.toList args.toList ds p := hA0
  rw [Try.params8] at hA hval
  obtain ⟨v0, vs0, d0, ds0, p0, q0, hargs, rfl, rfl, h0, r0⟩ := trodAll_cons hA
  obtain ⟨rfl, rfl, rfl⟩ := trodAll_nil r0
  obtain rfl : args = #[v0] := by cases args; simp_all
  obtain ⟨rfl, rfl⟩ := trodVars_none hV
  obtain ⟨a0, rfl, rfl, rfl, w0⟩ := open_int Try.underlying3 (hval 0 3 v0 rfl rfl) h0
  clear hA0 hval0
  simp only [List.append_nil] at hW'
  refine (walk a0 w0 W).mono fun e W' ⟨he, hg⟩ => ?_
  subst he
  exact ⟨_, rfl, law_post (pa := []) (pv := []) hW' hg rfl (fun _ _ _ => (trodAll_cons_mk (shut_bool Try.underlying4 _) trodAll_mk0)) (fun sp _ => (trodAll_cons_mk (shut_int Try.underlying3 w0) trodAll_mk0)) (fun _ _ => rfl)
    (ok_one (by kernel_rfl) rfl (okWide_bool_mk Try.underlying4 _))⟩

theorem proved : Rows.HeadSamplesSaid :=
  OpenClaim.holds_of_wide 8 Try.f8 rfl rfl rfl rfl rfl rfl rfl ⟨rfl, rfl, rfl, rfl, rfl⟩ rfl rfl rfl rfl rfl (by kernel_rfl) Try.func8 (by kernel_rfl)
    (of_decide_eq_true (by kernel_rfl)) (by unfold Func.isWrapper; first | (rw [if_pos (by decide +kernel)]; kernel_rfl) | (rw [if_neg (by decide +kernel)]; exact ⟨rfl, rfl⟩))
    (fun os started H enc _ => lifted os started H enc)
end Go.Proofs.Ytgkmfedjmmleeaa.headSamples
