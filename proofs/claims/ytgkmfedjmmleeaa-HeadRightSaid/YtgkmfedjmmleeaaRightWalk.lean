/- HeadRight, walked. -/
import Derived.Test.YtgkmfedjmmleeaaAwake
import Derived.Test.YtgkmfedjmmleeaaPHeadRightx
namespace Go.Proofs.Ytgkmfedjmmleeaa
open Go.RowKit Go.Proofs.YtgkmfedjmmleeaaW.PrintWords
set_option linter.unusedVariables false
set_option linter.unusedSimpArgs false

theorem refSamples_calls (C : Int) (w : World) :
    Calls Try.prog 12 #[.int .i64 C] w (Ret (.int .i64 (samplesP C)) (fun w' => Eff w.heap.size [] w w')) := by
  have h : PHeadRight.vitrineref08_Samples.f 3 C = some (samplesP C) := by
    by_cases h0 : C = 0
    · subst h0; decide
    by_cases h3 : C = 3
    · subst h3; decide
    by_cases h2 : C = 2
    · subst h2; decide
    by_cases h4 : C = 4
    · subst h4; decide
    by_cases h6 : C = 6
    · subst h6; decide
    simp [PHeadRight.vitrineref08_Samples.f, PHeadRight.vitrineref08_Samples.j0, samplesP, h0, h2, h3, h4, h6]
  exact (PHeadRight.vitrineref08_Samples.calls 3 C _ w h).mono fun _ _ ⟨he, n, hb⟩ => ⟨he, hb ▸ (Eff.refl _ _ _).drewN n⟩

set_option maxRecDepth 100000 in
set_option maxHeartbeats 8000000 in
theorem headRight_walk (W H Dp C L K : Int) (hL : -9223372036854775808 ≤ L) (hL' : L ≤ 9223372036854775807) (w : World) :
    Calls Try.prog 3 #[.agg #[.int .i64 W, .int .i64 H, .int .i64 Dp, .int .i64 C, .int .i64 L], .int .i64 K] w (Ret (.bool true) (fun w' => Eff w.heap.size [] w w')) := by
  go_enter Try.func3, Try.ntmps3
  go_wp2_with fail
  have hb1 := heap_alloc_new w (.cells #[.int .i64 W, .int .i64 H, .int .i64 Dp, .int .i64 C, .int .i64 L] 23)
  have hw1 := (Eff.refl w.heap.size [] w).alloc (.cells #[.int .i64 W, .int .i64 H, .int .i64 Dp, .int .i64 C, .int .i64 L] 23)
  generalize w.alloc (.cells #[.int .i64 W, .int .i64 H, .int .i64 Dp, .int .i64 C, .int .i64 L] 23) = W1 at hb1 hw1 ⊢
  have HB1 := Aside0.mk hb1
  have HW1 := Aside0.mk hw1
  clear hb1 hw1
  refine wp_region_all (Env := Unit) (vals := fun _ => [.agg #[.int .i64 W, .int .i64 H, .int .i64 Dp, .int .i64 C, .int .i64 L], .int .i64 (rightP W H Dp C L), .agg #[.int .i64 W, .int .i64 H, .int .i64 Dp, .int .i64 C, .int .i64 L], .int .i64 (rightP W H Dp C L), .bool true, .bool true, .int .i64 K, .int .i64 (samplesP K), .int .i64 K, .int .i64 (samplesP K), .bool true, .bool true, .bool true, .bool true, .bool true, .bool true])
    (WI := fun _ D w' => Eff W1.heap.size [] W1 w')
    (dsts := [some 5, some 6, some 7, some 8, some 9, some 10, some 11, some 12, some 13, some 14, some 15, some 16, some 17, some 18, some 19, some 4])
    (deps := [([], []), ([0], [0]), ([], []), ([2, 1], [2]), ([1, 3], [1, 3]), ([4, 3], [4]), ([5], [5]), ([6, 5, 5], [6, 5]), ([5], [5]), ([8, 7, 5], [8, 5]), ([7, 9, 5], [7, 9, 5]), ([5, 10], [5, 10]), ([11, 9], [11]), ([12, 12], [12]), ([12, 13], [12, 13]), ([14, 13, 0, 1, 2, 3, 4, 5, 6, 7, 8, 9, 10, 11, 12, 13, 14], [14])])
    (all := [0, 1, 2, 3, 4, 5, 6, 7, 8, 9, 10, 11, 12, 13, 14, 15]) (by kernel_rfl) (by kernel_rfl) (by kernel_rfl) (by kernel_rfl) (by rfl) () ?_ ?_ (fun _ => ⟨#[.agg #[.int .i64 W, .int .i64 H, .int .i64 Dp, .int .i64 C, .int .i64 L], .int .i64 K, .pointer (some ⟨w.heap.size, 0, none⟩), undef, .bool true, .agg #[.int .i64 W, .int .i64 H, .int .i64 Dp, .int .i64 C, .int .i64 L], .int .i64 (rightP W H Dp C L), .agg #[.int .i64 W, .int .i64 H, .int .i64 Dp, .int .i64 C, .int .i64 L], .int .i64 (rightP W H Dp C L), .bool true, .bool true, .int .i64 K, .int .i64 (samplesP K), .int .i64 K, .int .i64 (samplesP K), .bool true, .bool true, .bool true, .bool true, .bool true], []⟩) (fun _ => by kernel_rfl) ?_
  · refine StepsL.val ?_ ?_ ?_
    · intro env D wq hD hw
      exact hw
    · intro env D wq hd hw
      clear hd
      obtain ⟨k0, k1, k2, k3, k4⟩ := cells5 (hw.blockB HB1.out (blk_lt HB1.out))
      clear hw
      generalize hA : rfillL _ _ _ _ = a
      have q2 : a.tmps[2]? = some (.pointer (some ⟨w.heap.size, 0, none⟩)) := by subst hA; kernel_rfl
      have r2 : a.tmps.getD 2 undef = (.pointer (some ⟨w.heap.size, 0, none⟩)) := by subst hA; kernel_rfl
      clear hA
      unfold StepVal
      rw [if_pos (by rfl)]
      go_simp
    refine StepsL.one ?_ ?_
    · intro env D wq hD hd hw
      have HWW := Aside0.mk hw
      clear hd hw hD
      generalize hA : rfillL _ _ _ _ = a
      have q5 : a.tmps[5]? = some (.agg #[.int .i64 W, .int .i64 H, .int .i64 Dp, .int .i64 C, .int .i64 L]) := by subst hA; kernel_rfl
      have r5 : a.tmps.getD 5 undef = (.agg #[.int .i64 W, .int .i64 H, .int .i64 Dp, .int .i64 C, .int .i64 L]) := by subst hA; kernel_rfl
      clear hA
      unfold StepOk
      rw [if_pos (by rfl)]
      go_simp
      refine (right_calls W H Dp C L _ (by omega) (by omega)).mono ?_
      rintro e w' ⟨rfl, he⟩
      refine ⟨_, rfl, rfl, ?_⟩
      exact HWW.out.trans (he.mono HWW.out.size (by simp))
    refine StepsL.val ?_ ?_ ?_
    · intro env D wq hD hw
      exact hw
    · intro env D wq hd hw
      clear hd
      obtain ⟨k0, k1, k2, k3, k4⟩ := cells5 (hw.blockB HB1.out (blk_lt HB1.out))
      clear hw
      generalize hA : rfillL _ _ _ _ = a
      have q2 : a.tmps[2]? = some (.pointer (some ⟨w.heap.size, 0, none⟩)) := by subst hA; kernel_rfl
      have r2 : a.tmps.getD 2 undef = (.pointer (some ⟨w.heap.size, 0, none⟩)) := by subst hA; kernel_rfl
      clear hA
      unfold StepVal
      rw [if_pos (by rfl)]
      go_simp
    refine StepsL.one ?_ ?_
    · intro env D wq hD hd hw
      have HWW := Aside0.mk hw
      clear hd hw hD
      generalize hA : rfillL _ _ _ _ = a
      have q7 : a.tmps[7]? = some (.agg #[.int .i64 W, .int .i64 H, .int .i64 Dp, .int .i64 C, .int .i64 L]) := by subst hA; kernel_rfl
      have r7 : a.tmps.getD 7 undef = (.agg #[.int .i64 W, .int .i64 H, .int .i64 Dp, .int .i64 C, .int .i64 L]) := by subst hA; kernel_rfl
      clear hA
      unfold StepOk
      rw [if_pos (by rfl)]
      go_simp
      refine (refRight_calls W H Dp C L _).mono ?_
      rintro e w' ⟨rfl, he⟩
      refine ⟨_, rfl, rfl, ?_⟩
      exact HWW.out.trans (he.mono HWW.out.size (by simp))
    refine StepsL.val ?_ ?_ ?_
    · intro env D wq hD hw
      exact hw
    · intro env D wq hd hw
      clear hd hw
      generalize hA : rfillL _ _ _ _ = a
      have q6 : a.tmps[6]? = some (.int .i64 (rightP W H Dp C L)) := by subst hA; kernel_rfl
      have r6 : a.tmps.getD 6 undef = (.int .i64 (rightP W H Dp C L)) := by subst hA; kernel_rfl
      have q8 : a.tmps[8]? = some (.int .i64 (rightP W H Dp C L)) := by subst hA; kernel_rfl
      have r8 : a.tmps.getD 8 undef = (.int .i64 (rightP W H Dp C L)) := by subst hA; kernel_rfl
      clear hA
      unfold StepVal
      rw [if_pos (by rfl)]
      go_simp
    refine StepsL.val ?_ ?_ ?_
    · intro env D wq hD hw
      exact hw
    · intro env D wq hd hw
      clear hd hw
      generalize hA : rfillL _ _ _ _ = a
      have q9 : a.tmps[9]? = some (.bool true) := by subst hA; kernel_rfl
      have r9 : a.tmps.getD 9 undef = (.bool true) := by subst hA; kernel_rfl
      clear hA
      unfold StepVal
      rw [if_pos (by rfl)]
      go_simp
    refine StepsL.val ?_ ?_ ?_
    · intro env D wq hD hw
      exact hw
    · intro env D wq hd hw
      clear hd hw
      generalize hA : rfillL _ _ _ _ = a
      have q1 : a.tmps[1]? = some (.int .i64 K) := by subst hA; kernel_rfl
      have r1 : a.tmps.getD 1 undef = (.int .i64 K) := by subst hA; kernel_rfl
      have q10 : a.tmps[10]? = some (.bool true) := by subst hA; kernel_rfl
      have r10 : a.tmps.getD 10 undef = (.bool true) := by subst hA; kernel_rfl
      clear hA
      unfold StepVal
      rw [if_pos (show Region.wanted _ _ = true from by simp [Region.wanted, yielded, q10])]
      go_simp
    refine StepsL.one ?_ ?_
    · intro env D wq hD hd hw
      have HWW := Aside0.mk hw
      clear hd hw hD
      generalize hA : rfillL _ _ _ _ = a
      have q11 : a.tmps[11]? = some (.int .i64 K) := by subst hA; kernel_rfl
      have r11 : a.tmps.getD 11 undef = (.int .i64 K) := by subst hA; kernel_rfl
      have q10 : a.tmps[10]? = some (.bool true) := by subst hA; kernel_rfl
      have r10 : a.tmps.getD 10 undef = (.bool true) := by subst hA; kernel_rfl
      clear hA
      unfold StepOk
      rw [if_pos (show Region.wanted _ _ = true from by simp [Region.wanted, yielded, q10])]
      go_simp
      refine (samples_calls K _).mono ?_
      rintro e w' ⟨rfl, he⟩
      refine ⟨_, rfl, rfl, ?_⟩
      exact HWW.out.trans (he.mono HWW.out.size (by simp))
    refine StepsL.val ?_ ?_ ?_
    · intro env D wq hD hw
      exact hw
    · intro env D wq hd hw
      clear hd hw
      generalize hA : rfillL _ _ _ _ = a
      have q1 : a.tmps[1]? = some (.int .i64 K) := by subst hA; kernel_rfl
      have r1 : a.tmps.getD 1 undef = (.int .i64 K) := by subst hA; kernel_rfl
      have q10 : a.tmps[10]? = some (.bool true) := by subst hA; kernel_rfl
      have r10 : a.tmps.getD 10 undef = (.bool true) := by subst hA; kernel_rfl
      clear hA
      unfold StepVal
      rw [if_pos (show Region.wanted _ _ = true from by simp [Region.wanted, yielded, q10])]
      go_simp
    refine StepsL.one ?_ ?_
    · intro env D wq hD hd hw
      have HWW := Aside0.mk hw
      clear hd hw hD
      generalize hA : rfillL _ _ _ _ = a
      have q13 : a.tmps[13]? = some (.int .i64 K) := by subst hA; kernel_rfl
      have r13 : a.tmps.getD 13 undef = (.int .i64 K) := by subst hA; kernel_rfl
      have q10 : a.tmps[10]? = some (.bool true) := by subst hA; kernel_rfl
      have r10 : a.tmps.getD 10 undef = (.bool true) := by subst hA; kernel_rfl
      clear hA
      unfold StepOk
      rw [if_pos (show Region.wanted _ _ = true from by simp [Region.wanted, yielded, q10])]
      go_simp
      refine (refSamples_calls K _).mono ?_
      rintro e w' ⟨rfl, he⟩
      refine ⟨_, rfl, rfl, ?_⟩
      exact HWW.out.trans (he.mono HWW.out.size (by simp))
    refine StepsL.val ?_ ?_ ?_
    · intro env D wq hD hw
      exact hw
    · intro env D wq hd hw
      clear hd hw
      generalize hA : rfillL _ _ _ _ = a
      have q12 : a.tmps[12]? = some (.int .i64 (samplesP K)) := by subst hA; kernel_rfl
      have r12 : a.tmps.getD 12 undef = (.int .i64 (samplesP K)) := by subst hA; kernel_rfl
      have q14 : a.tmps[14]? = some (.int .i64 (samplesP K)) := by subst hA; kernel_rfl
      have r14 : a.tmps.getD 14 undef = (.int .i64 (samplesP K)) := by subst hA; kernel_rfl
      have q10 : a.tmps[10]? = some (.bool true) := by subst hA; kernel_rfl
      have r10 : a.tmps.getD 10 undef = (.bool true) := by subst hA; kernel_rfl
      clear hA
      unfold StepVal
      rw [if_pos (show Region.wanted _ _ = true from by simp [Region.wanted, yielded, q10])]
      go_simp
    refine StepsL.val ?_ ?_ ?_
    · intro env D wq hD hw
      exact hw
    · intro env D wq hd hw
      clear hd hw
      generalize hA : rfillL _ _ _ _ = a
      have q10 : a.tmps[10]? = some (.bool true) := by subst hA; kernel_rfl
      have r10 : a.tmps.getD 10 undef = (.bool true) := by subst hA; kernel_rfl
      have q15 : a.tmps[15]? = some (.bool true) := by subst hA; kernel_rfl
      have r15 : a.tmps.getD 15 undef = (.bool true) := by subst hA; kernel_rfl
      clear hA
      unfold StepVal
      rw [if_pos (by rfl)]
      go_simp
    refine StepsL.val ?_ ?_ ?_
    · intro env D wq hD hw
      exact hw
    · intro env D wq hd hw
      clear hd hw
      generalize hA : rfillL _ _ _ _ = a
      have q16 : a.tmps[16]? = some (.bool true) := by subst hA; kernel_rfl
      have r16 : a.tmps.getD 16 undef = (.bool true) := by subst hA; kernel_rfl
      clear hA
      unfold StepVal
      rw [if_pos (by rfl)]
      go_simp
    refine StepsL.one ?_ ?_
    · intro env D wq hD hd hw
      have HWW := Aside0.mk hw
      clear hd hw hD
      generalize hA : rfillL _ _ _ _ = a
      have q17 : a.tmps[17]? = some (.bool true) := by subst hA; kernel_rfl
      have r17 : a.tmps.getD 17 undef = (.bool true) := by subst hA; kernel_rfl
      clear hA
      unfold StepOk
      rw [if_pos (show Region.wanted _ _ = true from by simp [Region.wanted, yielded, q17])]
      go_simp
      refine (awake_calls _).mono ?_
      rintro e w' ⟨rfl, he⟩
      refine ⟨_, rfl, rfl, ?_⟩
      exact HWW.out.trans (he.mono HWW.out.size (by simp))
    refine StepsL.val ?_ ?_ ?_
    · intro env D wq hD hw
      exact hw
    · intro env D wq hd hw
      clear hd hw
      generalize hA : rfillL _ _ _ _ = a
      have q17 : a.tmps[17]? = some (.bool true) := by subst hA; kernel_rfl
      have r17 : a.tmps.getD 17 undef = (.bool true) := by subst hA; kernel_rfl
      have q18 : a.tmps[18]? = some (.bool true) := by subst hA; kernel_rfl
      have r18 : a.tmps.getD 18 undef = (.bool true) := by subst hA; kernel_rfl
      clear hA
      unfold StepVal
      rw [if_pos (by rfl)]
      go_simp
    refine StepsL.val ?_ ?_ ?_
    · intro env D wq hD hw
      exact hw
    · intro env D wq hd hw
      clear hd hw
      generalize hA : rfillL _ _ _ _ = a
      have q19 : a.tmps[19]? = some (.bool true) := by subst hA; kernel_rfl
      have r19 : a.tmps.getD 19 undef = (.bool true) := by subst hA; kernel_rfl
      clear hA
      unfold StepVal
      rw [if_pos (by rfl)]
      go_simp
    exact StepsL.nil
  · exact (Eff.refl _ _ _).drew
  · intro env D w6 hD hw
    have H8 := Aside0.mk (HW1.out.trans (hw.mono HW1.out.size (by simp)))
    clear hw hD
    go_wp2_with fail
    refine bodyPost_ret (v := .bool true) (by simp [results, Try.results3, go_sem]) rfl (Ret.mk' rfl ?_)
    repeat (first | (with_reducible exact H8.out) | (with_reducible apply Eff.alloc) | (with_reducible apply Eff.drewN))
end Go.Proofs.Ytgkmfedjmmleeaa
