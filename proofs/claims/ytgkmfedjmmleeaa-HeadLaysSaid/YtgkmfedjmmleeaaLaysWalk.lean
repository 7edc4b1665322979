/- HeadLays, walked. -/
import Derived.Test.YtgkmfedjmmleeaaAwake
import Derived.Test.YtgkmfedjmmleeaaRefLay
namespace Go.Proofs.Ytgkmfedjmmleeaa
open Go.RowKit Go.Proofs.YtgkmfedjmmleeaaW.PrintWords
set_option linter.unusedVariables false
set_option linter.unusedSimpArgs false

set_option maxRecDepth 100000 in
set_option maxHeartbeats 8000000 in
theorem headLays_walk (W H Dp C L : Int) (w : World) :
    Calls Try.prog 4 #[.agg #[.int .i64 W, .int .i64 H, .int .i64 Dp, .int .i64 C, .int .i64 L]] w (Ret (.bool true) (fun w' => Eff w.heap.size [] w w')) := by
  have hl := fun w => lay_calls W H Dp C L w
  have hr := fun w => refLay_calls W H Dp C L w
  generalize strOfNums (layBytes W H Dp C L) = GB at hl hr
  have HL := Aside0.mk hl
  have HR := Aside0.mk hr
  clear hl hr
  go_enter Try.func4, Try.ntmps4
  go_wp2_with fail
  have hb1 := heap_alloc_new w (.cells #[.int .i64 W, .int .i64 H, .int .i64 Dp, .int .i64 C, .int .i64 L] 23)
  have hw1 := (Eff.refl w.heap.size [] w).alloc (.cells #[.int .i64 W, .int .i64 H, .int .i64 Dp, .int .i64 C, .int .i64 L] 23)
  generalize w.alloc (.cells #[.int .i64 W, .int .i64 H, .int .i64 Dp, .int .i64 C, .int .i64 L] 23) = W1 at hb1 hw1 ⊢
  have HB1 := Aside0.mk hb1
  have HW1 := Aside0.mk hw1
  clear hb1 hw1
  refine wp_region_all (Env := Unit) (vals := fun _ => [.agg #[.int .i64 W, .int .i64 H, .int .i64 Dp, .int .i64 C, .int .i64 L], .agg #[.string ⟨#[73, 72, 68, 82]⟩, .string GB], .agg #[.int .i64 W, .int .i64 H, .int .i64 Dp, .int .i64 C, .int .i64 L], .agg #[.string ⟨#[73, 72, 68, 82]⟩, .string GB], .bool true, .bool true, .bool true, .bool true, .bool true])
    (WI := fun _ D w' => Eff W1.heap.size [] W1 w')
    (dsts := [some 3, some 4, some 5, some 6, some 7, some 8, some 9, some 10, some 2])
    (deps := [([], []), ([0], [0]), ([], []), ([2, 1], [2]), ([1, 3], [1, 3]), ([4, 3], [4]), ([5, 5], [5]), ([5, 6], [5, 6]), ([7, 6, 0, 1, 2, 3, 4, 5, 6, 7], [7])])
    (all := [0, 1, 2, 3, 4, 5, 6, 7, 8]) (by kernel_rfl) (by kernel_rfl) (by kernel_rfl) (by kernel_rfl) (by rfl) () ?_ ?_ (fun _ => ⟨#[.agg #[.int .i64 W, .int .i64 H, .int .i64 Dp, .int .i64 C, .int .i64 L], .pointer (some ⟨w.heap.size, 0, none⟩), .bool true, .agg #[.int .i64 W, .int .i64 H, .int .i64 Dp, .int .i64 C, .int .i64 L], .agg #[.string ⟨#[73, 72, 68, 82]⟩, .string GB], .agg #[.int .i64 W, .int .i64 H, .int .i64 Dp, .int .i64 C, .int .i64 L], .agg #[.string ⟨#[73, 72, 68, 82]⟩, .string GB], .bool true, .bool true, .bool true, .bool true], []⟩) (fun _ => by kernel_rfl) ?_
  · refine StepsL.val ?_ ?_ ?_
    · intro env D wq hD hw
      exact hw
    · intro env D wq hd hw
      clear hd
      obtain ⟨k0, k1, k2, k3, k4⟩ := cells5 (hw.blockB HB1.out (blk_lt HB1.out))
      clear hw
      generalize hA : rfillL _ _ _ _ = a
      have q1 : a.tmps[1]? = some (.pointer (some ⟨w.heap.size, 0, none⟩)) := by subst hA; kernel_rfl
      have r1 : a.tmps.getD 1 undef = (.pointer (some ⟨w.heap.size, 0, none⟩)) := by subst hA; kernel_rfl
      clear hA
      unfold StepVal
      rw [if_pos (by rfl)]
      go_simp
    refine StepsL.one ?_ ?_
    · intro env D wq hD hd hw
      have HWW := Aside0.mk hw
      clear hd hw hD
      generalize hA : rfillL _ _ _ _ = a
      have q3 : a.tmps[3]? = some (.agg #[.int .i64 W, .int .i64 H, .int .i64 Dp, .int .i64 C, .int .i64 L]) := by subst hA; kernel_rfl
      have r3 : a.tmps.getD 3 undef = (.agg #[.int .i64 W, .int .i64 H, .int .i64 Dp, .int .i64 C, .int .i64 L]) := by subst hA; kernel_rfl
      clear hA
      unfold StepOk
      rw [if_pos (by rfl)]
      go_simp
      refine (HL.out _).mono ?_
      rintro e w' ⟨rfl, he⟩
      refine ⟨_, rfl, rfl, ?_⟩
      exact HWW.out.trans (he.mono HWW.out.size (by simp))
    refine StepsL.val ?_ ?_ ?_
    · intro env D wq hD hw
      exact hw
    · intro env D wq hd hw
      clear hd
      obtain ⟨k0, k1, k2, k3, k4⟩ := cells5 (hw.blockB HB1.out (blk_lt HB1.out))
      clear hw
      generalize hA : rfillL _ _ _ _ = a
      have q1 : a.tmps[1]? = some (.pointer (some ⟨w.heap.size, 0, none⟩)) := by subst hA; kernel_rfl
      have r1 : a.tmps.getD 1 undef = (.pointer (some ⟨w.heap.size, 0, none⟩)) := by subst hA; kernel_rfl
      clear hA
      unfold StepVal
      rw [if_pos (by rfl)]
      go_simp
    refine StepsL.one ?_ ?_
    · intro env D wq hD hd hw
      have HWW := Aside0.mk hw
      clear hd hw hD
      generalize hA : rfillL _ _ _ _ = a
      have q5 : a.tmps[5]? = some (.agg #[.int .i64 W, .int .i64 H, .int .i64 Dp, .int .i64 C, .int .i64 L]) := by subst hA; kernel_rfl
      have r5 : a.tmps.getD 5 undef = (.agg #[.int .i64 W, .int .i64 H, .int .i64 Dp, .int .i64 C, .int .i64 L]) := by subst hA; kernel_rfl
      clear hA
      unfold StepOk
      rw [if_pos (by rfl)]
      go_simp
      refine (HR.out _).mono ?_
      rintro e w' ⟨rfl, he⟩
      refine ⟨_, rfl, rfl, ?_⟩
      exact HWW.out.trans (he.mono HWW.out.size (by simp))
    refine StepsL.val ?_ ?_ ?_
    · intro env D wq hD hw
      exact hw
    · intro env D wq hd hw
      clear hd hw
      generalize hA : rfillL _ _ _ _ = a
      have q4 : a.tmps[4]? = some (.agg #[.string ⟨#[73, 72, 68, 82]⟩, .string GB]) := by subst hA; kernel_rfl
      have r4 : a.tmps.getD 4 undef = (.agg #[.string ⟨#[73, 72, 68, 82]⟩, .string GB]) := by subst hA; kernel_rfl
      have q6 : a.tmps[6]? = some (.agg #[.string ⟨#[73, 72, 68, 82]⟩, .string GB]) := by subst hA; kernel_rfl
      have r6 : a.tmps.getD 6 undef = (.agg #[.string ⟨#[73, 72, 68, 82]⟩, .string GB]) := by subst hA; kernel_rfl
      clear hA
      unfold StepVal
      rw [if_pos (by rfl)]
      go_simp
    refine StepsL.val ?_ ?_ ?_
    · intro env D wq hD hw
      exact hw
    · intro env D wq hd hw
      clear hd hw
      generalize hA : rfillL _ _ _ _ = a
      have q7 : a.tmps[7]? = some (.bool true) := by subst hA; kernel_rfl
      have r7 : a.tmps.getD 7 undef = (.bool true) := by subst hA; kernel_rfl
      clear hA
      unfold StepVal
      rw [if_pos (by rfl)]
      go_simp
    refine StepsL.one ?_ ?_
    · intro env D wq hD hd hw
      have HWW := Aside0.mk hw
      clear hd hw hD
      generalize hA : rfillL _ _ _ _ = a
      have q8 : a.tmps[8]? = some (.bool true) := by subst hA; kernel_rfl
      have r8 : a.tmps.getD 8 undef = (.bool true) := by subst hA; kernel_rfl
      clear hA
      unfold StepOk
      rw [if_pos (show Region.wanted _ _ = true from by simp [Region.wanted, yielded, q8])]
      go_simp
      refine (awake_calls _).mono ?_
      rintro e w' ⟨rfl, he⟩
      refine ⟨_, rfl, rfl, ?_⟩
      exact HWW.out.trans (he.mono HWW.out.size (by simp))
    refine StepsL.val ?_ ?_ ?_
    · intro env D wq hD hw
      exact hw
    · intro env D wq hd hw
      clear hd hw
      generalize hA : rfillL _ _ _ _ = a
      have q8 : a.tmps[8]? = some (.bool true) := by subst hA; kernel_rfl
      have r8 : a.tmps.getD 8 undef = (.bool true) := by subst hA; kernel_rfl
      have q9 : a.tmps[9]? = some (.bool true) := by subst hA; kernel_rfl
      have r9 : a.tmps.getD 9 undef = (.bool true) := by subst hA; kernel_rfl
      clear hA
      unfold StepVal
      rw [if_pos (by rfl)]
      go_simp
    refine StepsL.val ?_ ?_ ?_
    · intro env D wq hD hw
      exact hw
    · intro env D wq hd hw
      clear hd hw
      generalize hA : rfillL _ _ _ _ = a
      have q10 : a.tmps[10]? = some (.bool true) := by subst hA; kernel_rfl
      have r10 : a.tmps.getD 10 undef = (.bool true) := by subst hA; kernel_rfl
      clear hA
      unfold StepVal
      rw [if_pos (by rfl)]
      go_simp
    exact StepsL.nil
  · exact (Eff.refl _ _ _).drew
  · intro env D w6 hD hw
    have H8 := Aside0.mk (HW1.out.trans (hw.mono HW1.out.size (by simp)))
    clear hw hD
    go_wp2_with fail
    refine bodyPost_ret (v := .bool true) (by simp [results, Try.results4, go_sem]) rfl (Ret.mk' rfl ?_)
    repeat (first | (with_reducible exact H8.out) | (with_reducible apply Eff.alloc) | (with_reducible apply Eff.drewN))
end Go.Proofs.Ytgkmfedjmmleeaa
