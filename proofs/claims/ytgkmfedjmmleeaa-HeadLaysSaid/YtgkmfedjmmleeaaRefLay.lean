/- vitrineref08.Lay, walked. -/
import Derived.Test.YtgkmfedjmmleeaaLay
import Derived.Test.YtgkmfedjmmleeaaGen
import Derived.Test.YtgkmfedjmmleeaaPHeadLaysx3
namespace Go.Proofs.Ytgkmfedjmmleeaa
open Go.RowKit Go.Proofs.YtgkmfedjmmleeaaW.PrintWords
set_option linter.unusedVariables false
set_option linter.unusedSimpArgs false

theorem strOfNums_app (a b : List Int) : strOfNums a ++ strOfNums b = strOfNums (a ++ b) := by
  apply str_of_list
  rw [ByteArray.toList_eq, ByteArray.toList_eq]
  simp [strOfNums]

set_option maxRecDepth 100000 in
set_option maxHeartbeats 20000000 in
theorem refLay_calls (W H Dp C L : Int) (w0 : World) :
    Calls Try.prog 15 #[.agg #[.int .i64 W, .int .i64 H, .int .i64 Dp, .int .i64 C, .int .i64 L]] w0 (Ret (.agg #[.string ⟨#[73, 72, 68, 82]⟩, .string (strOfNums (layBytes W H Dp C L))]) (fun w' => Eff w0.heap.size [] w0 w')) := by
  go_enter Try.func15, Try.ntmps15
  go_wp2_with fail
  have hb1 := blk_alloc (heap_alloc_new w0 (.cells #[.int .i64 W, .int .i64 H, .int .i64 Dp, .int .i64 C, .int .i64 L] 23)) (.cells #[.string ⟨#[]⟩, .string ⟨#[]⟩] 30)
  have hb2 := heap_alloc2_new w0 (.cells #[.int .i64 W, .int .i64 H, .int .i64 Dp, .int .i64 C, .int .i64 L] 23) (.cells #[.string ⟨#[]⟩, .string ⟨#[]⟩] 30)
  have hw1 := ((Eff.refl w0.heap.size [] w0).alloc (.cells #[.int .i64 W, .int .i64 H, .int .i64 Dp, .int .i64 C, .int .i64 L] 23)).alloc (.cells #[.string ⟨#[]⟩, .string ⟨#[]⟩] 30)
  generalize ((w0.alloc (.cells #[.int .i64 W, .int .i64 H, .int .i64 Dp, .int .i64 C, .int .i64 L] 23)).alloc (.cells #[.string ⟨#[]⟩, .string ⟨#[]⟩] 30)) = W1 at hb1 hb2 hw1 ⊢
  have HB1 := Aside0.mk hb1
  have HB2 := Aside0.mk hb2
  have HW1 := Aside0.mk hw1
  clear hb1 hb2 hw1
  refine wp_region_gen (W1.heap.size) [] (sp := [.c (.pointer (some ⟨w0.heap.size, 0, none⟩)), .c (.int .i64 W), .c (.string (strOfNums (bigL W))), .c (.pointer (some ⟨w0.heap.size, 1, none⟩)), .c (.int .i64 H), .c (.string (strOfNums (bigL H))), .c (.string (strOfNums (bigL W) ++ strOfNums (bigL H))), .c (.pointer (some ⟨w0.heap.size, 2, none⟩)), .c (.int .i64 Dp), .c (.int .u8 (Dp % 256)), .c (.pointer (some ⟨w0.heap.size, 3, none⟩)), .c (.int .i64 C), .c (.int .u8 (C % 256)), .c (.pointer (some ⟨w0.heap.size, 4, none⟩)), .c (.int .i64 L), .c (.int .u8 (L % 256)), .e, .c (.string (strOfNums [Dp % 256, C % 256, 0, 0, L % 256])), .c (.string (strOfNums (layBytes W H Dp C L))), .c (.agg #[.string ⟨#[73, 72, 68, 82]⟩, .string (strOfNums (layBytes W H Dp C L))]), .c (undef)])
    (Φ := [noFact, noFact, noFact, noFact, noFact, noFact, noFact, noFact, noFact, noFact, noFact, noFact, noFact, noFact, noFact, noFact, (fun v w => w.ownsRow W1.heap.size 5 1 v 5 (nums .u8 [Dp % 256, C % 256, 0, 0, L % 256])), noFact, noFact, noFact, noFact])
    (dsts := [some 3, some 4, some 5, some 6, some 7, some 8, some 9, some 10, some 11, some 12, some 13, some 14, some 15, some 16, some 17, some 18, some 19, some 20, some 21, some 22, none])
    (deps := [([], []), ([0], [0]), ([1], [1]), ([], []), ([3], [3]), ([4, 2], [4]), ([2, 5], [2, 5]), ([], []), ([7], [7]), ([8], [8]), ([], []), ([10], [10]), ([11], [11]), ([], []), ([13], [13]), ([14], [14]), ([9, 12, 15], [9, 12, 15]), ([16], [16]), ([6, 17], [6, 17]), ([18], [18]), ([19, 5, 0, 1, 2, 3, 4, 5, 6, 7, 8, 9, 10, 11, 12, 13, 14, 15, 16, 17, 18, 19], [19])])
    (all := [0, 1, 2, 3, 4, 5, 6, 7, 8, 9, 10, 11, 12, 13, 14, 15, 16, 17, 18, 19, 20]) (by kernel_rfl) (by kernel_rfl) (by kernel_rfl) (by kernel_rfl) (by rfl) (by rfl) (fun env => ⟨#[.agg #[.int .i64 W, .int .i64 H, .int .i64 Dp, .int .i64 C, .int .i64 L], .pointer (some ⟨w0.heap.size, 0, none⟩), .pointer (some ⟨w0.heap.size + 1, 0, none⟩), .pointer (some ⟨w0.heap.size, 0, none⟩), .int .i64 W, .string (strOfNums (bigL W)), .pointer (some ⟨w0.heap.size, 1, none⟩), .int .i64 H, .string (strOfNums (bigL H)), .string (strOfNums (bigL W) ++ strOfNums (bigL H)), .pointer (some ⟨w0.heap.size, 2, none⟩), .int .i64 Dp, .int .u8 (Dp % 256), .pointer (some ⟨w0.heap.size, 3, none⟩), .int .i64 C, .int .u8 (C % 256), .pointer (some ⟨w0.heap.size, 4, none⟩), .int .i64 L, .int .u8 (L % 256), env 16, .string (strOfNums [Dp % 256, C % 256, 0, 0, L % 256]), .string (strOfNums (layBytes W H Dp C L)), .agg #[.string ⟨#[73, 72, 68, 82]⟩, .string (strOfNums (layBytes W H Dp C L))]], []⟩) (fun env => by kernel_rfl) (Nat.zero_lt_succ _) (Nat.le_refl _) ⟨monoNo, monoNo, monoNo, monoNo, monoNo, monoNo, monoNo, monoNo, monoNo, monoNo, monoNo, monoNo, monoNo, monoNo, monoNo, monoNo, (fun v w w2 _ h k => k.own h (by simp)), monoNo, monoNo, monoNo, monoNo, trivial⟩ ?_
  refine GSteps.con (.pointer (some ⟨w0.heap.size, 0, none⟩)) rfl (fun _ => trivial) ?_ ?_
  · intro env w hE hF
    clear hE hF
    generalize hA : rfillL _ _ _ _ = a
    have q1 : a.tmps[1]? = some (.pointer (some ⟨w0.heap.size, 0, none⟩)) := by subst hA; kernel_rfl
    have r1 : a.tmps.getD 1 undef = (.pointer (some ⟨w0.heap.size, 0, none⟩)) := by subst hA; kernel_rfl
    clear hA
    unfold StepVal
    rw [if_pos (by rfl)]
    go_simp
  refine GSteps.con (.int .i64 W) rfl (fun _ => trivial) ?_ ?_
  · intro env w hE hF
    clear hF
    obtain ⟨k0, k1, k2, k3, k4⟩ := cells5 (hE.blockB HB1.out (blk_lt HB1.out))
    clear hE
    generalize hA : rfillL _ _ _ _ = a
    have q3 : a.tmps[3]? = some (.pointer (some ⟨w0.heap.size, 0, none⟩)) := by subst hA; kernel_rfl
    have r3 : a.tmps.getD 3 undef = (.pointer (some ⟨w0.heap.size, 0, none⟩)) := by subst hA; kernel_rfl
    clear hA
    unfold StepVal
    rw [if_pos (by rfl)]
    go_simp
  refine GSteps.any ?_ ?_
  · intro env w hE hF K hK
    have HE := Aside0.mk hE
    clear hE hF
    generalize hA : rfillL _ _ _ _ = a
    have q4 : a.tmps[4]? = some (.int .i64 W) := by subst hA; kernel_rfl
    have r4 : a.tmps.getD 4 undef = (.int .i64 W) := by subst hA; kernel_rfl
    clear hA
    unfold StepOk
    rw [if_pos (by rfl)]
    go_simp
    refine (PHeadLays.vitrineref08_four.calls W _ _ rfl).mono ?_
    rintro e w' ⟨rfl, he⟩
    exact ⟨_, rfl, hK _ _ rfl (((Eff.refl w.heap.size [] w).of_below he).mono HE.out.size (by simp)) trivial⟩
  refine GSteps.con (.pointer (some ⟨w0.heap.size, 1, none⟩)) rfl (fun _ => trivial) ?_ ?_
  · intro env w hE hF
    clear hE hF
    generalize hA : rfillL _ _ _ _ = a
    have q1 : a.tmps[1]? = some (.pointer (some ⟨w0.heap.size, 0, none⟩)) := by subst hA; kernel_rfl
    have r1 : a.tmps.getD 1 undef = (.pointer (some ⟨w0.heap.size, 0, none⟩)) := by subst hA; kernel_rfl
    clear hA
    unfold StepVal
    rw [if_pos (by rfl)]
    go_simp
  refine GSteps.con (.int .i64 H) rfl (fun _ => trivial) ?_ ?_
  · intro env w hE hF
    clear hF
    obtain ⟨k0, k1, k2, k3, k4⟩ := cells5 (hE.blockB HB1.out (blk_lt HB1.out))
    clear hE
    generalize hA : rfillL _ _ _ _ = a
    have q6 : a.tmps[6]? = some (.pointer (some ⟨w0.heap.size, 1, none⟩)) := by subst hA; kernel_rfl
    have r6 : a.tmps.getD 6 undef = (.pointer (some ⟨w0.heap.size, 1, none⟩)) := by subst hA; kernel_rfl
    clear hA
    unfold StepVal
    rw [if_pos (by rfl)]
    go_simp
  refine GSteps.any ?_ ?_
  · intro env w hE hF K hK
    have HE := Aside0.mk hE
    clear hE hF
    generalize hA : rfillL _ _ _ _ = a
    have q7 : a.tmps[7]? = some (.int .i64 H) := by subst hA; kernel_rfl
    have r7 : a.tmps.getD 7 undef = (.int .i64 H) := by subst hA; kernel_rfl
    clear hA
    unfold StepOk
    rw [if_pos (by rfl)]
    go_simp
    refine (PHeadLays.vitrineref08_four.calls H _ _ rfl).mono ?_
    rintro e w' ⟨rfl, he⟩
    exact ⟨_, rfl, hK _ _ rfl (((Eff.refl w.heap.size [] w).of_below he).mono HE.out.size (by simp)) trivial⟩
  refine GSteps.val ?_ ?_
  · intro env w hE hF
    clear hE hF
    refine ⟨_, rfl, trivial, ?_⟩
    generalize hA : rfillL _ _ _ _ = a
    have q5 : a.tmps[5]? = some (.string (strOfNums (bigL W))) := by subst hA; kernel_rfl
    have r5 : a.tmps.getD 5 undef = (.string (strOfNums (bigL W))) := by subst hA; kernel_rfl
    have q8 : a.tmps[8]? = some (.string (strOfNums (bigL H))) := by subst hA; kernel_rfl
    have r8 : a.tmps.getD 8 undef = (.string (strOfNums (bigL H))) := by subst hA; kernel_rfl
    clear hA
    unfold StepVal
    rw [if_pos (by rfl)]
    go_simp
    simp [strOfNums_size, bigL]
  refine GSteps.con (.pointer (some ⟨w0.heap.size, 2, none⟩)) rfl (fun _ => trivial) ?_ ?_
  · intro env w hE hF
    clear hE hF
    generalize hA : rfillL _ _ _ _ = a
    have q1 : a.tmps[1]? = some (.pointer (some ⟨w0.heap.size, 0, none⟩)) := by subst hA; kernel_rfl
    have r1 : a.tmps.getD 1 undef = (.pointer (some ⟨w0.heap.size, 0, none⟩)) := by subst hA; kernel_rfl
    clear hA
    unfold StepVal
    rw [if_pos (by rfl)]
    go_simp
  refine GSteps.con (.int .i64 Dp) rfl (fun _ => trivial) ?_ ?_
  · intro env w hE hF
    clear hF
    obtain ⟨k0, k1, k2, k3, k4⟩ := cells5 (hE.blockB HB1.out (blk_lt HB1.out))
    clear hE
    generalize hA : rfillL _ _ _ _ = a
    have q10 : a.tmps[10]? = some (.pointer (some ⟨w0.heap.size, 2, none⟩)) := by subst hA; kernel_rfl
    have r10 : a.tmps.getD 10 undef = (.pointer (some ⟨w0.heap.size, 2, none⟩)) := by subst hA; kernel_rfl
    clear hA
    unfold StepVal
    rw [if_pos (by rfl)]
    go_simp
  refine GSteps.con (.int .u8 (Dp % 256)) rfl (fun _ => trivial) ?_ ?_
  · intro env w hE hF
    clear hE hF
    generalize hA : rfillL _ _ _ _ = a
    have q11 : a.tmps[11]? = some (.int .i64 Dp) := by subst hA; kernel_rfl
    have r11 : a.tmps.getD 11 undef = (.int .i64 Dp) := by subst hA; kernel_rfl
    clear hA
    unfold StepVal
    rw [if_pos (by rfl)]
    go_simp
    exact wrap_u8 _
  refine GSteps.con (.pointer (some ⟨w0.heap.size, 3, none⟩)) rfl (fun _ => trivial) ?_ ?_
  · intro env w hE hF
    clear hE hF
    generalize hA : rfillL _ _ _ _ = a
    have q1 : a.tmps[1]? = some (.pointer (some ⟨w0.heap.size, 0, none⟩)) := by subst hA; kernel_rfl
    have r1 : a.tmps.getD 1 undef = (.pointer (some ⟨w0.heap.size, 0, none⟩)) := by subst hA; kernel_rfl
    clear hA
    unfold StepVal
    rw [if_pos (by rfl)]
    go_simp
  refine GSteps.con (.int .i64 C) rfl (fun _ => trivial) ?_ ?_
  · intro env w hE hF
    clear hF
    obtain ⟨k0, k1, k2, k3, k4⟩ := cells5 (hE.blockB HB1.out (blk_lt HB1.out))
    clear hE
    generalize hA : rfillL _ _ _ _ = a
    have q13 : a.tmps[13]? = some (.pointer (some ⟨w0.heap.size, 3, none⟩)) := by subst hA; kernel_rfl
    have r13 : a.tmps.getD 13 undef = (.pointer (some ⟨w0.heap.size, 3, none⟩)) := by subst hA; kernel_rfl
    clear hA
    unfold StepVal
    rw [if_pos (by rfl)]
    go_simp
  refine GSteps.con (.int .u8 (C % 256)) rfl (fun _ => trivial) ?_ ?_
  · intro env w hE hF
    clear hE hF
    generalize hA : rfillL _ _ _ _ = a
    have q14 : a.tmps[14]? = some (.int .i64 C) := by subst hA; kernel_rfl
    have r14 : a.tmps.getD 14 undef = (.int .i64 C) := by subst hA; kernel_rfl
    clear hA
    unfold StepVal
    rw [if_pos (by rfl)]
    go_simp
    exact wrap_u8 _
  refine GSteps.con (.pointer (some ⟨w0.heap.size, 4, none⟩)) rfl (fun _ => trivial) ?_ ?_
  · intro env w hE hF
    clear hE hF
    generalize hA : rfillL _ _ _ _ = a
    have q1 : a.tmps[1]? = some (.pointer (some ⟨w0.heap.size, 0, none⟩)) := by subst hA; kernel_rfl
    have r1 : a.tmps.getD 1 undef = (.pointer (some ⟨w0.heap.size, 0, none⟩)) := by subst hA; kernel_rfl
    clear hA
    unfold StepVal
    rw [if_pos (by rfl)]
    go_simp
  refine GSteps.con (.int .i64 L) rfl (fun _ => trivial) ?_ ?_
  · intro env w hE hF
    clear hF
    obtain ⟨k0, k1, k2, k3, k4⟩ := cells5 (hE.blockB HB1.out (blk_lt HB1.out))
    clear hE
    generalize hA : rfillL _ _ _ _ = a
    have q16 : a.tmps[16]? = some (.pointer (some ⟨w0.heap.size, 4, none⟩)) := by subst hA; kernel_rfl
    have r16 : a.tmps.getD 16 undef = (.pointer (some ⟨w0.heap.size, 4, none⟩)) := by subst hA; kernel_rfl
    clear hA
    unfold StepVal
    rw [if_pos (by rfl)]
    go_simp
  refine GSteps.con (.int .u8 (L % 256)) rfl (fun _ => trivial) ?_ ?_
  · intro env w hE hF
    clear hE hF
    generalize hA : rfillL _ _ _ _ = a
    have q17 : a.tmps[17]? = some (.int .i64 L) := by subst hA; kernel_rfl
    have r17 : a.tmps.getD 17 undef = (.int .i64 L) := by subst hA; kernel_rfl
    clear hA
    unfold StepVal
    rw [if_pos (by rfl)]
    go_simp
    exact wrap_u8 _
  refine GSteps.any ?_ ?_
  · intro env w hE hF K hK
    have HE := Aside0.mk hE
    clear hE hF
    generalize hA : rfillL _ _ _ _ = a
    have q12 : a.tmps[12]? = some (.int .u8 (Dp % 256)) := by subst hA; kernel_rfl
    have r12 : a.tmps.getD 12 undef = (.int .u8 (Dp % 256)) := by subst hA; kernel_rfl
    have q15 : a.tmps[15]? = some (.int .u8 (C % 256)) := by subst hA; kernel_rfl
    have r15 : a.tmps.getD 15 undef = (.int .u8 (C % 256)) := by subst hA; kernel_rfl
    have q18 : a.tmps[18]? = some (.int .u8 (L % 256)) := by subst hA; kernel_rfl
    have r18 : a.tmps.getD 18 undef = (.int .u8 (L % 256)) := by subst hA; kernel_rfl
    clear hA
    unfold StepOk
    rw [if_pos (by rfl)]
    go_simp
    refine ⟨_, rfl, hK _ _ trivial (((Eff.refl w.heap.size [] w).alloc _).mono HE.out.size (by simp)) ?_⟩
    exact World.ownsRow_lit w #[.int .u8 (Dp % 256), .int .u8 (C % 256), .int .u8 0, .int .u8 0, .int .u8 (L % 256)] 5 HE.out.size (by decide) rfl
  refine GSteps.val ?_ ?_
  · intro env w hE hF
    have g16 : w.ownsRow W1.heap.size 5 1 (env 16) 5 (nums .u8 [Dp % 256, C % 256, 0, 0, L % 256]) := hF 16 (by decide)
    have hconv := own_string (P := Try.prog) (e' := 5) (src := 51) (dst := 9) Try.underlying51 Try.underlying5 Try.underlying9 g16
    clear g16 hE hF
    refine ⟨_, rfl, trivial, ?_⟩
    generalize hA : rfillL _ _ _ _ = a
    have q19 : a.tmps[19]? = some (env 16) := by subst hA; kernel_rfl
    have r19 : a.tmps.getD 19 undef = (env 16) := by subst hA; kernel_rfl
    clear hA
    unfold StepVal
    rw [if_pos (by rfl)]
    go_simp
  refine GSteps.val ?_ ?_
  · intro env w hE hF
    clear hE hF
    refine ⟨_, rfl, trivial, ?_⟩
    generalize hA : rfillL _ _ _ _ = a
    have q9 : a.tmps[9]? = some (.string (strOfNums (bigL W) ++ strOfNums (bigL H))) := by subst hA; kernel_rfl
    have r9 : a.tmps.getD 9 undef = (.string (strOfNums (bigL W) ++ strOfNums (bigL H))) := by subst hA; kernel_rfl
    have q20 : a.tmps[20]? = some (.string (strOfNums [Dp % 256, C % 256, 0, 0, L % 256])) := by subst hA; kernel_rfl
    have r20 : a.tmps.getD 20 undef = (.string (strOfNums [Dp % 256, C % 256, 0, 0, L % 256])) := by subst hA; kernel_rfl
    clear hA
    unfold StepVal
    rw [if_pos (by rfl)]
    go_simp
    rw [if_neg (by simp [strOfNums_size, bigL]), strOfNums_app, strOfNums_app]
    rfl
  refine GSteps.con (.agg #[.string ⟨#[73, 72, 68, 82]⟩, .string (strOfNums (layBytes W H Dp C L))]) rfl (fun _ => trivial) ?_ ?_
  · intro env w hE hF
    clear hE hF
    generalize hA : rfillL _ _ _ _ = a
    have q21 : a.tmps[21]? = some (.string (strOfNums (layBytes W H Dp C L))) := by subst hA; kernel_rfl
    have r21 : a.tmps.getD 21 undef = (.string (strOfNums (layBytes W H Dp C L))) := by subst hA; kernel_rfl
    clear hA
    unfold StepVal
    rw [if_pos (by rfl)]
    go_simp
  refine GSteps.lastDo (by rfl) rfl (fun _ => by kernel_rfl) ?_
  intro env w hE hF K hK
  have hb2 := hE.blockB HB2.out (blk_lt HB2.out)
  have c0 := blk_cell hb2 0
  have c1 := blk_cell hb2 1
  have f0 := blk_frozen hb2 0
  have f1 := blk_frozen hb2 1
  simp only [List.getElem?_toArray, List.getElem?_cons_zero, List.getElem?_cons_succ] at c0 c1
  have HE := Aside0.mk hE
  have HB3 := Aside0.mk hb2
  clear hE hF hb2
  generalize hA : rfillL _ _ _ _ = a
  have q2 : a.tmps[2]? = some (.pointer (some ⟨w0.heap.size + 1, 0, none⟩)) := by subst hA; kernel_rfl
  have r2 : a.tmps.getD 2 undef = (.pointer (some ⟨w0.heap.size + 1, 0, none⟩)) := by subst hA; kernel_rfl
  have q22 : a.tmps[22]? = some (.agg #[.string ⟨#[73, 72, 68, 82]⟩, .string (strOfNums (layBytes W H Dp C L))]) := by subst hA; kernel_rfl
  have r22 : a.tmps.getD 22 undef = (.agg #[.string ⟨#[73, 72, 68, 82]⟩, .string (strOfNums (layBytes W H Dp C L))]) := by subst hA; kernel_rfl
  clear hA
  unfold StepOk
  rw [if_pos (by rfl)]
  go_simp
  refine ⟨undef, hK _ ?_⟩
  generalize env 16 = v16
  clear hK K q22 r22 q2 r2 a c0 c1 f0 f1
  go_wp2_with fail
  have e2 := blk_set (blk_set HB3.out 0 (.string ⟨#[73, 72, 68, 82]⟩)) 1 (.string (strOfNums (layBytes W H Dp C L)))
  simp only [List.setIfInBounds_toArray, List.set_cons_zero, List.set_cons_succ] at e2
  refine bodyPost_ret (results_cell_row rfl _ _ (w0.heap.size + 1) 30 _ (0, 0) _ (by kernel_rfl) e2 Try.underlying30 rfl (by kernel_rfl)) rfl (Ret.mk' rfl ?_)
  have h2 := HW1.out.trans (HE.out.mono HW1.out.size (by simp))
  repeat (first | (with_reducible exact h2) | (with_reducible apply Eff.alloc) | (with_reducible refine Eff.setNew ?_ (by first | exact Nat.le_refl _ | omega) _ _))

end Go.Proofs.Ytgkmfedjmmleeaa
