/- awake, walked: it answers true. -/
import Derived.Test.YtgkmfedjmmleeaaAwakeA
namespace Go.Proofs.Ytgkmfedjmmleeaa
open Go.RowKit Go.Proofs.YtgkmfedjmmleeaaW.PrintWords
set_option linter.unusedVariables false

theorem cells2 {w : World} {g : Nat} {t : TypeId} {v0 v1 : Value} (h : w.heap[g]? = some (.cells #[v0, v1] t (0, 0))) : w.cell? ⟨g, 0, none⟩ = some v0 ∧ w.cell? ⟨g, 1, none⟩ = some v1 :=
  ⟨blk_cell h 0, blk_cell h 1⟩

set_option maxRecDepth 100000 in
set_option maxHeartbeats 40000000 in
theorem awake_calls (w : World) : Calls Try.prog 13 #[] w (Ret (.bool true) (fun w' => Eff w.heap.size [] w w')) := by
  go_enter Try.func13, Try.ntmps13
  go_wp2_with (go_at_call 25; refine (grey_calls _).mono ?_)
  rintro e wa ⟨rfl, ha⟩
  have HA := Aside0.mk ha
  clear ha
  go_wp2_with (go_at_call 14; refine (lay_calls 1 1 8 0 0 _).mono ?_)
  rintro e wb ⟨rfl, hb⟩
  have hr2 := read2
  have hr3 := read3
  have hr4 := read4
  have hr5 := read5
  have hsz := size13
  generalize strOfNums (layBytes 1 1 8 0 0) = GB at hr2 hr3 hr4 hr5 hsz ⊢
  obtain ⟨S3, B3, hr3⟩ : ∃ S B, readP (ch3 GB) = (S, B, 23) := ⟨_, _, by rw [← hr3]⟩
  obtain ⟨S4, B4, hr4⟩ : ∃ S B, readP (ch4 GB) = (S, B, 23) := ⟨_, _, by rw [← hr4]⟩
  obtain ⟨S5, B5, hr5⟩ : ∃ S B, readP (ch5 GB) = (S, B, 27) := ⟨_, _, by rw [← hr5]⟩
  have hc2 : ∀ w A, Chs w A (ch2 GB) → Calls Try.prog 17 #[.slice A 4 4] w (Ret (.tuple #[.agg #[.int .i64 1, .int .i64 1, .int .i64 8, .int .i64 0, .int .i64 0, .string ⟨#[]⟩, .string ⟨#[]⟩, .bool false], .string ⟨#[120, 121]⟩, .int .i64 0]) (fun w' => Eff w.heap.size [] w w')) := by
    intro w A h
    have := read_calls w A 4 (ch2 GB) h (by simp [ch2]) (by simp [ch2]) (ok2 hsz).1 (ok2 hsz).2
    rw [hr2] at this
    exact this
  have HC2 := Aside0.mk hc2
  have hc3 : ∀ w A, Chs w A (ch3 GB) → Calls Try.prog 17 #[.slice A 2 2] w (Ret (.tuple #[.agg #[.int .i64 S3.W, .int .i64 S3.H, .int .i64 S3.D, .int .i64 S3.C, .int .i64 S3.L, .string S3.pal, .string S3.trans, .bool S3.hasT], .string ⟨B3.toArray⟩, .int .i64 23]) (fun w' => Eff w.heap.size [] w w')) := by
    intro w A h
    have := read_calls w A 2 (ch3 GB) h (by simp [ch3]) (by simp [ch3]) (ok3 hsz).1 (ok3 hsz).2
    rw [hr3] at this
    exact this
  have HC3 := Aside0.mk hc3
  have hc4 : ∀ w A, Chs w A (ch4 GB) → Calls Try.prog 17 #[.slice A 5 5] w (Ret (.tuple #[.agg #[.int .i64 S4.W, .int .i64 S4.H, .int .i64 S4.D, .int .i64 S4.C, .int .i64 S4.L, .string S4.pal, .string S4.trans, .bool S4.hasT], .string ⟨B4.toArray⟩, .int .i64 23]) (fun w' => Eff w.heap.size [] w w')) := by
    intro w A h
    have := read_calls w A 5 (ch4 GB) h (by simp [ch4]) (by simp [ch4]) (ok4 hsz).1 (ok4 hsz).2
    rw [hr4] at this
    exact this
  have HC4 := Aside0.mk hc4
  have hc5 : ∀ w A, Chs w A (ch5 GB) → Calls Try.prog 17 #[.slice A 4 4] w (Ret (.tuple #[.agg #[.int .i64 S5.W, .int .i64 S5.H, .int .i64 S5.D, .int .i64 S5.C, .int .i64 S5.L, .string S5.pal, .string S5.trans, .bool S5.hasT], .string ⟨B5.toArray⟩, .int .i64 27]) (fun w' => Eff w.heap.size [] w w')) := by
    intro w A h
    have := read_calls w A 4 (ch5 GB) h (by simp [ch5]) (by simp [ch5]) (ok5 hsz).1 (ok5 hsz).2
    rw [hr5] at this
    exact this
  have HC5 := Aside0.mk hc5
  have hab := HA.out.trans (hb.mono HA.out.size (by simp))
  have HAB := Aside0.mk hab
  clear hb hab hr2 hr3 hr4 hr5 hc2 hc3 hc4 hc5
  go_wp2_with fail
  have hb1 := heap_alloc_new wb (.cells #[.string ⟨#[73, 72, 68, 82]⟩, .string GB] 30)
  have hw1 := HAB.out.alloc (.cells #[.string ⟨#[73, 72, 68, 82]⟩, .string GB] 30)
  generalize wb.alloc (.cells #[.string ⟨#[73, 72, 68, 82]⟩, .string GB] 30) = W1 at hb1 hw1 ⊢
  generalize wb.heap.size = g1 at hb1 ⊢
  have hg1 := blk_lt hb1
  have HB1_2 := Aside0.mk hb1
  have HG1_2 := Aside0.mk hg1
  have HE_2 := Aside0.mk hw1
  clear hb1 hw1 hg1
  refine wp_region_all (Env := AwEnv) (vals := fun env => [.agg #[.string ⟨#[73, 72, 68, 82]⟩, .string GB], .agg #[.string ⟨#[73, 68, 65, 84]⟩, .string ⟨#[120]⟩], .agg #[.string ⟨#[73, 68, 65, 84]⟩, .string ⟨#[121]⟩], .agg #[.string ⟨#[73, 69, 78, 68]⟩, .string ⟨#[]⟩], env.sl, .tuple #[.agg #[.int .i64 1, .int .i64 1, .int .i64 8, .int .i64 0, .int .i64 0, .string ⟨#[]⟩, .string ⟨#[]⟩, .bool false], .string ⟨#[120, 121]⟩, .int .i64 0], .tuple #[.agg #[.int .i64 1, .int .i64 1, .int .i64 8, .int .i64 0, .int .i64 0, .string ⟨#[]⟩, .string ⟨#[]⟩, .bool false], .string ⟨#[120, 121]⟩, .int .i64 0], .agg #[.int .i64 1, .int .i64 1, .int .i64 8, .int .i64 0, .int .i64 0, .string ⟨#[]⟩, .string ⟨#[]⟩, .bool false], .string ⟨#[120, 121]⟩, .int .i64 0, .pointer (some ⟨env.g, 0, none⟩), undef, .string ⟨#[120, 121]⟩, .int .i64 0])
    (WI := fun env D w' => AwInv W1 4 (ch2 GB) ⟨1, 1, 8, 0, 0, ⟨#[]⟩, ⟨#[]⟩, false⟩ env (D 4) (D 10) (D 5) (D 11) w')
    (dsts := [some 17, some 18, some 19, some 20, some 21, some 22, some 16, some 23, some 24, some 25, some 2, none, some 3, some 4])
    (deps := [([], []), ([], []), ([1], []), ([2], []), ([0, 1, 2, 3], [0, 1, 2, 3]), ([4, 3], [4]), ([5], [5]), ([6], [6]), ([6], [6]), ([6], [6]), ([], []), ([10, 7, 5, 0, 1, 2, 3, 4, 5, 6, 7, 10], [10, 7]), ([8, 11, 0, 1, 2, 3, 4, 5, 6, 7, 8, 10, 11], [8]), ([9, 12, 0, 1, 2, 3, 4, 5, 6, 7, 8, 9, 10, 11, 12], [9])])
    (all := [0, 1, 2, 3, 4, 5, 6, 7, 8, 9, 10, 11, 12, 13]) (by kernel_rfl) (by kernel_rfl) (by kernel_rfl) (by kernel_rfl) (by rfl) ⟨undef, 0⟩ ?_ ?_ (fun env => ⟨#[.bool false, .pointer (some ⟨g1, 0, none⟩), .pointer (some ⟨env.g, 0, none⟩), .string ⟨#[120, 121]⟩, .int .i64 0, undef, undef, undef, undef, undef, undef, undef, undef, undef, .agg #[.int .i64 1, .int .i64 1, .int .i64 8, .int .i64 0, .int .i64 0], .agg #[.string ⟨#[73, 72, 68, 82]⟩, .string GB], .tuple #[.agg #[.int .i64 1, .int .i64 1, .int .i64 8, .int .i64 0, .int .i64 0, .string ⟨#[]⟩, .string ⟨#[]⟩, .bool false], .string ⟨#[120, 121]⟩, .int .i64 0], .agg #[.string ⟨#[73, 72, 68, 82]⟩, .string GB], .agg #[.string ⟨#[73, 68, 65, 84]⟩, .string ⟨#[120]⟩], .agg #[.string ⟨#[73, 68, 65, 84]⟩, .string ⟨#[121]⟩], .agg #[.string ⟨#[73, 69, 78, 68]⟩, .string ⟨#[]⟩], env.sl, .tuple #[.agg #[.int .i64 1, .int .i64 1, .int .i64 8, .int .i64 0, .int .i64 0, .string ⟨#[]⟩, .string ⟨#[]⟩, .bool false], .string ⟨#[120, 121]⟩, .int .i64 0], .agg #[.int .i64 1, .int .i64 1, .int .i64 8, .int .i64 0, .int .i64 0, .string ⟨#[]⟩, .string ⟨#[]⟩, .bool false], .string ⟨#[120, 121]⟩, .int .i64 0, undef, undef, undef, undef, undef, undef, undef, undef, undef, undef, undef, undef, undef, undef, undef, undef, undef, undef, undef, undef, undef, undef, undef, undef, undef, undef, undef, undef, undef, undef, undef, undef, undef, undef, undef, undef, undef, undef, undef, undef, undef, undef, undef, undef, undef, undef, undef, undef, undef, undef, undef, undef, undef, undef, undef, undef, undef, undef, undef, undef, undef, undef, undef], []⟩) (fun _ => by kernel_rfl) ?_
  · refine StepsL.val ?_ ?_ ?_
    · intro env D wq hD hw
      simpa [upd] using hw
    · intro env D wq hd hw
      clear hd
      obtain ⟨k0, k1⟩ := cells2 (hw.eff.blockB HB1_2.out HG1_2.out)
      clear hw
      generalize hA : rfillL _ _ _ _ = a
      have q1 : a.tmps[1]? = some (.pointer (some ⟨g1, 0, none⟩)) := by subst hA; kernel_rfl
      have r1 : a.tmps.getD 1 undef = (.pointer (some ⟨g1, 0, none⟩)) := by subst hA; kernel_rfl
      clear hA
      unfold StepVal
      rw [if_pos (by rfl)]
      go_simp
    refine StepsL.one ?_ ?_
    · intro env D wq hD hd hw
      have HWW := Aside0.mk hw
      clear hd hw hD
      generalize hA : rfillL _ _ _ _ = a
      clear hA
      unfold StepOk
      rw [if_pos (by rfl)]
      go_simp
      refine (dat_calls ⟨#[120]⟩ _).mono ?_
      rintro e w' ⟨rfl, he⟩
      refine ⟨_, rfl, rfl, ?_⟩
      show AwInv _ _ _ _ _ (upd D 1 4) (upd D 1 10) (upd D 1 5) (upd D 1 11) _
      have e1 : upd D 1 4 = D 4 := by simp [upd]
      have e2 : upd D 1 10 = D 10 := by simp [upd]
      have e3 : upd D 1 5 = D 5 := by simp [upd]
      have e4 : upd D 1 11 = D 11 := by simp [upd]
      rw [e1, e2, e3, e4]
      exact HWW.out.mono he
    refine StepsL.one ?_ ?_
    · intro env D wq hD hd hw
      have HWW := Aside0.mk hw
      clear hd hw hD
      generalize hA : rfillL _ _ _ _ = a
      clear hA
      unfold StepOk
      rw [if_pos (by rfl)]
      go_simp
      refine (dat_calls ⟨#[121]⟩ _).mono ?_
      rintro e w' ⟨rfl, he⟩
      refine ⟨_, rfl, rfl, ?_⟩
      show AwInv _ _ _ _ _ (upd D 2 4) (upd D 2 10) (upd D 2 5) (upd D 2 11) _
      have e1 : upd D 2 4 = D 4 := by simp [upd]
      have e2 : upd D 2 10 = D 10 := by simp [upd]
      have e3 : upd D 2 5 = D 5 := by simp [upd]
      have e4 : upd D 2 11 = D 11 := by simp [upd]
      rw [e1, e2, e3, e4]
      exact HWW.out.mono he
    refine StepsL.one ?_ ?_
    · intro env D wq hD hd hw
      have HWW := Aside0.mk hw
      clear hd hw hD
      generalize hA : rfillL _ _ _ _ = a
      clear hA
      unfold StepOk
      rw [if_pos (by rfl)]
      go_simp
      refine (lends_calls _).mono ?_
      rintro e w' ⟨rfl, he⟩
      refine ⟨_, rfl, rfl, ?_⟩
      show AwInv _ _ _ _ _ (upd D 3 4) (upd D 3 10) (upd D 3 5) (upd D 3 11) _
      have e1 : upd D 3 4 = D 4 := by simp [upd]
      have e2 : upd D 3 10 = D 10 := by simp [upd]
      have e3 : upd D 3 5 = D 5 := by simp [upd]
      have e4 : upd D 3 11 = D 11 := by simp [upd]
      rw [e1, e2, e3, e4]
      exact HWW.out.mono he
    refine StepsL.any ?_ ?_
    · intro env D wq hD hd hw
      have HWW := Aside0.mk hw
      have HD := Aside0.mk (show D 4 = false from hD)
      clear hd hw hD
      generalize hA : rfillL _ _ _ _ = a
      have q17 : a.tmps[17]? = some (.agg #[.string ⟨#[73, 72, 68, 82]⟩, .string GB]) := by subst hA; kernel_rfl
      have r17 : a.tmps.getD 17 undef = (.agg #[.string ⟨#[73, 72, 68, 82]⟩, .string GB]) := by subst hA; kernel_rfl
      have q18 : a.tmps[18]? = some (.agg #[.string ⟨#[73, 68, 65, 84]⟩, .string ⟨#[120]⟩]) := by subst hA; kernel_rfl
      have r18 : a.tmps.getD 18 undef = (.agg #[.string ⟨#[73, 68, 65, 84]⟩, .string ⟨#[120]⟩]) := by subst hA; kernel_rfl
      have q19 : a.tmps[19]? = some (.agg #[.string ⟨#[73, 68, 65, 84]⟩, .string ⟨#[121]⟩]) := by subst hA; kernel_rfl
      have r19 : a.tmps.getD 19 undef = (.agg #[.string ⟨#[73, 68, 65, 84]⟩, .string ⟨#[121]⟩]) := by subst hA; kernel_rfl
      have q20 : a.tmps[20]? = some (.agg #[.string ⟨#[73, 69, 78, 68]⟩, .string ⟨#[]⟩]) := by subst hA; kernel_rfl
      have r20 : a.tmps.getD 20 undef = (.agg #[.string ⟨#[73, 69, 78, 68]⟩, .string ⟨#[]⟩]) := by subst hA; kernel_rfl
      clear hA
      unfold StepOk
      rw [if_pos (by rfl)]
      go_simp
      refine ⟨_, rfl, { env with sl := .slice (some ⟨wq.heap.size, 0, none⟩) 4 4 }, rfl, ?_, ?_⟩
      · intro j hj
        have hne : j ≠ 4 := by rintro rfl; rw [HD.out] at hj; cases hj
        exact getD_of_ne _ _ 4 j rfl hne
      · show AwInv _ _ _ _ _ (upd D 4 4) (upd D 4 10) (upd D 4 5) (upd D 4 11) _
        have e4 : upd D 4 4 = true := by simp [upd]
        have e10 : upd D 4 10 = D 10 := by simp [upd]
        have e5 : upd D 4 5 = D 5 := by simp [upd]
        have e11 : upd D 4 11 = D 11 := by simp [upd]
        rw [e4, e10, e5, e11]
        have hm := HWW.out.mono ((Eff.refl _ _ _).alloc (.cells #[.string ⟨#[73, 72, 68, 82]⟩, .string GB, .string ⟨#[73, 68, 65, 84]⟩, .string ⟨#[120]⟩, .string ⟨#[73, 68, 65, 84]⟩, .string ⟨#[121]⟩, .string ⟨#[73, 69, 78, 68]⟩, .string ⟨#[]⟩] 30))
        refine { hm with sl := fun _ _ => ⟨_, rfl, ?_⟩ }
        exact chs_new (heap_alloc_new wq (.cells (chVals (ch2 GB)).toArray 30))
    refine StepsL.one ?_ ?_
    · intro env D wq hD hd hw
      have h4 : D 4 = true := hd 4 (by decide)
      have hc0 : D 11 = false := by
        cases hx : D 11 with
        | false => rfl
        | true => have := hw.cr hx; rw [show D 5 = false from hD] at this; cases this
      obtain ⟨A, qA, hA⟩ := hw.sl h4 hc0
      have HWW := Aside0.mk hw
      have HCH := Aside0.mk hA
      have QA := Aside0.mk qA
      clear hd hw hD h4 hc0 hA qA
      generalize hA : rfillL _ _ _ _ = a
      have q21 : a.tmps[21]? = some (env.sl) := by subst hA; kernel_rfl
      have r21 : a.tmps.getD 21 undef = (env.sl) := by subst hA; kernel_rfl
      clear hA
      unfold StepOk
      rw [if_pos (by rfl)]
      rw [QA.out] at q21 r21
      go_simp
      refine (HC2.out _ A HCH.out).mono ?_
      rintro e w' ⟨rfl, he⟩
      refine ⟨_, rfl, rfl, ?_⟩
      show AwInv _ _ _ _ _ (upd D 5 4) (upd D 5 10) (upd D 5 5) (upd D 5 11) _
      have e4 : upd D 5 4 = D 4 := by simp [upd]
      have e10 : upd D 5 10 = D 10 := by simp [upd]
      have e5 : upd D 5 5 = true := by simp [upd]
      have e11 : upd D 5 11 = D 11 := by simp [upd]
      rw [e4, e10, e5, e11]
      have hm := HWW.out.mono he
      exact { hm with cr := fun _ => rfl }
    refine StepsL.val ?_ ?_ ?_
    · intro env D wq hD hw
      simpa [upd] using hw
    · intro env D wq hd hw
      clear hd hw
      generalize hA : rfillL _ _ _ _ = a
      have q22 : a.tmps[22]? = some (.tuple #[.agg #[.int .i64 1, .int .i64 1, .int .i64 8, .int .i64 0, .int .i64 0, .string ⟨#[]⟩, .string ⟨#[]⟩, .bool false], .string ⟨#[120, 121]⟩, .int .i64 0]) := by subst hA; kernel_rfl
      have r22 : a.tmps.getD 22 undef = (.tuple #[.agg #[.int .i64 1, .int .i64 1, .int .i64 8, .int .i64 0, .int .i64 0, .string ⟨#[]⟩, .string ⟨#[]⟩, .bool false], .string ⟨#[120, 121]⟩, .int .i64 0]) := by subst hA; kernel_rfl
      clear hA
      unfold StepVal
      rw [if_pos (by rfl)]
      go_simp
    refine StepsL.val ?_ ?_ ?_
    · intro env D wq hD hw
      simpa [upd] using hw
    · intro env D wq hd hw
      clear hd hw
      generalize hA : rfillL _ _ _ _ = a
      have q16 : a.tmps[16]? = some (.tuple #[.agg #[.int .i64 1, .int .i64 1, .int .i64 8, .int .i64 0, .int .i64 0, .string ⟨#[]⟩, .string ⟨#[]⟩, .bool false], .string ⟨#[120, 121]⟩, .int .i64 0]) := by subst hA; kernel_rfl
      have r16 : a.tmps.getD 16 undef = (.tuple #[.agg #[.int .i64 1, .int .i64 1, .int .i64 8, .int .i64 0, .int .i64 0, .string ⟨#[]⟩, .string ⟨#[]⟩, .bool false], .string ⟨#[120, 121]⟩, .int .i64 0]) := by subst hA; kernel_rfl
      clear hA
      unfold StepVal
      rw [if_pos (by rfl)]
      go_simp
    refine StepsL.val ?_ ?_ ?_
    · intro env D wq hD hw
      simpa [upd] using hw
    · intro env D wq hd hw
      clear hd hw
      generalize hA : rfillL _ _ _ _ = a
      have q16 : a.tmps[16]? = some (.tuple #[.agg #[.int .i64 1, .int .i64 1, .int .i64 8, .int .i64 0, .int .i64 0, .string ⟨#[]⟩, .string ⟨#[]⟩, .bool false], .string ⟨#[120, 121]⟩, .int .i64 0]) := by subst hA; kernel_rfl
      have r16 : a.tmps.getD 16 undef = (.tuple #[.agg #[.int .i64 1, .int .i64 1, .int .i64 8, .int .i64 0, .int .i64 0, .string ⟨#[]⟩, .string ⟨#[]⟩, .bool false], .string ⟨#[120, 121]⟩, .int .i64 0]) := by subst hA; kernel_rfl
      clear hA
      unfold StepVal
      rw [if_pos (by rfl)]
      go_simp
    refine StepsL.val ?_ ?_ ?_
    · intro env D wq hD hw
      simpa [upd] using hw
    · intro env D wq hd hw
      clear hd hw
      generalize hA : rfillL _ _ _ _ = a
      have q16 : a.tmps[16]? = some (.tuple #[.agg #[.int .i64 1, .int .i64 1, .int .i64 8, .int .i64 0, .int .i64 0, .string ⟨#[]⟩, .string ⟨#[]⟩, .bool false], .string ⟨#[120, 121]⟩, .int .i64 0]) := by subst hA; kernel_rfl
      have r16 : a.tmps.getD 16 undef = (.tuple #[.agg #[.int .i64 1, .int .i64 1, .int .i64 8, .int .i64 0, .int .i64 0, .string ⟨#[]⟩, .string ⟨#[]⟩, .bool false], .string ⟨#[120, 121]⟩, .int .i64 0]) := by subst hA; kernel_rfl
      clear hA
      unfold StepVal
      rw [if_pos (by rfl)]
      go_simp
    refine StepsL.any ?_ ?_
    · intro env D wq hD hd hw
      have hc0 : D 11 = false := by
        cases hx : D 11 with
        | false => rfl
        | true => have := hw.ca hx; rw [show D 10 = false from hD] at this; cases this
      rw [hc0] at hw
      have HWW := Aside0.mk hw
      have HC0 := Aside0.mk hc0
      have HD := Aside0.mk (show D 10 = false from hD)
      clear hd hw hD hc0
      generalize hA : rfillL _ _ _ _ = a
      clear hA
      unfold StepOk
      rw [if_pos (by rfl)]
      go_simp
      refine ⟨_, rfl, { env with g := wq.heap.size }, rfl, ?_, ?_⟩
      · intro j hj
        have hne : j ≠ 10 := by rintro rfl; rw [HD.out] at hj; cases hj
        exact getD_of_ne _ _ 10 j rfl hne
      · show AwInv _ _ _ _ _ (upd D 10 4) (upd D 10 10) (upd D 10 5) (upd D 10 11) _
        have e4 : upd D 10 4 = D 4 := by simp [upd]
        have e10 : upd D 10 10 = true := by simp [upd]
        have e5 : upd D 10 5 = D 5 := by simp [upd]
        have e11 : upd D 10 11 = D 11 := by simp [upd]
        rw [e4, e10, e5, e11]
        rw [HC0.out]
        have hm := HWW.out.mono ((Eff.refl _ _ _).alloc (.cells shp0 36))
        exact { hm with al := fun _ => ⟨HWW.out.eff.size, heap_alloc_new wq _⟩, ca := fun h => by cases h }
    refine StepsL.one ?_ ?_
    · intro env D wq hD hd hw
      have h10 : D 10 = true := hd 10 (by decide)
      have h5 : D 5 = true := hd 5 (by decide)
      have hD' : D 11 = false := hD
      rw [h10, h5, hD'] at hw
      have h1 := (hw.al rfl).2
      rw [if_neg (by decide)] at h1
      obtain ⟨u0, u1, u2, u3, u4, u5, u6, u7⟩ := cells8 h1
      obtain ⟨f0, f1, f2, f3, f4, f5, f6, f7⟩ := frozen8 h1
      have HWW := Aside0.mk hw
      have H10 := Aside0.mk h10
      have H5 := Aside0.mk h5
      clear hd hw hD hD' h10 h5 h1
      generalize hA : rfillL _ _ _ _ = a
      have q2 : a.tmps[2]? = some (.pointer (some ⟨env.g, 0, none⟩)) := by subst hA; kernel_rfl
      have r2 : a.tmps.getD 2 undef = (.pointer (some ⟨env.g, 0, none⟩)) := by subst hA; kernel_rfl
      have q23 : a.tmps[23]? = some (.agg #[.int .i64 1, .int .i64 1, .int .i64 8, .int .i64 0, .int .i64 0, .string ⟨#[]⟩, .string ⟨#[]⟩, .bool false]) := by subst hA; kernel_rfl
      have r23 : a.tmps.getD 23 undef = (.agg #[.int .i64 1, .int .i64 1, .int .i64 8, .int .i64 0, .int .i64 0, .string ⟨#[]⟩, .string ⟨#[]⟩, .bool false]) := by subst hA; kernel_rfl
      clear hA
      unfold StepOk
      rw [if_pos (by rfl)]
      go_simp
      have e1 : upd D 11 4 = D 4 := by simp [upd]
      have e2 : upd D 11 10 = true := by simp [upd, H10.out]
      have e3 : upd D 11 5 = true := by simp [upd, H5.out]
      have e4 : upd D 11 11 = true := by simp [upd]
      show AwInv _ _ _ _ _ (upd D 11 4) (upd D 11 10) (upd D 11 5) (upd D 11 11) _
      rw [e1, e2, e3, e4]
      exact HWW.out.stored
    refine StepsL.val ?_ ?_ ?_
    · intro env D wq hD hw
      simpa [upd] using hw
    · intro env D wq hd hw
      clear hd hw
      generalize hA : rfillL _ _ _ _ = a
      have q24 : a.tmps[24]? = some (.string ⟨#[120, 121]⟩) := by subst hA; kernel_rfl
      have r24 : a.tmps.getD 24 undef = (.string ⟨#[120, 121]⟩) := by subst hA; kernel_rfl
      clear hA
      unfold StepVal
      rw [if_pos (by rfl)]
      go_simp
    refine StepsL.val ?_ ?_ ?_
    · intro env D wq hD hw
      simpa [upd] using hw
    · intro env D wq hd hw
      clear hd hw
      generalize hA : rfillL _ _ _ _ = a
      have q25 : a.tmps[25]? = some (.int .i64 0) := by subst hA; kernel_rfl
      have r25 : a.tmps.getD 25 undef = (.int .i64 0) := by subst hA; kernel_rfl
      clear hA
      unfold StepVal
      rw [if_pos (by rfl)]
      go_simp
    exact StepsL.nil
  · exact ⟨(Eff.refl _ _ _).drew, fun h => Bool.noConfusion h, fun h => Bool.noConfusion h, fun h => Bool.noConfusion h, fun h => Bool.noConfusion h⟩
  · intro env D w2 hD hw
    rw [hD 4 (by decide), hD 10 (by decide), hD 5 (by decide), hD 11 (by decide)] at hw
    obtain ⟨s2, g2⟩ := env
    have heff := hw.eff
    have hge := (hw.al rfl).1
    have hal := (hw.al rfl).2
    rw [if_pos rfl] at hal
    have hb1 := heff.blockB HB1_2.out HG1_2.out
    have hg1 := Nat.lt_of_lt_of_le HG1_2.out heff.size
    have he := HE_2.out.trans (heff.mono HE_2.out.size (by simp))
    have hb2 : w2.heap[g2]? = some (.cells #[.int .i64 1, .int .i64 1, .int .i64 8, .int .i64 0, .int .i64 0, .string ⟨#[]⟩, .string ⟨#[]⟩, .bool false] 36 (0, 0)) := hal
    have HB1_3 := Aside0.mk hb1
    have HG1_3 := Aside0.mk hg1
    have HE_3 := Aside0.mk he
    have HB2_3 := Aside0.mk hb2
    clear hw heff hge hal hb1 hg1 he hb2 hD
    dsimp only
    go_wp2_with fail
    refine wp_region_all (Env := AwEnv) (vals := fun env => [.agg #[.string ⟨#[73, 72, 68, 82]⟩, .string GB], .agg #[.string ⟨#[73, 69, 78, 68]⟩, .string ⟨#[]⟩], env.sl, .tuple #[.agg #[.int .i64 S3.W, .int .i64 S3.H, .int .i64 S3.D, .int .i64 S3.C, .int .i64 S3.L, .string S3.pal, .string S3.trans, .bool S3.hasT], .string ⟨B3.toArray⟩, .int .i64 23], .tuple #[.agg #[.int .i64 S3.W, .int .i64 S3.H, .int .i64 S3.D, .int .i64 S3.C, .int .i64 S3.L, .string S3.pal, .string S3.trans, .bool S3.hasT], .string ⟨B3.toArray⟩, .int .i64 23], .agg #[.int .i64 S3.W, .int .i64 S3.H, .int .i64 S3.D, .int .i64 S3.C, .int .i64 S3.L, .string S3.pal, .string S3.trans, .bool S3.hasT], .string ⟨B3.toArray⟩, .int .i64 23, .pointer (some ⟨env.g, 0, none⟩), undef, .string ⟨B3.toArray⟩, .int .i64 23])
      (WI := fun env D w' => AwInv w2 2 (ch3 GB) S3 env (D 2) (D 8) (D 3) (D 9) w')
      (dsts := [some 27, some 28, some 29, some 30, some 26, some 31, some 32, some 33, some 5, none, some 6, some 7])
      (deps := [([], []), ([], []), ([0, 1], [0, 1]), ([2, 1], [2]), ([3], [3]), ([4], [4]), ([4], [4]), ([4], [4]), ([], []), ([8, 5, 3, 0, 1, 2, 3, 4, 5, 8], [8, 5]), ([6, 9, 0, 1, 2, 3, 4, 5, 6, 8, 9], [6]), ([7, 10, 0, 1, 2, 3, 4, 5, 6, 7, 8, 9, 10], [7])])
      (all := [0, 1, 2, 3, 4, 5, 6, 7, 8, 9, 10, 11]) (by kernel_rfl) (by kernel_rfl) (by kernel_rfl) (by kernel_rfl) (by rfl) ⟨undef, 0⟩ ?_ ?_ (fun env => ⟨#[.bool false, .pointer (some ⟨g1, 0, none⟩), .pointer (some ⟨g2, 0, none⟩), .string ⟨#[120, 121]⟩, .int .i64 0, .pointer (some ⟨env.g, 0, none⟩), .string ⟨B3.toArray⟩, .int .i64 23, undef, undef, undef, undef, undef, undef, .agg #[.int .i64 1, .int .i64 1, .int .i64 8, .int .i64 0, .int .i64 0], .agg #[.string ⟨#[73, 72, 68, 82]⟩, .string GB], .tuple #[.agg #[.int .i64 1, .int .i64 1, .int .i64 8, .int .i64 0, .int .i64 0, .string ⟨#[]⟩, .string ⟨#[]⟩, .bool false], .string ⟨#[120, 121]⟩, .int .i64 0], .agg #[.string ⟨#[73, 72, 68, 82]⟩, .string GB], .agg #[.string ⟨#[73, 68, 65, 84]⟩, .string ⟨#[120]⟩], .agg #[.string ⟨#[73, 68, 65, 84]⟩, .string ⟨#[121]⟩], .agg #[.string ⟨#[73, 69, 78, 68]⟩, .string ⟨#[]⟩], s2, .tuple #[.agg #[.int .i64 1, .int .i64 1, .int .i64 8, .int .i64 0, .int .i64 0, .string ⟨#[]⟩, .string ⟨#[]⟩, .bool false], .string ⟨#[120, 121]⟩, .int .i64 0], .agg #[.int .i64 1, .int .i64 1, .int .i64 8, .int .i64 0, .int .i64 0, .string ⟨#[]⟩, .string ⟨#[]⟩, .bool false], .string ⟨#[120, 121]⟩, .int .i64 0, .tuple #[.agg #[.int .i64 S3.W, .int .i64 S3.H, .int .i64 S3.D, .int .i64 S3.C, .int .i64 S3.L, .string S3.pal, .string S3.trans, .bool S3.hasT], .string ⟨B3.toArray⟩, .int .i64 23], .agg #[.string ⟨#[73, 72, 68, 82]⟩, .string GB], .agg #[.string ⟨#[73, 69, 78, 68]⟩, .string ⟨#[]⟩], env.sl, .tuple #[.agg #[.int .i64 S3.W, .int .i64 S3.H, .int .i64 S3.D, .int .i64 S3.C, .int .i64 S3.L, .string S3.pal, .string S3.trans, .bool S3.hasT], .string ⟨B3.toArray⟩, .int .i64 23], .agg #[.int .i64 S3.W, .int .i64 S3.H, .int .i64 S3.D, .int .i64 S3.C, .int .i64 S3.L, .string S3.pal, .string S3.trans, .bool S3.hasT], .string ⟨B3.toArray⟩, .int .i64 23, undef, undef, undef, undef, undef, undef, undef, undef, undef, undef, undef, undef, undef, undef, undef, undef, undef, undef, undef, undef, undef, undef, undef, undef, undef, undef, undef, undef, undef, undef, undef, undef, undef, undef, undef, undef, undef, undef, undef, undef, undef, undef, undef, undef, undef, undef, undef, undef, undef, undef, undef, undef, undef, undef, undef], []⟩) (fun _ => by kernel_rfl) ?_
    · refine StepsL.val ?_ ?_ ?_
      · intro env D wq hD hw
        simpa [upd] using hw
      · intro env D wq hd hw
        clear hd
        obtain ⟨k0, k1⟩ := cells2 (hw.eff.blockB HB1_3.out HG1_3.out)
        clear hw
        generalize hA : rfillL _ _ _ _ = a
        have q1 : a.tmps[1]? = some (.pointer (some ⟨g1, 0, none⟩)) := by subst hA; kernel_rfl
        have r1 : a.tmps.getD 1 undef = (.pointer (some ⟨g1, 0, none⟩)) := by subst hA; kernel_rfl
        clear hA
        unfold StepVal
        rw [if_pos (by rfl)]
        go_simp
      refine StepsL.one ?_ ?_
      · intro env D wq hD hd hw
        have HWW := Aside0.mk hw
        clear hd hw hD
        generalize hA : rfillL _ _ _ _ = a
        clear hA
        unfold StepOk
        rw [if_pos (by rfl)]
        go_simp
        refine (lends_calls _).mono ?_
        rintro e w' ⟨rfl, he⟩
        refine ⟨_, rfl, rfl, ?_⟩
        show AwInv _ _ _ _ _ (upd D 1 2) (upd D 1 8) (upd D 1 3) (upd D 1 9) _
        have e1 : upd D 1 2 = D 2 := by simp [upd]
        have e2 : upd D 1 8 = D 8 := by simp [upd]
        have e3 : upd D 1 3 = D 3 := by simp [upd]
        have e4 : upd D 1 9 = D 9 := by simp [upd]
        rw [e1, e2, e3, e4]
        exact HWW.out.mono he
      refine StepsL.any ?_ ?_
      · intro env D wq hD hd hw
        have HWW := Aside0.mk hw
        have HD := Aside0.mk (show D 2 = false from hD)
        clear hd hw hD
        generalize hA : rfillL _ _ _ _ = a
        have q27 : a.tmps[27]? = some (.agg #[.string ⟨#[73, 72, 68, 82]⟩, .string GB]) := by subst hA; kernel_rfl
        have r27 : a.tmps.getD 27 undef = (.agg #[.string ⟨#[73, 72, 68, 82]⟩, .string GB]) := by subst hA; kernel_rfl
        have q28 : a.tmps[28]? = some (.agg #[.string ⟨#[73, 69, 78, 68]⟩, .string ⟨#[]⟩]) := by subst hA; kernel_rfl
        have r28 : a.tmps.getD 28 undef = (.agg #[.string ⟨#[73, 69, 78, 68]⟩, .string ⟨#[]⟩]) := by subst hA; kernel_rfl
        clear hA
        unfold StepOk
        rw [if_pos (by rfl)]
        go_simp
        refine ⟨_, rfl, { env with sl := .slice (some ⟨wq.heap.size, 0, none⟩) 2 2 }, rfl, ?_, ?_⟩
        · intro j hj
          have hne : j ≠ 2 := by rintro rfl; rw [HD.out] at hj; cases hj
          exact getD_of_ne _ _ 2 j rfl hne
        · show AwInv _ _ _ _ _ (upd D 2 2) (upd D 2 8) (upd D 2 3) (upd D 2 9) _
          have e2 : upd D 2 2 = true := by simp [upd]
          have e8 : upd D 2 8 = D 8 := by simp [upd]
          have e3 : upd D 2 3 = D 3 := by simp [upd]
          have e9 : upd D 2 9 = D 9 := by simp [upd]
          rw [e2, e8, e3, e9]
          have hm := HWW.out.mono ((Eff.refl _ _ _).alloc (.cells #[.string ⟨#[73, 72, 68, 82]⟩, .string GB, .string ⟨#[73, 69, 78, 68]⟩, .string ⟨#[]⟩] 30))
          refine { hm with sl := fun _ _ => ⟨_, rfl, ?_⟩ }
          exact chs_new (heap_alloc_new wq (.cells (chVals (ch3 GB)).toArray 30))
      refine StepsL.one ?_ ?_
      · intro env D wq hD hd hw
        have h4 : D 2 = true := hd 2 (by decide)
        have hc0 : D 9 = false := by
          cases hx : D 9 with
          | false => rfl
          | true => have := hw.cr hx; rw [show D 3 = false from hD] at this; cases this
        obtain ⟨A, qA, hA⟩ := hw.sl h4 hc0
        have HWW := Aside0.mk hw
        have HCH := Aside0.mk hA
        have QA := Aside0.mk qA
        clear hd hw hD h4 hc0 hA qA
        generalize hA : rfillL _ _ _ _ = a
        have q29 : a.tmps[29]? = some (env.sl) := by subst hA; kernel_rfl
        have r29 : a.tmps.getD 29 undef = (env.sl) := by subst hA; kernel_rfl
        clear hA
        unfold StepOk
        rw [if_pos (by rfl)]
        rw [QA.out] at q29 r29
        go_simp
        refine (HC3.out _ A HCH.out).mono ?_
        rintro e w' ⟨rfl, he⟩
        refine ⟨_, rfl, rfl, ?_⟩
        show AwInv _ _ _ _ _ (upd D 3 2) (upd D 3 8) (upd D 3 3) (upd D 3 9) _
        have e2 : upd D 3 2 = D 2 := by simp [upd]
        have e8 : upd D 3 8 = D 8 := by simp [upd]
        have e3 : upd D 3 3 = true := by simp [upd]
        have e9 : upd D 3 9 = D 9 := by simp [upd]
        rw [e2, e8, e3, e9]
        have hm := HWW.out.mono he
        exact { hm with cr := fun _ => rfl }
      refine StepsL.val ?_ ?_ ?_
      · intro env D wq hD hw
        simpa [upd] using hw
      · intro env D wq hd hw
        clear hd hw
        generalize hA : rfillL _ _ _ _ = a
        have q30 : a.tmps[30]? = some (.tuple #[.agg #[.int .i64 S3.W, .int .i64 S3.H, .int .i64 S3.D, .int .i64 S3.C, .int .i64 S3.L, .string S3.pal, .string S3.trans, .bool S3.hasT], .string ⟨B3.toArray⟩, .int .i64 23]) := by subst hA; kernel_rfl
        have r30 : a.tmps.getD 30 undef = (.tuple #[.agg #[.int .i64 S3.W, .int .i64 S3.H, .int .i64 S3.D, .int .i64 S3.C, .int .i64 S3.L, .string S3.pal, .string S3.trans, .bool S3.hasT], .string ⟨B3.toArray⟩, .int .i64 23]) := by subst hA; kernel_rfl
        clear hA
        unfold StepVal
        rw [if_pos (by rfl)]
        go_simp
      refine StepsL.val ?_ ?_ ?_
      · intro env D wq hD hw
        simpa [upd] using hw
      · intro env D wq hd hw
        clear hd hw
        generalize hA : rfillL _ _ _ _ = a
        have q26 : a.tmps[26]? = some (.tuple #[.agg #[.int .i64 S3.W, .int .i64 S3.H, .int .i64 S3.D, .int .i64 S3.C, .int .i64 S3.L, .string S3.pal, .string S3.trans, .bool S3.hasT], .string ⟨B3.toArray⟩, .int .i64 23]) := by subst hA; kernel_rfl
        have r26 : a.tmps.getD 26 undef = (.tuple #[.agg #[.int .i64 S3.W, .int .i64 S3.H, .int .i64 S3.D, .int .i64 S3.C, .int .i64 S3.L, .string S3.pal, .string S3.trans, .bool S3.hasT], .string ⟨B3.toArray⟩, .int .i64 23]) := by subst hA; kernel_rfl
        clear hA
        unfold StepVal
        rw [if_pos (by rfl)]
        go_simp
      refine StepsL.val ?_ ?_ ?_
      · intro env D wq hD hw
        simpa [upd] using hw
      · intro env D wq hd hw
        clear hd hw
        generalize hA : rfillL _ _ _ _ = a
        have q26 : a.tmps[26]? = some (.tuple #[.agg #[.int .i64 S3.W, .int .i64 S3.H, .int .i64 S3.D, .int .i64 S3.C, .int .i64 S3.L, .string S3.pal, .string S3.trans, .bool S3.hasT], .string ⟨B3.toArray⟩, .int .i64 23]) := by subst hA; kernel_rfl
        have r26 : a.tmps.getD 26 undef = (.tuple #[.agg #[.int .i64 S3.W, .int .i64 S3.H, .int .i64 S3.D, .int .i64 S3.C, .int .i64 S3.L, .string S3.pal, .string S3.trans, .bool S3.hasT], .string ⟨B3.toArray⟩, .int .i64 23]) := by subst hA; kernel_rfl
        clear hA
        unfold StepVal
        rw [if_pos (by rfl)]
        go_simp
      refine StepsL.val ?_ ?_ ?_
      · intro env D wq hD hw
        simpa [upd] using hw
      · intro env D wq hd hw
        clear hd hw
        generalize hA : rfillL _ _ _ _ = a
        have q26 : a.tmps[26]? = some (.tuple #[.agg #[.int .i64 S3.W, .int .i64 S3.H, .int .i64 S3.D, .int .i64 S3.C, .int .i64 S3.L, .string S3.pal, .string S3.trans, .bool S3.hasT], .string ⟨B3.toArray⟩, .int .i64 23]) := by subst hA; kernel_rfl
        have r26 : a.tmps.getD 26 undef = (.tuple #[.agg #[.int .i64 S3.W, .int .i64 S3.H, .int .i64 S3.D, .int .i64 S3.C, .int .i64 S3.L, .string S3.pal, .string S3.trans, .bool S3.hasT], .string ⟨B3.toArray⟩, .int .i64 23]) := by subst hA; kernel_rfl
        clear hA
        unfold StepVal
        rw [if_pos (by rfl)]
        go_simp
      refine StepsL.any ?_ ?_
      · intro env D wq hD hd hw
        have hc0 : D 9 = false := by
          cases hx : D 9 with
          | false => rfl
          | true => have := hw.ca hx; rw [show D 8 = false from hD] at this; cases this
        rw [hc0] at hw
        have HWW := Aside0.mk hw
        have HC0 := Aside0.mk hc0
        have HD := Aside0.mk (show D 8 = false from hD)
        clear hd hw hD hc0
        generalize hA : rfillL _ _ _ _ = a
        clear hA
        unfold StepOk
        rw [if_pos (by rfl)]
        go_simp
        refine ⟨_, rfl, { env with g := wq.heap.size }, rfl, ?_, ?_⟩
        · intro j hj
          have hne : j ≠ 8 := by rintro rfl; rw [HD.out] at hj; cases hj
          exact getD_of_ne _ _ 8 j rfl hne
        · show AwInv _ _ _ _ _ (upd D 8 2) (upd D 8 8) (upd D 8 3) (upd D 8 9) _
          have e2 : upd D 8 2 = D 2 := by simp [upd]
          have e8 : upd D 8 8 = true := by simp [upd]
          have e3 : upd D 8 3 = D 3 := by simp [upd]
          have e9 : upd D 8 9 = D 9 := by simp [upd]
          rw [e2, e8, e3, e9]
          rw [HC0.out]
          have hm := HWW.out.mono ((Eff.refl _ _ _).alloc (.cells shp0 36))
          exact { hm with al := fun _ => ⟨HWW.out.eff.size, heap_alloc_new wq _⟩, ca := fun h => by cases h }
      refine StepsL.one ?_ ?_
      · intro env D wq hD hd hw
        have h10 : D 8 = true := hd 8 (by decide)
        have h5 : D 3 = true := hd 3 (by decide)
        have hD' : D 9 = false := hD
        rw [h10, h5, hD'] at hw
        have h1 := (hw.al rfl).2
        rw [if_neg (by decide)] at h1
        obtain ⟨u0, u1, u2, u3, u4, u5, u6, u7⟩ := cells8 h1
        obtain ⟨f0, f1, f2, f3, f4, f5, f6, f7⟩ := frozen8 h1
        have HWW := Aside0.mk hw
        have H10 := Aside0.mk h10
        have H5 := Aside0.mk h5
        clear hd hw hD hD' h10 h5 h1
        generalize hA : rfillL _ _ _ _ = a
        have q5 : a.tmps[5]? = some (.pointer (some ⟨env.g, 0, none⟩)) := by subst hA; kernel_rfl
        have r5 : a.tmps.getD 5 undef = (.pointer (some ⟨env.g, 0, none⟩)) := by subst hA; kernel_rfl
        have q31 : a.tmps[31]? = some (.agg #[.int .i64 S3.W, .int .i64 S3.H, .int .i64 S3.D, .int .i64 S3.C, .int .i64 S3.L, .string S3.pal, .string S3.trans, .bool S3.hasT]) := by subst hA; kernel_rfl
        have r31 : a.tmps.getD 31 undef = (.agg #[.int .i64 S3.W, .int .i64 S3.H, .int .i64 S3.D, .int .i64 S3.C, .int .i64 S3.L, .string S3.pal, .string S3.trans, .bool S3.hasT]) := by subst hA; kernel_rfl
        clear hA
        unfold StepOk
        rw [if_pos (by rfl)]
        go_simp
        have e1 : upd D 9 2 = D 2 := by simp [upd]
        have e2 : upd D 9 8 = true := by simp [upd, H10.out]
        have e3 : upd D 9 3 = true := by simp [upd, H5.out]
        have e4 : upd D 9 9 = true := by simp [upd]
        show AwInv _ _ _ _ _ (upd D 9 2) (upd D 9 8) (upd D 9 3) (upd D 9 9) _
        rw [e1, e2, e3, e4]
        exact HWW.out.stored
      refine StepsL.val ?_ ?_ ?_
      · intro env D wq hD hw
        simpa [upd] using hw
      · intro env D wq hd hw
        clear hd hw
        generalize hA : rfillL _ _ _ _ = a
        have q32 : a.tmps[32]? = some (.string ⟨B3.toArray⟩) := by subst hA; kernel_rfl
        have r32 : a.tmps.getD 32 undef = (.string ⟨B3.toArray⟩) := by subst hA; kernel_rfl
        clear hA
        unfold StepVal
        rw [if_pos (by rfl)]
        go_simp
      refine StepsL.val ?_ ?_ ?_
      · intro env D wq hD hw
        simpa [upd] using hw
      · intro env D wq hd hw
        clear hd hw
        generalize hA : rfillL _ _ _ _ = a
        have q33 : a.tmps[33]? = some (.int .i64 23) := by subst hA; kernel_rfl
        have r33 : a.tmps.getD 33 undef = (.int .i64 23) := by subst hA; kernel_rfl
        clear hA
        unfold StepVal
        rw [if_pos (by rfl)]
        go_simp
      exact StepsL.nil
    · exact ⟨(Eff.refl _ _ _).drew, fun h => Bool.noConfusion h, fun h => Bool.noConfusion h, fun h => Bool.noConfusion h, fun h => Bool.noConfusion h⟩
    · intro env D w3 hD hw
      rw [hD 2 (by decide), hD 8 (by decide), hD 3 (by decide), hD 9 (by decide)] at hw
      obtain ⟨s3, g3⟩ := env
      have heff := hw.eff
      have hge := (hw.al rfl).1
      have hal := (hw.al rfl).2
      rw [if_pos rfl] at hal
      have hb1 := heff.blockB HB1_3.out HG1_3.out
      have hg1 := Nat.lt_of_lt_of_le HG1_3.out heff.size
      have he := HE_3.out.trans (heff.mono HE_3.out.size (by simp))
      have hb2 := heff.blockB HB2_3.out (blk_lt HB2_3.out)
      have HB1_4 := Aside0.mk hb1
      have HG1_4 := Aside0.mk hg1
      have HE_4 := Aside0.mk he
      have HB2_4 := Aside0.mk hb2
      clear hw heff hge hal hb1 hg1 he hb2 hD
      dsimp only
      go_wp2_with fail
      refine wp_region_all (Env := AwEnv) (vals := fun env => [.agg #[.string ⟨#[73, 72, 68, 82]⟩, .string GB], .agg #[.string ⟨#[73, 68, 65, 84]⟩, .string ⟨#[120]⟩], .agg #[.string ⟨#[116, 69, 88, 116]⟩, .string ⟨#[]⟩], .agg #[.string ⟨#[73, 68, 65, 84]⟩, .string ⟨#[121]⟩], .agg #[.string ⟨#[73, 69, 78, 68]⟩, .string ⟨#[]⟩], env.sl, .tuple #[.agg #[.int .i64 S4.W, .int .i64 S4.H, .int .i64 S4.D, .int .i64 S4.C, .int .i64 S4.L, .string S4.pal, .string S4.trans, .bool S4.hasT], .string ⟨B4.toArray⟩, .int .i64 23], .tuple #[.agg #[.int .i64 S4.W, .int .i64 S4.H, .int .i64 S4.D, .int .i64 S4.C, .int .i64 S4.L, .string S4.pal, .string S4.trans, .bool S4.hasT], .string ⟨B4.toArray⟩, .int .i64 23], .agg #[.int .i64 S4.W, .int .i64 S4.H, .int .i64 S4.D, .int .i64 S4.C, .int .i64 S4.L, .string S4.pal, .string S4.trans, .bool S4.hasT], .string ⟨B4.toArray⟩, .int .i64 23, .pointer (some ⟨env.g, 0, none⟩), undef, .string ⟨B4.toArray⟩, .int .i64 23])
        (WI := fun env D w' => AwInv w3 5 (ch4 GB) S4 env (D 5) (D 11) (D 6) (D 12) w')
        (dsts := [some 35, some 36, some 37, some 38, some 39, some 40, some 41, some 34, some 42, some 43, some 44, some 8, none, some 9, some 10])
        (deps := [([], []), ([], []), ([], []), ([1], []), ([3], []), ([0, 1, 2, 3, 4], [0, 1, 2, 3, 4]), ([5, 4], [5]), ([6], [6]), ([7], [7]), ([7], [7]), ([7], [7]), ([], []), ([11, 8, 6, 0, 1, 2, 3, 4, 5, 6, 7, 8, 11], [11, 8]), ([9, 12, 0, 1, 2, 3, 4, 5, 6, 7, 8, 9, 11, 12], [9]), ([10, 13, 0, 1, 2, 3, 4, 5, 6, 7, 8, 9, 10, 11, 12, 13], [10])])
        (all := [0, 1, 2, 3, 4, 5, 6, 7, 8, 9, 10, 11, 12, 13, 14]) (by kernel_rfl) (by kernel_rfl) (by kernel_rfl) (by kernel_rfl) (by rfl) ⟨undef, 0⟩ ?_ ?_ (fun env => ⟨#[.bool false, .pointer (some ⟨g1, 0, none⟩), .pointer (some ⟨g2, 0, none⟩), .string ⟨#[120, 121]⟩, .int .i64 0, .pointer (some ⟨g3, 0, none⟩), .string ⟨B3.toArray⟩, .int .i64 23, .pointer (some ⟨env.g, 0, none⟩), .string ⟨B4.toArray⟩, .int .i64 23, undef, undef, undef, .agg #[.int .i64 1, .int .i64 1, .int .i64 8, .int .i64 0, .int .i64 0], .agg #[.string ⟨#[73, 72, 68, 82]⟩, .string GB], .tuple #[.agg #[.int .i64 1, .int .i64 1, .int .i64 8, .int .i64 0, .int .i64 0, .string ⟨#[]⟩, .string ⟨#[]⟩, .bool false], .string ⟨#[120, 121]⟩, .int .i64 0], .agg #[.string ⟨#[73, 72, 68, 82]⟩, .string GB], .agg #[.string ⟨#[73, 68, 65, 84]⟩, .string ⟨#[120]⟩], .agg #[.string ⟨#[73, 68, 65, 84]⟩, .string ⟨#[121]⟩], .agg #[.string ⟨#[73, 69, 78, 68]⟩, .string ⟨#[]⟩], s2, .tuple #[.agg #[.int .i64 1, .int .i64 1, .int .i64 8, .int .i64 0, .int .i64 0, .string ⟨#[]⟩, .string ⟨#[]⟩, .bool false], .string ⟨#[120, 121]⟩, .int .i64 0], .agg #[.int .i64 1, .int .i64 1, .int .i64 8, .int .i64 0, .int .i64 0, .string ⟨#[]⟩, .string ⟨#[]⟩, .bool false], .string ⟨#[120, 121]⟩, .int .i64 0, .tuple #[.agg #[.int .i64 S3.W, .int .i64 S3.H, .int .i64 S3.D, .int .i64 S3.C, .int .i64 S3.L, .string S3.pal, .string S3.trans, .bool S3.hasT], .string ⟨B3.toArray⟩, .int .i64 23], .agg #[.string ⟨#[73, 72, 68, 82]⟩, .string GB], .agg #[.string ⟨#[73, 69, 78, 68]⟩, .string ⟨#[]⟩], s3, .tuple #[.agg #[.int .i64 S3.W, .int .i64 S3.H, .int .i64 S3.D, .int .i64 S3.C, .int .i64 S3.L, .string S3.pal, .string S3.trans, .bool S3.hasT], .string ⟨B3.toArray⟩, .int .i64 23], .agg #[.int .i64 S3.W, .int .i64 S3.H, .int .i64 S3.D, .int .i64 S3.C, .int .i64 S3.L, .string S3.pal, .string S3.trans, .bool S3.hasT], .string ⟨B3.toArray⟩, .int .i64 23, .tuple #[.agg #[.int .i64 S4.W, .int .i64 S4.H, .int .i64 S4.D, .int .i64 S4.C, .int .i64 S4.L, .string S4.pal, .string S4.trans, .bool S4.hasT], .string ⟨B4.toArray⟩, .int .i64 23], .agg #[.string ⟨#[73, 72, 68, 82]⟩, .string GB], .agg #[.string ⟨#[73, 68, 65, 84]⟩, .string ⟨#[120]⟩], .agg #[.string ⟨#[116, 69, 88, 116]⟩, .string ⟨#[]⟩], .agg #[.string ⟨#[73, 68, 65, 84]⟩, .string ⟨#[121]⟩], .agg #[.string ⟨#[73, 69, 78, 68]⟩, .string ⟨#[]⟩], env.sl, .tuple #[.agg #[.int .i64 S4.W, .int .i64 S4.H, .int .i64 S4.D, .int .i64 S4.C, .int .i64 S4.L, .string S4.pal, .string S4.trans, .bool S4.hasT], .string ⟨B4.toArray⟩, .int .i64 23], .agg #[.int .i64 S4.W, .int .i64 S4.H, .int .i64 S4.D, .int .i64 S4.C, .int .i64 S4.L, .string S4.pal, .string S4.trans, .bool S4.hasT], .string ⟨B4.toArray⟩, .int .i64 23, undef, undef, undef, undef, undef, undef, undef, undef, undef, undef, undef, undef, undef, undef, undef, undef, undef, undef, undef, undef, undef, undef, undef, undef, undef, undef, undef, undef, undef, undef, undef, undef, undef, undef, undef, undef, undef, undef, undef, undef, undef, undef, undef, undef], []⟩) (fun _ => by kernel_rfl) ?_
      · refine StepsL.val ?_ ?_ ?_
        · intro env D wq hD hw
          simpa [upd] using hw
        · intro env D wq hd hw
          clear hd
          obtain ⟨k0, k1⟩ := cells2 (hw.eff.blockB HB1_4.out HG1_4.out)
          clear hw
          generalize hA : rfillL _ _ _ _ = a
          have q1 : a.tmps[1]? = some (.pointer (some ⟨g1, 0, none⟩)) := by subst hA; kernel_rfl
          have r1 : a.tmps.getD 1 undef = (.pointer (some ⟨g1, 0, none⟩)) := by subst hA; kernel_rfl
          clear hA
          unfold StepVal
          rw [if_pos (by rfl)]
          go_simp
        refine StepsL.one ?_ ?_
        · intro env D wq hD hd hw
          have HWW := Aside0.mk hw
          clear hd hw hD
          generalize hA : rfillL _ _ _ _ = a
          clear hA
          unfold StepOk
          rw [if_pos (by rfl)]
          go_simp
          refine (dat_calls ⟨#[120]⟩ _).mono ?_
          rintro e w' ⟨rfl, he⟩
          refine ⟨_, rfl, rfl, ?_⟩
          show AwInv _ _ _ _ _ (upd D 1 5) (upd D 1 11) (upd D 1 6) (upd D 1 12) _
          have e1 : upd D 1 5 = D 5 := by simp [upd]
          have e2 : upd D 1 11 = D 11 := by simp [upd]
          have e3 : upd D 1 6 = D 6 := by simp [upd]
          have e4 : upd D 1 12 = D 12 := by simp [upd]
          rw [e1, e2, e3, e4]
          exact HWW.out.mono he
        refine StepsL.val ?_ ?_ ?_
        · intro env D wq hD hw
          simpa [upd] using hw
        · intro env D wq hd hw
          clear hd hw
          generalize hA : rfillL _ _ _ _ = a
          clear hA
          unfold StepVal
          rw [if_pos (by rfl)]
          go_simp
        refine StepsL.one ?_ ?_
        · intro env D wq hD hd hw
          have HWW := Aside0.mk hw
          clear hd hw hD
          generalize hA : rfillL _ _ _ _ = a
          clear hA
          unfold StepOk
          rw [if_pos (by rfl)]
          go_simp
          refine (dat_calls ⟨#[121]⟩ _).mono ?_
          rintro e w' ⟨rfl, he⟩
          refine ⟨_, rfl, rfl, ?_⟩
          show AwInv _ _ _ _ _ (upd D 3 5) (upd D 3 11) (upd D 3 6) (upd D 3 12) _
          have e1 : upd D 3 5 = D 5 := by simp [upd]
          have e2 : upd D 3 11 = D 11 := by simp [upd]
          have e3 : upd D 3 6 = D 6 := by simp [upd]
          have e4 : upd D 3 12 = D 12 := by simp [upd]
          rw [e1, e2, e3, e4]
          exact HWW.out.mono he
        refine StepsL.one ?_ ?_
        · intro env D wq hD hd hw
          have HWW := Aside0.mk hw
          clear hd hw hD
          generalize hA : rfillL _ _ _ _ = a
          clear hA
          unfold StepOk
          rw [if_pos (by rfl)]
          go_simp
          refine (lends_calls _).mono ?_
          rintro e w' ⟨rfl, he⟩
          refine ⟨_, rfl, rfl, ?_⟩
          show AwInv _ _ _ _ _ (upd D 4 5) (upd D 4 11) (upd D 4 6) (upd D 4 12) _
          have e1 : upd D 4 5 = D 5 := by simp [upd]
          have e2 : upd D 4 11 = D 11 := by simp [upd]
          have e3 : upd D 4 6 = D 6 := by simp [upd]
          have e4 : upd D 4 12 = D 12 := by simp [upd]
          rw [e1, e2, e3, e4]
          exact HWW.out.mono he
        refine StepsL.any ?_ ?_
        · intro env D wq hD hd hw
          have HWW := Aside0.mk hw
          have HD := Aside0.mk (show D 5 = false from hD)
          clear hd hw hD
          generalize hA : rfillL _ _ _ _ = a
          have q35 : a.tmps[35]? = some (.agg #[.string ⟨#[73, 72, 68, 82]⟩, .string GB]) := by subst hA; kernel_rfl
          have r35 : a.tmps.getD 35 undef = (.agg #[.string ⟨#[73, 72, 68, 82]⟩, .string GB]) := by subst hA; kernel_rfl
          have q36 : a.tmps[36]? = some (.agg #[.string ⟨#[73, 68, 65, 84]⟩, .string ⟨#[120]⟩]) := by subst hA; kernel_rfl
          have r36 : a.tmps.getD 36 undef = (.agg #[.string ⟨#[73, 68, 65, 84]⟩, .string ⟨#[120]⟩]) := by subst hA; kernel_rfl
          have q37 : a.tmps[37]? = some (.agg #[.string ⟨#[116, 69, 88, 116]⟩, .string ⟨#[]⟩]) := by subst hA; kernel_rfl
          have r37 : a.tmps.getD 37 undef = (.agg #[.string ⟨#[116, 69, 88, 116]⟩, .string ⟨#[]⟩]) := by subst hA; kernel_rfl
          have q38 : a.tmps[38]? = some (.agg #[.string ⟨#[73, 68, 65, 84]⟩, .string ⟨#[121]⟩]) := by subst hA; kernel_rfl
          have r38 : a.tmps.getD 38 undef = (.agg #[.string ⟨#[73, 68, 65, 84]⟩, .string ⟨#[121]⟩]) := by subst hA; kernel_rfl
          have q39 : a.tmps[39]? = some (.agg #[.string ⟨#[73, 69, 78, 68]⟩, .string ⟨#[]⟩]) := by subst hA; kernel_rfl
          have r39 : a.tmps.getD 39 undef = (.agg #[.string ⟨#[73, 69, 78, 68]⟩, .string ⟨#[]⟩]) := by subst hA; kernel_rfl
          clear hA
          unfold StepOk
          rw [if_pos (by rfl)]
          go_simp
          refine ⟨_, rfl, { env with sl := .slice (some ⟨wq.heap.size, 0, none⟩) 5 5 }, rfl, ?_, ?_⟩
          · intro j hj
            have hne : j ≠ 5 := by rintro rfl; rw [HD.out] at hj; cases hj
            exact getD_of_ne _ _ 5 j rfl hne
          · show AwInv _ _ _ _ _ (upd D 5 5) (upd D 5 11) (upd D 5 6) (upd D 5 12) _
            have e5 : upd D 5 5 = true := by simp [upd]
            have e11 : upd D 5 11 = D 11 := by simp [upd]
            have e6 : upd D 5 6 = D 6 := by simp [upd]
            have e12 : upd D 5 12 = D 12 := by simp [upd]
            rw [e5, e11, e6, e12]
            have hm := HWW.out.mono ((Eff.refl _ _ _).alloc (.cells #[.string ⟨#[73, 72, 68, 82]⟩, .string GB, .string ⟨#[73, 68, 65, 84]⟩, .string ⟨#[120]⟩, .string ⟨#[116, 69, 88, 116]⟩, .string ⟨#[]⟩, .string ⟨#[73, 68, 65, 84]⟩, .string ⟨#[121]⟩, .string ⟨#[73, 69, 78, 68]⟩, .string ⟨#[]⟩] 30))
            refine { hm with sl := fun _ _ => ⟨_, rfl, ?_⟩ }
            exact chs_new (heap_alloc_new wq (.cells (chVals (ch4 GB)).toArray 30))
        refine StepsL.one ?_ ?_
        · intro env D wq hD hd hw
          have h4 : D 5 = true := hd 5 (by decide)
          have hc0 : D 12 = false := by
            cases hx : D 12 with
            | false => rfl
            | true => have := hw.cr hx; rw [show D 6 = false from hD] at this; cases this
          obtain ⟨A, qA, hA⟩ := hw.sl h4 hc0
          have HWW := Aside0.mk hw
          have HCH := Aside0.mk hA
          have QA := Aside0.mk qA
          clear hd hw hD h4 hc0 hA qA
          generalize hA : rfillL _ _ _ _ = a
          have q40 : a.tmps[40]? = some (env.sl) := by subst hA; kernel_rfl
          have r40 : a.tmps.getD 40 undef = (env.sl) := by subst hA; kernel_rfl
          clear hA
          unfold StepOk
          rw [if_pos (by rfl)]
          rw [QA.out] at q40 r40
          go_simp
          refine (HC4.out _ A HCH.out).mono ?_
          rintro e w' ⟨rfl, he⟩
          refine ⟨_, rfl, rfl, ?_⟩
          show AwInv _ _ _ _ _ (upd D 6 5) (upd D 6 11) (upd D 6 6) (upd D 6 12) _
          have e5 : upd D 6 5 = D 5 := by simp [upd]
          have e11 : upd D 6 11 = D 11 := by simp [upd]
          have e6 : upd D 6 6 = true := by simp [upd]
          have e12 : upd D 6 12 = D 12 := by simp [upd]
          rw [e5, e11, e6, e12]
          have hm := HWW.out.mono he
          exact { hm with cr := fun _ => rfl }
        refine StepsL.val ?_ ?_ ?_
        · intro env D wq hD hw
          simpa [upd] using hw
        · intro env D wq hd hw
          clear hd hw
          generalize hA : rfillL _ _ _ _ = a
          have q41 : a.tmps[41]? = some (.tuple #[.agg #[.int .i64 S4.W, .int .i64 S4.H, .int .i64 S4.D, .int .i64 S4.C, .int .i64 S4.L, .string S4.pal, .string S4.trans, .bool S4.hasT], .string ⟨B4.toArray⟩, .int .i64 23]) := by subst hA; kernel_rfl
          have r41 : a.tmps.getD 41 undef = (.tuple #[.agg #[.int .i64 S4.W, .int .i64 S4.H, .int .i64 S4.D, .int .i64 S4.C, .int .i64 S4.L, .string S4.pal, .string S4.trans, .bool S4.hasT], .string ⟨B4.toArray⟩, .int .i64 23]) := by subst hA; kernel_rfl
          clear hA
          unfold StepVal
          rw [if_pos (by rfl)]
          go_simp
        refine StepsL.val ?_ ?_ ?_
        · intro env D wq hD hw
          simpa [upd] using hw
        · intro env D wq hd hw
          clear hd hw
          generalize hA : rfillL _ _ _ _ = a
          have q34 : a.tmps[34]? = some (.tuple #[.agg #[.int .i64 S4.W, .int .i64 S4.H, .int .i64 S4.D, .int .i64 S4.C, .int .i64 S4.L, .string S4.pal, .string S4.trans, .bool S4.hasT], .string ⟨B4.toArray⟩, .int .i64 23]) := by subst hA; kernel_rfl
          have r34 : a.tmps.getD 34 undef = (.tuple #[.agg #[.int .i64 S4.W, .int .i64 S4.H, .int .i64 S4.D, .int .i64 S4.C, .int .i64 S4.L, .string S4.pal, .string S4.trans, .bool S4.hasT], .string ⟨B4.toArray⟩, .int .i64 23]) := by subst hA; kernel_rfl
          clear hA
          unfold StepVal
          rw [if_pos (by rfl)]
          go_simp
        refine StepsL.val ?_ ?_ ?_
        · intro env D wq hD hw
          simpa [upd] using hw
        · intro env D wq hd hw
          clear hd hw
          generalize hA : rfillL _ _ _ _ = a
          have q34 : a.tmps[34]? = some (.tuple #[.agg #[.int .i64 S4.W, .int .i64 S4.H, .int .i64 S4.D, .int .i64 S4.C, .int .i64 S4.L, .string S4.pal, .string S4.trans, .bool S4.hasT], .string ⟨B4.toArray⟩, .int .i64 23]) := by subst hA; kernel_rfl
          have r34 : a.tmps.getD 34 undef = (.tuple #[.agg #[.int .i64 S4.W, .int .i64 S4.H, .int .i64 S4.D, .int .i64 S4.C, .int .i64 S4.L, .string S4.pal, .string S4.trans, .bool S4.hasT], .string ⟨B4.toArray⟩, .int .i64 23]) := by subst hA; kernel_rfl
          clear hA
          unfold StepVal
          rw [if_pos (by rfl)]
          go_simp
        refine StepsL.val ?_ ?_ ?_
        · intro env D wq hD hw
          simpa [upd] using hw
        · intro env D wq hd hw
          clear hd hw
          generalize hA : rfillL _ _ _ _ = a
          have q34 : a.tmps[34]? = some (.tuple #[.agg #[.int .i64 S4.W, .int .i64 S4.H, .int .i64 S4.D, .int .i64 S4.C, .int .i64 S4.L, .string S4.pal, .string S4.trans, .bool S4.hasT], .string ⟨B4.toArray⟩, .int .i64 23]) := by subst hA; kernel_rfl
          have r34 : a.tmps.getD 34 undef = (.tuple #[.agg #[.int .i64 S4.W, .int .i64 S4.H, .int .i64 S4.D, .int .i64 S4.C, .int .i64 S4.L, .string S4.pal, .string S4.trans, .bool S4.hasT], .string ⟨B4.toArray⟩, .int .i64 23]) := by subst hA; kernel_rfl
          clear hA
          unfold StepVal
          rw [if_pos (by rfl)]
          go_simp
        refine StepsL.any ?_ ?_
        · intro env D wq hD hd hw
          have hc0 : D 12 = false := by
            cases hx : D 12 with
            | false => rfl
            | true => have := hw.ca hx; rw [show D 11 = false from hD] at this; cases this
          rw [hc0] at hw
          have HWW := Aside0.mk hw
          have HC0 := Aside0.mk hc0
          have HD := Aside0.mk (show D 11 = false from hD)
          clear hd hw hD hc0
          generalize hA : rfillL _ _ _ _ = a
          clear hA
          unfold StepOk
          rw [if_pos (by rfl)]
          go_simp
          refine ⟨_, rfl, { env with g := wq.heap.size }, rfl, ?_, ?_⟩
          · intro j hj
            have hne : j ≠ 11 := by rintro rfl; rw [HD.out] at hj; cases hj
            exact getD_of_ne _ _ 11 j rfl hne
          · show AwInv _ _ _ _ _ (upd D 11 5) (upd D 11 11) (upd D 11 6) (upd D 11 12) _
            have e5 : upd D 11 5 = D 5 := by simp [upd]
            have e11 : upd D 11 11 = true := by simp [upd]
            have e6 : upd D 11 6 = D 6 := by simp [upd]
            have e12 : upd D 11 12 = D 12 := by simp [upd]
            rw [e5, e11, e6, e12]
            rw [HC0.out]
            have hm := HWW.out.mono ((Eff.refl _ _ _).alloc (.cells shp0 36))
            exact { hm with al := fun _ => ⟨HWW.out.eff.size, heap_alloc_new wq _⟩, ca := fun h => by cases h }
        refine StepsL.one ?_ ?_
        · intro env D wq hD hd hw
          have h10 : D 11 = true := hd 11 (by decide)
          have h5 : D 6 = true := hd 6 (by decide)
          have hD' : D 12 = false := hD
          rw [h10, h5, hD'] at hw
          have h1 := (hw.al rfl).2
          rw [if_neg (by decide)] at h1
          obtain ⟨u0, u1, u2, u3, u4, u5, u6, u7⟩ := cells8 h1
          obtain ⟨f0, f1, f2, f3, f4, f5, f6, f7⟩ := frozen8 h1
          have HWW := Aside0.mk hw
          have H10 := Aside0.mk h10
          have H5 := Aside0.mk h5
          clear hd hw hD hD' h10 h5 h1
          generalize hA : rfillL _ _ _ _ = a
          have q8 : a.tmps[8]? = some (.pointer (some ⟨env.g, 0, none⟩)) := by subst hA; kernel_rfl
          have r8 : a.tmps.getD 8 undef = (.pointer (some ⟨env.g, 0, none⟩)) := by subst hA; kernel_rfl
          have q42 : a.tmps[42]? = some (.agg #[.int .i64 S4.W, .int .i64 S4.H, .int .i64 S4.D, .int .i64 S4.C, .int .i64 S4.L, .string S4.pal, .string S4.trans, .bool S4.hasT]) := by subst hA; kernel_rfl
          have r42 : a.tmps.getD 42 undef = (.agg #[.int .i64 S4.W, .int .i64 S4.H, .int .i64 S4.D, .int .i64 S4.C, .int .i64 S4.L, .string S4.pal, .string S4.trans, .bool S4.hasT]) := by subst hA; kernel_rfl
          clear hA
          unfold StepOk
          rw [if_pos (by rfl)]
          go_simp
          have e1 : upd D 12 5 = D 5 := by simp [upd]
          have e2 : upd D 12 11 = true := by simp [upd, H10.out]
          have e3 : upd D 12 6 = true := by simp [upd, H5.out]
          have e4 : upd D 12 12 = true := by simp [upd]
          show AwInv _ _ _ _ _ (upd D 12 5) (upd D 12 11) (upd D 12 6) (upd D 12 12) _
          rw [e1, e2, e3, e4]
          exact HWW.out.stored
        refine StepsL.val ?_ ?_ ?_
        · intro env D wq hD hw
          simpa [upd] using hw
        · intro env D wq hd hw
          clear hd hw
          generalize hA : rfillL _ _ _ _ = a
          have q43 : a.tmps[43]? = some (.string ⟨B4.toArray⟩) := by subst hA; kernel_rfl
          have r43 : a.tmps.getD 43 undef = (.string ⟨B4.toArray⟩) := by subst hA; kernel_rfl
          clear hA
          unfold StepVal
          rw [if_pos (by rfl)]
          go_simp
        refine StepsL.val ?_ ?_ ?_
        · intro env D wq hD hw
          simpa [upd] using hw
        · intro env D wq hd hw
          clear hd hw
          generalize hA : rfillL _ _ _ _ = a
          have q44 : a.tmps[44]? = some (.int .i64 23) := by subst hA; kernel_rfl
          have r44 : a.tmps.getD 44 undef = (.int .i64 23) := by subst hA; kernel_rfl
          clear hA
          unfold StepVal
          rw [if_pos (by rfl)]
          go_simp
        exact StepsL.nil
      · exact ⟨(Eff.refl _ _ _).drew, fun h => Bool.noConfusion h, fun h => Bool.noConfusion h, fun h => Bool.noConfusion h, fun h => Bool.noConfusion h⟩
      · intro env D w4 hD hw
        rw [hD 5 (by decide), hD 11 (by decide), hD 6 (by decide), hD 12 (by decide)] at hw
        obtain ⟨s4, g4⟩ := env
        have heff := hw.eff
        have hge := (hw.al rfl).1
        have hal := (hw.al rfl).2
        rw [if_pos rfl] at hal
        have hb1 := heff.blockB HB1_4.out HG1_4.out
        have hg1 := Nat.lt_of_lt_of_le HG1_4.out heff.size
        have he := HE_4.out.trans (heff.mono HE_4.out.size (by simp))
        have hb2 := heff.blockB HB2_4.out (blk_lt HB2_4.out)
        have HB1_5 := Aside0.mk hb1
        have HG1_5 := Aside0.mk hg1
        have HE_5 := Aside0.mk he
        have HB2_5 := Aside0.mk hb2
        clear hw heff hge hal hb1 hg1 he hb2 hD
        dsimp only
        go_wp2_with fail
        refine wp_region_all (Env := AwEnv) (vals := fun env => [.agg #[.string ⟨#[73, 72, 68, 82]⟩, .string GB], .agg #[.string ⟨#[65, 66, 67, 68]⟩, .string ⟨#[]⟩], .agg #[.string ⟨#[73, 68, 65, 84]⟩, .string ⟨#[120]⟩], .agg #[.string ⟨#[73, 69, 78, 68]⟩, .string ⟨#[]⟩], env.sl, .tuple #[.agg #[.int .i64 S5.W, .int .i64 S5.H, .int .i64 S5.D, .int .i64 S5.C, .int .i64 S5.L, .string S5.pal, .string S5.trans, .bool S5.hasT], .string ⟨B5.toArray⟩, .int .i64 27], .tuple #[.agg #[.int .i64 S5.W, .int .i64 S5.H, .int .i64 S5.D, .int .i64 S5.C, .int .i64 S5.L, .string S5.pal, .string S5.trans, .bool S5.hasT], .string ⟨B5.toArray⟩, .int .i64 27], .agg #[.int .i64 S5.W, .int .i64 S5.H, .int .i64 S5.D, .int .i64 S5.C, .int .i64 S5.L, .string S5.pal, .string S5.trans, .bool S5.hasT], .string ⟨B5.toArray⟩, .int .i64 27, .pointer (some ⟨env.g, 0, none⟩), undef, .string ⟨B5.toArray⟩, .int .i64 27])
          (WI := fun env D w' => AwInv w4 4 (ch5 GB) S5 env (D 4) (D 10) (D 5) (D 11) w')
          (dsts := [some 46, some 47, some 48, some 49, some 50, some 51, some 45, some 52, some 53, some 54, some 11, none, some 12, some 13])
          (deps := [([], []), ([], []), ([], []), ([2], []), ([0, 1, 2, 3], [0, 1, 2, 3]), ([4, 3], [4]), ([5], [5]), ([6], [6]), ([6], [6]), ([6], [6]), ([], []), ([10, 7, 5, 0, 1, 2, 3, 4, 5, 6, 7, 10], [10, 7]), ([8, 11, 0, 1, 2, 3, 4, 5, 6, 7, 8, 10, 11], [8]), ([9, 12, 0, 1, 2, 3, 4, 5, 6, 7, 8, 9, 10, 11, 12], [9])])
          (all := [0, 1, 2, 3, 4, 5, 6, 7, 8, 9, 10, 11, 12, 13]) (by kernel_rfl) (by kernel_rfl) (by kernel_rfl) (by kernel_rfl) (by rfl) ⟨undef, 0⟩ ?_ ?_ (fun env => ⟨#[.bool false, .pointer (some ⟨g1, 0, none⟩), .pointer (some ⟨g2, 0, none⟩), .string ⟨#[120, 121]⟩, .int .i64 0, .pointer (some ⟨g3, 0, none⟩), .string ⟨B3.toArray⟩, .int .i64 23, .pointer (some ⟨g4, 0, none⟩), .string ⟨B4.toArray⟩, .int .i64 23, .pointer (some ⟨env.g, 0, none⟩), .string ⟨B5.toArray⟩, .int .i64 27, .agg #[.int .i64 1, .int .i64 1, .int .i64 8, .int .i64 0, .int .i64 0], .agg #[.string ⟨#[73, 72, 68, 82]⟩, .string GB], .tuple #[.agg #[.int .i64 1, .int .i64 1, .int .i64 8, .int .i64 0, .int .i64 0, .string ⟨#[]⟩, .string ⟨#[]⟩, .bool false], .string ⟨#[120, 121]⟩, .int .i64 0], .agg #[.string ⟨#[73, 72, 68, 82]⟩, .string GB], .agg #[.string ⟨#[73, 68, 65, 84]⟩, .string ⟨#[120]⟩], .agg #[.string ⟨#[73, 68, 65, 84]⟩, .string ⟨#[121]⟩], .agg #[.string ⟨#[73, 69, 78, 68]⟩, .string ⟨#[]⟩], s2, .tuple #[.agg #[.int .i64 1, .int .i64 1, .int .i64 8, .int .i64 0, .int .i64 0, .string ⟨#[]⟩, .string ⟨#[]⟩, .bool false], .string ⟨#[120, 121]⟩, .int .i64 0], .agg #[.int .i64 1, .int .i64 1, .int .i64 8, .int .i64 0, .int .i64 0, .string ⟨#[]⟩, .string ⟨#[]⟩, .bool false], .string ⟨#[120, 121]⟩, .int .i64 0, .tuple #[.agg #[.int .i64 S3.W, .int .i64 S3.H, .int .i64 S3.D, .int .i64 S3.C, .int .i64 S3.L, .string S3.pal, .string S3.trans, .bool S3.hasT], .string ⟨B3.toArray⟩, .int .i64 23], .agg #[.string ⟨#[73, 72, 68, 82]⟩, .string GB], .agg #[.string ⟨#[73, 69, 78, 68]⟩, .string ⟨#[]⟩], s3, .tuple #[.agg #[.int .i64 S3.W, .int .i64 S3.H, .int .i64 S3.D, .int .i64 S3.C, .int .i64 S3.L, .string S3.pal, .string S3.trans, .bool S3.hasT], .string ⟨B3.toArray⟩, .int .i64 23], .agg #[.int .i64 S3.W, .int .i64 S3.H, .int .i64 S3.D, .int .i64 S3.C, .int .i64 S3.L, .string S3.pal, .string S3.trans, .bool S3.hasT], .string ⟨B3.toArray⟩, .int .i64 23, .tuple #[.agg #[.int .i64 S4.W, .int .i64 S4.H, .int .i64 S4.D, .int .i64 S4.C, .int .i64 S4.L, .string S4.pal, .string S4.trans, .bool S4.hasT], .string ⟨B4.toArray⟩, .int .i64 23], .agg #[.string ⟨#[73, 72, 68, 82]⟩, .string GB], .agg #[.string ⟨#[73, 68, 65, 84]⟩, .string ⟨#[120]⟩], .agg #[.string ⟨#[116, 69, 88, 116]⟩, .string ⟨#[]⟩], .agg #[.string ⟨#[73, 68, 65, 84]⟩, .string ⟨#[121]⟩], .agg #[.string ⟨#[73, 69, 78, 68]⟩, .string ⟨#[]⟩], s4, .tuple #[.agg #[.int .i64 S4.W, .int .i64 S4.H, .int .i64 S4.D, .int .i64 S4.C, .int .i64 S4.L, .string S4.pal, .string S4.trans, .bool S4.hasT], .string ⟨B4.toArray⟩, .int .i64 23], .agg #[.int .i64 S4.W, .int .i64 S4.H, .int .i64 S4.D, .int .i64 S4.C, .int .i64 S4.L, .string S4.pal, .string S4.trans, .bool S4.hasT], .string ⟨B4.toArray⟩, .int .i64 23, .tuple #[.agg #[.int .i64 S5.W, .int .i64 S5.H, .int .i64 S5.D, .int .i64 S5.C, .int .i64 S5.L, .string S5.pal, .string S5.trans, .bool S5.hasT], .string ⟨B5.toArray⟩, .int .i64 27], .agg #[.string ⟨#[73, 72, 68, 82]⟩, .string GB], .agg #[.string ⟨#[65, 66, 67, 68]⟩, .string ⟨#[]⟩], .agg #[.string ⟨#[73, 68, 65, 84]⟩, .string ⟨#[120]⟩], .agg #[.string ⟨#[73, 69, 78, 68]⟩, .string ⟨#[]⟩], env.sl, .tuple #[.agg #[.int .i64 S5.W, .int .i64 S5.H, .int .i64 S5.D, .int .i64 S5.C, .int .i64 S5.L, .string S5.pal, .string S5.trans, .bool S5.hasT], .string ⟨B5.toArray⟩, .int .i64 27], .agg #[.int .i64 S5.W, .int .i64 S5.H, .int .i64 S5.D, .int .i64 S5.C, .int .i64 S5.L, .string S5.pal, .string S5.trans, .bool S5.hasT], .string ⟨B5.toArray⟩, .int .i64 27, undef, undef, undef, undef, undef, undef, undef, undef, undef, undef, undef, undef, undef, undef, undef, undef, undef, undef, undef, undef, undef, undef, undef, undef, undef, undef, undef, undef, undef, undef, undef, undef, undef, undef], []⟩) (fun _ => by kernel_rfl) ?_
        · refine StepsL.val ?_ ?_ ?_
          · intro env D wq hD hw
            simpa [upd] using hw
          · intro env D wq hd hw
            clear hd
            obtain ⟨k0, k1⟩ := cells2 (hw.eff.blockB HB1_5.out HG1_5.out)
            clear hw
            generalize hA : rfillL _ _ _ _ = a
            have q1 : a.tmps[1]? = some (.pointer (some ⟨g1, 0, none⟩)) := by subst hA; kernel_rfl
            have r1 : a.tmps.getD 1 undef = (.pointer (some ⟨g1, 0, none⟩)) := by subst hA; kernel_rfl
            clear hA
            unfold StepVal
            rw [if_pos (by rfl)]
            go_simp
          refine StepsL.val ?_ ?_ ?_
          · intro env D wq hD hw
            simpa [upd] using hw
          · intro env D wq hd hw
            clear hd hw
            generalize hA : rfillL _ _ _ _ = a
            clear hA
            unfold StepVal
            rw [if_pos (by rfl)]
            go_simp
          refine StepsL.one ?_ ?_
          · intro env D wq hD hd hw
            have HWW := Aside0.mk hw
            clear hd hw hD
            generalize hA : rfillL _ _ _ _ = a
            clear hA
            unfold StepOk
            rw [if_pos (by rfl)]
            go_simp
            refine (dat_calls ⟨#[120]⟩ _).mono ?_
            rintro e w' ⟨rfl, he⟩
            refine ⟨_, rfl, rfl, ?_⟩
            show AwInv _ _ _ _ _ (upd D 2 4) (upd D 2 10) (upd D 2 5) (upd D 2 11) _
            have e1 : upd D 2 4 = D 4 := by simp [upd]
            have e2 : upd D 2 10 = D 10 := by simp [upd]
            have e3 : upd D 2 5 = D 5 := by simp [upd]
            have e4 : upd D 2 11 = D 11 := by simp [upd]
            rw [e1, e2, e3, e4]
            exact HWW.out.mono he
          refine StepsL.one ?_ ?_
          · intro env D wq hD hd hw
            have HWW := Aside0.mk hw
            clear hd hw hD
            generalize hA : rfillL _ _ _ _ = a
            clear hA
            unfold StepOk
            rw [if_pos (by rfl)]
            go_simp
            refine (lends_calls _).mono ?_
            rintro e w' ⟨rfl, he⟩
            refine ⟨_, rfl, rfl, ?_⟩
            show AwInv _ _ _ _ _ (upd D 3 4) (upd D 3 10) (upd D 3 5) (upd D 3 11) _
            have e1 : upd D 3 4 = D 4 := by simp [upd]
            have e2 : upd D 3 10 = D 10 := by simp [upd]
            have e3 : upd D 3 5 = D 5 := by simp [upd]
            have e4 : upd D 3 11 = D 11 := by simp [upd]
            rw [e1, e2, e3, e4]
            exact HWW.out.mono he
          refine StepsL.any ?_ ?_
          · intro env D wq hD hd hw
            have HWW := Aside0.mk hw
            have HD := Aside0.mk (show D 4 = false from hD)
            clear hd hw hD
            generalize hA : rfillL _ _ _ _ = a
            have q46 : a.tmps[46]? = some (.agg #[.string ⟨#[73, 72, 68, 82]⟩, .string GB]) := by subst hA; kernel_rfl
            have r46 : a.tmps.getD 46 undef = (.agg #[.string ⟨#[73, 72, 68, 82]⟩, .string GB]) := by subst hA; kernel_rfl
            have q47 : a.tmps[47]? = some (.agg #[.string ⟨#[65, 66, 67, 68]⟩, .string ⟨#[]⟩]) := by subst hA; kernel_rfl
            have r47 : a.tmps.getD 47 undef = (.agg #[.string ⟨#[65, 66, 67, 68]⟩, .string ⟨#[]⟩]) := by subst hA; kernel_rfl
            have q48 : a.tmps[48]? = some (.agg #[.string ⟨#[73, 68, 65, 84]⟩, .string ⟨#[120]⟩]) := by subst hA; kernel_rfl
            have r48 : a.tmps.getD 48 undef = (.agg #[.string ⟨#[73, 68, 65, 84]⟩, .string ⟨#[120]⟩]) := by subst hA; kernel_rfl
            have q49 : a.tmps[49]? = some (.agg #[.string ⟨#[73, 69, 78, 68]⟩, .string ⟨#[]⟩]) := by subst hA; kernel_rfl
            have r49 : a.tmps.getD 49 undef = (.agg #[.string ⟨#[73, 69, 78, 68]⟩, .string ⟨#[]⟩]) := by subst hA; kernel_rfl
            clear hA
            unfold StepOk
            rw [if_pos (by rfl)]
            go_simp
            refine ⟨_, rfl, { env with sl := .slice (some ⟨wq.heap.size, 0, none⟩) 4 4 }, rfl, ?_, ?_⟩
            · intro j hj
              have hne : j ≠ 4 := by rintro rfl; rw [HD.out] at hj; cases hj
              exact getD_of_ne _ _ 4 j rfl hne
            · show AwInv _ _ _ _ _ (upd D 4 4) (upd D 4 10) (upd D 4 5) (upd D 4 11) _
              have e4 : upd D 4 4 = true := by simp [upd]
              have e10 : upd D 4 10 = D 10 := by simp [upd]
              have e5 : upd D 4 5 = D 5 := by simp [upd]
              have e11 : upd D 4 11 = D 11 := by simp [upd]
              rw [e4, e10, e5, e11]
              have hm := HWW.out.mono ((Eff.refl _ _ _).alloc (.cells #[.string ⟨#[73, 72, 68, 82]⟩, .string GB, .string ⟨#[65, 66, 67, 68]⟩, .string ⟨#[]⟩, .string ⟨#[73, 68, 65, 84]⟩, .string ⟨#[120]⟩, .string ⟨#[73, 69, 78, 68]⟩, .string ⟨#[]⟩] 30))
              refine { hm with sl := fun _ _ => ⟨_, rfl, ?_⟩ }
              exact chs_new (heap_alloc_new wq (.cells (chVals (ch5 GB)).toArray 30))
          refine StepsL.one ?_ ?_
          · intro env D wq hD hd hw
            have h4 : D 4 = true := hd 4 (by decide)
            have hc0 : D 11 = false := by
              cases hx : D 11 with
              | false => rfl
              | true => have := hw.cr hx; rw [show D 5 = false from hD] at this; cases this
            obtain ⟨A, qA, hA⟩ := hw.sl h4 hc0
            have HWW := Aside0.mk hw
            have HCH := Aside0.mk hA
            have QA := Aside0.mk qA
            clear hd hw hD h4 hc0 hA qA
            generalize hA : rfillL _ _ _ _ = a
            have q50 : a.tmps[50]? = some (env.sl) := by subst hA; kernel_rfl
            have r50 : a.tmps.getD 50 undef = (env.sl) := by subst hA; kernel_rfl
            clear hA
            unfold StepOk
            rw [if_pos (by rfl)]
            rw [QA.out] at q50 r50
            go_simp
            refine (HC5.out _ A HCH.out).mono ?_
            rintro e w' ⟨rfl, he⟩
            refine ⟨_, rfl, rfl, ?_⟩
            show AwInv _ _ _ _ _ (upd D 5 4) (upd D 5 10) (upd D 5 5) (upd D 5 11) _
            have e4 : upd D 5 4 = D 4 := by simp [upd]
            have e10 : upd D 5 10 = D 10 := by simp [upd]
            have e5 : upd D 5 5 = true := by simp [upd]
            have e11 : upd D 5 11 = D 11 := by simp [upd]
            rw [e4, e10, e5, e11]
            have hm := HWW.out.mono he
            exact { hm with cr := fun _ => rfl }
          refine StepsL.val ?_ ?_ ?_
          · intro env D wq hD hw
            simpa [upd] using hw
          · intro env D wq hd hw
            clear hd hw
            generalize hA : rfillL _ _ _ _ = a
            have q51 : a.tmps[51]? = some (.tuple #[.agg #[.int .i64 S5.W, .int .i64 S5.H, .int .i64 S5.D, .int .i64 S5.C, .int .i64 S5.L, .string S5.pal, .string S5.trans, .bool S5.hasT], .string ⟨B5.toArray⟩, .int .i64 27]) := by subst hA; kernel_rfl
            have r51 : a.tmps.getD 51 undef = (.tuple #[.agg #[.int .i64 S5.W, .int .i64 S5.H, .int .i64 S5.D, .int .i64 S5.C, .int .i64 S5.L, .string S5.pal, .string S5.trans, .bool S5.hasT], .string ⟨B5.toArray⟩, .int .i64 27]) := by subst hA; kernel_rfl
            clear hA
            unfold StepVal
            rw [if_pos (by rfl)]
            go_simp
          refine StepsL.val ?_ ?_ ?_
          · intro env D wq hD hw
            simpa [upd] using hw
          · intro env D wq hd hw
            clear hd hw
            generalize hA : rfillL _ _ _ _ = a
            have q45 : a.tmps[45]? = some (.tuple #[.agg #[.int .i64 S5.W, .int .i64 S5.H, .int .i64 S5.D, .int .i64 S5.C, .int .i64 S5.L, .string S5.pal, .string S5.trans, .bool S5.hasT], .string ⟨B5.toArray⟩, .int .i64 27]) := by subst hA; kernel_rfl
            have r45 : a.tmps.getD 45 undef = (.tuple #[.agg #[.int .i64 S5.W, .int .i64 S5.H, .int .i64 S5.D, .int .i64 S5.C, .int .i64 S5.L, .string S5.pal, .string S5.trans, .bool S5.hasT], .string ⟨B5.toArray⟩, .int .i64 27]) := by subst hA; kernel_rfl
            clear hA
            unfold StepVal
            rw [if_pos (by rfl)]
            go_simp
          refine StepsL.val ?_ ?_ ?_
          · intro env D wq hD hw
            simpa [upd] using hw
          · intro env D wq hd hw
            clear hd hw
            generalize hA : rfillL _ _ _ _ = a
            have q45 : a.tmps[45]? = some (.tuple #[.agg #[.int .i64 S5.W, .int .i64 S5.H, .int .i64 S5.D, .int .i64 S5.C, .int .i64 S5.L, .string S5.pal, .string S5.trans, .bool S5.hasT], .string ⟨B5.toArray⟩, .int .i64 27]) := by subst hA; kernel_rfl
            have r45 : a.tmps.getD 45 undef = (.tuple #[.agg #[.int .i64 S5.W, .int .i64 S5.H, .int .i64 S5.D, .int .i64 S5.C, .int .i64 S5.L, .string S5.pal, .string S5.trans, .bool S5.hasT], .string ⟨B5.toArray⟩, .int .i64 27]) := by subst hA; kernel_rfl
            clear hA
            unfold StepVal
            rw [if_pos (by rfl)]
            go_simp
          refine StepsL.val ?_ ?_ ?_
          · intro env D wq hD hw
            simpa [upd] using hw
          · intro env D wq hd hw
            clear hd hw
            generalize hA : rfillL _ _ _ _ = a
            have q45 : a.tmps[45]? = some (.tuple #[.agg #[.int .i64 S5.W, .int .i64 S5.H, .int .i64 S5.D, .int .i64 S5.C, .int .i64 S5.L, .string S5.pal, .string S5.trans, .bool S5.hasT], .string ⟨B5.toArray⟩, .int .i64 27]) := by subst hA; kernel_rfl
            have r45 : a.tmps.getD 45 undef = (.tuple #[.agg #[.int .i64 S5.W, .int .i64 S5.H, .int .i64 S5.D, .int .i64 S5.C, .int .i64 S5.L, .string S5.pal, .string S5.trans, .bool S5.hasT], .string ⟨B5.toArray⟩, .int .i64 27]) := by subst hA; kernel_rfl
            clear hA
            unfold StepVal
            rw [if_pos (by rfl)]
            go_simp
          refine StepsL.any ?_ ?_
          · intro env D wq hD hd hw
            have hc0 : D 11 = false := by
              cases hx : D 11 with
              | false => rfl
              | true => have := hw.ca hx; rw [show D 10 = false from hD] at this; cases this
            rw [hc0] at hw
            have HWW := Aside0.mk hw
            have HC0 := Aside0.mk hc0
            have HD := Aside0.mk (show D 10 = false from hD)
            clear hd hw hD hc0
            generalize hA : rfillL _ _ _ _ = a
            clear hA
            unfold StepOk
            rw [if_pos (by rfl)]
            go_simp
            refine ⟨_, rfl, { env with g := wq.heap.size }, rfl, ?_, ?_⟩
            · intro j hj
              have hne : j ≠ 10 := by rintro rfl; rw [HD.out] at hj; cases hj
              exact getD_of_ne _ _ 10 j rfl hne
            · show AwInv _ _ _ _ _ (upd D 10 4) (upd D 10 10) (upd D 10 5) (upd D 10 11) _
              have e4 : upd D 10 4 = D 4 := by simp [upd]
              have e10 : upd D 10 10 = true := by simp [upd]
              have e5 : upd D 10 5 = D 5 := by simp [upd]
              have e11 : upd D 10 11 = D 11 := by simp [upd]
              rw [e4, e10, e5, e11]
              rw [HC0.out]
              have hm := HWW.out.mono ((Eff.refl _ _ _).alloc (.cells shp0 36))
              exact { hm with al := fun _ => ⟨HWW.out.eff.size, heap_alloc_new wq _⟩, ca := fun h => by cases h }
          refine StepsL.one ?_ ?_
          · intro env D wq hD hd hw
            have h10 : D 10 = true := hd 10 (by decide)
            have h5 : D 5 = true := hd 5 (by decide)
            have hD' : D 11 = false := hD
            rw [h10, h5, hD'] at hw
            have h1 := (hw.al rfl).2
            rw [if_neg (by decide)] at h1
            obtain ⟨u0, u1, u2, u3, u4, u5, u6, u7⟩ := cells8 h1
            obtain ⟨f0, f1, f2, f3, f4, f5, f6, f7⟩ := frozen8 h1
            have HWW := Aside0.mk hw
            have H10 := Aside0.mk h10
            have H5 := Aside0.mk h5
            clear hd hw hD hD' h10 h5 h1
            generalize hA : rfillL _ _ _ _ = a
            have q11 : a.tmps[11]? = some (.pointer (some ⟨env.g, 0, none⟩)) := by subst hA; kernel_rfl
            have r11 : a.tmps.getD 11 undef = (.pointer (some ⟨env.g, 0, none⟩)) := by subst hA; kernel_rfl
            have q52 : a.tmps[52]? = some (.agg #[.int .i64 S5.W, .int .i64 S5.H, .int .i64 S5.D, .int .i64 S5.C, .int .i64 S5.L, .string S5.pal, .string S5.trans, .bool S5.hasT]) := by subst hA; kernel_rfl
            have r52 : a.tmps.getD 52 undef = (.agg #[.int .i64 S5.W, .int .i64 S5.H, .int .i64 S5.D, .int .i64 S5.C, .int .i64 S5.L, .string S5.pal, .string S5.trans, .bool S5.hasT]) := by subst hA; kernel_rfl
            clear hA
            unfold StepOk
            rw [if_pos (by rfl)]
            go_simp
            have e1 : upd D 11 4 = D 4 := by simp [upd]
            have e2 : upd D 11 10 = true := by simp [upd, H10.out]
            have e3 : upd D 11 5 = true := by simp [upd, H5.out]
            have e4 : upd D 11 11 = true := by simp [upd]
            show AwInv _ _ _ _ _ (upd D 11 4) (upd D 11 10) (upd D 11 5) (upd D 11 11) _
            rw [e1, e2, e3, e4]
            exact HWW.out.stored
          refine StepsL.val ?_ ?_ ?_
          · intro env D wq hD hw
            simpa [upd] using hw
          · intro env D wq hd hw
            clear hd hw
            generalize hA : rfillL _ _ _ _ = a
            have q53 : a.tmps[53]? = some (.string ⟨B5.toArray⟩) := by subst hA; kernel_rfl
            have r53 : a.tmps.getD 53 undef = (.string ⟨B5.toArray⟩) := by subst hA; kernel_rfl
            clear hA
            unfold StepVal
            rw [if_pos (by rfl)]
            go_simp
          refine StepsL.val ?_ ?_ ?_
          · intro env D wq hD hw
            simpa [upd] using hw
          · intro env D wq hd hw
            clear hd hw
            generalize hA : rfillL _ _ _ _ = a
            have q54 : a.tmps[54]? = some (.int .i64 27) := by subst hA; kernel_rfl
            have r54 : a.tmps.getD 54 undef = (.int .i64 27) := by subst hA; kernel_rfl
            clear hA
            unfold StepVal
            rw [if_pos (by rfl)]
            go_simp
          exact StepsL.nil
        · exact ⟨(Eff.refl _ _ _).drew, fun h => Bool.noConfusion h, fun h => Bool.noConfusion h, fun h => Bool.noConfusion h, fun h => Bool.noConfusion h⟩
        · intro env D w5 hD hw
          rw [hD 4 (by decide), hD 10 (by decide), hD 5 (by decide), hD 11 (by decide)] at hw
          obtain ⟨s5, g5⟩ := env
          have heff := hw.eff
          have hge := (hw.al rfl).1
          have hal := (hw.al rfl).2
          rw [if_pos rfl] at hal
          have hb1 := heff.blockB HB1_5.out HG1_5.out
          have hg1 := Nat.lt_of_lt_of_le HG1_5.out heff.size
          have he := HE_5.out.trans (heff.mono HE_5.out.size (by simp))
          have hb2 := heff.blockB HB2_5.out (blk_lt HB2_5.out)
          have HB1_6 := Aside0.mk hb1
          have HG1_6 := Aside0.mk hg1
          have HE_6 := Aside0.mk he
          have HB2_6 := Aside0.mk hb2
          clear hw heff hge hal hb1 hg1 he hb2 hD
          dsimp only
          clear HC2 HC3 HC4 HC5 hr3 hr4 hr5 HAB HA
          go_wp2_with fail
          refine wp_region_all (Env := Unit) (vals := fun _ => [.int .i64 0, .bool true, .bool true, .agg #[.int .i64 1, .int .i64 1, .int .i64 8, .int .i64 0, .int .i64 0, .string ⟨#[]⟩, .string ⟨#[]⟩, .bool false], .agg #[.int .i64 1, .int .i64 1, .int .i64 8, .int .i64 0, .int .i64 0], .agg #[.int .i64 1, .int .i64 1, .int .i64 8, .int .i64 0, .int .i64 0, .string ⟨#[]⟩, .string ⟨#[]⟩, .bool false], .bool true, .bool true, .bool true, .string ⟨#[120, 121]⟩, .bool true, .bool true, .bool true, .int .i64 23, .bool true, .bool true, .bool true, .int .i64 23, .bool true, .bool true, .bool true, .int .i64 27, .bool true, .bool true, .bool true, .agg #[.int .i64 1, .int .i64 1, .int .i64 8, .int .i64 1, .int .i64 0], .int .i64 24, .bool true, .bool true, .bool true, .agg #[.int .i64 1025, .int .i64 1, .int .i64 8, .int .i64 0, .int .i64 0], .int .i64 5, .bool true, .bool true, .bool true])
            (WI := fun _ D w' => Eff w5.heap.size [] w5 w')
            (dsts := [some 55, some 56, some 57, some 58, some 59, some 60, some 61, some 62, some 63, some 64, some 65, some 66, some 67, some 68, some 69, some 70, some 71, some 72, some 73, some 74, some 75, some 76, some 77, some 78, some 79, some 80, some 81, some 82, some 83, some 84, some 85, some 86, some 87, some 88, some 0])
            (deps := [([], []), ([0], [0]), ([1], [1]), ([2], [2]), ([2, 2], [2]), ([4, 2], [4, 2]), ([3, 5, 2], [3, 5, 2]), ([2, 6], [2, 6]), ([7, 4], [7]), ([8], [8]), ([9, 8], [9, 8]), ([8, 10], [8, 10]), ([11, 8], [11]), ([12], [12]), ([13, 12], [13, 12]), ([12, 14], [12, 14]), ([15, 12], [15]), ([16], [16]), ([17, 16], [17, 16]), ([16, 18], [16, 18]), ([19, 16], [19]), ([20], [20]), ([21, 20], [21, 20]), ([20, 22], [20, 22]), ([23, 20], [23]), ([24], [24]), ([25, 24, 24], [25, 24]), ([26, 24], [26, 24]), ([24, 27], [24, 27]), ([28, 26], [28]), ([29], [29]), ([30, 29, 29], [30, 29]), ([31, 29], [31, 29]), ([29, 32], [29, 32]), ([33, 31, 0, 1, 2, 3, 4, 5, 6, 7, 8, 9, 10, 11, 12, 13, 14, 15, 16, 17, 18, 19, 20, 21, 22, 23, 24, 25, 26, 27, 28, 29, 30, 31, 32, 33], [33])])
            (all := [0, 1, 2, 3, 4, 5, 6, 7, 8, 9, 10, 11, 12, 13, 14, 15, 16, 17, 18, 19, 20, 21, 22, 23, 24, 25, 26, 27, 28, 29, 30, 31, 32, 33, 34]) (by kernel_rfl) (by kernel_rfl) (by kernel_rfl) (by kernel_rfl) (by rfl) () ?_ ?_ (fun _ => ⟨#[.bool true, .pointer (some ⟨g1, 0, none⟩), .pointer (some ⟨g2, 0, none⟩), .string ⟨#[120, 121]⟩, .int .i64 0, .pointer (some ⟨g3, 0, none⟩), .string ⟨B3.toArray⟩, .int .i64 23, .pointer (some ⟨g4, 0, none⟩), .string ⟨B4.toArray⟩, .int .i64 23, .pointer (some ⟨g5, 0, none⟩), .string ⟨B5.toArray⟩, .int .i64 27, .agg #[.int .i64 1, .int .i64 1, .int .i64 8, .int .i64 0, .int .i64 0], .agg #[.string ⟨#[73, 72, 68, 82]⟩, .string GB], .tuple #[.agg #[.int .i64 1, .int .i64 1, .int .i64 8, .int .i64 0, .int .i64 0, .string ⟨#[]⟩, .string ⟨#[]⟩, .bool false], .string ⟨#[120, 121]⟩, .int .i64 0], .agg #[.string ⟨#[73, 72, 68, 82]⟩, .string GB], .agg #[.string ⟨#[73, 68, 65, 84]⟩, .string ⟨#[120]⟩], .agg #[.string ⟨#[73, 68, 65, 84]⟩, .string ⟨#[121]⟩], .agg #[.string ⟨#[73, 69, 78, 68]⟩, .string ⟨#[]⟩], s2, .tuple #[.agg #[.int .i64 1, .int .i64 1, .int .i64 8, .int .i64 0, .int .i64 0, .string ⟨#[]⟩, .string ⟨#[]⟩, .bool false], .string ⟨#[120, 121]⟩, .int .i64 0], .agg #[.int .i64 1, .int .i64 1, .int .i64 8, .int .i64 0, .int .i64 0, .string ⟨#[]⟩, .string ⟨#[]⟩, .bool false], .string ⟨#[120, 121]⟩, .int .i64 0, .tuple #[.agg #[.int .i64 S3.W, .int .i64 S3.H, .int .i64 S3.D, .int .i64 S3.C, .int .i64 S3.L, .string S3.pal, .string S3.trans, .bool S3.hasT], .string ⟨B3.toArray⟩, .int .i64 23], .agg #[.string ⟨#[73, 72, 68, 82]⟩, .string GB], .agg #[.string ⟨#[73, 69, 78, 68]⟩, .string ⟨#[]⟩], s3, .tuple #[.agg #[.int .i64 S3.W, .int .i64 S3.H, .int .i64 S3.D, .int .i64 S3.C, .int .i64 S3.L, .string S3.pal, .string S3.trans, .bool S3.hasT], .string ⟨B3.toArray⟩, .int .i64 23], .agg #[.int .i64 S3.W, .int .i64 S3.H, .int .i64 S3.D, .int .i64 S3.C, .int .i64 S3.L, .string S3.pal, .string S3.trans, .bool S3.hasT], .string ⟨B3.toArray⟩, .int .i64 23, .tuple #[.agg #[.int .i64 S4.W, .int .i64 S4.H, .int .i64 S4.D, .int .i64 S4.C, .int .i64 S4.L, .string S4.pal, .string S4.trans, .bool S4.hasT], .string ⟨B4.toArray⟩, .int .i64 23], .agg #[.string ⟨#[73, 72, 68, 82]⟩, .string GB], .agg #[.string ⟨#[73, 68, 65, 84]⟩, .string ⟨#[120]⟩], .agg #[.string ⟨#[116, 69, 88, 116]⟩, .string ⟨#[]⟩], .agg #[.string ⟨#[73, 68, 65, 84]⟩, .string ⟨#[121]⟩], .agg #[.string ⟨#[73, 69, 78, 68]⟩, .string ⟨#[]⟩], s4, .tuple #[.agg #[.int .i64 S4.W, .int .i64 S4.H, .int .i64 S4.D, .int .i64 S4.C, .int .i64 S4.L, .string S4.pal, .string S4.trans, .bool S4.hasT], .string ⟨B4.toArray⟩, .int .i64 23], .agg #[.int .i64 S4.W, .int .i64 S4.H, .int .i64 S4.D, .int .i64 S4.C, .int .i64 S4.L, .string S4.pal, .string S4.trans, .bool S4.hasT], .string ⟨B4.toArray⟩, .int .i64 23, .tuple #[.agg #[.int .i64 S5.W, .int .i64 S5.H, .int .i64 S5.D, .int .i64 S5.C, .int .i64 S5.L, .string S5.pal, .string S5.trans, .bool S5.hasT], .string ⟨B5.toArray⟩, .int .i64 27], .agg #[.string ⟨#[73, 72, 68, 82]⟩, .string GB], .agg #[.string ⟨#[65, 66, 67, 68]⟩, .string ⟨#[]⟩], .agg #[.string ⟨#[73, 68, 65, 84]⟩, .string ⟨#[120]⟩], .agg #[.string ⟨#[73, 69, 78, 68]⟩, .string ⟨#[]⟩], s5, .tuple #[.agg #[.int .i64 S5.W, .int .i64 S5.H, .int .i64 S5.D, .int .i64 S5.C, .int .i64 S5.L, .string S5.pal, .string S5.trans, .bool S5.hasT], .string ⟨B5.toArray⟩, .int .i64 27], .agg #[.int .i64 S5.W, .int .i64 S5.H, .int .i64 S5.D, .int .i64 S5.C, .int .i64 S5.L, .string S5.pal, .string S5.trans, .bool S5.hasT], .string ⟨B5.toArray⟩, .int .i64 27, .int .i64 0, .bool true, .bool true, .agg #[.int .i64 1, .int .i64 1, .int .i64 8, .int .i64 0, .int .i64 0, .string ⟨#[]⟩, .string ⟨#[]⟩, .bool false], .agg #[.int .i64 1, .int .i64 1, .int .i64 8, .int .i64 0, .int .i64 0], .agg #[.int .i64 1, .int .i64 1, .int .i64 8, .int .i64 0, .int .i64 0, .string ⟨#[]⟩, .string ⟨#[]⟩, .bool false], .bool true, .bool true, .bool true, .string ⟨#[120, 121]⟩, .bool true, .bool true, .bool true, .int .i64 23, .bool true, .bool true, .bool true, .int .i64 23, .bool true, .bool true, .bool true, .int .i64 27, .bool true, .bool true, .bool true, .agg #[.int .i64 1, .int .i64 1, .int .i64 8, .int .i64 1, .int .i64 0], .int .i64 24, .bool true, .bool true, .bool true, .agg #[.int .i64 1025, .int .i64 1, .int .i64 8, .int .i64 0, .int .i64 0], .int .i64 5, .bool true, .bool true], []⟩) (fun _ => by kernel_rfl) ?_
          · refine StepsL.val ?_ ?_ ?_
            · intro env D wq hD hw
              exact hw
            · intro env D wq hd hw
              clear hd hw
              generalize hA : rfillL _ _ _ _ = a
              have q4 : a.tmps[4]? = some (.int .i64 0) := by subst hA; kernel_rfl
              have r4 : a.tmps.getD 4 undef = (.int .i64 0) := by subst hA; kernel_rfl
              clear hA
              unfold StepVal
              rw [if_pos (by rfl)]
              go_simp
            refine StepsL.val ?_ ?_ ?_
            · intro env D wq hD hw
              exact hw
            · intro env D wq hd hw
              clear hd hw
              generalize hA : rfillL _ _ _ _ = a
              have q55 : a.tmps[55]? = some (.int .i64 0) := by subst hA; kernel_rfl
              have r55 : a.tmps.getD 55 undef = (.int .i64 0) := by subst hA; kernel_rfl
              clear hA
              unfold StepVal
              rw [if_pos (by rfl)]
              go_simp
            refine StepsL.val ?_ ?_ ?_
            · intro env D wq hD hw
              exact hw
            · intro env D wq hd hw
              clear hd hw
              generalize hA : rfillL _ _ _ _ = a
              have q56 : a.tmps[56]? = some (.bool true) := by subst hA; kernel_rfl
              have r56 : a.tmps.getD 56 undef = (.bool true) := by subst hA; kernel_rfl
              clear hA
              unfold StepVal
              rw [if_pos (by rfl)]
              go_simp
            refine StepsL.val ?_ ?_ ?_
            · intro env D wq hD hw
              exact hw
            · intro env D wq hd hw
              clear hd
              obtain ⟨u0, u1, u2, u3, u4, u5, u6, u7⟩ := cells8 (hw.blockB HB2_6.out (blk_lt HB2_6.out))
              clear hw
              generalize hA : rfillL _ _ _ _ = a
              have q2 : a.tmps[2]? = some (.pointer (some ⟨g2, 0, none⟩)) := by subst hA; kernel_rfl
              have r2 : a.tmps.getD 2 undef = (.pointer (some ⟨g2, 0, none⟩)) := by subst hA; kernel_rfl
              have q57 : a.tmps[57]? = some (.bool true) := by subst hA; kernel_rfl
              have r57 : a.tmps.getD 57 undef = (.bool true) := by subst hA; kernel_rfl
              clear hA
              unfold StepVal
              rw [if_pos (show Region.wanted _ _ = true from by simp [Region.wanted, yielded, q57])]
              go_simp
            refine StepsL.one ?_ ?_
            · intro env D wq hD hd hw
              have HWW := Aside0.mk hw
              clear hd hw hD
              generalize hA : rfillL _ _ _ _ = a
              have q57 : a.tmps[57]? = some (.bool true) := by subst hA; kernel_rfl
              have r57 : a.tmps.getD 57 undef = (.bool true) := by subst hA; kernel_rfl
              clear hA
              unfold StepOk
              rw [if_pos (show Region.wanted _ _ = true from by simp [Region.wanted, yielded, q57])]
              go_simp
              refine (grey_calls _).mono ?_
              rintro e w' ⟨rfl, he⟩
              refine ⟨_, rfl, rfl, ?_⟩
              exact HWW.out.trans (he.mono HWW.out.size (by simp))
            refine StepsL.val ?_ ?_ ?_
            · intro env D wq hD hw
              exact hw
            · intro env D wq hd hw
              clear hd hw
              generalize hA : rfillL _ _ _ _ = a
              have q59 : a.tmps[59]? = some (.agg #[.int .i64 1, .int .i64 1, .int .i64 8, .int .i64 0, .int .i64 0]) := by subst hA; kernel_rfl
              have r59 : a.tmps.getD 59 undef = (.agg #[.int .i64 1, .int .i64 1, .int .i64 8, .int .i64 0, .int .i64 0]) := by subst hA; kernel_rfl
              have q57 : a.tmps[57]? = some (.bool true) := by subst hA; kernel_rfl
              have r57 : a.tmps.getD 57 undef = (.bool true) := by subst hA; kernel_rfl
              clear hA
              unfold StepVal
              rw [if_pos (show Region.wanted _ _ = true from by simp [Region.wanted, yielded, q57])]
              go_simp
            refine StepsL.val ?_ ?_ ?_
            · intro env D wq hD hw
              exact hw
            · intro env D wq hd hw
              clear hd hw
              generalize hA : rfillL _ _ _ _ = a
              have q58 : a.tmps[58]? = some (.agg #[.int .i64 1, .int .i64 1, .int .i64 8, .int .i64 0, .int .i64 0, .string ⟨#[]⟩, .string ⟨#[]⟩, .bool false]) := by subst hA; kernel_rfl
              have r58 : a.tmps.getD 58 undef = (.agg #[.int .i64 1, .int .i64 1, .int .i64 8, .int .i64 0, .int .i64 0, .string ⟨#[]⟩, .string ⟨#[]⟩, .bool false]) := by subst hA; kernel_rfl
              have q60 : a.tmps[60]? = some (.agg #[.int .i64 1, .int .i64 1, .int .i64 8, .int .i64 0, .int .i64 0, .string ⟨#[]⟩, .string ⟨#[]⟩, .bool false]) := by subst hA; kernel_rfl
              have r60 : a.tmps.getD 60 undef = (.agg #[.int .i64 1, .int .i64 1, .int .i64 8, .int .i64 0, .int .i64 0, .string ⟨#[]⟩, .string ⟨#[]⟩, .bool false]) := by subst hA; kernel_rfl
              have q57 : a.tmps[57]? = some (.bool true) := by subst hA; kernel_rfl
              have r57 : a.tmps.getD 57 undef = (.bool true) := by subst hA; kernel_rfl
              clear hA
              unfold StepVal
              rw [if_pos (show Region.wanted _ _ = true from by simp [Region.wanted, yielded, q57])]
              go_simp
            refine StepsL.val ?_ ?_ ?_
            · intro env D wq hD hw
              exact hw
            · intro env D wq hd hw
              clear hd hw
              generalize hA : rfillL _ _ _ _ = a
              have q57 : a.tmps[57]? = some (.bool true) := by subst hA; kernel_rfl
              have r57 : a.tmps.getD 57 undef = (.bool true) := by subst hA; kernel_rfl
              have q61 : a.tmps[61]? = some (.bool true) := by subst hA; kernel_rfl
              have r61 : a.tmps.getD 61 undef = (.bool true) := by subst hA; kernel_rfl
              clear hA
              unfold StepVal
              rw [if_pos (by rfl)]
              go_simp
            refine StepsL.val ?_ ?_ ?_
            · intro env D wq hD hw
              exact hw
            · intro env D wq hd hw
              clear hd hw
              generalize hA : rfillL _ _ _ _ = a
              have q62 : a.tmps[62]? = some (.bool true) := by subst hA; kernel_rfl
              have r62 : a.tmps.getD 62 undef = (.bool true) := by subst hA; kernel_rfl
              clear hA
              unfold StepVal
              rw [if_pos (by rfl)]
              go_simp
            refine StepsL.val ?_ ?_ ?_
            · intro env D wq hD hw
              exact hw
            · intro env D wq hd hw
              clear hd hw
              generalize hA : rfillL _ _ _ _ = a
              have q3 : a.tmps[3]? = some (.string ⟨#[120, 121]⟩) := by subst hA; kernel_rfl
              have r3 : a.tmps.getD 3 undef = (.string ⟨#[120, 121]⟩) := by subst hA; kernel_rfl
              have q63 : a.tmps[63]? = some (.bool true) := by subst hA; kernel_rfl
              have r63 : a.tmps.getD 63 undef = (.bool true) := by subst hA; kernel_rfl
              clear hA
              unfold StepVal
              rw [if_pos (show Region.wanted _ _ = true from by simp [Region.wanted, yielded, q63])]
              go_simp
            refine StepsL.val ?_ ?_ ?_
            · intro env D wq hD hw
              exact hw
            · intro env D wq hd hw
              clear hd hw
              generalize hA : rfillL _ _ _ _ = a
              have q64 : a.tmps[64]? = some (.string ⟨#[120, 121]⟩) := by subst hA; kernel_rfl
              have r64 : a.tmps.getD 64 undef = (.string ⟨#[120, 121]⟩) := by subst hA; kernel_rfl
              have q63 : a.tmps[63]? = some (.bool true) := by subst hA; kernel_rfl
              have r63 : a.tmps.getD 63 undef = (.bool true) := by subst hA; kernel_rfl
              clear hA
              unfold StepVal
              rw [if_pos (show Region.wanted _ _ = true from by simp [Region.wanted, yielded, q63])]
              go_simp
            refine StepsL.val ?_ ?_ ?_
            · intro env D wq hD hw
              exact hw
            · intro env D wq hd hw
              clear hd hw
              generalize hA : rfillL _ _ _ _ = a
              have q63 : a.tmps[63]? = some (.bool true) := by subst hA; kernel_rfl
              have r63 : a.tmps.getD 63 undef = (.bool true) := by subst hA; kernel_rfl
              have q65 : a.tmps[65]? = some (.bool true) := by subst hA; kernel_rfl
              have r65 : a.tmps.getD 65 undef = (.bool true) := by subst hA; kernel_rfl
              clear hA
              unfold StepVal
              rw [if_pos (by rfl)]
              go_simp
            refine StepsL.val ?_ ?_ ?_
            · intro env D wq hD hw
              exact hw
            · intro env D wq hd hw
              clear hd hw
              generalize hA : rfillL _ _ _ _ = a
              have q66 : a.tmps[66]? = some (.bool true) := by subst hA; kernel_rfl
              have r66 : a.tmps.getD 66 undef = (.bool true) := by subst hA; kernel_rfl
              clear hA
              unfold StepVal
              rw [if_pos (by rfl)]
              go_simp
            refine StepsL.val ?_ ?_ ?_
            · intro env D wq hD hw
              exact hw
            · intro env D wq hd hw
              clear hd hw
              generalize hA : rfillL _ _ _ _ = a
              have q7 : a.tmps[7]? = some (.int .i64 23) := by subst hA; kernel_rfl
              have r7 : a.tmps.getD 7 undef = (.int .i64 23) := by subst hA; kernel_rfl
              have q67 : a.tmps[67]? = some (.bool true) := by subst hA; kernel_rfl
              have r67 : a.tmps.getD 67 undef = (.bool true) := by subst hA; kernel_rfl
              clear hA
              unfold StepVal
              rw [if_pos (show Region.wanted _ _ = true from by simp [Region.wanted, yielded, q67])]
              go_simp
            refine StepsL.val ?_ ?_ ?_
            · intro env D wq hD hw
              exact hw
            · intro env D wq hd hw
              clear hd hw
              generalize hA : rfillL _ _ _ _ = a
              have q68 : a.tmps[68]? = some (.int .i64 23) := by subst hA; kernel_rfl
              have r68 : a.tmps.getD 68 undef = (.int .i64 23) := by subst hA; kernel_rfl
              have q67 : a.tmps[67]? = some (.bool true) := by subst hA; kernel_rfl
              have r67 : a.tmps.getD 67 undef = (.bool true) := by subst hA; kernel_rfl
              clear hA
              unfold StepVal
              rw [if_pos (show Region.wanted _ _ = true from by simp [Region.wanted, yielded, q67])]
              go_simp
            refine StepsL.val ?_ ?_ ?_
            · intro env D wq hD hw
              exact hw
            · intro env D wq hd hw
              clear hd hw
              generalize hA : rfillL _ _ _ _ = a
              have q67 : a.tmps[67]? = some (.bool true) := by subst hA; kernel_rfl
              have r67 : a.tmps.getD 67 undef = (.bool true) := by subst hA; kernel_rfl
              have q69 : a.tmps[69]? = some (.bool true) := by subst hA; kernel_rfl
              have r69 : a.tmps.getD 69 undef = (.bool true) := by subst hA; kernel_rfl
              clear hA
              unfold StepVal
              rw [if_pos (by rfl)]
              go_simp
            refine StepsL.val ?_ ?_ ?_
            · intro env D wq hD hw
              exact hw
            · intro env D wq hd hw
              clear hd hw
              generalize hA : rfillL _ _ _ _ = a
              have q70 : a.tmps[70]? = some (.bool true) := by subst hA; kernel_rfl
              have r70 : a.tmps.getD 70 undef = (.bool true) := by subst hA; kernel_rfl
              clear hA
              unfold StepVal
              rw [if_pos (by rfl)]
              go_simp
            refine StepsL.val ?_ ?_ ?_
            · intro env D wq hD hw
              exact hw
            · intro env D wq hd hw
              clear hd hw
              generalize hA : rfillL _ _ _ _ = a
              have q10 : a.tmps[10]? = some (.int .i64 23) := by subst hA; kernel_rfl
              have r10 : a.tmps.getD 10 undef = (.int .i64 23) := by subst hA; kernel_rfl
              have q71 : a.tmps[71]? = some (.bool true) := by subst hA; kernel_rfl
              have r71 : a.tmps.getD 71 undef = (.bool true) := by subst hA; kernel_rfl
              clear hA
              unfold StepVal
              rw [if_pos (show Region.wanted _ _ = true from by simp [Region.wanted, yielded, q71])]
              go_simp
            refine StepsL.val ?_ ?_ ?_
            · intro env D wq hD hw
              exact hw
            · intro env D wq hd hw
              clear hd hw
              generalize hA : rfillL _ _ _ _ = a
              have q72 : a.tmps[72]? = some (.int .i64 23) := by subst hA; kernel_rfl
              have r72 : a.tmps.getD 72 undef = (.int .i64 23) := by subst hA; kernel_rfl
              have q71 : a.tmps[71]? = some (.bool true) := by subst hA; kernel_rfl
              have r71 : a.tmps.getD 71 undef = (.bool true) := by subst hA; kernel_rfl
              clear hA
              unfold StepVal
              rw [if_pos (show Region.wanted _ _ = true from by simp [Region.wanted, yielded, q71])]
              go_simp
            refine StepsL.val ?_ ?_ ?_
            · intro env D wq hD hw
              exact hw
            · intro env D wq hd hw
              clear hd hw
              generalize hA : rfillL _ _ _ _ = a
              have q71 : a.tmps[71]? = some (.bool true) := by subst hA; kernel_rfl
              have r71 : a.tmps.getD 71 undef = (.bool true) := by subst hA; kernel_rfl
              have q73 : a.tmps[73]? = some (.bool true) := by subst hA; kernel_rfl
              have r73 : a.tmps.getD 73 undef = (.bool true) := by subst hA; kernel_rfl
              clear hA
              unfold StepVal
              rw [if_pos (by rfl)]
              go_simp
            refine StepsL.val ?_ ?_ ?_
            · intro env D wq hD hw
              exact hw
            · intro env D wq hd hw
              clear hd hw
              generalize hA : rfillL _ _ _ _ = a
              have q74 : a.tmps[74]? = some (.bool true) := by subst hA; kernel_rfl
              have r74 : a.tmps.getD 74 undef = (.bool true) := by subst hA; kernel_rfl
              clear hA
              unfold StepVal
              rw [if_pos (by rfl)]
              go_simp
            refine StepsL.val ?_ ?_ ?_
            · intro env D wq hD hw
              exact hw
            · intro env D wq hd hw
              clear hd hw
              generalize hA : rfillL _ _ _ _ = a
              have q13 : a.tmps[13]? = some (.int .i64 27) := by subst hA; kernel_rfl
              have r13 : a.tmps.getD 13 undef = (.int .i64 27) := by subst hA; kernel_rfl
              have q75 : a.tmps[75]? = some (.bool true) := by subst hA; kernel_rfl
              have r75 : a.tmps.getD 75 undef = (.bool true) := by subst hA; kernel_rfl
              clear hA
              unfold StepVal
              rw [if_pos (show Region.wanted _ _ = true from by simp [Region.wanted, yielded, q75])]
              go_simp
            refine StepsL.val ?_ ?_ ?_
            · intro env D wq hD hw
              exact hw
            · intro env D wq hd hw
              clear hd hw
              generalize hA : rfillL _ _ _ _ = a
              have q76 : a.tmps[76]? = some (.int .i64 27) := by subst hA; kernel_rfl
              have r76 : a.tmps.getD 76 undef = (.int .i64 27) := by subst hA; kernel_rfl
              have q75 : a.tmps[75]? = some (.bool true) := by subst hA; kernel_rfl
              have r75 : a.tmps.getD 75 undef = (.bool true) := by subst hA; kernel_rfl
              clear hA
              unfold StepVal
              rw [if_pos (show Region.wanted _ _ = true from by simp [Region.wanted, yielded, q75])]
              go_simp
            refine StepsL.val ?_ ?_ ?_
            · intro env D wq hD hw
              exact hw
            · intro env D wq hd hw
              clear hd hw
              generalize hA : rfillL _ _ _ _ = a
              have q75 : a.tmps[75]? = some (.bool true) := by subst hA; kernel_rfl
              have r75 : a.tmps.getD 75 undef = (.bool true) := by subst hA; kernel_rfl
              have q77 : a.tmps[77]? = some (.bool true) := by subst hA; kernel_rfl
              have r77 : a.tmps.getD 77 undef = (.bool true) := by subst hA; kernel_rfl
              clear hA
              unfold StepVal
              rw [if_pos (by rfl)]
              go_simp
            refine StepsL.val ?_ ?_ ?_
            · intro env D wq hD hw
              exact hw
            · intro env D wq hd hw
              clear hd hw
              generalize hA : rfillL _ _ _ _ = a
              have q78 : a.tmps[78]? = some (.bool true) := by subst hA; kernel_rfl
              have r78 : a.tmps.getD 78 undef = (.bool true) := by subst hA; kernel_rfl
              clear hA
              unfold StepVal
              rw [if_pos (by rfl)]
              go_simp
            refine StepsL.val ?_ ?_ ?_
            · intro env D wq hD hw
              exact hw
            · intro env D wq hd hw
              clear hd hw
              generalize hA : rfillL _ _ _ _ = a
              have q79 : a.tmps[79]? = some (.bool true) := by subst hA; kernel_rfl
              have r79 : a.tmps.getD 79 undef = (.bool true) := by subst hA; kernel_rfl
              clear hA
              unfold StepVal
              rw [if_pos (show Region.wanted _ _ = true from by simp [Region.wanted, yielded, q79])]
              go_simp
            refine StepsL.one ?_ ?_
            · intro env D wq hD hd hw
              have HWW := Aside0.mk hw
              clear hd hw hD
              generalize hA : rfillL _ _ _ _ = a
              have q80 : a.tmps[80]? = some (.agg #[.int .i64 1, .int .i64 1, .int .i64 8, .int .i64 1, .int .i64 0]) := by subst hA; kernel_rfl
              have r80 : a.tmps.getD 80 undef = (.agg #[.int .i64 1, .int .i64 1, .int .i64 8, .int .i64 1, .int .i64 0]) := by subst hA; kernel_rfl
              have q79 : a.tmps[79]? = some (.bool true) := by subst hA; kernel_rfl
              have r79 : a.tmps.getD 79 undef = (.bool true) := by subst hA; kernel_rfl
              clear hA
              unfold StepOk
              rw [if_pos (show Region.wanted _ _ = true from by simp [Region.wanted, yielded, q79])]
              go_simp
              refine (right_calls 1 1 8 1 0 _ (by decide) (by decide)).mono ?_
              rintro e w' ⟨rfl, he⟩
              rw [right1]
              refine ⟨_, rfl, rfl, ?_⟩
              exact HWW.out.trans (he.mono HWW.out.size (by simp))
            refine StepsL.val ?_ ?_ ?_
            · intro env D wq hD hw
              exact hw
            · intro env D wq hd hw
              clear hd hw
              generalize hA : rfillL _ _ _ _ = a
              have q81 : a.tmps[81]? = some (.int .i64 24) := by subst hA; kernel_rfl
              have r81 : a.tmps.getD 81 undef = (.int .i64 24) := by subst hA; kernel_rfl
              have q79 : a.tmps[79]? = some (.bool true) := by subst hA; kernel_rfl
              have r79 : a.tmps.getD 79 undef = (.bool true) := by subst hA; kernel_rfl
              clear hA
              unfold StepVal
              rw [if_pos (show Region.wanted _ _ = true from by simp [Region.wanted, yielded, q79])]
              go_simp
            refine StepsL.val ?_ ?_ ?_
            · intro env D wq hD hw
              exact hw
            · intro env D wq hd hw
              clear hd hw
              generalize hA : rfillL _ _ _ _ = a
              have q79 : a.tmps[79]? = some (.bool true) := by subst hA; kernel_rfl
              have r79 : a.tmps.getD 79 undef = (.bool true) := by subst hA; kernel_rfl
              have q82 : a.tmps[82]? = some (.bool true) := by subst hA; kernel_rfl
              have r82 : a.tmps.getD 82 undef = (.bool true) := by subst hA; kernel_rfl
              clear hA
              unfold StepVal
              rw [if_pos (by rfl)]
              go_simp
            refine StepsL.val ?_ ?_ ?_
            · intro env D wq hD hw
              exact hw
            · intro env D wq hd hw
              clear hd hw
              generalize hA : rfillL _ _ _ _ = a
              have q83 : a.tmps[83]? = some (.bool true) := by subst hA; kernel_rfl
              have r83 : a.tmps.getD 83 undef = (.bool true) := by subst hA; kernel_rfl
              clear hA
              unfold StepVal
              rw [if_pos (by rfl)]
              go_simp
            refine StepsL.val ?_ ?_ ?_
            · intro env D wq hD hw
              exact hw
            · intro env D wq hd hw
              clear hd hw
              generalize hA : rfillL _ _ _ _ = a
              have q84 : a.tmps[84]? = some (.bool true) := by subst hA; kernel_rfl
              have r84 : a.tmps.getD 84 undef = (.bool true) := by subst hA; kernel_rfl
              clear hA
              unfold StepVal
              rw [if_pos (show Region.wanted _ _ = true from by simp [Region.wanted, yielded, q84])]
              go_simp
            refine StepsL.one ?_ ?_
            · intro env D wq hD hd hw
              have HWW := Aside0.mk hw
              clear hd hw hD
              generalize hA : rfillL _ _ _ _ = a
              have q85 : a.tmps[85]? = some (.agg #[.int .i64 1025, .int .i64 1, .int .i64 8, .int .i64 0, .int .i64 0]) := by subst hA; kernel_rfl
              have r85 : a.tmps.getD 85 undef = (.agg #[.int .i64 1025, .int .i64 1, .int .i64 8, .int .i64 0, .int .i64 0]) := by subst hA; kernel_rfl
              have q84 : a.tmps[84]? = some (.bool true) := by subst hA; kernel_rfl
              have r84 : a.tmps.getD 84 undef = (.bool true) := by subst hA; kernel_rfl
              clear hA
              unfold StepOk
              rw [if_pos (show Region.wanted _ _ = true from by simp [Region.wanted, yielded, q84])]
              go_simp
              refine (right_calls 1025 1 8 0 0 _ (by decide) (by decide)).mono ?_
              rintro e w' ⟨rfl, he⟩
              rw [right2]
              refine ⟨_, rfl, rfl, ?_⟩
              exact HWW.out.trans (he.mono HWW.out.size (by simp))
            refine StepsL.val ?_ ?_ ?_
            · intro env D wq hD hw
              exact hw
            · intro env D wq hd hw
              clear hd hw
              generalize hA : rfillL _ _ _ _ = a
              have q86 : a.tmps[86]? = some (.int .i64 5) := by subst hA; kernel_rfl
              have r86 : a.tmps.getD 86 undef = (.int .i64 5) := by subst hA; kernel_rfl
              have q84 : a.tmps[84]? = some (.bool true) := by subst hA; kernel_rfl
              have r84 : a.tmps.getD 84 undef = (.bool true) := by subst hA; kernel_rfl
              clear hA
              unfold StepVal
              rw [if_pos (show Region.wanted _ _ = true from by simp [Region.wanted, yielded, q84])]
              go_simp
            refine StepsL.val ?_ ?_ ?_
            · intro env D wq hD hw
              exact hw
            · intro env D wq hd hw
              clear hd hw
              generalize hA : rfillL _ _ _ _ = a
              have q84 : a.tmps[84]? = some (.bool true) := by subst hA; kernel_rfl
              have r84 : a.tmps.getD 84 undef = (.bool true) := by subst hA; kernel_rfl
              have q87 : a.tmps[87]? = some (.bool true) := by subst hA; kernel_rfl
              have r87 : a.tmps.getD 87 undef = (.bool true) := by subst hA; kernel_rfl
              clear hA
              unfold StepVal
              rw [if_pos (by rfl)]
              go_simp
            refine StepsL.val ?_ ?_ ?_
            · intro env D wq hD hw
              exact hw
            · intro env D wq hd hw
              clear hd hw
              generalize hA : rfillL _ _ _ _ = a
              have q88 : a.tmps[88]? = some (.bool true) := by subst hA; kernel_rfl
              have r88 : a.tmps.getD 88 undef = (.bool true) := by subst hA; kernel_rfl
              clear hA
              unfold StepVal
              rw [if_pos (by rfl)]
              go_simp
            exact StepsL.nil
          · exact (Eff.refl _ _ _).drew
          · intro env D w6 hD hw
            have H8 := Aside0.mk (HE_6.out.trans (hw.mono HE_6.out.size (by simp)))
            clear hw hD
            dsimp only
            go_wp2_with fail
            refine bodyPost_ret (v := .bool true) (by simp [results, Try.results13, go_sem]) rfl (Ret.mk' rfl ?_)
            repeat (first | (with_reducible exact H8.out) | (with_reducible apply Eff.alloc) | (with_reducible apply Eff.drewN))
end Go.Proofs.Ytgkmfedjmmleeaa
