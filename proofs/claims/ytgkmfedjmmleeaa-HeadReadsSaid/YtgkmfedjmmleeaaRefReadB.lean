/- vitrineref08.Read, walked: the ways that end early; and all of it. -/
import Derived.Test.YtgkmfedjmmleeaaRefRead
namespace Go.Proofs.Ytgkmfedjmmleeaa
open Go.RowKit Go.Proofs.YtgkmfedjmmleeaaW.PrintWords PHeadReads
set_option linter.unusedVariables false
set_option linter.unusedSimpArgs false

set_option maxRecDepth 100000 in
set_option maxHeartbeats 20000000 in
theorem refRead_nil (w : World) (A : Option Addr) (c : Nat) :
    Calls Try.prog 18 #[.slice A 0 c] w (Ret (readRes (shpZero, [], 23)) (fun w' => Eff w.heap.size [] w w')) := by
  go_enter Try.func18, Try.ntmps18
  go_upto_region 2 with (fail)
  have hb2 := blk_alloc (heap_alloc_new w (.cells shp0 36)) (.cells shp0 36)
  have hb5 := heap_alloc2_new w (.cells shp0 36) (.cells shp0 36)
  have hw1 := ((Eff.refl w.heap.size [] w).alloc (.cells shp0 36)).alloc (.cells shp0 36)
  generalize hW1 : (World.alloc _ _ : World) = W1
  have HB24 := Aside0.mk (show W1.heap[w.heap.size]? = some (.cells shp0 36 (0, 0)) from by rw [← hW1]; exact hb2)
  have HB5 := Aside0.mk (show W1.heap[w.heap.size + 1]? = some (.cells shp0 36 (0, 0)) from by rw [← hW1]; exact hb5)
  have HE4 := Aside0.mk (show Eff w.heap.size [] w W1 from by rw [← hW1]; exact hw1)
  clear hb2 hb5 hw1 hW1
  have hwr := blk_lt HB24.out
  have hwr5 := blk_lt HB5.out
  obtain ⟨z0, z1, z2, z3, z4, z5, z6, z7⟩ := cells8 HB24.out
  obtain ⟨f0, f1, f2, f3, f4, f5, f6, f7⟩ := frozen8 HB24.out
  obtain ⟨y0, y1, y2, y3, y4, y5, y6, y7⟩ := cells8 HB5.out
  go_wp2
  refine bodyPost_ret (results_cell3 rfl _ _ w.heap.size 36 shp0 (0, 0) _ rfl ?a1 Try.underlying36 rfl (by kernel_rfl)) rfl (Ret.mk' ?a2 ?a3)
  case a1 =>
    (with_reducible repeat (refine blk_alloc ?_ _))
    have e := blk_store8 (v0 := .int .i64 0) (v1 := .int .i64 0) (v2 := .int .i64 0) (v3 := .int .i64 0) (v4 := .int .i64 0) (v5 := .string ⟨#[]⟩) (v6 := .string ⟨#[]⟩) (v7 := .bool false) HB24.out
    simp only [storeL, Nat.zero_add, Nat.reduceAdd] at e
    with_reducible refine e.trans ?_
    rfl
  case a2 => kernel_rfl
  case a3 =>
    have h2 := HE4.out
    repeat (first | (with_reducible exact h2) | (with_reducible apply Eff.alloc) | (with_reducible refine Eff.setNew ?_ (by first | exact Nat.le_refl _ | omega) _ _))

set_option maxRecDepth 100000 in
set_option maxHeartbeats 20000000 in
theorem refRead_type (w : World) (ad : Addr) (c : Nat) (T D : ByteArray) (l : List (ByteArray × ByteArray)) (h : Chs w (some ad) ((T, D) :: l)) (hl : l.length < 1000000) (hT : T.toList ≠ tIHDR) :
    Calls Try.prog 18 #[.slice (some ad) (l.length + 1) c] w (Ret (readRes (shpZero, [], 23)) (fun w' => Eff w.heap.size [] w w')) := by
  obtain ⟨ad', e0, k0, k1⟩ := h 0 T D rfl
  injection e0 with e0
  subst e0
  have hadb : ad.block < w.heap.size := by have := World.block_lt_of_cell? w _ k0; rwa [add_block] at this
  rw [Nat.zero_mul, add_zero_] at k0 k1
  have hl0 : (((l.length : Int) + 1) == 0) = false := by simp; omega
  have ht1 : (T.toList == [73, 72, 68, 82]) = false := by rw [beq_eq_false_iff_ne]; exact hT
  clear h hT
  go_enter Try.func18, Try.ntmps18
  go_upto_region 2 with (fail)
  have hb2 := blk_alloc (heap_alloc_new w (.cells shp0 36)) (.cells shp0 36)
  have hb5 := heap_alloc2_new w (.cells shp0 36) (.cells shp0 36)
  have hw1 := ((Eff.refl w.heap.size [] w).alloc (.cells shp0 36)).alloc (.cells shp0 36)
  generalize hW1 : (World.alloc _ _ : World) = W1
  have HB24 := Aside0.mk (show W1.heap[w.heap.size]? = some (.cells shp0 36 (0, 0)) from by rw [← hW1]; exact hb2)
  have HB5 := Aside0.mk (show W1.heap[w.heap.size + 1]? = some (.cells shp0 36 (0, 0)) from by rw [← hW1]; exact hb5)
  have HE4 := Aside0.mk (show Eff w.heap.size [] w W1 from by rw [← hW1]; exact hw1)
  clear hb2 hb5 hw1 hW1
  have hwr := blk_lt HB24.out
  have hwr5 := blk_lt HB5.out
  obtain ⟨z0, z1, z2, z3, z4, z5, z6, z7⟩ := cells8 HB24.out
  obtain ⟨f0, f1, f2, f3, f4, f5, f6, f7⟩ := frozen8 HB24.out
  obtain ⟨y0, y1, y2, y3, y4, y5, y6, y7⟩ := cells8 HB5.out
  replace k0 := pw_cell_below (HE4.out.below' (Nat.le_refl _)) k0
  replace k1 := pw_cell_below (HE4.out.below' (Nat.le_refl _)) k1
  go_wp2
  refine bodyPost_ret (results_cell3 rfl _ _ w.heap.size 36 shp0 (0, 0) _ rfl ?a1 Try.underlying36 rfl (by kernel_rfl)) rfl (Ret.mk' ?a2 ?a3)
  case a1 =>
    (with_reducible repeat (refine blk_alloc ?_ _))
    have e := blk_store8 (v0 := .int .i64 0) (v1 := .int .i64 0) (v2 := .int .i64 0) (v3 := .int .i64 0) (v4 := .int .i64 0) (v5 := .string ⟨#[]⟩) (v6 := .string ⟨#[]⟩) (v7 := .bool false) HB24.out
    simp only [storeL, Nat.zero_add, Nat.reduceAdd] at e
    with_reducible refine e.trans ?_
    rfl
  case a2 => kernel_rfl
  case a3 =>
    have h2 := HE4.out
    repeat (first | (with_reducible exact h2) | (with_reducible apply Eff.alloc) | (with_reducible refine Eff.setNew ?_ (by first | exact Nat.le_refl _ | omega) _ _))

set_option maxRecDepth 100000 in
set_option maxHeartbeats 20000000 in
theorem refRead_len (w : World) (ad : Addr) (c : Nat) (T D : ByteArray) (l : List (ByteArray × ByteArray)) (h : Chs w (some ad) ((T, D) :: l)) (hl : l.length < 1000000) (hT : T.toList = tIHDR) (hd : D.size ≠ 13) (hs : D.size ≤ 9223372036854775807) :
    Calls Try.prog 18 #[.slice (some ad) (l.length + 1) c] w (Ret (readRes (shpZero, [], 24)) (fun w' => Eff w.heap.size [] w w')) := by
  obtain ⟨ad', e0, k0, k1⟩ := h 0 T D rfl
  injection e0 with e0
  subst e0
  have hadb : ad.block < w.heap.size := by have := World.block_lt_of_cell? w _ k0; rwa [add_block] at this
  rw [Nat.zero_mul, add_zero_] at k0 k1
  have hl0 : (((l.length : Int) + 1) == 0) = false := by simp; omega
  have ht1 : (T.toList == [73, 72, 68, 82]) = true := by rw [hT]; rfl
  have i13 : ((D.size : Int) != 13) = true := bne_iff_ne.2 (by omega)
  clear h hT hd
  go_enter Try.func18, Try.ntmps18
  go_upto_region 2 with (fail)
  have hb2 := blk_alloc (heap_alloc_new w (.cells shp0 36)) (.cells shp0 36)
  have hb5 := heap_alloc2_new w (.cells shp0 36) (.cells shp0 36)
  have hw1 := ((Eff.refl w.heap.size [] w).alloc (.cells shp0 36)).alloc (.cells shp0 36)
  generalize hW1 : (World.alloc _ _ : World) = W1
  have HB24 := Aside0.mk (show W1.heap[w.heap.size]? = some (.cells shp0 36 (0, 0)) from by rw [← hW1]; exact hb2)
  have HB5 := Aside0.mk (show W1.heap[w.heap.size + 1]? = some (.cells shp0 36 (0, 0)) from by rw [← hW1]; exact hb5)
  have HE4 := Aside0.mk (show Eff w.heap.size [] w W1 from by rw [← hW1]; exact hw1)
  clear hb2 hb5 hw1 hW1
  have hwr := blk_lt HB24.out
  have hwr5 := blk_lt HB5.out
  obtain ⟨z0, z1, z2, z3, z4, z5, z6, z7⟩ := cells8 HB24.out
  obtain ⟨f0, f1, f2, f3, f4, f5, f6, f7⟩ := frozen8 HB24.out
  obtain ⟨y0, y1, y2, y3, y4, y5, y6, y7⟩ := cells8 HB5.out
  replace k0 := pw_cell_below (HE4.out.below' (Nat.le_refl _)) k0
  replace k1 := pw_cell_below (HE4.out.below' (Nat.le_refl _)) k1
  go_wp2
  refine bodyPost_ret (results_cell3 rfl _ _ w.heap.size 36 shp0 (0, 0) _ rfl ?a1 Try.underlying36 rfl (by kernel_rfl)) rfl (Ret.mk' ?a2 ?a3)
  case a1 =>
    (with_reducible repeat (refine blk_alloc ?_ _))
    have e := blk_store8 (v0 := .int .i64 0) (v1 := .int .i64 0) (v2 := .int .i64 0) (v3 := .int .i64 0) (v4 := .int .i64 0) (v5 := .string ⟨#[]⟩) (v6 := .string ⟨#[]⟩) (v7 := .bool false) HB24.out
    simp only [storeL, Nat.zero_add, Nat.reduceAdd] at e
    with_reducible refine e.trans ?_
    rfl
  case a2 => kernel_rfl
  case a3 =>
    have h2 := HE4.out
    repeat (first | (with_reducible exact h2) | (with_reducible apply Eff.alloc) | (with_reducible refine Eff.setNew ?_ (by first | exact Nat.le_refl _ | omega) _ _))

set_option maxRecDepth 100000 in
set_option maxHeartbeats 20000000 in
theorem refRead_10 (w : World) (ad : Addr) (c : Nat) (T D : ByteArray) (l : List (ByteArray × ByteArray)) (h : Chs w (some ad) ((T, D) :: l)) (hl : l.length < 1000000) (hT : T.toList = tIHDR) (hd : D.size = 13) (hb : byteAt D 10 ≠ 0) :
    Calls Try.prog 18 #[.slice (some ad) (l.length + 1) c] w (Ret (readRes (shpZero, [], 24)) (fun w' => Eff w.heap.size [] w w')) := by
  obtain ⟨ad', e0, k0, k1⟩ := h 0 T D rfl
  injection e0 with e0
  subst e0
  have hadb : ad.block < w.heap.size := by have := World.block_lt_of_cell? w _ k0; rwa [add_block] at this
  rw [Nat.zero_mul, add_zero_] at k0 k1
  have hl0 : (((l.length : Int) + 1) == 0) = false := by simp; omega
  have ht1 : (T.toList == [73, 72, 68, 82]) = true := by rw [hT]; rfl
  have i13 : ((D.size : Int) != 13) = false := by rw [bne_eq_false_iff_eq]; omega
  have k10 : 10 < D.size := by omega
  have k11 : 11 < D.size := by omega
  have j10 : (10 : Int) < (D.size : Int) := by omega
  have j11 : (11 : Int) < (D.size : Int) := by omega
  rw [byteAt_eq D 10 k10] at hb
  have b10 : (((D[10].toNat : Nat) : Int) != 0) = true := bne_iff_ne.2 hb
  clear h hT hd hb
  go_enter Try.func18, Try.ntmps18
  go_upto_region 2 with (fail)
  have hb2 := blk_alloc (heap_alloc_new w (.cells shp0 36)) (.cells shp0 36)
  have hb5 := heap_alloc2_new w (.cells shp0 36) (.cells shp0 36)
  have hw1 := ((Eff.refl w.heap.size [] w).alloc (.cells shp0 36)).alloc (.cells shp0 36)
  generalize hW1 : (World.alloc _ _ : World) = W1
  have HB24 := Aside0.mk (show W1.heap[w.heap.size]? = some (.cells shp0 36 (0, 0)) from by rw [← hW1]; exact hb2)
  have HB5 := Aside0.mk (show W1.heap[w.heap.size + 1]? = some (.cells shp0 36 (0, 0)) from by rw [← hW1]; exact hb5)
  have HE4 := Aside0.mk (show Eff w.heap.size [] w W1 from by rw [← hW1]; exact hw1)
  clear hb2 hb5 hw1 hW1
  have hwr := blk_lt HB24.out
  have hwr5 := blk_lt HB5.out
  obtain ⟨z0, z1, z2, z3, z4, z5, z6, z7⟩ := cells8 HB24.out
  obtain ⟨f0, f1, f2, f3, f4, f5, f6, f7⟩ := frozen8 HB24.out
  obtain ⟨y0, y1, y2, y3, y4, y5, y6, y7⟩ := cells8 HB5.out
  replace k0 := pw_cell_below (HE4.out.below' (Nat.le_refl _)) k0
  replace k1 := pw_cell_below (HE4.out.below' (Nat.le_refl _)) k1
  go_wp2
  refine bodyPost_ret (results_cell3 rfl _ _ w.heap.size 36 shp0 (0, 0) _ rfl ?a1 Try.underlying36 rfl (by kernel_rfl)) rfl (Ret.mk' ?a2 ?a3)
  case a1 =>
    (with_reducible repeat (refine blk_alloc ?_ _))
    have e := blk_store8 (v0 := .int .i64 0) (v1 := .int .i64 0) (v2 := .int .i64 0) (v3 := .int .i64 0) (v4 := .int .i64 0) (v5 := .string ⟨#[]⟩) (v6 := .string ⟨#[]⟩) (v7 := .bool false) HB24.out
    simp only [storeL, Nat.zero_add, Nat.reduceAdd] at e
    with_reducible refine e.trans ?_
    rfl
  case a2 => kernel_rfl
  case a3 =>
    have h2 := HE4.out
    repeat (first | (with_reducible exact h2) | (with_reducible apply Eff.alloc) | (with_reducible refine Eff.setNew ?_ (by first | exact Nat.le_refl _ | omega) _ _))

set_option maxRecDepth 100000 in
set_option maxHeartbeats 20000000 in
theorem refRead_11 (w : World) (ad : Addr) (c : Nat) (T D : ByteArray) (l : List (ByteArray × ByteArray)) (h : Chs w (some ad) ((T, D) :: l)) (hl : l.length < 1000000) (hT : T.toList = tIHDR) (hd : D.size = 13) (ha : byteAt D 10 = 0) (hb : byteAt D 11 ≠ 0) :
    Calls Try.prog 18 #[.slice (some ad) (l.length + 1) c] w (Ret (readRes (shpZero, [], 24)) (fun w' => Eff w.heap.size [] w w')) := by
  obtain ⟨ad', e0, k0, k1⟩ := h 0 T D rfl
  injection e0 with e0
  subst e0
  have hadb : ad.block < w.heap.size := by have := World.block_lt_of_cell? w _ k0; rwa [add_block] at this
  rw [Nat.zero_mul, add_zero_] at k0 k1
  have hl0 : (((l.length : Int) + 1) == 0) = false := by simp; omega
  have ht1 : (T.toList == [73, 72, 68, 82]) = true := by rw [hT]; rfl
  have i13 : ((D.size : Int) != 13) = false := by rw [bne_eq_false_iff_eq]; omega
  have k10 : 10 < D.size := by omega
  have k11 : 11 < D.size := by omega
  have j10 : (10 : Int) < (D.size : Int) := by omega
  have j11 : (11 : Int) < (D.size : Int) := by omega
  rw [byteAt_eq D 10 k10] at ha
  rw [byteAt_eq D 11 k11] at hb
  have b10 : (((D[10].toNat : Nat) : Int) != 0) = false := by rw [bne_eq_false_iff_eq]; exact ha
  have b11 : (((D[11].toNat : Nat) : Int) != 0) = true := bne_iff_ne.2 hb
  clear h hT hd ha hb
  go_enter Try.func18, Try.ntmps18
  go_upto_region 2 with (fail)
  have hb2 := blk_alloc (heap_alloc_new w (.cells shp0 36)) (.cells shp0 36)
  have hb5 := heap_alloc2_new w (.cells shp0 36) (.cells shp0 36)
  have hw1 := ((Eff.refl w.heap.size [] w).alloc (.cells shp0 36)).alloc (.cells shp0 36)
  generalize hW1 : (World.alloc _ _ : World) = W1
  have HB24 := Aside0.mk (show W1.heap[w.heap.size]? = some (.cells shp0 36 (0, 0)) from by rw [← hW1]; exact hb2)
  have HB5 := Aside0.mk (show W1.heap[w.heap.size + 1]? = some (.cells shp0 36 (0, 0)) from by rw [← hW1]; exact hb5)
  have HE4 := Aside0.mk (show Eff w.heap.size [] w W1 from by rw [← hW1]; exact hw1)
  clear hb2 hb5 hw1 hW1
  have hwr := blk_lt HB24.out
  have hwr5 := blk_lt HB5.out
  obtain ⟨z0, z1, z2, z3, z4, z5, z6, z7⟩ := cells8 HB24.out
  obtain ⟨f0, f1, f2, f3, f4, f5, f6, f7⟩ := frozen8 HB24.out
  obtain ⟨y0, y1, y2, y3, y4, y5, y6, y7⟩ := cells8 HB5.out
  replace k0 := pw_cell_below (HE4.out.below' (Nat.le_refl _)) k0
  replace k1 := pw_cell_below (HE4.out.below' (Nat.le_refl _)) k1
  go_wp2
  refine bodyPost_ret (results_cell3 rfl _ _ w.heap.size 36 shp0 (0, 0) _ rfl ?a1 Try.underlying36 rfl (by kernel_rfl)) rfl (Ret.mk' ?a2 ?a3)
  case a1 =>
    (with_reducible repeat (refine blk_alloc ?_ _))
    have e := blk_store8 (v0 := .int .i64 0) (v1 := .int .i64 0) (v2 := .int .i64 0) (v3 := .int .i64 0) (v4 := .int .i64 0) (v5 := .string ⟨#[]⟩) (v6 := .string ⟨#[]⟩) (v7 := .bool false) HB24.out
    simp only [storeL, Nat.zero_add, Nat.reduceAdd] at e
    with_reducible refine e.trans ?_
    rfl
  case a2 => kernel_rfl
  case a3 =>
    have h2 := HE4.out
    repeat (first | (with_reducible exact h2) | (with_reducible apply Eff.alloc) | (with_reducible refine Eff.setNew ?_ (by first | exact Nat.le_refl _ | omega) _ _))

set_option maxRecDepth 100000 in
set_option maxHeartbeats 200000000 in
theorem refRead_right (w : World) (ad : Addr) (c : Nat) (T D : ByteArray) (l : List (ByteArray × ByteArray)) (h : Chs w (some ad) ((T, D) :: l)) (hc : l.length + 1 ≤ c) (hl : l.length < 1000000)
    (hT : T.toList = tIHDR) (hd13 : D.size = 13) (hd10 : byteAt D 10 = 0) (hd11 : byteAt D 11 = 0) (he : (firstHd D).right ≠ 0)
    (hds : ∀ x ∈ l, x.2.size ≤ 140737488351232) (htot : total l ≤ 140737488355328) :
    Calls Try.prog 18 #[.slice (some ad) (l.length + 1) c] w (Ret (readRes (shpZero, [], (firstHd D).right)) (fun w' => Eff w.heap.size [] w w')) := by
  obtain ⟨rc, hrc⟩ : ∃ rc, (firstHd D).right = rc := ⟨_, rfl⟩
  rw [hrc] at he ⊢
  have HRC := Aside0.mk hrc
  have hne : (rc != 0) = true := bne_iff_ne.2 he
  clear hrc
  obtain ⟨ad', e0, k0, k1⟩ := h 0 T D rfl
  injection e0 with e0
  subst e0
  have hadb : ad.block < w.heap.size := by have := World.block_lt_of_cell? w _ k0; rwa [add_block] at this
  rw [Nat.zero_mul, add_zero_] at k0 k1
  have ht1 : (T.toList == [73, 72, 68, 82]) = true := by rw [hT]; rfl
  have hl0 : (((l.length : Int) + 1) == 0) = false := by simp; omega
  have i13 : ((D.size : Int) != 13) = false := by simp; omega
  have k8 : 8 < D.size := by omega
  have k9 : 9 < D.size := by omega
  have k10 : 10 < D.size := by omega
  have k11 : 11 < D.size := by omega
  have k12 : 12 < D.size := by omega
  have j8 : (8 : Int) < (D.size : Int) := by omega
  have j9 : (9 : Int) < (D.size : Int) := by omega
  have j10 : (10 : Int) < (D.size : Int) := by omega
  have j11 : (11 : Int) < (D.size : Int) := by omega
  have j12 : (12 : Int) < (D.size : Int) := by omega
  rw [byteAt_eq D 10 k10] at hd10
  rw [byteAt_eq D 11 k11] at hd11
  have b10 : (((D[10].toNat : Nat) : Int) != 0) = false := by simp [bne_iff_ne]; omega
  have b11 : (((D[11].toNat : Nat) : Int) != 0) = false := by simp [bne_iff_ne]; omega
  have HOF0 := Aside0.mk (of_cut D 0 (by omega))
  have HOF4 := Aside0.mk (of_cut D 4 (by omega))
  have HS0 := Aside0.mk (show ∀ W, (Instr.slice 9 (.string D) none (some (.int .i64 4)) none).run Try.prog W = .ok (.string (D.extract 0 4)) W from
    fun W => by have := run_slice_string_h (P := Try.prog) W 9 D Try.underlying9 .i64 4 (by omega) (by omega); simpa using this)
  have HS4 := Aside0.mk (show ∀ W, (Instr.slice 9 (.string D) (some (.int .i64 4)) (some (.int .i64 8)) none).run Try.prog W = .ok (.string (D.extract 4 8)) W from
    fun W => by have := run_slice_string (P := Try.prog) W 9 D .i64 .i64 4 8 Try.underlying9 (by omega) (by omega) (by omega); simpa using this)
  have HT := Aside0.mk hT
  have HRIGHT := Aside0.mk he
  have HCH := Aside0.mk h.tail
  have HDS := Aside0.mk hds
  have HTOT := Aside0.mk htot
  have HD13 := Aside0.mk hd13
  have HCC := Aside0.mk hc
  have HCH0 := Aside0.mk h
  clear h hT he hds htot hd10 hd11 hd13 hc
  go_enter Try.func18, Try.ntmps18
  go_wp2_with fail
  have hb2 := blk_alloc (heap_alloc_new w (.cells shp0 36)) (.cells shp0 36)
  have hb5 := heap_alloc2_new w (.cells shp0 36) (.cells shp0 36)
  have hw1 := ((Eff.refl w.heap.size [] w).alloc (.cells shp0 36)).alloc (.cells shp0 36)
  generalize hW1 : (World.alloc _ _ : World) = W1
  have HB2 := Aside0.mk (show W1.heap[w.heap.size]? = some (.cells shp0 36 (0, 0)) from by rw [← hW1]; exact hb2)
  have HB5 := Aside0.mk (show W1.heap[w.heap.size + 1]? = some (.cells shp0 36 (0, 0)) from by rw [← hW1]; exact hb5)
  have HW1 := Aside0.mk (show Eff w.heap.size [] w W1 from by rw [← hW1]; exact hw1)
  clear hb2 hb5 hw1 hW1
  refine wp_region_gen (W1.heap.size) [] (sp := [.c (.string D), .c (.string (D.extract 0 4)), .c (.int .i64 (big4 D 0)), .c (.string D), .c (.string (D.extract 4 8)), .c (.int .i64 (big4 D 4)), .c (.string D), .c (.int .u8 (byteAt D 8)), .c (.int .i64 (byteAt D 8)), .c (.string D), .c (.int .u8 (byteAt D 9)), .c (.int .i64 (byteAt D 9)), .c (.string D), .c (.int .u8 (byteAt D 12)), .c (.int .i64 (byteAt D 12)), .c (.agg #[.int .i64 (big4 D 0), .int .i64 (big4 D 4), .int .i64 (byteAt D 8), .int .i64 (byteAt D 9), .int .i64 (byteAt D 12)]), .c (.agg #[.int .i64 (big4 D 0), .int .i64 (big4 D 4), .int .i64 (byteAt D 8), .int .i64 (byteAt D 9), .int .i64 (byteAt D 12), .string ⟨#[]⟩, .string ⟨#[]⟩, .bool false]), .e, .c (undef)])
    (Φ := [noFact, noFact, noFact, noFact, noFact, noFact, noFact, noFact, noFact, noFact, noFact, noFact, noFact, noFact, noFact, noFact, noFact, (fun v w => ∃ g, v = .pointer (some ⟨g, 0, none⟩) ∧ W1.heap.size ≤ g ∧ w.heap[g]? = some (.cells shp0 36 (0, 0))), noFact])
    (dsts := [some 46, some 47, some 48, some 49, some 50, some 51, some 52, some 53, some 54, some 55, some 56, some 57, some 58, some 59, some 60, some 61, some 62, some 7, none])
    (deps := [([], []), ([0], [0]), ([1], [1]), ([], []), ([3], [3]), ([4, 2], [4]), ([], []), ([6], [6]), ([7], [7]), ([], []), ([9], [9]), ([10], [10]), ([], []), ([12], [12]), ([13], [13]), ([2, 5, 8, 11, 14], [2, 5, 8, 11, 14]), ([15], [15]), ([], []), ([17, 16, 5, 0, 1, 2, 3, 4, 5, 6, 7, 8, 9, 10, 11, 12, 13, 14, 15, 16, 17], [17, 16])])
    (all := [0, 1, 2, 3, 4, 5, 6, 7, 8, 9, 10, 11, 12, 13, 14, 15, 16, 17, 18]) (by kernel_rfl) (by kernel_rfl) (by kernel_rfl) (by kernel_rfl) (by rfl) (by rfl) (fun env => ⟨#[Value.slice (some ad) (l.length + 1) c, undef, Value.pointer (some { block := w.heap.size, off := 0 }), Value.string { data := #[] }, Value.int IntKind.i64 0, Value.pointer (some { block := w.heap.size + 1, off := 0 }), Value.string D, env 17, undef, undef, undef, undef, undef, undef, undef, undef, Value.agg #[Value.int IntKind.i64 0, Value.int IntKind.i64 0, Value.int IntKind.i64 0, Value.int IntKind.i64 0, Value.int IntKind.i64 0, Value.string { data := #[] }, Value.string { data := #[] }, Value.bool false], Value.slice (some ad) (l.length + 1) c, Value.int IntKind.i64 (↑l.length + 1), Value.bool false, Value.bool false, Value.slice (some ad) (l.length + 1) c, Value.pointer (some ad), Value.pointer (some ad), Value.string T, Value.bool false, Value.bool false, undef, Value.slice (some ad) (l.length + 1) c, Value.pointer (some ad), Value.pointer (some { block := ad.block, off := ad.off + 1 }), Value.string D, Value.string D, Value.int IntKind.i64 ↑D.size, Value.bool false, Value.bool false, Value.string D, Value.int IntKind.u8 ↑D[10].toNat, Value.bool false, Value.bool false, Value.bool false, Value.string D, Value.int IntKind.u8 ↑D[11].toNat, Value.bool false, Value.bool false, undef, .string D, .string (D.extract 0 4), .int .i64 (big4 D 0), .string D, .string (D.extract 4 8), .int .i64 (big4 D 4), .string D, .int .u8 (byteAt D 8), .int .i64 (byteAt D 8), .string D, .int .u8 (byteAt D 9), .int .i64 (byteAt D 9), .string D, .int .u8 (byteAt D 12), .int .i64 (byteAt D 12), .agg #[.int .i64 (big4 D 0), .int .i64 (big4 D 4), .int .i64 (byteAt D 8), .int .i64 (byteAt D 9), .int .i64 (byteAt D 12)], .agg #[.int .i64 (big4 D 0), .int .i64 (big4 D 4), .int .i64 (byteAt D 8), .int .i64 (byteAt D 9), .int .i64 (byteAt D 12), .string ⟨#[]⟩, .string ⟨#[]⟩, .bool false], undef, undef, undef, undef, undef, undef, undef, undef, undef, undef, undef, undef, undef, undef, undef, undef, undef, undef, undef, undef, undef, undef, undef, undef, undef, undef, undef, undef, undef, undef, undef, undef, undef, undef, undef, undef, undef, undef, undef, undef, undef, undef, undef, undef, undef, undef, undef, undef, undef, undef, undef, undef, undef, undef, undef, undef, undef, undef, undef, undef, undef, undef, undef, undef, undef, undef, undef, undef, undef, undef, undef, undef, undef, undef, undef, undef, undef, undef, undef, undef, undef, undef, undef, undef, undef, undef, undef, undef, undef, undef, undef, undef, undef, undef, undef, undef, undef, undef, undef, undef, undef, undef, undef, undef, undef, undef, undef, undef, undef, undef, undef, undef, undef, undef, undef, undef, undef, undef, undef, undef, undef, undef, undef, undef, undef, undef, undef, undef, undef, undef, undef, undef, undef, undef, undef, undef, undef, undef, undef, undef, undef, undef, undef, undef, undef, undef, undef, undef, undef, undef, undef, undef, undef, undef, undef, undef, undef, undef, undef, undef, undef, undef, undef, undef, undef, undef, undef, undef, undef, undef, undef, undef, undef, undef, undef, undef, undef, undef, undef, undef, undef, undef, undef, undef, undef, undef, undef, undef, undef, undef, undef, undef, undef, undef, undef, undef, undef, undef], []⟩) (fun env => by kernel_rfl) (Nat.zero_lt_succ _) (Nat.le_refl _) ⟨monoNo, monoNo, monoNo, monoNo, monoNo, monoNo, monoNo, monoNo, monoNo, monoNo, monoNo, monoNo, monoNo, monoNo, monoNo, monoNo, monoNo, (fun v w w2 hB h k => by obtain ⟨g, h1, h2, h3⟩ := h; exact ⟨g, h1, h2, (k.block g (blk_lt h3) (.inr (by intro cs t fr _ hm; cases hm))).trans h3⟩), monoNo, trivial⟩ ?_
  refine GSteps.con (.string D) rfl (fun _ => trivial) ?_ ?_
  · intro env wq hE hF
    clear hE hF
    generalize hA : rfillL _ _ _ _ = a
    have q6 : a.tmps[6]? = some (.string D) := by subst hA; kernel_rfl
    have r6 : a.tmps.getD 6 undef = (.string D) := by subst hA; kernel_rfl
    clear hA
    unfold StepVal
    rw [if_pos (by rfl)]
    go_simp
  refine GSteps.val ?_ ?_
  · intro env wq hE hF
    clear hE hF
    refine ⟨_, rfl, trivial, ?_⟩
    have hs := HS0.out
    generalize hA : rfillL _ _ _ _ = a
    have q46 : a.tmps[46]? = some (.string D) := by subst hA; kernel_rfl
    have r46 : a.tmps.getD 46 undef = (.string D) := by subst hA; kernel_rfl
    clear hA
    unfold StepVal
    rw [if_pos (by rfl)]
    go_simp
  refine GSteps.any ?_ ?_
  · intro env wq hE hF K hK
    have HE := Aside0.mk hE
    clear hE hF
    generalize hA : rfillL _ _ _ _ = a
    have q47 : a.tmps[47]? = some (.string (D.extract 0 4)) := by subst hA; kernel_rfl
    have r47 : a.tmps.getD 47 undef = (.string (D.extract 0 4)) := by subst hA; kernel_rfl
    clear hA
    unfold StepOk
    rw [if_pos (by rfl)]
    go_simp
    refine (HOF0.out _).mono ?_
    rintro e w' ⟨rfl, he⟩
    exact ⟨_, rfl, hK _ _ rfl (he.mono HE.out.size (by simp)) trivial⟩
  refine GSteps.con (.string D) rfl (fun _ => trivial) ?_ ?_
  · intro env wq hE hF
    clear hE hF
    generalize hA : rfillL _ _ _ _ = a
    have q6 : a.tmps[6]? = some (.string D) := by subst hA; kernel_rfl
    have r6 : a.tmps.getD 6 undef = (.string D) := by subst hA; kernel_rfl
    clear hA
    unfold StepVal
    rw [if_pos (by rfl)]
    go_simp
  refine GSteps.val ?_ ?_
  · intro env wq hE hF
    clear hE hF
    refine ⟨_, rfl, trivial, ?_⟩
    have hs := HS4.out
    generalize hA : rfillL _ _ _ _ = a
    have q49 : a.tmps[49]? = some (.string D) := by subst hA; kernel_rfl
    have r49 : a.tmps.getD 49 undef = (.string D) := by subst hA; kernel_rfl
    clear hA
    unfold StepVal
    rw [if_pos (by rfl)]
    go_simp
  refine GSteps.any ?_ ?_
  · intro env wq hE hF K hK
    have HE := Aside0.mk hE
    clear hE hF
    generalize hA : rfillL _ _ _ _ = a
    have q50 : a.tmps[50]? = some (.string (D.extract 4 8)) := by subst hA; kernel_rfl
    have r50 : a.tmps.getD 50 undef = (.string (D.extract 4 8)) := by subst hA; kernel_rfl
    clear hA
    unfold StepOk
    rw [if_pos (by rfl)]
    go_simp
    refine (HOF4.out _).mono ?_
    rintro e w' ⟨rfl, he⟩
    exact ⟨_, rfl, hK _ _ rfl (he.mono HE.out.size (by simp)) trivial⟩
  refine GSteps.con (.string D) rfl (fun _ => trivial) ?_ ?_
  · intro env wq hE hF
    clear hE hF
    generalize hA : rfillL _ _ _ _ = a
    have q6 : a.tmps[6]? = some (.string D) := by subst hA; kernel_rfl
    have r6 : a.tmps.getD 6 undef = (.string D) := by subst hA; kernel_rfl
    clear hA
    unfold StepVal
    rw [if_pos (by rfl)]
    go_simp
  refine GSteps.con (.int .u8 (byteAt D 8)) rfl (fun _ => trivial) ?_ ?_
  · intro env wq hE hF
    clear hE hF
    generalize hA : rfillL _ _ _ _ = a
    have q52 : a.tmps[52]? = some (.string D) := by subst hA; kernel_rfl
    have r52 : a.tmps.getD 52 undef = (.string D) := by subst hA; kernel_rfl
    clear hA
    unfold StepVal
    rw [if_pos (by rfl)]
    go_simp
    exact (byteAt_eq D 8 k8).symm
  refine GSteps.con (.int .i64 (byteAt D 8)) rfl (fun _ => trivial) ?_ ?_
  · intro env wq hE hF
    clear hE hF
    generalize hA : rfillL _ _ _ _ = a
    have q53 : a.tmps[53]? = some (.int .u8 (byteAt D 8)) := by subst hA; kernel_rfl
    have r53 : a.tmps.getD 53 undef = (.int .u8 (byteAt D 8)) := by subst hA; kernel_rfl
    clear hA
    unfold StepVal
    rw [if_pos (by rfl)]
    go_simp
    exact wrapByteAt D 8
  refine GSteps.con (.string D) rfl (fun _ => trivial) ?_ ?_
  · intro env wq hE hF
    clear hE hF
    generalize hA : rfillL _ _ _ _ = a
    have q6 : a.tmps[6]? = some (.string D) := by subst hA; kernel_rfl
    have r6 : a.tmps.getD 6 undef = (.string D) := by subst hA; kernel_rfl
    clear hA
    unfold StepVal
    rw [if_pos (by rfl)]
    go_simp
  refine GSteps.con (.int .u8 (byteAt D 9)) rfl (fun _ => trivial) ?_ ?_
  · intro env wq hE hF
    clear hE hF
    generalize hA : rfillL _ _ _ _ = a
    have q55 : a.tmps[55]? = some (.string D) := by subst hA; kernel_rfl
    have r55 : a.tmps.getD 55 undef = (.string D) := by subst hA; kernel_rfl
    clear hA
    unfold StepVal
    rw [if_pos (by rfl)]
    go_simp
    exact (byteAt_eq D 9 k9).symm
  refine GSteps.con (.int .i64 (byteAt D 9)) rfl (fun _ => trivial) ?_ ?_
  · intro env wq hE hF
    clear hE hF
    generalize hA : rfillL _ _ _ _ = a
    have q56 : a.tmps[56]? = some (.int .u8 (byteAt D 9)) := by subst hA; kernel_rfl
    have r56 : a.tmps.getD 56 undef = (.int .u8 (byteAt D 9)) := by subst hA; kernel_rfl
    clear hA
    unfold StepVal
    rw [if_pos (by rfl)]
    go_simp
    exact wrapByteAt D 9
  refine GSteps.con (.string D) rfl (fun _ => trivial) ?_ ?_
  · intro env wq hE hF
    clear hE hF
    generalize hA : rfillL _ _ _ _ = a
    have q6 : a.tmps[6]? = some (.string D) := by subst hA; kernel_rfl
    have r6 : a.tmps.getD 6 undef = (.string D) := by subst hA; kernel_rfl
    clear hA
    unfold StepVal
    rw [if_pos (by rfl)]
    go_simp
  refine GSteps.con (.int .u8 (byteAt D 12)) rfl (fun _ => trivial) ?_ ?_
  · intro env wq hE hF
    clear hE hF
    generalize hA : rfillL _ _ _ _ = a
    have q58 : a.tmps[58]? = some (.string D) := by subst hA; kernel_rfl
    have r58 : a.tmps.getD 58 undef = (.string D) := by subst hA; kernel_rfl
    clear hA
    unfold StepVal
    rw [if_pos (by rfl)]
    go_simp
    exact (byteAt_eq D 12 k12).symm
  refine GSteps.con (.int .i64 (byteAt D 12)) rfl (fun _ => trivial) ?_ ?_
  · intro env wq hE hF
    clear hE hF
    generalize hA : rfillL _ _ _ _ = a
    have q59 : a.tmps[59]? = some (.int .u8 (byteAt D 12)) := by subst hA; kernel_rfl
    have r59 : a.tmps.getD 59 undef = (.int .u8 (byteAt D 12)) := by subst hA; kernel_rfl
    clear hA
    unfold StepVal
    rw [if_pos (by rfl)]
    go_simp
    exact wrapByteAt D 12
  refine GSteps.con (.agg #[.int .i64 (big4 D 0), .int .i64 (big4 D 4), .int .i64 (byteAt D 8), .int .i64 (byteAt D 9), .int .i64 (byteAt D 12)]) rfl (fun _ => trivial) ?_ ?_
  · intro env wq hE hF
    clear hE hF
    generalize hA : rfillL _ _ _ _ = a
    have q48 : a.tmps[48]? = some (.int .i64 (big4 D 0)) := by subst hA; kernel_rfl
    have r48 : a.tmps.getD 48 undef = (.int .i64 (big4 D 0)) := by subst hA; kernel_rfl
    have q51 : a.tmps[51]? = some (.int .i64 (big4 D 4)) := by subst hA; kernel_rfl
    have r51 : a.tmps.getD 51 undef = (.int .i64 (big4 D 4)) := by subst hA; kernel_rfl
    have q54 : a.tmps[54]? = some (.int .i64 (byteAt D 8)) := by subst hA; kernel_rfl
    have r54 : a.tmps.getD 54 undef = (.int .i64 (byteAt D 8)) := by subst hA; kernel_rfl
    have q57 : a.tmps[57]? = some (.int .i64 (byteAt D 9)) := by subst hA; kernel_rfl
    have r57 : a.tmps.getD 57 undef = (.int .i64 (byteAt D 9)) := by subst hA; kernel_rfl
    have q60 : a.tmps[60]? = some (.int .i64 (byteAt D 12)) := by subst hA; kernel_rfl
    have r60 : a.tmps.getD 60 undef = (.int .i64 (byteAt D 12)) := by subst hA; kernel_rfl
    clear hA
    unfold StepVal
    rw [if_pos (by rfl)]
    go_simp
  refine GSteps.con (.agg #[.int .i64 (big4 D 0), .int .i64 (big4 D 4), .int .i64 (byteAt D 8), .int .i64 (byteAt D 9), .int .i64 (byteAt D 12), .string ⟨#[]⟩, .string ⟨#[]⟩, .bool false]) rfl (fun _ => trivial) ?_ ?_
  · intro env wq hE hF
    clear hE hF
    generalize hA : rfillL _ _ _ _ = a
    have q61 : a.tmps[61]? = some (.agg #[.int .i64 (big4 D 0), .int .i64 (big4 D 4), .int .i64 (byteAt D 8), .int .i64 (byteAt D 9), .int .i64 (byteAt D 12)]) := by subst hA; kernel_rfl
    have r61 : a.tmps.getD 61 undef = (.agg #[.int .i64 (big4 D 0), .int .i64 (big4 D 4), .int .i64 (byteAt D 8), .int .i64 (byteAt D 9), .int .i64 (byteAt D 12)]) := by subst hA; kernel_rfl
    clear hA
    unfold StepVal
    rw [if_pos (by rfl)]
    go_simp
  refine GSteps.any ?_ ?_
  · intro env wq hE hF K hK
    have HE := Aside0.mk hE
    clear hE hF
    generalize hA : rfillL _ _ _ _ = a
    clear hA
    unfold StepOk
    rw [if_pos (by rfl)]
    go_simp
    exact ⟨_, rfl, hK _ _ trivial (((Eff.refl wq.heap.size [] wq).alloc _).mono HE.out.size (by simp)) ⟨wq.heap.size, rfl, HE.out.size, heap_alloc_new wq _⟩⟩
  refine GSteps.lastDo (by rfl) rfl (fun _ => by kernel_rfl) ?_
  intro env w2 hE hF K hK
  obtain ⟨g, hg0, hg1, hg2⟩ : ∃ g, env 17 = .pointer (some ⟨g, 0, none⟩) ∧ W1.heap.size ≤ g ∧ w2.heap[g]? = some (.cells shp0 36 (0, 0)) := hF 17 (by decide)
  obtain ⟨u0, u1, u2, u3, u4, u5, u6, u7⟩ := cells8 hg2
  obtain ⟨f0, f1, f2, f3, f4, f5, f6, f7⟩ := frozen8 hg2
  have HG2 := Aside0.mk hg2
  have HE := Aside0.mk hE
  have HG0 := Aside0.mk hg0
  clear hF hE hg2 hg0
  generalize hA : rfillL _ _ _ _ = a
  have q7 : a.tmps[7]? = some (env 17) := by subst hA; kernel_rfl
  have r7 : a.tmps.getD 7 undef = (env 17) := by subst hA; kernel_rfl
  have q62 : a.tmps[62]? = some (.agg #[.int .i64 (big4 D 0), .int .i64 (big4 D 4), .int .i64 (byteAt D 8), .int .i64 (byteAt D 9), .int .i64 (byteAt D 12), .string ⟨#[]⟩, .string ⟨#[]⟩, .bool false]) := by subst hA; kernel_rfl
  have r62 : a.tmps.getD 62 undef = (.agg #[.int .i64 (big4 D 0), .int .i64 (big4 D 4), .int .i64 (byteAt D 8), .int .i64 (byteAt D 9), .int .i64 (byteAt D 12), .string ⟨#[]⟩, .string ⟨#[]⟩, .bool false]) := by subst hA; kernel_rfl
  clear hA
  rw [HG0.out] at q7 r7
  unfold StepOk
  rw [if_pos (by rfl)]
  go_simp
  refine ⟨undef, hK _ ?_⟩
  clear hK K q7 r7 q62 r62 a u0 u1 u2 u3 u4 u5 u6 u7 f0 f1 f2 f3 f4 f5 f6 f7
  dsimp only
  rw [HG0.out]
  clear HG0
  have e8 := blk_store8 (v0 := .int .i64 (big4 D 0)) (v1 := .int .i64 (big4 D 4)) (v2 := .int .i64 (byteAt D 8)) (v3 := .int .i64 (byteAt D 9)) (v4 := .int .i64 (byteAt D 12)) (v5 := .string ⟨#[]⟩) (v6 := .string ⟨#[]⟩) (v7 := .bool false) HG2.out
  have hnew := storeL_new hg1 [.int .i64 (big4 D 0), .int .i64 (big4 D 4), .int .i64 (byteAt D 8), .int .i64 (byteAt D 9), .int .i64 (byteAt D 12), .string ⟨#[]⟩, .string ⟨#[]⟩, .bool false] 0 _ HE.out
  simp only [storeL, Nat.zero_add, Nat.reduceAdd] at e8 hnew
  generalize World.setCell _ ⟨g, 7, none⟩ _ = W3 at e8 hnew ⊢
  have HSZ := Aside0.mk (Nat.lt_of_lt_of_le (blk_lt HB5.out) hg1)
  have HE3 := Aside0.mk (HW1.out.trans (hnew.mono HW1.out.size (by simp)))
  have HG3 := Aside0.mk e8
  have HB2 := Aside0.mk (hnew.blockB HB2.out (blk_lt HB2.out))
  have HB5 := Aside0.mk (hnew.blockB HB5.out (blk_lt HB5.out))
  clear e8 hnew hg1 HG2 HE
  obtain ⟨u0, u1, u2, u3, u4, u5, u6, u7⟩ := cells8 HG3.out
  generalize env 17 = v17
  go_wp2_with (go_at_call 10; refine (refRight_calls _ _ _ _ _ _).mono ?_)
  rintro e w4 ⟨rfl, he4⟩
  rw [show rightP (big4 D 0) (big4 D 4) (byteAt D 8) (byteAt D 9) (byteAt D 12) = rc from HRC.out]
  have HE4 := Aside0.mk (HE3.out.trans (he4.mono HE3.out.size (by simp)))
  have hb2 := he4.blockB HB2.out (blk_lt HB2.out)
  have hb5 := he4.blockB HB5.out (blk_lt HB5.out)
  have hwr := blk_lt hb2
  have hwr5 := blk_lt hb5
  obtain ⟨z0, z1, z2, z3, z4, z5, z6, z7⟩ := cells8 hb2
  obtain ⟨f0, f1, f2, f3, f4, f5, f6, f7⟩ := frozen8 hb2
  obtain ⟨y0, y1, y2, y3, y4, y5, y6, y7⟩ := cells8 hb5
  have HB24 := Aside0.mk hb2
  clear he4 u0 u1 u2 u3 u4 u5 u6 u7 hb2 hb5
  go_wp2
  refine bodyPost_ret (results_cell3 rfl _ _ w.heap.size 36 shp0 (0, 0) _ rfl ?a1 Try.underlying36 rfl (by kernel_rfl)) rfl (Ret.mk' ?a2 ?a3)
  case a1 =>
    (with_reducible repeat (refine blk_alloc ?_ _))
    have e := blk_store8 (v0 := .int .i64 0) (v1 := .int .i64 0) (v2 := .int .i64 0) (v3 := .int .i64 0) (v4 := .int .i64 0) (v5 := .string ⟨#[]⟩) (v6 := .string ⟨#[]⟩) (v7 := .bool false) HB24.out
    simp only [storeL, Nat.zero_add, Nat.reduceAdd] at e
    with_reducible refine e.trans ?_
    rfl
  case a2 => kernel_rfl
  case a3 =>
    have h2 := HE4.out
    repeat (first | (with_reducible exact h2) | (with_reducible apply Eff.alloc) | (with_reducible refine Eff.setNew ?_ (by first | exact Nat.le_refl _ | omega) _ _))

/-- All of it: it answers as head.Read does. -/
theorem refRead_calls (w : World) (A : Option Addr) (c : Nat) (l : List (ByteArray × ByteArray)) (h : Chs w A l) (hc : l.length ≤ c) (hl : l.length ≤ 1000000) (hds : ∀ x ∈ l, x.2.size ≤ 140737488351232) (htot : total l ≤ 140737488355328) :
    Calls Try.prog 18 #[.slice A l.length c] w (Ret (readRes (readP l)) (fun w' => Eff w.heap.size [] w w')) := by
  match l, h, hc, hl, hds, htot with
  | [], h, hc, hl, hds, htot => exact refRead_nil w A c
  | (T, D) :: l, h, hc, hl, hds, htot =>
    have hD := hds (T, D) List.mem_cons_self
    have hD' : D.size ≤ 9223372036854775807 := by have : D.size ≤ 140737488351232 := hD; omega
    simp only [List.length_cons] at hc hl ⊢
    have hds' : ∀ x ∈ l, x.2.size ≤ 140737488351232 := fun x hx => hds x (List.mem_cons_of_mem _ hx)
    have htot' : total l ≤ 140737488355328 := by simp [total] at htot ⊢; omega
    obtain ⟨ad, rfl, _, _⟩ := h 0 T D rfl
    by_cases hT : T.toList = tIHDR
    · by_cases h13 : D.size = 13
      · by_cases h10 : byteAt D 10 = 0
        · by_cases h11 : byteAt D 11 = 0
          · have hf : firstP T D = (firstHd D, (firstHd D).right) := by unfold firstP; rw [if_neg (by simp [hT]), if_neg (by simp [h13, h10, h11])]
            by_cases he : (firstHd D).right = 0
            · have : readP ((T, D) :: l) = goOnP (rdOf (firstHd D)) [] l := by simp only [readP]; rw [hf, if_neg (by simpa using he)]
              rw [this]
              exact refRead_good w ad c T D l h hc (by omega) hT h13 h10 h11 he hds' htot'
            · have : readP ((T, D) :: l) = (shpZero, [], (firstHd D).right) := by simp only [readP]; rw [hf, if_pos he]
              rw [this]
              exact refRead_right w ad c T D l h hc (by omega) hT h13 h10 h11 he hds' htot'
          · have : readP ((T, D) :: l) = (shpZero, [], 24) := by
              have hf : firstP T D = (hdZero, 24) := by unfold firstP; rw [if_neg (by simp [hT]), if_pos (.inr (.inr h11))]
              simp only [readP]
              rw [hf, if_pos (by decide)]
            rw [this]
            exact refRead_11 w ad c T D l h (by omega) hT h13 h10 h11
        · have : readP ((T, D) :: l) = (shpZero, [], 24) := by
              have hf : firstP T D = (hdZero, 24) := by unfold firstP; rw [if_neg (by simp [hT]), if_pos (.inr (.inl h10))]
              simp only [readP]
              rw [hf, if_pos (by decide)]
          rw [this]
          exact refRead_10 w ad c T D l h (by omega) hT h13 h10
      · have : readP ((T, D) :: l) = (shpZero, [], 24) := by
              have hf : firstP T D = (hdZero, 24) := by unfold firstP; rw [if_neg (by simp [hT]), if_pos (.inl h13)]
              simp only [readP]
              rw [hf, if_pos (by decide)]
        rw [this]
        exact refRead_len w ad c T D l h (by omega) hT h13 hD'
    · have : readP ((T, D) :: l) = (shpZero, [], 23) := by
              have hf : firstP T D = (hdZero, 23) := by unfold firstP; rw [if_pos hT]
              simp only [readP]
              rw [hf, if_pos (by decide)]
      rw [this]
      exact refRead_type w ad c T D l h (by omega) hT

end Go.Proofs.Ytgkmfedjmmleeaa
