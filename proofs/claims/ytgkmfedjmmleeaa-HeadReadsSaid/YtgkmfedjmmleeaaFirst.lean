/- head.first, walked. -/
import Derived.Test.YtgkmfedjmmleeaaHeadFns
import Derived.Test.YtgkmfedjmmleeaaBits
import Derived.Deep.RegionHeld3
import Derived.Test.YtgkmfedjmmleeaaRegion
namespace Go.Proofs.Ytgkmfedjmmleeaa
open Go.RowKit Go.Proofs.YtgkmfedjmmleeaaW.PrintWords
set_option linter.unusedVariables false

set_option maxHeartbeats 1000000 in
theorem first1_calls (s : ByteArray) (w : World) (h : 4 ≤ s.size) :
    Calls Try.prog 35 #[.string s] w (Ret (.int .i64 (big4 s 0)) (fun w' => ∃ n, w' = w.drewN n)) := by
  have h0 : (0 : Int) < (s.size : Int) := by omega
  have h1 : (1 : Int) < (s.size : Int) := by omega
  have h2 : (2 : Int) < (s.size : Int) := by omega
  have h3 : (3 : Int) < (s.size : Int) := by omega
  have k0 : 0 < s.size := by omega
  have k1 : 1 < s.size := by omega
  have k2 : 2 < s.size := by omega
  have k3 : 3 < s.size := by omega
  have e : bits .or .i64 (bits .or .i64 (bits .or .i64 (wrap64 (wrap64 (s[0].toNat : Int) * 16777216)) (wrap64 (wrap64 (s[1].toNat : Int) * 65536))) (wrap64 (wrap64 (s[2].toNat : Int) * 256))) (wrap64 (s[3].toNat : Int)) = big4 s 0 := by
    rw [or4 _ _ _ _ (byte_lt _) (byte_lt _) (byte_lt _) (byte_lt _), big4_eq, byteAt_eq s 0 k0, byteAt_eq s (0 + 1) k1, byteAt_eq s (0 + 2) k2, byteAt_eq s (0 + 3) k3]
  have E := Aside0.mk e
  clear e
  go_enter Try.func35, Try.ntmps35
  go_wp2
  go_quiet (fail)
  go_wp2
  go_ret
  exact Ret.mk' (int_eq E.out) ⟨_, rfl⟩

/-- The world of a region that only reads but for one new block (a: it is made; b: it is filled). -/
structure OneNew (W : World) (t : TypeId) (zs vs : Array Value) (a b : Bool) (w : World) : Prop where
  ba : b = true → a = true
  eff : Eff W.heap.size [] W w
  size : a = false → w.heap.size = W.heap.size
  blk : a = true → w.heap[W.heap.size]? = some (.cells (if b then vs else zs) t (0, 0))
theorem OneNew.start (W : World) (t : TypeId) (zs vs : Array Value) : OneNew W t zs vs false false W.drew := ⟨fun h => h, (Eff.refl _ _ _).drew, fun _ => rfl, fun h => Bool.noConfusion h⟩
theorem OneNew.drewN {W : World} {t : TypeId} {zs vs : Array Value} {a b : Bool} {w : World} (h : OneNew W t zs vs a b w) (m : Nat) : OneNew W t zs vs a b (w.drewN m) :=
  ⟨h.ba, h.eff.drewN m, h.size, h.blk⟩
theorem OneNew.alloc {W : World} {t : TypeId} {zs vs : Array Value} {b : Bool} {w : World} (h : OneNew W t zs vs false b w) : OneNew W t zs vs true b (w.alloc (.cells zs t)) := by
  have hb : b = false := by
    cases b
    · rfl
    · exact absurd (h.ba rfl) (by simp)
  subst hb
  refine ⟨fun h => rfl, h.eff.alloc _, fun h => Bool.noConfusion h, fun _ => ?_⟩
  rw [← h.size rfl]
  exact heap_alloc_new w _
theorem OneNew.store {W : World} {t : TypeId} {z0 z1 z2 z3 z4 v0 v1 v2 v3 v4 : Value} {w : World} (h : OneNew W t #[z0, z1, z2, z3, z4] #[v0, v1, v2, v3, v4] true false w) :
    OneNew W t #[z0, z1, z2, z3, z4] #[v0, v1, v2, v3, v4] true true (((((w.setCell ⟨W.heap.size, 0, none⟩ v0).setCell ⟨W.heap.size, 1, none⟩ v1).setCell ⟨W.heap.size, 2, none⟩ v2).setCell ⟨W.heap.size, 3, none⟩ v3).setCell ⟨W.heap.size, 4, none⟩ v4) :=
  ⟨fun _ => rfl, (((((h.eff.setNew (Nat.le_refl _) _ _).setNew (Nat.le_refl _) _ _).setNew (Nat.le_refl _) _ _).setNew (Nat.le_refl _) _ _).setNew (Nat.le_refl _) _ _), fun h => Bool.noConfusion h,
    fun _ => blk_set (blk_set (blk_set (blk_set (blk_set (h.blk rfl) 0 v0) 1 v1) 2 v2) 3 v3) 4 v4⟩

/-- A region that reads, calls a function that makes memory alone (a), and stores a head into a zero one at g (b). -/
def StoreAt (W : World) (g : Nat) (h : Hd) (a b : Bool) (w : World) : Prop :=
  (b = true → a = true) ∧ ∃ w1, Eff W.heap.size [] W w1 ∧ w = if b = true then ((((w1.setCell ⟨g, 0, none⟩ (.int .i64 h.W)).setCell ⟨g, 1, none⟩ (.int .i64 h.H)).setCell ⟨g, 2, none⟩ (.int .i64 h.D)).setCell ⟨g, 3, none⟩ (.int .i64 h.C)).setCell ⟨g, 4, none⟩ (.int .i64 h.L) else w1
theorem StoreAt.start (W : World) (g : Nat) (h : Hd) : StoreAt W g h false false W.drew := ⟨fun h => h, _, (Eff.refl _ _ _).drew, rfl⟩
theorem StoreAt.keep {W : World} {g : Nat} {h : Hd} {a b : Bool} {w : World} (hs : StoreAt W g h a b w) {k : Nat} {o : Obj} (hk : W.heap[k]? = some o) (hne : k ≠ g) : w.heap[k]? = some o := by
  obtain ⟨_, w1, h1, rfl⟩ := hs
  have e1 := h1.blockB hk (blk_lt hk)
  cases b
  · exact e1
  · show (World.setCell _ _ _).heap[k]? = _
    rw [Below.heap_setCell _ _ _ _ hne, Below.heap_setCell _ _ _ _ hne, Below.heap_setCell _ _ _ _ hne, Below.heap_setCell _ _ _ _ hne, Below.heap_setCell _ _ _ _ hne]
    exact e1
theorem StoreAt.zero {W : World} {g : Nat} {h : Hd} {a : Bool} {w : World} (hs : StoreAt W g h a false w) {o : Obj} (hk : W.heap[g]? = some o) : w.heap[g]? = some o := by
  obtain ⟨_, w1, h1, rfl⟩ := hs
  exact h1.blockB hk (blk_lt hk)
theorem StoreAt.call {W : World} {g : Nat} {h : Hd} {b : Bool} {w w' : World} {a : Bool} (hs : StoreAt W g h a b w) (ha : a = false) (he : Eff w.heap.size [] w w') : StoreAt W g h true b w' := by
  obtain ⟨h0, w1, h1, h2⟩ := hs
  subst ha
  cases b
  · obtain rfl : w = w1 := h2
    exact ⟨(fun h => by cases h), _, h1.trans (he.mono h1.size (by simp)), rfl⟩
  · cases h0 rfl
theorem StoreAt.stored {W : World} {g : Nat} {h : Hd} {w : World} (hs : StoreAt W g h true false w) :
    StoreAt W g h true true (((((w.setCell ⟨g, 0, none⟩ (.int .i64 h.W)).setCell ⟨g, 1, none⟩ (.int .i64 h.H)).setCell ⟨g, 2, none⟩ (.int .i64 h.D)).setCell ⟨g, 3, none⟩ (.int .i64 h.C)).setCell ⟨g, 4, none⟩ (.int .i64 h.L)) := by
  obtain ⟨h0, w1, h1, h2⟩ := hs
  obtain rfl : w = w1 := h2
  exact ⟨fun _ => rfl, _, h1, rfl⟩
theorem cells5 {w : World} {g : Nat} {t : TypeId} {v0 v1 v2 v3 v4 : Value} (h : w.heap[g]? = some (.cells #[v0, v1, v2, v3, v4] t (0, 0))) :
    w.cell? ⟨g, 0, none⟩ = some v0 ∧ w.cell? ⟨g, 1, none⟩ = some v1 ∧ w.cell? ⟨g, 2, none⟩ = some v2 ∧ w.cell? ⟨g, 3, none⟩ = some v3 ∧ w.cell? ⟨g, 4, none⟩ = some v4 :=
  ⟨blk_cell h 0, blk_cell h 1, blk_cell h 2, blk_cell h 3, blk_cell h 4⟩
theorem frozen5 {w : World} {g : Nat} {t : TypeId} {cs : Array Value} (h : w.heap[g]? = some (.cells cs t (0, 0))) :
    w.frozen? ⟨g, 0, none⟩ = false ∧ w.frozen? ⟨g, 1, none⟩ = false ∧ w.frozen? ⟨g, 2, none⟩ = false ∧ w.frozen? ⟨g, 3, none⟩ = false ∧ w.frozen? ⟨g, 4, none⟩ = false :=
  ⟨blk_frozen h 0, blk_frozen h 1, blk_frozen h 2, blk_frozen h 3, blk_frozen h 4⟩

def Hd.agg (h : Hd) : Value := .agg #[.int .i64 h.W, .int .i64 h.H, .int .i64 h.D, .int .i64 h.C, .int .i64 h.L]

set_option maxHeartbeats 1000000 in
theorem first_short (T d : ByteArray) (hT : T.toList ≠ tIHDR) (w : World) :
    Calls Try.prog 29 #[.agg #[.string T, .string d]] w (Ret (.tuple #[(firstP T d).1.agg, .int .i64 (firstP T d).2]) (fun w' => Eff w.heap.size [] w w')) := by
  have hf : firstP T d = (hdZero, 23) := by unfold firstP; rw [if_pos hT]
  rw [hf]
  have t1 : (T.toList == [73, 72, 68, 82]) = false := by rw [beq_eq_false_iff_ne]; exact hT
  clear hT hf
  go_enter Try.func29, Try.ntmps29
  go_wp2
  refine bodyPost_ret (v := .tuple #[.agg #[.int .i64 0, .int .i64 0, .int .i64 0, .int .i64 0, .int .i64 0], .int .i64 23]) (by simp [results, Try.results29, go_sem]) rfl (Ret.mk' rfl ?_)
  repeat (first | exact Eff.refl _ _ _ | apply Eff.alloc)

set_option maxHeartbeats 1000000 in
theorem first_bad (T d : ByteArray) (hT : T.toList = tIHDR) (hd : d.size ≠ 13 ∨ byteAt d 10 ≠ 0 ∨ byteAt d 11 ≠ 0) (hs : d.size ≤ 9223372036854775807) (w : World) :
    Calls Try.prog 29 #[.agg #[.string T, .string d]] w (Ret (.tuple #[(firstP T d).1.agg, .int .i64 (firstP T d).2]) (fun w' => Eff w.heap.size [] w w')) := by
  have hf : firstP T d = (hdZero, 24) := by unfold firstP; rw [if_neg (by simp [hT]), if_pos hd]
  rw [hf]
  have t1 : (T.toList == [73, 72, 68, 82]) = true := by rw [hT]; rfl
  clear hf hT
  by_cases h13 : d.size = 13
  · have k10 : 10 < d.size := by omega
    have k11 : 11 < d.size := by omega
    have hd' := hd.resolve_left (by omega)
    rw [byteAt_eq d 10 k10, byteAt_eq d 11 k11] at hd'
    have i10 : (10 : Int) < (d.size : Int) := by omega
    have i11 : (11 : Int) < (d.size : Int) := by omega
    have i13 : ((d.size : Int) != 13) = false := by simp; omega
    by_cases e10 : ((d[10].toNat : Nat) : Int) = 0
    · have e11 : ¬ ((d[11].toNat : Nat) : Int) = 0 := by omega
      have b10 : (((d[10].toNat : Nat) : Int) != 0) = false := by simp [e10]
      have b11 : (((d[11].toNat : Nat) : Int) != 0) = true := by simp [bne_iff_ne]; omega
      clear hd hd' e10 e11 h13
      go_enter Try.func29, Try.ntmps29
      go_wp2
      refine bodyPost_ret (v := .tuple #[.agg #[.int .i64 0, .int .i64 0, .int .i64 0, .int .i64 0, .int .i64 0], .int .i64 24]) (by simp [results, Try.results29, go_sem]) rfl (Ret.mk' rfl ?_)
      repeat (first | exact Eff.refl _ _ _ | apply Eff.alloc)
    · have b10 : (((d[10].toNat : Nat) : Int) != 0) = true := by simp [bne_iff_ne]; omega
      clear hd hd' e10 h13
      go_enter Try.func29, Try.ntmps29
      go_wp2
      refine bodyPost_ret (v := .tuple #[.agg #[.int .i64 0, .int .i64 0, .int .i64 0, .int .i64 0, .int .i64 0], .int .i64 24]) (by simp [results, Try.results29, go_sem]) rfl (Ret.mk' rfl ?_)
      repeat (first | exact Eff.refl _ _ _ | apply Eff.alloc)
  · have i13 : ((d.size : Int) != 13) = true := by simp [bne_iff_ne]; omega
    clear hd h13
    go_enter Try.func29, Try.ntmps29
    go_wp2
    refine bodyPost_ret (v := .tuple #[.agg #[.int .i64 0, .int .i64 0, .int .i64 0, .int .i64 0, .int .i64 0], .int .i64 24]) (by simp [results, Try.results29, go_sem]) rfl (Ret.mk' rfl ?_)
    repeat (first | exact Eff.refl _ _ _ | apply Eff.alloc)

set_option maxRecDepth 100000 in
set_option maxHeartbeats 20000000 in
theorem first_good (T d : ByteArray) (hT : T.toList = tIHDR) (hd : ¬ (d.size ≠ 13 ∨ byteAt d 10 ≠ 0 ∨ byteAt d 11 ≠ 0)) (w : World) :
    Calls Try.prog 29 #[.agg #[.string T, .string d]] w (Ret (.tuple #[(firstP T d).1.agg, .int .i64 (firstP T d).2]) (fun w' => Eff w.heap.size [] w w')) := by
  have hf : firstP T d = (firstHd d, (firstHd d).right) := by unfold firstP; rw [if_neg (by simp [hT]), if_neg hd]
  rw [hf]
  have t1 : (T.toList == [73, 72, 68, 82]) = true := by rw [hT]; rfl
  clear hf hT
  have h13 : d.size = 13 := by omega
  have k8 : 8 < d.size := by omega
  have k9 : 9 < d.size := by omega
  have k12 : 12 < d.size := by omega
  have k10 : 10 < d.size := by omega
  have k11 : 11 < d.size := by omega
  have e10 : byteAt d 10 = 0 := by omega
  have e11 : byteAt d 11 = 0 := by omega
  rw [byteAt_eq d 10 k10] at e10
  rw [byteAt_eq d 11 k11] at e11
  have i8 : (8 : Int) < (d.size : Int) := by omega
  have i9 : (9 : Int) < (d.size : Int) := by omega
  have i12 : (12 : Int) < (d.size : Int) := by omega
  have i10 : (10 : Int) < (d.size : Int) := by omega
  have i11 : (11 : Int) < (d.size : Int) := by omega
  have i4 : (4 : Int) ≤ (d.size : Int) := by omega
  have i13 : ((d.size : Int) != 13) = false := by simp; omega
  have b10 : (((d[10].toNat : Nat) : Int) != 0) = false := by simp [e10]
  have b11 : (((d[11].toNat : Nat) : Int) != 0) = false := by simp [e11]
  have hc1 := fun w => first1_calls d w (by omega)
  have hc2 := fun w => first1_calls (d.extract 4 d.size) w (by simp; omega)
  have HC1 := Aside0.mk hc1
  have HC2 := Aside0.mk hc2
  have H13 := Aside0.mk h13
  clear hd e10 e11 h13 hc1 hc2
  go_enter Try.func29, Try.ntmps29
  have hW := (((Eff.refl w.heap.size [] w).alloc (.cells #[.string T, .string d] 30)).alloc (.cells #[.int .i64 0, .int .i64 0, .int .i64 0, .int .i64 0, .int .i64 0] 23))
  have hz : ((w.alloc (.cells #[.string T, .string d] 30)).alloc (.cells #[.int .i64 0, .int .i64 0, .int .i64 0, .int .i64 0, .int .i64 0] 23)).heap.size = w.heap.size + 2 := by simp
  have hb2 : ((w.alloc (.cells #[.string T, .string d] 30)).alloc (.cells #[.int .i64 0, .int .i64 0, .int .i64 0, .int .i64 0, .int .i64 0] 23)).heap[w.heap.size + 1]? = some (.cells #[.int .i64 0, .int .i64 0, .int .i64 0, .int .i64 0, .int .i64 0] 23 (0, 0)) := by
    have := heap_alloc_new (w.alloc (.cells #[.string T, .string d] 30)) (.cells #[.int .i64 0, .int .i64 0, .int .i64 0, .int .i64 0, .int .i64 0] 23)
    simpa using this
  go_wp2
  generalize ((w.alloc (.cells #[.string T, .string d] 30)).alloc (.cells #[.int .i64 0, .int .i64 0, .int .i64 0, .int .i64 0, .int .i64 0] 23)) = W at hW hz hb2 ⊢
  have HW := Aside0.mk hW
  have HZ := Aside0.mk hz
  have HB2 := Aside0.mk hb2
  clear hW hz hb2
  refine wp_region_all (Env := Unit) (vals := fun _ => [.func (.func 35) #[] #[], .string d, .int .i64 (big4 d 0), .func (.func 35) #[] #[], .string d, .string (d.extract 4 d.size), .int .i64 (big4 (d.extract 4 d.size) 0), .string d, .int .u8 (d[8].toNat : Int), .int .i64 (d[8].toNat : Int), .string d, .int .u8 (d[9].toNat : Int), .int .i64 (d[9].toNat : Int), .string d, .int .u8 (d[12].toNat : Int), .int .i64 (d[12].toNat : Int), .agg #[.int .i64 (big4 d 0), .int .i64 (big4 (d.extract 4 d.size) 0), .int .i64 (d[8].toNat : Int), .int .i64 (d[9].toNat : Int), .int .i64 (d[12].toNat : Int)], .pointer (some ⟨W.heap.size, 0, none⟩), undef])
    (WI := fun _ D w' => OneNew W 23 #[.int .i64 0, .int .i64 0, .int .i64 0, .int .i64 0, .int .i64 0] #[.int .i64 (big4 d 0), .int .i64 (big4 (d.extract 4 d.size) 0), .int .i64 (d[8].toNat : Int), .int .i64 (d[9].toNat : Int), .int .i64 (d[12].toNat : Int)] (D 17) (D 18) w')
    (dsts := [some 29, some 30, some 31, some 32, some 33, some 34, some 35, some 36, some 37, some 38, some 39, some 40, some 41, some 42, some 43, some 44, some 45, some 6, none])
    (deps := [([], []), ([], []), ([0, 1], [0, 1]), ([], []), ([], []), ([4], [4]), ([3, 5, 2], [3, 5]), ([], []), ([7], [7]), ([8], [8]), ([], []), ([10], [10]), ([11], [11]), ([], []), ([13], [13]), ([14], [14]), ([2, 6, 9, 12, 15], [2, 6, 9, 12, 15]), ([], []), ([17, 16, 6, 0, 1, 2, 3, 4, 5, 6, 7, 8, 9, 10, 11, 12, 13, 14, 15, 16, 17], [17, 16])])
    (all := [0, 1, 2, 3, 4, 5, 6, 7, 8, 9, 10, 11, 12, 13, 14, 15, 16, 17, 18]) (by kernel_rfl) (by kernel_rfl) (by kernel_rfl) (by kernel_rfl) (by rfl) () ?_ ?_ (fun _ => ⟨#[.agg #[.string T, .string d], .pointer (some ⟨w.heap.size, 0, none⟩), .pointer (some ⟨w.heap.size + 1, 0, none⟩), .int .i64 0, .string d, .func (.func 35) #[] #[], .pointer (some ⟨W.heap.size, 0, none⟩), .pointer (some ⟨w.heap.size, 1, none⟩), .string d, .bool false, .pointer (some ⟨w.heap.size, 0, none⟩), .string T, .bool false, undef, .bool false, .string d, .int .i64 (d.size : Int), .bool false, .bool false, .string d, .int .u8 (d[10].toNat : Int), .bool false, .bool false, .bool false, .string d, .int .u8 (d[11].toNat : Int), .bool false, .bool false, undef, .func (.func 35) #[] #[], .string d, .int .i64 (big4 d 0), .func (.func 35) #[] #[], .string d, .string (d.extract 4 d.size), .int .i64 (big4 (d.extract 4 d.size) 0), .string d, .int .u8 (d[8].toNat : Int), .int .i64 (d[8].toNat : Int), .string d, .int .u8 (d[9].toNat : Int), .int .i64 (d[9].toNat : Int), .string d, .int .u8 (d[12].toNat : Int), .int .i64 (d[12].toNat : Int), .agg #[.int .i64 (big4 d 0), .int .i64 (big4 (d.extract 4 d.size) 0), .int .i64 (d[8].toNat : Int), .int .i64 (d[9].toNat : Int), .int .i64 (d[12].toNat : Int)], undef, undef, undef], []⟩) (fun _ => by kernel_rfl) ?_
  · refine StepsL.val ?_ ?_ ?_
    · intro env D wq hD hw
      simpa [upd] using hw
    · intro env D wq hd hw
      clear hd hw
      generalize hA : rfillL _ _ _ _ = a
      have q5 : a.tmps[5]? = some (.func (.func 35) #[] #[]) := by subst hA; kernel_rfl
      have r5 : a.tmps.getD 5 undef = (.func (.func 35) #[] #[]) := by subst hA; kernel_rfl
      clear hA
      unfold StepVal
      rw [if_pos (by rfl)]
      go_simp
    refine StepsL.val ?_ ?_ ?_
    · intro env D wq hD hw
      simpa [upd] using hw
    · intro env D wq hd hw
      clear hd hw
      generalize hA : rfillL _ _ _ _ = a
      have q4 : a.tmps[4]? = some (.string d) := by subst hA; kernel_rfl
      have r4 : a.tmps.getD 4 undef = (.string d) := by subst hA; kernel_rfl
      clear hA
      unfold StepVal
      rw [if_pos (by rfl)]
      go_simp
    refine StepsL.one ?_ ?_
    · intro env D wq hD hd hw
      clear hd
      have HWW := Aside0.mk hw
      clear hw
      generalize hA : rfillL _ _ _ _ = a
      have q29 : a.tmps[29]? = some (.func (.func 35) #[] #[]) := by subst hA; kernel_rfl
      have r29 : a.tmps.getD 29 undef = (.func (.func 35) #[] #[]) := by subst hA; kernel_rfl
      have q30 : a.tmps[30]? = some (.string d) := by subst hA; kernel_rfl
      have r30 : a.tmps.getD 30 undef = (.string d) := by subst hA; kernel_rfl
      clear hA
      unfold StepOk
      rw [if_pos (by rfl)]
      go_simp
      refine (HC1.out _).mono ?_
      rintro e w' ⟨rfl, n, rfl⟩
      exact ⟨_, rfl, rfl, by simpa [upd] using HWW.out.drewN n⟩
    refine StepsL.val ?_ ?_ ?_
    · intro env D wq hD hw
      simpa [upd] using hw
    · intro env D wq hd hw
      clear hd hw
      generalize hA : rfillL _ _ _ _ = a
      have q5 : a.tmps[5]? = some (.func (.func 35) #[] #[]) := by subst hA; kernel_rfl
      have r5 : a.tmps.getD 5 undef = (.func (.func 35) #[] #[]) := by subst hA; kernel_rfl
      clear hA
      unfold StepVal
      rw [if_pos (by rfl)]
      go_simp
    refine StepsL.val ?_ ?_ ?_
    · intro env D wq hD hw
      simpa [upd] using hw
    · intro env D wq hd hw
      clear hd hw
      generalize hA : rfillL _ _ _ _ = a
      have q4 : a.tmps[4]? = some (.string d) := by subst hA; kernel_rfl
      have r4 : a.tmps.getD 4 undef = (.string d) := by subst hA; kernel_rfl
      clear hA
      unfold StepVal
      rw [if_pos (by rfl)]
      go_simp
    refine StepsL.val ?_ ?_ ?_
    · intro env D wq hD hw
      simpa [upd] using hw
    · intro env D wq hd hw
      clear hd hw
      generalize hA : rfillL _ _ _ _ = a
      have q33 : a.tmps[33]? = some (.string d) := by subst hA; kernel_rfl
      have r33 : a.tmps.getD 33 undef = (.string d) := by subst hA; kernel_rfl
      clear hA
      unfold StepVal
      rw [if_pos (by rfl)]
      go_simp
    refine StepsL.one ?_ ?_
    · intro env D wq hD hd hw
      clear hd
      have HWW := Aside0.mk hw
      clear hw
      generalize hA : rfillL _ _ _ _ = a
      have q32 : a.tmps[32]? = some (.func (.func 35) #[] #[]) := by subst hA; kernel_rfl
      have r32 : a.tmps.getD 32 undef = (.func (.func 35) #[] #[]) := by subst hA; kernel_rfl
      have q34 : a.tmps[34]? = some (.string (d.extract 4 d.size)) := by subst hA; kernel_rfl
      have r34 : a.tmps.getD 34 undef = (.string (d.extract 4 d.size)) := by subst hA; kernel_rfl
      clear hA
      unfold StepOk
      rw [if_pos (by rfl)]
      go_simp
      refine (HC2.out _).mono ?_
      rintro e w' ⟨rfl, n, rfl⟩
      exact ⟨_, rfl, rfl, by simpa [upd] using HWW.out.drewN n⟩
    refine StepsL.val ?_ ?_ ?_
    · intro env D wq hD hw
      simpa [upd] using hw
    · intro env D wq hd hw
      clear hd hw
      generalize hA : rfillL _ _ _ _ = a
      have q4 : a.tmps[4]? = some (.string d) := by subst hA; kernel_rfl
      have r4 : a.tmps.getD 4 undef = (.string d) := by subst hA; kernel_rfl
      clear hA
      unfold StepVal
      rw [if_pos (by rfl)]
      go_simp
    refine StepsL.val ?_ ?_ ?_
    · intro env D wq hD hw
      simpa [upd] using hw
    · intro env D wq hd hw
      clear hd hw
      generalize hA : rfillL _ _ _ _ = a
      have q36 : a.tmps[36]? = some (.string d) := by subst hA; kernel_rfl
      have r36 : a.tmps.getD 36 undef = (.string d) := by subst hA; kernel_rfl
      clear hA
      unfold StepVal
      rw [if_pos (by rfl)]
      go_simp
    refine StepsL.val ?_ ?_ ?_
    · intro env D wq hD hw
      simpa [upd] using hw
    · intro env D wq hd hw
      clear hd hw
      generalize hA : rfillL _ _ _ _ = a
      have q37 : a.tmps[37]? = some (.int .u8 (d[8].toNat : Int)) := by subst hA; kernel_rfl
      have r37 : a.tmps.getD 37 undef = (.int .u8 (d[8].toNat : Int)) := by subst hA; kernel_rfl
      clear hA
      unfold StepVal
      rw [if_pos (by rfl)]
      go_simp
      exact wrap_byte _
    refine StepsL.val ?_ ?_ ?_
    · intro env D wq hD hw
      simpa [upd] using hw
    · intro env D wq hd hw
      clear hd hw
      generalize hA : rfillL _ _ _ _ = a
      have q4 : a.tmps[4]? = some (.string d) := by subst hA; kernel_rfl
      have r4 : a.tmps.getD 4 undef = (.string d) := by subst hA; kernel_rfl
      clear hA
      unfold StepVal
      rw [if_pos (by rfl)]
      go_simp
    refine StepsL.val ?_ ?_ ?_
    · intro env D wq hD hw
      simpa [upd] using hw
    · intro env D wq hd hw
      clear hd hw
      generalize hA : rfillL _ _ _ _ = a
      have q39 : a.tmps[39]? = some (.string d) := by subst hA; kernel_rfl
      have r39 : a.tmps.getD 39 undef = (.string d) := by subst hA; kernel_rfl
      clear hA
      unfold StepVal
      rw [if_pos (by rfl)]
      go_simp
    refine StepsL.val ?_ ?_ ?_
    · intro env D wq hD hw
      simpa [upd] using hw
    · intro env D wq hd hw
      clear hd hw
      generalize hA : rfillL _ _ _ _ = a
      have q40 : a.tmps[40]? = some (.int .u8 (d[9].toNat : Int)) := by subst hA; kernel_rfl
      have r40 : a.tmps.getD 40 undef = (.int .u8 (d[9].toNat : Int)) := by subst hA; kernel_rfl
      clear hA
      unfold StepVal
      rw [if_pos (by rfl)]
      go_simp
      exact wrap_byte _
    refine StepsL.val ?_ ?_ ?_
    · intro env D wq hD hw
      simpa [upd] using hw
    · intro env D wq hd hw
      clear hd hw
      generalize hA : rfillL _ _ _ _ = a
      have q4 : a.tmps[4]? = some (.string d) := by subst hA; kernel_rfl
      have r4 : a.tmps.getD 4 undef = (.string d) := by subst hA; kernel_rfl
      clear hA
      unfold StepVal
      rw [if_pos (by rfl)]
      go_simp
    refine StepsL.val ?_ ?_ ?_
    · intro env D wq hD hw
      simpa [upd] using hw
    · intro env D wq hd hw
      clear hd hw
      generalize hA : rfillL _ _ _ _ = a
      have q42 : a.tmps[42]? = some (.string d) := by subst hA; kernel_rfl
      have r42 : a.tmps.getD 42 undef = (.string d) := by subst hA; kernel_rfl
      clear hA
      unfold StepVal
      rw [if_pos (by rfl)]
      go_simp
    refine StepsL.val ?_ ?_ ?_
    · intro env D wq hD hw
      simpa [upd] using hw
    · intro env D wq hd hw
      clear hd hw
      generalize hA : rfillL _ _ _ _ = a
      have q43 : a.tmps[43]? = some (.int .u8 (d[12].toNat : Int)) := by subst hA; kernel_rfl
      have r43 : a.tmps.getD 43 undef = (.int .u8 (d[12].toNat : Int)) := by subst hA; kernel_rfl
      clear hA
      unfold StepVal
      rw [if_pos (by rfl)]
      go_simp
      exact wrap_byte _
    refine StepsL.val ?_ ?_ ?_
    · intro env D wq hD hw
      simpa [upd] using hw
    · intro env D wq hd hw
      clear hd hw
      generalize hA : rfillL _ _ _ _ = a
      have q31 : a.tmps[31]? = some (.int .i64 (big4 d 0)) := by subst hA; kernel_rfl
      have r31 : a.tmps.getD 31 undef = (.int .i64 (big4 d 0)) := by subst hA; kernel_rfl
      have q35 : a.tmps[35]? = some (.int .i64 (big4 (d.extract 4 d.size) 0)) := by subst hA; kernel_rfl
      have r35 : a.tmps.getD 35 undef = (.int .i64 (big4 (d.extract 4 d.size) 0)) := by subst hA; kernel_rfl
      have q38 : a.tmps[38]? = some (.int .i64 (d[8].toNat : Int)) := by subst hA; kernel_rfl
      have r38 : a.tmps.getD 38 undef = (.int .i64 (d[8].toNat : Int)) := by subst hA; kernel_rfl
      have q41 : a.tmps[41]? = some (.int .i64 (d[9].toNat : Int)) := by subst hA; kernel_rfl
      have r41 : a.tmps.getD 41 undef = (.int .i64 (d[9].toNat : Int)) := by subst hA; kernel_rfl
      have q44 : a.tmps[44]? = some (.int .i64 (d[12].toNat : Int)) := by subst hA; kernel_rfl
      have r44 : a.tmps.getD 44 undef = (.int .i64 (d[12].toNat : Int)) := by subst hA; kernel_rfl
      clear hA
      unfold StepVal
      rw [if_pos (by rfl)]
      go_simp
    refine StepsL.one ?_ ?_
    · intro env D wq hD hd hw
      clear hd
      have hD : D 17 = false := hD
      rw [hD] at hw
      have hz0 := hw.size rfl
      have HWW := Aside0.mk hw
      have HD := Aside0.mk hD
      clear hw hD
      generalize hA : rfillL _ _ _ _ = a
      clear hA
      unfold StepOk
      rw [if_pos (by rfl)]
      go_simp
      refine ⟨_, rfl, rfl, ?_⟩
      have e1 : upd D 17 17 = true := by simp [upd]
      have e2 : upd D 17 18 = D 18 := by simp [upd]
      show OneNew _ _ _ _ (upd D 17 17) (upd D 17 18) _
      rw [e1, e2]
      exact HWW.out.alloc
    refine StepsL.one ?_ ?_
    · intro env D wq hD hd hw
      have h17 : D 17 = true := hd 17 (by decide)
      have hD : D 18 = false := hD
      clear hd
      rw [hD, h17] at hw
      obtain ⟨k0, k1, k2, k3, k4⟩ := cells5 (hw.blk rfl)
      obtain ⟨f0, f1, f2, f3, f4⟩ := frozen5 (hw.blk rfl)
      have HWW := Aside0.mk hw
      have HD := Aside0.mk hD
      have H17 := Aside0.mk h17
      clear hw hD h17
      generalize hA : rfillL _ _ _ _ = a
      have q6 : a.tmps[6]? = some (.pointer (some ⟨W.heap.size, 0, none⟩)) := by subst hA; kernel_rfl
      have r6 : a.tmps.getD 6 undef = (.pointer (some ⟨W.heap.size, 0, none⟩)) := by subst hA; kernel_rfl
      have q45 : a.tmps[45]? = some (.agg #[.int .i64 (big4 d 0), .int .i64 (big4 (d.extract 4 d.size) 0), .int .i64 (d[8].toNat : Int), .int .i64 (d[9].toNat : Int), .int .i64 (d[12].toNat : Int)]) := by subst hA; kernel_rfl
      have r45 : a.tmps.getD 45 undef = (.agg #[.int .i64 (big4 d 0), .int .i64 (big4 (d.extract 4 d.size) 0), .int .i64 (d[8].toNat : Int), .int .i64 (d[9].toNat : Int), .int .i64 (d[12].toNat : Int)]) := by subst hA; kernel_rfl
      clear hA
      unfold StepOk
      rw [if_pos (by rfl)]
      go_simp
      have e1 : upd D 18 17 = true := by simp [upd, H17.out]
      have e2 : upd D 18 18 = true := by simp [upd]
      show OneNew _ _ _ _ (upd D 18 17) (upd D 18 18) _
      rw [e1, e2]
      exact HWW.out.store
    exact StepsL.nil
  · exact OneNew.start _ _ _ _
  · intro env D w' hD hw
    rw [hD 17 (by decide), hD 18 (by decide)] at hw
    obtain ⟨W2, rfl⟩ : ∃ W2, W2 = w' := ⟨_, rfl⟩
    have hg6 := hw.blk rfl
    have hb2' := hw.eff.blockB HB2.out (blk_lt HB2.out)
    have hW2 : Eff w.heap.size [] w W2 := HW.out.trans (hw.eff.mono HW.out.size (by simp))
    clear hw hD env
    have hne : W.heap.size ≠ w.heap.size + 1 := by have := HZ.out; omega
    have hg6' : W2.heap[W.heap.size]? = some (.cells #[.int .i64 (big4 d 0), .int .i64 (big4 (d.extract 4 d.size) 0), .int .i64 (d[8].toNat : Int), .int .i64 (d[9].toNat : Int), .int .i64 (d[12].toNat : Int)] 23 (0, 0)) := hg6
    have HW2 := Aside0.mk hW2
    have HG6 := Aside0.mk hg6'
    have HB2' := Aside0.mk hb2'
    have HNE := Aside0.mk hne
    clear hW2 hg6 hb2' hne hg6'
    have hr := fun W => right_calls (big4 d 0) (big4 (d.extract 4 d.size) 0) (d[8].toNat : Int) (d[9].toNat : Int) (d[12].toNat : Int) W (by omega) (by have := byte_lt d[12]; omega)
    generalize hRR : rightP (big4 d 0) (big4 (d.extract 4 d.size) 0) (d[8].toNat : Int) (d[9].toNat : Int) (d[12].toNat : Int) = R at hr
    have HR := Aside0.mk hr
    have HRR := Aside0.mk hRR
    clear hr hRR
    go_wp2
    refine wp_region_all (Env := Unit) (vals := fun _ => [.agg #[.int .i64 (big4 d 0), .int .i64 (big4 (d.extract 4 d.size) 0), .int .i64 (d[8].toNat : Int), .int .i64 (d[9].toNat : Int), .int .i64 (d[12].toNat : Int)], .agg #[.int .i64 (big4 d 0), .int .i64 (big4 (d.extract 4 d.size) 0), .int .i64 (d[8].toNat : Int), .int .i64 (d[9].toNat : Int), .int .i64 (d[12].toNat : Int)], .int .i64 R, undef, .int .i64 R])
      (WI := fun _ D w' => StoreAt W2 (w.heap.size + 1) ⟨big4 d 0, big4 (d.extract 4 d.size) 0, (d[8].toNat : Int), (d[9].toNat : Int), (d[12].toNat : Int)⟩ (D 2) (D 3) w')
      (dsts := [some 46, some 47, some 48, none, some 3])
      (deps := [([], []), ([], []), ([1], [1]), ([0, 2, 0], [0]), ([2, 3, 0, 1, 2, 3], [2])])
      (all := [0, 1, 2, 3, 4]) (by kernel_rfl) (by kernel_rfl) (by kernel_rfl) (by kernel_rfl) (by rfl) () ?_ ?_ (fun _ => ⟨#[.agg #[.string T, .string d], .pointer (some ⟨w.heap.size, 0, none⟩), .pointer (some ⟨w.heap.size + 1, 0, none⟩), .int .i64 R, .string d, .func (.func 35) #[] #[], .pointer (some ⟨W.heap.size, 0, none⟩), .pointer (some ⟨w.heap.size, 1, none⟩), .string d, .bool false, .pointer (some ⟨w.heap.size, 0, none⟩), .string T, .bool false, undef, .bool false, .string d, .int .i64 (d.size : Int), .bool false, .bool false, .string d, .int .u8 (d[10].toNat : Int), .bool false, .bool false, .bool false, .string d, .int .u8 (d[11].toNat : Int), .bool false, .bool false, undef, .func (.func 35) #[] #[], .string d, .int .i64 (big4 d 0), .func (.func 35) #[] #[], .string d, .string (d.extract 4 d.size), .int .i64 (big4 (d.extract 4 d.size) 0), .string d, .int .u8 (d[8].toNat : Int), .int .i64 (d[8].toNat : Int), .string d, .int .u8 (d[9].toNat : Int), .int .i64 (d[9].toNat : Int), .string d, .int .u8 (d[12].toNat : Int), .int .i64 (d[12].toNat : Int), .agg #[.int .i64 (big4 d 0), .int .i64 (big4 (d.extract 4 d.size) 0), .int .i64 (d[8].toNat : Int), .int .i64 (d[9].toNat : Int), .int .i64 (d[12].toNat : Int)], .agg #[.int .i64 (big4 d 0), .int .i64 (big4 (d.extract 4 d.size) 0), .int .i64 (d[8].toNat : Int), .int .i64 (d[9].toNat : Int), .int .i64 (d[12].toNat : Int)], .agg #[.int .i64 (big4 d 0), .int .i64 (big4 (d.extract 4 d.size) 0), .int .i64 (d[8].toNat : Int), .int .i64 (d[9].toNat : Int), .int .i64 (d[12].toNat : Int)], .int .i64 R], []⟩) (fun _ => by kernel_rfl) ?_
    · refine StepsL.val ?_ ?_ ?_
      · intro env D wq hD hw
        simpa [upd] using hw
      · intro env D wq hd hw
        clear hd
        obtain ⟨k0, k1, k2, k3, k4⟩ := cells5 (hw.keep HG6.out HNE.out)
        clear hw
        generalize hA : rfillL _ _ _ _ = a
        have q6 : a.tmps[6]? = some (.pointer (some ⟨W.heap.size, 0, none⟩)) := by subst hA; kernel_rfl
        have r6 : a.tmps.getD 6 undef = (.pointer (some ⟨W.heap.size, 0, none⟩)) := by subst hA; kernel_rfl
        clear hA
        unfold StepVal
        rw [if_pos (by rfl)]
        go_simp
      refine StepsL.val ?_ ?_ ?_
      · intro env D wq hD hw
        simpa [upd] using hw
      · intro env D wq hd hw
        clear hd
        obtain ⟨k0, k1, k2, k3, k4⟩ := cells5 (hw.keep HG6.out HNE.out)
        clear hw
        generalize hA : rfillL _ _ _ _ = a
        have q6 : a.tmps[6]? = some (.pointer (some ⟨W.heap.size, 0, none⟩)) := by subst hA; kernel_rfl
        have r6 : a.tmps.getD 6 undef = (.pointer (some ⟨W.heap.size, 0, none⟩)) := by subst hA; kernel_rfl
        clear hA
        unfold StepVal
        rw [if_pos (by rfl)]
        go_simp
      refine StepsL.one ?_ ?_
      · intro env D wq hD hd hw
        have HWW := Aside0.mk hw
        have HD := Aside0.mk (show D 2 = false from hD)
        clear hd hw hD
        generalize hA : rfillL _ _ _ _ = a
        have q47 : a.tmps[47]? = some (.agg #[.int .i64 (big4 d 0), .int .i64 (big4 (d.extract 4 d.size) 0), .int .i64 (d[8].toNat : Int), .int .i64 (d[9].toNat : Int), .int .i64 (d[12].toNat : Int)]) := by subst hA; kernel_rfl
        have r47 : a.tmps.getD 47 undef = (.agg #[.int .i64 (big4 d 0), .int .i64 (big4 (d.extract 4 d.size) 0), .int .i64 (d[8].toNat : Int), .int .i64 (d[9].toNat : Int), .int .i64 (d[12].toNat : Int)]) := by subst hA; kernel_rfl
        clear hA
        unfold StepOk
        rw [if_pos (by rfl)]
        go_simp
        refine (HR.out _).mono ?_
        rintro e w1 ⟨rfl, he⟩
        have HE := Aside0.mk he
        clear he
        refine ⟨_, rfl, rfl, ?_⟩
        show StoreAt _ _ _ (upd D 2 2) (upd D 2 3) _
        have e1 : upd D 2 2 = true := by simp [upd]
        have e2 : upd D 2 3 = D 3 := by simp [upd]
        rw [e1, e2]
        exact HWW.out.call HD.out HE.out
      refine StepsL.one ?_ ?_
      · intro env D wq hD hd hw
        have h2 : D 2 = true := hd 2 (by decide)
        have hD : D 3 = false := hD
        rw [hD, h2] at hw
        have HWW := Aside0.mk hw
        have HD := Aside0.mk hD
        have H2 := Aside0.mk h2
        obtain ⟨k0, k1, k2, k3, k4⟩ := cells5 (hw.zero HB2'.out)
        obtain ⟨f0, f1, f2, f3, f4⟩ := frozen5 (hw.zero HB2'.out)
        clear hd hw hD h2
        generalize hA : rfillL _ _ _ _ = a
        have q2 : a.tmps[2]? = some (.pointer (some ⟨w.heap.size + 1, 0, none⟩)) := by subst hA; kernel_rfl
        have r2 : a.tmps.getD 2 undef = (.pointer (some ⟨w.heap.size + 1, 0, none⟩)) := by subst hA; kernel_rfl
        have q46 : a.tmps[46]? = some (.agg #[.int .i64 (big4 d 0), .int .i64 (big4 (d.extract 4 d.size) 0), .int .i64 (d[8].toNat : Int), .int .i64 (d[9].toNat : Int), .int .i64 (d[12].toNat : Int)]) := by subst hA; kernel_rfl
        have r46 : a.tmps.getD 46 undef = (.agg #[.int .i64 (big4 d 0), .int .i64 (big4 (d.extract 4 d.size) 0), .int .i64 (d[8].toNat : Int), .int .i64 (d[9].toNat : Int), .int .i64 (d[12].toNat : Int)]) := by subst hA; kernel_rfl
        clear hA
        unfold StepOk
        rw [if_pos (by rfl)]
        go_simp
        show StoreAt _ _ _ (upd D 3 2) (upd D 3 3) _
        have e1 : upd D 3 2 = true := by simp [upd, H2.out]
        have e2 : upd D 3 3 = true := by simp [upd]
        rw [e1, e2]
        exact HWW.out.stored
      refine StepsL.val ?_ ?_ ?_
      · intro env D wq hD hw
        simpa [upd] using hw
      · intro env D wq hd hw
        clear hd hw
        generalize hA : rfillL _ _ _ _ = a
        have q48 : a.tmps[48]? = some (.int .i64 R) := by subst hA; kernel_rfl
        have r48 : a.tmps.getD 48 undef = (.int .i64 R) := by subst hA; kernel_rfl
        clear hA
        unfold StepVal
        rw [if_pos (by rfl)]
        go_simp
      exact StepsL.nil
    · exact StoreAt.start _ _ _
    · intro env D w' hD hw
      rw [hD 2 (by decide), hD 3 (by decide)] at hw
      obtain ⟨_, w1, h1, hw2⟩ := hw
      simp only [if_true] at hw2
      subst hw2
      have hb3 := h1.blockB HB2'.out (blk_lt HB2'.out)
      obtain ⟨k0, k1, k2, k3, k4⟩ := cells5 hb3
      have H1 := Aside0.mk h1
      clear h1 hD hb3 env
      go_wp2
      have hx : big4 (d.extract 4 d.size) 0 = big4 d 4 := by
        have h13 := H13.out
        rw [big4_eq, big4_eq, byteAt_extract d 4 0 (by omega), byteAt_extract d 4 (0 + 1) (by omega), byteAt_extract d 4 (0 + 2) (by omega), byteAt_extract d 4 (0 + 3) (by omega)]
      have hh : firstHd d = ⟨big4 d 0, big4 (d.extract 4 d.size) 0, (d[8].toNat : Int), (d[9].toNat : Int), (d[12].toNat : Int)⟩ := by
        unfold firstHd
        rw [hx, byteAt_eq d 8 k8, byteAt_eq d 9 k9, byteAt_eq d 12 k12]
      have hR : (firstHd d).right = R := by rw [hh]; exact HRR.out
      have HX := Aside0.mk hx
      have HH := Aside0.mk hh
      have HR2 := Aside0.mk hR
      clear hx hh hR
      refine bodyPost_ret (v := .tuple #[.agg #[.int .i64 (big4 d 0), .int .i64 (big4 (d.extract 4 d.size) 0), .int .i64 (d[8].toNat : Int), .int .i64 (d[9].toNat : Int), .int .i64 (d[12].toNat : Int)], .int .i64 R]) ?_ rfl (Ret.mk' ?_ ?_)
      · simp [results, Try.results29, go_sem, k0, k1, k2, k3, k4]
      · rw [HR2.out, HH.out]; rfl
      · have e1 := HW2.out.trans (H1.out.mono HW2.out.size (by simp))
        exact ((((e1.setNew (by omega) _ _).setNew (by omega) _ _).setNew (by omega) _ _).setNew (by omega) _ _).setNew (by omega) _ _

/-- first: what the first chunk says. -/
theorem first_calls (T d : ByteArray) (hs : d.size ≤ 9223372036854775807) (w : World) :
    Calls Try.prog 29 #[.agg #[.string T, .string d]] w (Ret (.tuple #[(firstP T d).1.agg, .int .i64 (firstP T d).2]) (fun w' => Eff w.heap.size [] w w')) := by
  by_cases h1 : T.toList = tIHDR
  · by_cases h2 : d.size ≠ 13 ∨ byteAt d 10 ≠ 0 ∨ byteAt d 11 ≠ 0
    · exact first_bad T d h1 h2 hs w
    · exact first_good T d h1 h2 w
  · exact first_short T d h1 w

end Go.Proofs.Ytgkmfedjmmleeaa
