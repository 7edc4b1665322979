/- head.Lay, walked. -/
import Derived.Test.YtgkmfedjmmleeaaConcat
import Derived.Test.YtgkmfedjmmleeaaStoreW
import Derived.Test.YtgkmfedjmmleeaaHeadFns
import Derived.Test.YtgkmfedjmmleeaaFirst
namespace Go.Proofs.Ytgkmfedjmmleeaa
open Go.RowKit Go.Proofs.YtgkmfedjmmleeaaW.PrintWords PHeadReads
set_option linter.unusedVariables false

def bigL (n : Int) : List Int := [(n / 16777216) % 256, (n / 65536) % 256, (n / 256) % 256, n % 256]

theorem big_calls (n : Int) (w : World) : Calls Try.prog 27 #[.int .i64 n] w (RetEx (fun v w' => w'.ownsRow w.heap.size 5 1 v 4 (nums .u8 (bigL n)) ∧ Eff w.heap.size [] w w')) := by
  refine (head_big.calls n (bigL n) w rfl).mono ?_
  rintro e w' ⟨v, rfl, hR, hb⟩
  exact RetEx.mk' ⟨Kd.own_of_R hR, (Eff.refl _ _ _).of_below hb⟩

def layBytes (W H D C L : Int) : List Int := bigL W ++ bigL H ++ [D % 256, C % 256, 0, 0, L % 256]

structure LayEnv where
  v2 : Value
  v5 : Value
  v15 : Value
  v16 : Value
  v17 : Value
  v18 : Value

theorem own_lower {w : World} {base base' : Nat} {e : TypeId} {size n : Nat} {v : Value} {xs : List Value} (h : w.ownsRow base e size v n xs) (hb : base' ≤ base) : w.ownsRow base' e size v n xs := by
  refine ⟨h.1, ?_⟩
  rcases h.2 with h0 | ⟨g, cap, cur, hv, hg, r⟩
  · exact .inl h0
  · exact .inr ⟨g, cap, cur, hv, Nat.le_trans hb hg, r⟩
theorem getD_set_other (i : Nat) (v : Value) (l : List Value) (j : Nat) (h : j ≠ i) : (l.set i v).getD j undef = l.getD j undef := by
  simp only [List.getD_eq_getElem?_getD]
  rw [List.getElem?_set_ne (fun e => h e.symm)]
theorem getD_of_ne (l' l : List Value) (i j : Nat) (h : l' = l.set i (l'.getD i undef)) (hne : j ≠ i) : l'.getD j undef = l.getD j undef := by
  rw [h]
  exact getD_set_other i _ l j hne
theorem wrap_u8 (n : Int) : IntKind.u8.wrap n = n % 256 := by
  rw [IntKind.wrap_u8]
theorem bss3 {w : World} {g : Nat} {t : TypeId} {v0 v1 v2 : Value} {l0 l1 l2 : List Int} {A0 A1 A2 : Option Addr} {n0 n1 n2 c0 c1 c2 : Nat} (h : w.heap[g]? = some (.cells #[v0, v1, v2] t (0, 0)))
    (q0 : v0 = .slice A0 n0 c0) (q1 : v1 = .slice A1 n1 c1) (q2 : v2 = .slice A2 n2 c2) (r0 : ReadsInt w .u8 A0 n0 l0) (r1 : ReadsInt w .u8 A1 n1 l1) (r2 : ReadsInt w .u8 A2 n2 l2) : Bss w (some ⟨g, 0, none⟩) [l0, l1, l2] := by
  subst q0 q1 q2
  have e0 : l0.length = n0 := r0.1
  have e1 : l1.length = n1 := r1.1
  have e2 : l2.length = n2 := r2.1
  intro i l hi
  match i, hi with
  | 0, hi =>
    simp at hi
    subst hi
    exact ⟨_, A0, c0, rfl, by rw [add_plain, e0]; exact blk_cell h 0, by rw [e0]; exact r0⟩
  | 1, hi =>
    simp at hi
    subst hi
    exact ⟨_, A1, c1, rfl, by rw [add_plain, e1]; exact blk_cell h 1, by rw [e1]; exact r1⟩
  | 2, hi =>
    simp at hi
    subst hi
    exact ⟨_, A2, c2, rfl, by rw [add_plain, e2]; exact blk_cell h 2, by rw [e2]; exact r2⟩
  | i + 3, hi => simp at hi

/-- The world of Lay's region: the three rows as soon as they are there, the list of them, its concatenation. -/
structure LayInv (W1 : World) (W H D C L : Int) (env : LayEnv) (a b c d e f : Bool) (w : World) : Prop where
  eff : Eff W1.heap.size [] W1 w
  pa : a = true → w.ownsRow W1.heap.size 5 1 env.v2 4 (nums .u8 (bigL W))
  pb : b = true → w.ownsRow W1.heap.size 5 1 env.v5 4 (nums .u8 (bigL H))
  pc : c = true → w.ownsRow W1.heap.size 5 1 env.v15 5 (nums .u8 [D % 256, C % 256, 0, 0, L % 256])
  pd : d = true → ∃ A, env.v16 = .slice A 3 3 ∧ Bss w A [bigL W, bigL H, [D % 256, C % 256, 0, 0, L % 256]]
  pe : e = true → w.ownsRow W1.heap.size 5 1 env.v17 13 (nums .u8 (layBytes W H D C L))
  pf : f = true → e = true ∧ env.v18 = env.v17

theorem LayInv.mono {W1 : World} {W H D C L : Int} {env : LayEnv} {a b c d e f : Bool} {w w' : World} (h : LayInv W1 W H D C L env a b c d e f w) (k : Eff w.heap.size [] w w') : LayInv W1 W H D C L env a b c d e f w' :=
  ⟨h.eff.trans (k.mono h.eff.size (by simp)), fun x => k.own (h.pa x) (by simp), fun x => k.own (h.pb x) (by simp), fun x => k.own (h.pc x) (by simp),
    fun x => by obtain ⟨A, q, r⟩ := h.pd x; exact ⟨A, q, r.below (k.below (Nat.le_refl _))⟩, fun x => k.own (h.pe x) (by simp), h.pf⟩

set_option maxRecDepth 100000 in
set_option maxHeartbeats 20000000 in
theorem lay_calls (W H Dp C L : Int) (w : World) :
    Calls Try.prog 14 #[.agg #[.int .i64 W, .int .i64 H, .int .i64 Dp, .int .i64 C, .int .i64 L]] w (Ret (.agg #[.string ⟨#[73, 72, 68, 82]⟩, .string (strOfNums (layBytes W H Dp C L))]) (fun w' => Eff w.heap.size [] w w')) := by
  go_enter Try.func14, Try.ntmps14
  go_wp2_with fail
  have hb1 := blk_alloc (heap_alloc_new w (.cells #[.int .i64 W, .int .i64 H, .int .i64 Dp, .int .i64 C, .int .i64 L] 23)) (.cells #[.string ⟨#[]⟩, .string ⟨#[]⟩] 30)
  have hb2 := heap_alloc2_new w (.cells #[.int .i64 W, .int .i64 H, .int .i64 Dp, .int .i64 C, .int .i64 L] 23) (.cells #[.string ⟨#[]⟩, .string ⟨#[]⟩] 30)
  have hw1 := ((Eff.refl w.heap.size [] w).alloc (.cells #[.int .i64 W, .int .i64 H, .int .i64 Dp, .int .i64 C, .int .i64 L] 23)).alloc (.cells #[.string ⟨#[]⟩, .string ⟨#[]⟩] 30)
  generalize ((w.alloc (.cells #[.int .i64 W, .int .i64 H, .int .i64 Dp, .int .i64 C, .int .i64 L] 23)).alloc (.cells #[.string ⟨#[]⟩, .string ⟨#[]⟩] 30)) = W1 at hb1 hb2 hw1 ⊢
  have HB1 := Aside0.mk hb1
  have HB2 := Aside0.mk hb2
  have HW1 := Aside0.mk hw1
  clear hb1 hb2 hw1
  refine wp_region_all (Env := LayEnv) (vals := fun env => [.pointer (some ⟨w.heap.size, 0, none⟩), .int .i64 W, env.v2, .pointer (some ⟨w.heap.size, 1, none⟩), .int .i64 H, env.v5, .pointer (some ⟨w.heap.size, 2, none⟩), .int .i64 Dp, .int .u8 (Dp % 256), .pointer (some ⟨w.heap.size, 3, none⟩), .int .i64 C, .int .u8 (C % 256), .pointer (some ⟨w.heap.size, 4, none⟩), .int .i64 L, .int .u8 (L % 256), env.v15, env.v16, env.v17, env.v18])
    (WI := fun env D w' => LayInv W1 W H Dp C L env (D 2) (D 5) (D 15) (D 16) (D 17) (D 18) w')
    (dsts := [some 4, some 5, some 6, some 7, some 8, some 9, some 10, some 11, some 12, some 13, some 14, some 15, some 16, some 17, some 18, some 19, some 20, some 21, some 3])
    (deps := [([], []), ([0], [0]), ([1], [1]), ([], []), ([3], [3]), ([4, 2], [4]), ([], []), ([6], [6]), ([7], [7]), ([], []), ([9], [9]), ([10], [10]), ([], []), ([12], [12]), ([13], [13]), ([8, 11, 14], [8, 11, 14]), ([2, 5, 15], [2, 5, 15]), ([16, 5], [16]), ([17, 17, 0, 1, 2, 3, 4, 5, 6, 7, 8, 9, 10, 11, 12, 13, 14, 15, 16, 17], [17])])
    (all := [0, 1, 2, 3, 4, 5, 6, 7, 8, 9, 10, 11, 12, 13, 14, 15, 16, 17, 18]) (by kernel_rfl) (by kernel_rfl) (by kernel_rfl) (by kernel_rfl) (by rfl) ⟨undef, undef, undef, undef, undef, undef⟩ ?_ ?_ (fun env => ⟨#[.agg #[.int .i64 W, .int .i64 H, .int .i64 Dp, .int .i64 C, .int .i64 L], .pointer (some ⟨w.heap.size, 0, none⟩), .pointer (some ⟨w.heap.size + 1, 0, none⟩), env.v18, .pointer (some ⟨w.heap.size, 0, none⟩), .int .i64 W, env.v2, .pointer (some ⟨w.heap.size, 1, none⟩), .int .i64 H, env.v5, .pointer (some ⟨w.heap.size, 2, none⟩), .int .i64 Dp, .int .u8 (Dp % 256), .pointer (some ⟨w.heap.size, 3, none⟩), .int .i64 C, .int .u8 (C % 256), .pointer (some ⟨w.heap.size, 4, none⟩), .int .i64 L, .int .u8 (L % 256), env.v15, env.v16, env.v17, undef, undef, undef], []⟩) (fun _ => by kernel_rfl) ?_
  · refine StepsL.val ?_ ?_ ?_
    · intro env D wq hD hw
      simpa [upd] using hw
    · intro env D wq hd hw
      clear hd hw
      generalize hA : rfillL _ _ _ _ = a
      have q1 : a.tmps[1]? = some (.pointer (some ⟨w.heap.size, 0, none⟩)) := by subst hA; kernel_rfl
      have r1 : a.tmps.getD 1 undef = (.pointer (some ⟨w.heap.size, 0, none⟩)) := by subst hA; kernel_rfl
      clear hA
      unfold StepVal
      rw [if_pos (by rfl)]
      go_simp
    refine StepsL.val ?_ ?_ ?_
    · intro env D wq hD hw
      simpa [upd] using hw
    · intro env D wq hd hw
      clear hd
      obtain ⟨k0, k1, k2, k3, k4⟩ := cells5 (hw.eff.blockB HB1.out (blk_lt HB1.out))
      clear hw
      generalize hA : rfillL _ _ _ _ = a
      have q4 : a.tmps[4]? = some (.pointer (some ⟨w.heap.size, 0, none⟩)) := by subst hA; kernel_rfl
      have r4 : a.tmps.getD 4 undef = (.pointer (some ⟨w.heap.size, 0, none⟩)) := by subst hA; kernel_rfl
      clear hA
      unfold StepVal
      rw [if_pos (by rfl)]
      go_simp
    refine StepsL.any ?_ ?_
    · intro env D wq hD hd hw
      have HWW := Aside0.mk hw
      have HD := Aside0.mk (show D 2 = false from hD)
      clear hd hw hD
      generalize hA : rfillL _ _ _ _ = a
      have q5 : a.tmps[5]? = some (.int .i64 W) := by subst hA; kernel_rfl
      have r5 : a.tmps.getD 5 undef = (.int .i64 W) := by subst hA; kernel_rfl
      clear hA
      unfold StepOk
      rw [if_pos (by rfl)]
      go_simp
      refine (big_calls W _).mono ?_
      rintro e w' ⟨v, rfl, ho, he⟩
      refine ⟨_, rfl, { env with v2 := v }, rfl, ?_, ?_⟩
      · intro j hj
        have hne : j ≠ 2 := by rintro rfl; rw [HD.out] at hj; cases hj
        exact getD_of_ne _ _ 2 j rfl hne
      · show LayInv _ _ _ _ _ _ _ (upd D 2 2) (upd D 2 5) (upd D 2 15) (upd D 2 16) (upd D 2 17) (upd D 2 18) _
        have e2 : upd D 2 2 = true := by simp [upd]
        have e5 : upd D 2 5 = D 5 := by simp [upd]
        have e15 : upd D 2 15 = D 15 := by simp [upd]
        have e16 : upd D 2 16 = D 16 := by simp [upd]
        have e17 : upd D 2 17 = D 17 := by simp [upd]
        have e18 : upd D 2 18 = D 18 := by simp [upd]
        rw [e2, e5, e15, e16, e17, e18]
        have hm := HWW.out.mono he
        exact { hm with pa := fun _ => own_lower ho HWW.out.eff.size }
    refine StepsL.val ?_ ?_ ?_
    · intro env D wq hD hw
      simpa [upd] using hw
    · intro env D wq hd hw
      clear hd hw
      generalize hA : rfillL _ _ _ _ = a
      have q1 : a.tmps[1]? = some (.pointer (some ⟨w.heap.size, 0, none⟩)) := by subst hA; kernel_rfl
      have r1 : a.tmps.getD 1 undef = (.pointer (some ⟨w.heap.size, 0, none⟩)) := by subst hA; kernel_rfl
      clear hA
      unfold StepVal
      rw [if_pos (by rfl)]
      go_simp
    refine StepsL.val ?_ ?_ ?_
    · intro env D wq hD hw
      simpa [upd] using hw
    · intro env D wq hd hw
      clear hd
      obtain ⟨k0, k1, k2, k3, k4⟩ := cells5 (hw.eff.blockB HB1.out (blk_lt HB1.out))
      clear hw
      generalize hA : rfillL _ _ _ _ = a
      have q7 : a.tmps[7]? = some (.pointer (some ⟨w.heap.size, 1, none⟩)) := by subst hA; kernel_rfl
      have r7 : a.tmps.getD 7 undef = (.pointer (some ⟨w.heap.size, 1, none⟩)) := by subst hA; kernel_rfl
      clear hA
      unfold StepVal
      rw [if_pos (by rfl)]
      go_simp
    refine StepsL.any ?_ ?_
    · intro env D wq hD hd hw
      have HWW := Aside0.mk hw
      have HD := Aside0.mk (show D 5 = false from hD)
      clear hd hw hD
      generalize hA : rfillL _ _ _ _ = a
      have q8 : a.tmps[8]? = some (.int .i64 H) := by subst hA; kernel_rfl
      have r8 : a.tmps.getD 8 undef = (.int .i64 H) := by subst hA; kernel_rfl
      clear hA
      unfold StepOk
      rw [if_pos (by rfl)]
      go_simp
      refine (big_calls H _).mono ?_
      rintro e w' ⟨v, rfl, ho, he⟩
      refine ⟨_, rfl, { env with v5 := v }, rfl, ?_, ?_⟩
      · intro j hj
        have hne : j ≠ 5 := by rintro rfl; rw [HD.out] at hj; cases hj
        exact getD_of_ne _ _ 5 j rfl hne
      · show LayInv _ _ _ _ _ _ _ (upd D 5 2) (upd D 5 5) (upd D 5 15) (upd D 5 16) (upd D 5 17) (upd D 5 18) _
        have e2 : upd D 5 2 = D 2 := by simp [upd]
        have e5 : upd D 5 5 = true := by simp [upd]
        have e15 : upd D 5 15 = D 15 := by simp [upd]
        have e16 : upd D 5 16 = D 16 := by simp [upd]
        have e17 : upd D 5 17 = D 17 := by simp [upd]
        have e18 : upd D 5 18 = D 18 := by simp [upd]
        rw [e2, e5, e15, e16, e17, e18]
        have hm := HWW.out.mono he
        exact { hm with pb := fun _ => own_lower ho HWW.out.eff.size }
    refine StepsL.val ?_ ?_ ?_
    · intro env D wq hD hw
      simpa [upd] using hw
    · intro env D wq hd hw
      clear hd hw
      generalize hA : rfillL _ _ _ _ = a
      have q1 : a.tmps[1]? = some (.pointer (some ⟨w.heap.size, 0, none⟩)) := by subst hA; kernel_rfl
      have r1 : a.tmps.getD 1 undef = (.pointer (some ⟨w.heap.size, 0, none⟩)) := by subst hA; kernel_rfl
      clear hA
      unfold StepVal
      rw [if_pos (by rfl)]
      go_simp
    refine StepsL.val ?_ ?_ ?_
    · intro env D wq hD hw
      simpa [upd] using hw
    · intro env D wq hd hw
      clear hd
      obtain ⟨k0, k1, k2, k3, k4⟩ := cells5 (hw.eff.blockB HB1.out (blk_lt HB1.out))
      clear hw
      generalize hA : rfillL _ _ _ _ = a
      have q10 : a.tmps[10]? = some (.pointer (some ⟨w.heap.size, 2, none⟩)) := by subst hA; kernel_rfl
      have r10 : a.tmps.getD 10 undef = (.pointer (some ⟨w.heap.size, 2, none⟩)) := by subst hA; kernel_rfl
      clear hA
      unfold StepVal
      rw [if_pos (by rfl)]
      go_simp
    refine StepsL.val ?_ ?_ ?_
    · intro env D wq hD hw
      simpa [upd] using hw
    · intro env D wq hd hw
      clear hd hw
      generalize hA : rfillL _ _ _ _ = a
      have q11 : a.tmps[11]? = some (.int .i64 Dp) := by subst hA; kernel_rfl
      have r11 : a.tmps.getD 11 undef = (.int .i64 Dp) := by subst hA; kernel_rfl
      clear hA
      unfold StepVal
      rw [if_pos (by rfl)]
      go_simp
      exact wrap_u8 _
    refine StepsL.val ?_ ?_ ?_
    · intro env D wq hD hw
      simpa [upd] using hw
    · intro env D wq hd hw
      clear hd hw
      generalize hA : rfillL _ _ _ _ = a
      have q1 : a.tmps[1]? = some (.pointer (some ⟨w.heap.size, 0, none⟩)) := by subst hA; kernel_rfl
      have r1 : a.tmps.getD 1 undef = (.pointer (some ⟨w.heap.size, 0, none⟩)) := by subst hA; kernel_rfl
      clear hA
      unfold StepVal
      rw [if_pos (by rfl)]
      go_simp
    refine StepsL.val ?_ ?_ ?_
    · intro env D wq hD hw
      simpa [upd] using hw
    · intro env D wq hd hw
      clear hd
      obtain ⟨k0, k1, k2, k3, k4⟩ := cells5 (hw.eff.blockB HB1.out (blk_lt HB1.out))
      clear hw
      generalize hA : rfillL _ _ _ _ = a
      have q13 : a.tmps[13]? = some (.pointer (some ⟨w.heap.size, 3, none⟩)) := by subst hA; kernel_rfl
      have r13 : a.tmps.getD 13 undef = (.pointer (some ⟨w.heap.size, 3, none⟩)) := by subst hA; kernel_rfl
      clear hA
      unfold StepVal
      rw [if_pos (by rfl)]
      go_simp
    refine StepsL.val ?_ ?_ ?_
    · intro env D wq hD hw
      simpa [upd] using hw
    · intro env D wq hd hw
      clear hd hw
      generalize hA : rfillL _ _ _ _ = a
      have q14 : a.tmps[14]? = some (.int .i64 C) := by subst hA; kernel_rfl
      have r14 : a.tmps.getD 14 undef = (.int .i64 C) := by subst hA; kernel_rfl
      clear hA
      unfold StepVal
      rw [if_pos (by rfl)]
      go_simp
      exact wrap_u8 _
    refine StepsL.val ?_ ?_ ?_
    · intro env D wq hD hw
      simpa [upd] using hw
    · intro env D wq hd hw
      clear hd hw
      generalize hA : rfillL _ _ _ _ = a
      have q1 : a.tmps[1]? = some (.pointer (some ⟨w.heap.size, 0, none⟩)) := by subst hA; kernel_rfl
      have r1 : a.tmps.getD 1 undef = (.pointer (some ⟨w.heap.size, 0, none⟩)) := by subst hA; kernel_rfl
      clear hA
      unfold StepVal
      rw [if_pos (by rfl)]
      go_simp
    refine StepsL.val ?_ ?_ ?_
    · intro env D wq hD hw
      simpa [upd] using hw
    · intro env D wq hd hw
      clear hd
      obtain ⟨k0, k1, k2, k3, k4⟩ := cells5 (hw.eff.blockB HB1.out (blk_lt HB1.out))
      clear hw
      generalize hA : rfillL _ _ _ _ = a
      have q16 : a.tmps[16]? = some (.pointer (some ⟨w.heap.size, 4, none⟩)) := by subst hA; kernel_rfl
      have r16 : a.tmps.getD 16 undef = (.pointer (some ⟨w.heap.size, 4, none⟩)) := by subst hA; kernel_rfl
      clear hA
      unfold StepVal
      rw [if_pos (by rfl)]
      go_simp
    refine StepsL.val ?_ ?_ ?_
    · intro env D wq hD hw
      simpa [upd] using hw
    · intro env D wq hd hw
      clear hd hw
      generalize hA : rfillL _ _ _ _ = a
      have q17 : a.tmps[17]? = some (.int .i64 L) := by subst hA; kernel_rfl
      have r17 : a.tmps.getD 17 undef = (.int .i64 L) := by subst hA; kernel_rfl
      clear hA
      unfold StepVal
      rw [if_pos (by rfl)]
      go_simp
      exact wrap_u8 _
    refine StepsL.any ?_ ?_
    · intro env D wq hD hd hw
      have HWW := Aside0.mk hw
      have HD := Aside0.mk (show D 15 = false from hD)
      clear hd hw hD
      generalize hA : rfillL _ _ _ _ = a
      have q12 : a.tmps[12]? = some (.int .u8 (Dp % 256)) := by subst hA; kernel_rfl
      have r12 : a.tmps.getD 12 undef = (.int .u8 (Dp % 256)) := by subst hA; kernel_rfl
      have q15 : a.tmps[15]? = some (.int .u8 (C % 256)) := by subst hA; kernel_rfl
      have r15 : a.tmps.getD 15 undef = (.int .u8 (C % 256)) := by subst hA; kernel_rfl
      have q18 : a.tmps[18]? = some (.int .u8 (L % 256)) := by subst hA; kernel_rfl
      have r18 : a.tmps.getD 18 undef = (.int .u8 (L % 256)) := by subst hA; kernel_rfl
      clear hA
      unfold StepOk
      rw [if_pos (by rfl)]
      go_simp
      refine ⟨_, rfl, { env with v15 := .slice (some ⟨wq.heap.size, 0, none⟩) 5 5 }, rfl, ?_, ?_⟩
      · intro j hj
        have hne : j ≠ 15 := by rintro rfl; rw [HD.out] at hj; cases hj
        exact getD_of_ne _ _ 15 j rfl hne
      · show LayInv _ _ _ _ _ _ _ (upd D 15 2) (upd D 15 5) (upd D 15 15) (upd D 15 16) (upd D 15 17) (upd D 15 18) _
        have e2 : upd D 15 2 = D 2 := by simp [upd]
        have e5 : upd D 15 5 = D 5 := by simp [upd]
        have e15 : upd D 15 15 = true := by simp [upd]
        have e16 : upd D 15 16 = D 16 := by simp [upd]
        have e17 : upd D 15 17 = D 17 := by simp [upd]
        have e18 : upd D 15 18 = D 18 := by simp [upd]
        rw [e2, e5, e15, e16, e17, e18]
        have hm := HWW.out.mono ((Eff.refl _ _ _).alloc (.cells #[.int .u8 (Dp % 256), .int .u8 (C % 256), .int .u8 0, .int .u8 0, .int .u8 (L % 256)] 5))
        exact { hm with pc := fun _ => World.ownsRow_lit wq #[.int .u8 (Dp % 256), .int .u8 (C % 256), .int .u8 0, .int .u8 0, .int .u8 (L % 256)] 5 HWW.out.eff.size (by decide) rfl }
    refine StepsL.any ?_ ?_
    · intro env D wq hD hd hw
      have h2 : D 2 = true := hd 2 (by decide)
      have h5 : D 5 = true := hd 5 (by decide)
      have h15 : D 15 = true := hd 15 (by decide)
      have HWW := Aside0.mk hw
      have HD := Aside0.mk (show D 16 = false from hD)
      obtain ⟨A2, c2, q2, r2⟩ := own_reads (hw.pa h2)
      obtain ⟨A5, c5, q5, r5⟩ := own_reads (hw.pb h5)
      obtain ⟨A15, c15, q15, r15⟩ := own_reads (hw.pc h15)
      have R2 := Aside0.mk r2
      have R5 := Aside0.mk r5
      have R15 := Aside0.mk r15
      have Q2 := Aside0.mk q2
      have Q5 := Aside0.mk q5
      have Q15 := Aside0.mk q15
      clear hd hw hD h2 h5 h15 r2 r5 r15 q2 q5 q15
      generalize hA : rfillL _ _ _ _ = a
      have q6 : a.tmps[6]? = some (env.v2) := by subst hA; kernel_rfl
      have r6 : a.tmps.getD 6 undef = (env.v2) := by subst hA; kernel_rfl
      have q9 : a.tmps[9]? = some (env.v5) := by subst hA; kernel_rfl
      have r9 : a.tmps.getD 9 undef = (env.v5) := by subst hA; kernel_rfl
      have q19 : a.tmps[19]? = some (env.v15) := by subst hA; kernel_rfl
      have r19 : a.tmps.getD 19 undef = (env.v15) := by subst hA; kernel_rfl
      clear hA
      unfold StepOk
      rw [if_pos (by rfl)]
      rw [Q2.out] at q6 r6
      rw [Q5.out] at q9 r9
      rw [Q15.out] at q19 r19
      go_simp
      refine ⟨_, rfl, { env with v16 := .slice (some ⟨wq.heap.size, 0, none⟩) 3 3 }, rfl, ?_, ?_⟩
      · intro j hj
        have hne : j ≠ 16 := by rintro rfl; rw [HD.out] at hj; cases hj
        exact getD_of_ne _ _ 16 j rfl hne
      · show LayInv _ _ _ _ _ _ _ (upd D 16 2) (upd D 16 5) (upd D 16 15) (upd D 16 16) (upd D 16 17) (upd D 16 18) _
        have e2 : upd D 16 2 = D 2 := by simp [upd]
        have e5 : upd D 16 5 = D 5 := by simp [upd]
        have e15 : upd D 16 15 = D 15 := by simp [upd]
        have e16 : upd D 16 16 = true := by simp [upd]
        have e17 : upd D 16 17 = D 17 := by simp [upd]
        have e18 : upd D 16 18 = D 18 := by simp [upd]
        rw [e2, e5, e15, e16, e17, e18]
        have hm := HWW.out.mono ((Eff.refl _ _ _).alloc (.cells #[.slice A2 4 c2, .slice A5 4 c5, .slice A15 5 c15] 51))
        refine { hm with pd := fun _ => ⟨some ⟨wq.heap.size, 0, none⟩, rfl, ?_⟩ }
        have hnew := heap_alloc_new wq (.cells #[.slice A2 4 c2, .slice A5 4 c5, .slice A15 5 c15] 51)
        have hbel := (Below.refl wq.heap.size wq).alloc (Nat.le_refl _) (.cells #[.slice A2 4 c2, .slice A5 4 c5, .slice A15 5 c15] 51)
        exact bss3 hnew rfl rfl rfl (R2.out.below hbel) (R5.out.below hbel) (R15.out.below hbel)
    refine StepsL.any ?_ ?_
    · intro env D wq hD hd hw
      have h16 : D 16 = true := hd 16 (by decide)
      obtain ⟨A, qA, hB⟩ := hw.pd h16
      have HWW := Aside0.mk hw
      have HD := Aside0.mk (show D 17 = false from hD)
      have HBS := Aside0.mk hB
      have QA := Aside0.mk qA
      clear hd hw hD h16 hB qA
      generalize hA : rfillL _ _ _ _ = a
      have q20 : a.tmps[20]? = some (env.v16) := by subst hA; kernel_rfl
      have r20 : a.tmps.getD 20 undef = (env.v16) := by subst hA; kernel_rfl
      clear hA
      unfold StepOk
      rw [if_pos (by rfl)]
      rw [QA.out] at q20 r20
      go_simp
      refine (concat_calls _ A 3 [bigL W, bigL H, [Dp % 256, C % 256, 0, 0, L % 256]] HBS.out (by simp) (by simp) (by simp [sums, bigL])).mono ?_
      rintro e w' ⟨v, rfl, ho, he⟩
      have hfl : [bigL W, bigL H, [Dp % 256, C % 256, 0, 0, L % 256]].flatten = layBytes W H Dp C L := by simp [layBytes]
      have ho := (hfl ▸ ho : w'.ownsRow wq.heap.size 5 1 v (layBytes W H Dp C L).length (nums .u8 (layBytes W H Dp C L)))
      refine ⟨_, rfl, { env with v17 := v }, rfl, ?_, ?_⟩
      · intro j hj
        have hne : j ≠ 17 := by rintro rfl; rw [HD.out] at hj; cases hj
        exact getD_of_ne _ _ 17 j rfl hne
      · show LayInv _ _ _ _ _ _ _ (upd D 17 2) (upd D 17 5) (upd D 17 15) (upd D 17 16) (upd D 17 17) (upd D 17 18) _
        have e2 : upd D 17 2 = D 2 := by simp [upd]
        have e5 : upd D 17 5 = D 5 := by simp [upd]
        have e15 : upd D 17 15 = D 15 := by simp [upd]
        have e16 : upd D 17 16 = D 16 := by simp [upd]
        have e17 : upd D 17 17 = true := by simp [upd]
        have e18 : upd D 17 18 = D 18 := by simp [upd]
        rw [e2, e5, e15, e16, e17, e18]
        have hm := HWW.out.mono he
        exact { hm with pe := fun _ => own_lower ho HWW.out.eff.size, pf := fun h18 => by have := (HWW.out.pf h18).1; rw [HD.out] at this; cases this }
    refine StepsL.any ?_ ?_
    · intro env D wq hD hd hw
      have h17 : D 17 = true := hd 17 (by decide)
      have HWW := Aside0.mk hw
      have HD := Aside0.mk (show D 18 = false from hD)
      have H17 := Aside0.mk h17
      clear hd hw hD h17
      generalize hA : rfillL _ _ _ _ = a
      have q21 : a.tmps[21]? = some (env.v17) := by subst hA; kernel_rfl
      have r21 : a.tmps.getD 21 undef = (env.v17) := by subst hA; kernel_rfl
      clear hA
      unfold StepOk
      rw [if_pos (by rfl)]
      go_simp
      refine ⟨_, rfl, { env with v18 := env.v17 }, rfl, ?_, ?_⟩
      · intro j hj
        have hne : j ≠ 18 := by rintro rfl; rw [HD.out] at hj; cases hj
        exact getD_of_ne _ _ 18 j rfl hne
      · show LayInv _ _ _ _ _ _ _ (upd D 18 2) (upd D 18 5) (upd D 18 15) (upd D 18 16) (upd D 18 17) (upd D 18 18) _
        have e2 : upd D 18 2 = D 2 := by simp [upd]
        have e5 : upd D 18 5 = D 5 := by simp [upd]
        have e15 : upd D 18 15 = D 15 := by simp [upd]
        have e16 : upd D 18 16 = D 16 := by simp [upd]
        have e17 : upd D 18 17 = D 17 := by simp [upd]
        have e18 : upd D 18 18 = true := by simp [upd]
        rw [e2, e5, e15, e16, e17, e18]
        exact { HWW.out with pf := fun _ => ⟨H17.out, rfl⟩ }
    exact StepsL.nil
  · exact ⟨(Eff.refl _ _ _).drew, fun h => Bool.noConfusion h, fun h => Bool.noConfusion h, fun h => Bool.noConfusion h, fun h => Bool.noConfusion h, fun h => Bool.noConfusion h, fun h => Bool.noConfusion h⟩
  · intro env D w' hD hw
    rw [hD 2 (by decide), hD 5 (by decide), hD 15 (by decide), hD 16 (by decide), hD 17 (by decide), hD 18 (by decide)] at hw
    obtain ⟨e17, e18⟩ := hw.pf rfl
    have hconv := own_string (P := Try.prog) (e' := 5) (src := 51) (dst := 9) Try.underlying51 Try.underlying5 Try.underlying9 (hw.pe rfl)
    have heff := hw.eff
    have hb2 := heff.blockB HB2.out (blk_lt HB2.out)
    have hlt := blk_lt hb2
    obtain ⟨v2, v5, v15, v16, v17, v18⟩ := env
    dsimp only at e18 hconv ⊢
    subst e18
    have c0 := blk_cell hb2 0
    have c1 := blk_cell hb2 1
    have f0 := blk_frozen hb2 0
    have f1 := blk_frozen hb2 1
    simp only [List.getElem?_toArray, List.getElem?_cons_zero, List.getElem?_cons_succ] at c0 c1
    have HE := Aside0.mk heff
    have HB3 := Aside0.mk hb2
    clear hw hD heff hb2 e17
    go_wp2
    have e2 := blk_set (blk_set HB3.out 0 (.string ⟨#[73, 72, 68, 82]⟩)) 1 (.string (strOfNums (layBytes W H Dp C L)))
    simp only [List.setIfInBounds_toArray, List.set_cons_zero, List.set_cons_succ] at e2
    refine bodyPost_ret (results_cell_row rfl _ _ (w.heap.size + 1) 30 _ (0, 0) _ (by kernel_rfl) e2 Try.underlying30 rfl (by kernel_rfl)) rfl (Ret.mk' rfl ?_)
    have h2 := HW1.out.trans (HE.out.mono HW1.out.size (by simp))
    repeat (first | (with_reducible exact h2) | (with_reducible apply Eff.alloc) | (with_reducible refine Eff.setNew ?_ (by first | exact Nat.le_refl _ | omega) _ _))

end Go.Proofs.Ytgkmfedjmmleeaa
