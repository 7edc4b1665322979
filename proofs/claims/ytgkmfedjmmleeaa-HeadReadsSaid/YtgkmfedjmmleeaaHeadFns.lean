/- Samples, Right (the program's and the reference's): the printed functions are the plain ones. -/
import Derived.Test.YtgkmfedjmmleeaaPHeadReadsx
import Derived.Test.YtgkmfedjmmleeaaBase
import Derived.Test.YtgkmfedjmmleeaaHeadPure
namespace Go.Proofs.Ytgkmfedjmmleeaa
open Go.RowKit Go.Proofs.YtgkmfedjmmleeaaW.PrintWords PHeadReads

theorem and_not_one (L : Int) (h0 : -9223372036854775808 ≤ L) (h1 : L ≤ 9223372036854775807) : (bits .andNot .i64 L 1 != 0) = decide (L ≠ 0 ∧ L ≠ 1) := by
  have hx : ∀ x : BitVec 64, (x &&& ~~~1#64) = 0#64 ↔ (x = 0#64 ∨ x = 1#64) := by
    intro x
    constructor
    · intro h
      have e : x = x &&& 1#64 := by
        apply BitVec.eq_of_getLsbD_eq
        intro i hi
        have := congrArg (fun y => y.getLsbD i) h
        simp only [BitVec.getLsbD_and, BitVec.getLsbD_not, BitVec.getLsbD_zero] at this ⊢
        cases hxi : x.getLsbD i <;> simp_all
      have e2 : x.toNat = x.toNat % 2 := by
        have := congrArg BitVec.toNat e
        rw [BitVec.toNat_and] at this
        simpa [Nat.and_one_is_mod] using this
      have : x.toNat = 0 ∨ x.toNat = 1 := by omega
      rcases this with h | h
      · left; apply BitVec.eq_of_toNat_eq; simpa using h
      · right; apply BitVec.eq_of_toNat_eq; simpa using h
    · rintro (rfl | rfl) <;> decide
  have h1' : ∀ L : Int, -9223372036854775808 ≤ L → L ≤ 9223372036854775807 → ∀ k : Nat, k ≤ 1 → (BitVec.ofInt 64 L = BitVec.ofNat 64 k ↔ L = k) := by
    intro L h0 h1 k hk
    constructor
    · intro h
      have := congrArg BitVec.toInt h
      rw [BitVec.toInt_ofInt] at this
      have e : (BitVec.ofNat 64 k).toInt = k := by
        rcases Nat.lt_or_ge k 1 with hk' | hk'
        · obtain rfl : k = 0 := by omega
          decide
        · obtain rfl : k = 1 := by omega
          decide
      rw [e, Int.bmod_def] at this
      simp only [Nat.reducePow] at this
      omega
    · rintro rfl
      exact BitVec.ofInt_natCast 64 k
  have hb : ∀ x : BitVec 64, (IntKind.i64.wrap (x.toNat : Int) = 0 ↔ x = 0#64) := by
    intro x
    rw [IntKind.wrap_i64]
    constructor
    · intro h
      apply BitVec.eq_of_toNat_eq
      have := x.isLt
      simp only [Nat.reducePow] at this
      show x.toNat = 0
      omega
    · rintro rfl
      decide
  have e : (bits .andNot .i64 L 1 = 0) ↔ (L = 0 ∨ L = 1) := by
    show IntKind.i64.wrap ((BitVec.ofInt 64 L &&& ~~~ BitVec.ofInt 64 1).toNat : Int) = 0 ↔ _
    rw [hb]
    have : BitVec.ofInt 64 1 = 1#64 := by decide +kernel
    rw [this, hx]
    have a := h1' L h0 h1 0 (by omega)
    have b := h1' L h0 h1 1 (by omega)
    rw [show (0#64 : BitVec 64) = BitVec.ofNat 64 0 from rfl, a, b]
    rfl
  rw [Bool.eq_iff_iff]
  simp only [bne_iff_ne, ne_eq, decide_eq_true_eq]
  rw [e]
  omega

theorem samples_f (C : Int) : head_Samples.f 6 C = some (samplesP C) := by
  by_cases h0 : C = 0
  · subst h0; decide +kernel
  by_cases h4 : C = 4
  · subst h4; decide +kernel
  by_cases h2 : C = 2
  · subst h2; decide +kernel
  by_cases h6 : C = 6
  · subst h6; decide +kernel
  by_cases h3 : C = 3
  · subst h3; decide +kernel
  have w0 : wrap64 0 = 0 := by decide +kernel
  have w1 : wrap64 1 = 1 := by decide +kernel
  have w2 : wrap64 2 = 2 := by decide +kernel
  have w3 : wrap64 3 = 3 := by decide +kernel
  have w4 : wrap64 4 = 4 := by decide +kernel
  unfold head_Samples.f slices_Index_int_int.f samplesP
  simp only [slices_Index_int_int.l0]
  simp [h0, h4, h2, h6, h3, w0, w1, w2, w3, w4, rd]

theorem depthsList : ∀ C : Int, ∃ l, head_depths.f C = some l ∧ ∀ D, (D ∈ l ↔ colourDepth C D = true) := by
  intro C
  unfold head_depths.f colourDepth
  by_cases h0 : C = 0
  · exact ⟨_, by rw [if_pos h0], fun D => by rw [if_pos h0]; simp⟩
  by_cases h3 : C = 3
  · exact ⟨_, by rw [if_neg h0, if_pos h3], fun D => by rw [if_neg h0, if_pos h3]; simp⟩
  by_cases h2 : C = 2 ∨ C = 4 ∨ C = 6
  · exact ⟨[8, 16], by rcases h2 with rfl | rfl | rfl <;> simp, fun D => by rw [if_neg h0, if_neg h3, if_pos h2]; simp⟩
  · exact ⟨[], by rw [if_neg h0, if_neg h3, if_neg (by omega), if_neg (by omega), if_neg (by omega)], fun D => by rw [if_neg h0, if_neg h3, if_neg h2]; simp⟩

theorem depths_short (C : Int) (l : List Int) (h : head_depths.f C = some l) : l.length ≤ 5 := by
  unfold head_depths.f at h
  repeat' split at h
  all_goals (simp only [Option.some.injEq] at h; subst h; simp)

theorem index_any (l : List Int) (hl : l.length ≤ 5) (D : Int) : ∀ (d k i : Nat), d < k → i + d = l.length → ∃ r, slices_Index_int_int.l0 k l D (l.length : Int) (i : Int) = some r ∧ (0 ≤ r ↔ D ∈ l.drop i) := by
  intro d
  induction d with
  | zero =>
    intro k i hk hi
    obtain ⟨k, rfl⟩ : ∃ m, k = m + 1 := ⟨k - 1, by omega⟩
    refine ⟨-1, ?_, ?_⟩
    · simp only [slices_Index_int_int.l0]
      rw [if_neg (by omega)]
    · rw [List.drop_eq_nil_of_le (by omega)]; simp
  | succ d ih =>
    intro k i hk hi
    obtain ⟨k, rfl⟩ : ∃ m, k = m + 1 := ⟨k - 1, by omega⟩
    have hlt : i < l.length := by omega
    have hrd : rd l (i : Int) = l[i] := by simp [rd, hlt]
    simp only [slices_Index_int_int.l0]
    rw [if_pos (by omega), if_pos (by omega), if_pos (by omega), hrd]
    by_cases he : D = l[i]
    · refine ⟨i, by rw [if_pos he], ?_⟩
      rw [List.drop_eq_getElem_cons hlt, he]
      exact ⟨fun _ => List.mem_cons_self, fun _ => by omega⟩
    · obtain ⟨r, hr, hd⟩ := ih k (i + 1) (by omega) (by omega)
      refine ⟨r, ?_, ?_⟩
      · rw [if_neg he, show wrap64 ((i : Int) + 1) = ((i + 1 : Nat) : Int) by unfold wrap64; omega]
        exact hr
      · rw [hd, List.drop_eq_getElem_cons hlt, List.mem_cons]
        exact ⟨.inr, fun h => h.resolve_left he⟩

theorem contains_depths (C D : Int) : ∃ l, head_depths.f C = some l ∧ slices_Contains_int_int.f 8 l D = some (colourDepth C D) := by
  obtain ⟨l, hl, hm⟩ := depthsList C
  refine ⟨l, hl, ?_⟩
  have hs := depths_short C l hl
  obtain ⟨r, hr, hd⟩ := index_any l hs D l.length 8 0 (by omega) (by omega)
  unfold slices_Contains_int_int.f slices_Index_int_int.f
  have hr' : slices_Index_int_int.l0 8 l D (l.length : Int) 0 = some r := hr
  rw [hr']
  simp only [Option.bind_some, Option.some.injEq]
  rw [List.drop_zero, hm D] at hd
  rw [Bool.eq_iff_iff]
  simpa using hd

theorem wrap_prod {W H : Int} (h1 : 1 ≤ W) (h2 : W ≤ 1024) (h3 : 1 ≤ H) (h4 : H ≤ 1024) : wrap64 (W * H) = W * H := by
  have a : W * H ≤ 1024 * 1024 := by
    have := Int.mul_le_mul_of_nonneg_right h2 (by omega : (0 : Int) ≤ H)
    have := Int.mul_le_mul_of_nonneg_left h4 (by omega : (0 : Int) ≤ 1024)
    omega
  have b : 0 ≤ W * H := Int.mul_nonneg (by omega) (by omega)
  unfold wrap64
  omega

theorem right_f (W H D C L : Int) (h0 : -9223372036854775808 ≤ L) (h1 : L ≤ 9223372036854775807) : head_Right.f 8 W H D C L = some (rightP W H D C L) := by
  obtain ⟨l, hl, hc⟩ := contains_depths C D
  unfold head_Right.f head_side.f
  rw [hl, and_not_one L h0 h1]
  simp only [Option.bind_some, hc, head_Right.j0]
  by_cases a1 : W ≥ 1
  · by_cases a2 : W ≤ 2147483647
    · by_cases a3 : H ≥ 1
      · by_cases a4 : H ≤ 2147483647
        · by_cases a5 : colourDepth C D = true
          · by_cases a6 : L ≠ 0 ∧ L ≠ 1
            · simp only [a1, a2, a3, a4, a5, if_true, decide_true, Option.bind_some]
              simp [a6, rightP]
            · have e : rightP W H D C L = if W > 1024 ∨ H > 1024 ∨ W * H > 4096 then 5 else 0 := by
                unfold rightP
                rw [if_neg]
                rintro (h | h | h | h | h | h)
                · omega
                · omega
                · omega
                · omega
                · rw [a5] at h; cases h
                · exact a6 h
              simp only [a1, a2, a3, a4, a5, a6, if_true, decide_true, Option.bind_some, decide_false]
              rw [e]
              by_cases b1 : W > 1024 ∨ H > 1024
              · rw [if_neg (by simp), if_pos (by unfold mx; omega), if_pos (by omega)]
              · rw [if_neg (by simp), if_neg (by unfold mx; omega), wrap_prod (by omega) (by omega) (by omega) (by omega)]
                by_cases b2 : W * H > 4096
                · rw [if_pos b2, if_pos (by omega)]
                · rw [if_neg b2, if_neg (by omega)]
          · have a5' : colourDepth C D = false := by simpa using a5
            simp [a1, a2, a3, a4, a5', rightP]
        · have : rightP W H D C L = 24 := by unfold rightP; rw [if_pos (by omega)]
          simp [a1, a2, a3, a4, this]
      · have : rightP W H D C L = 24 := by unfold rightP; rw [if_pos (by omega)]
        simp [a1, a2, a3, this]
    · have : rightP W H D C L = 24 := by unfold rightP; rw [if_pos (by omega)]
      simp [a1, a2, this]
  · have : rightP W H D C L = 24 := by unfold rightP; rw [if_pos (by omega)]
    simp [a1, this]

theorem right_calls (W H D C L : Int) (w : World) (h0 : -9223372036854775808 ≤ L) (h1 : L ≤ 9223372036854775807) :
    Calls Try.prog 9 #[.agg #[.int .i64 W, .int .i64 H, .int .i64 D, .int .i64 C, .int .i64 L]] w (Ret (.int .i64 (rightP W H D C L)) (fun w' => Eff w.heap.size [] w w')) :=
  (head_Right.calls 8 W H D C L _ w (right_f W H D C L h0 h1)).mono fun _ _ ⟨he, hb⟩ => ⟨he, (Eff.refl _ _ _).of_below hb⟩

theorem samples_calls (C : Int) (w : World) :
    Calls Try.prog 11 #[.int .i64 C] w (Ret (.int .i64 (samplesP C)) (fun w' => Eff w.heap.size [] w w')) :=
  (head_Samples.calls 6 C _ w (samples_f C)).mono fun _ _ ⟨he, hb⟩ => ⟨he, (Eff.refl _ _ _).of_below hb⟩

theorem critical_f (T : ByteArray) : chunk_Critical.f T = some (isCritical T.toList) := by
  unfold chunk_Critical.f chunk_capital.f
  have hl := data_length T
  by_cases h : T.toList = []
  · simp [h, isCritical]
  · rw [if_neg h]
    have hs : 0 < T.size := by
      rw [ByteArray.toList_eq] at h
      have := List.length_pos_iff.2 h
      omega
    rw [if_pos (by omega)]
    cases hT : T.toList with
    | nil => exact absurd hT h
    | cons c rest =>
      have hbt : bt T 0 = c.toNat := by
        rw [ByteArray.toList_eq] at hT
        unfold bt
        rw [dif_pos (by simpa using hs)]
        have : T[(0 : Int).toNat]'(by simpa using hs) = c := by
          have h0 : T.data.toList[0]? = some c := by rw [hT]; rfl
          have h1 : T.data[0]? = some c := by simpa using h0
          have h2 := (Array.getElem?_eq_some_iff.1 h1).2
          exact h2
        rw [this]
      rw [hbt]
      simp only [isCritical]
      by_cases a : (c.toNat : Int) ≥ 65
      · rw [if_pos a]
        simp only [Option.bind_some, Option.some.injEq]
        have : 65 ≤ c.toNat := by omega
        simp only [this, true_and]
        congr 1
        simp
        omega
      · rw [if_neg a]
        have : ¬ (65 ≤ c.toNat) := by omega
        simp [this]

theorem critical_calls (T : ByteArray) (w : World) :
    Calls Try.prog 39 #[.string T] w (Ret (.bool (isCritical T.toList)) (fun w' => Eff w.heap.size [] w w')) :=
  (chunk_Critical.calls T _ w (critical_f T)).mono fun _ _ ⟨he, hb⟩ => ⟨he, (Eff.refl _ _ _).of_below hb.below⟩

theorem refRight_f (W H D C L : Int) : vitrineref08_Right.f 3 W H D C L = some (rightP W H D C L) := by
  have hj2 : ∀ x, vitrineref08_Right.j2 1 x W H D C L = some (if x = true then 24 else if W > 1024 then 5 else if H > 1024 then 5 else if wrap64 (W * H) > 4096 then 5 else 0) := by
    intro x
    simp only [vitrineref08_Right.j2]
    repeat' split
    all_goals rfl
  have hj1 : ∀ x, vitrineref08_Right.j1 2 x W H D C L = vitrineref08_Right.j2 1 (decide (W < 1 ∨ W > 2147483647 ∨ H < 1 ∨ H > 2147483647 ∨ x = false ∨ (L ≠ 0 ∧ L ≠ 1))) W H D C L := by
    intro x
    simp only [vitrineref08_Right.j1]
    by_cases a1 : W < 1
    · rw [if_pos a1]; congr 1; simp [a1]
    rw [if_neg a1]
    by_cases a2 : W > 2147483647
    · rw [if_pos a2]; congr 1; simp [a2]
    rw [if_neg a2]
    by_cases a3 : H < 1
    · rw [if_pos a3]; congr 1; simp [a3]
    rw [if_neg a3]
    by_cases a4 : H > 2147483647
    · rw [if_pos a4]; congr 1; simp [a4]
    rw [if_neg a4]
    cases x
    · simp
    · rw [if_pos rfl]
      by_cases a5 : L = 0
      · rw [if_pos a5]; congr 1; subst a5; simp; omega
      · rw [if_neg a5]; congr 1
        by_cases a6 : L = 1
        · subst a6; simp; omega
        · simp [a5, a6]
  have hj0 : ∀ x, x = decide (D = 1 ∨ D = 2 ∨ D = 4) → vitrineref08_Right.j0 3 D x W H D C L = vitrineref08_Right.j1 2 (colourDepth C D) W H D C L := by
    intro x hx
    simp only [vitrineref08_Right.j0]
    by_cases b1 : C = 0
    · subst b1
      rw [if_pos rfl]
      cases x
      · rw [if_neg (by simp)]
        by_cases b2 : D = 8
        · rw [if_pos b2]; congr 1; simp [colourDepth, b2]
        · rw [if_neg b2]; congr 1; simp at hx; simp [colourDepth, b2, hx]; rfl
      · rw [if_pos rfl]; congr 1; simp at hx; simp [colourDepth]; omega
    rw [if_neg b1]
    by_cases b3 : C = 3
    · subst b3
      rw [if_pos rfl]
      cases x
      · rw [if_neg (by simp)]; congr 1; simp at hx; simp [colourDepth, hx]; rfl
      · rw [if_pos rfl]; congr 1; simp at hx; simp [colourDepth]; omega
    rw [if_neg b3]
    have hq : ∀ C', (C' = 2 ∨ C' = 4 ∨ C' = 6) → colourDepth C' D = (decide (D = 8) || (D == 16)) := by
      intro C' h
      unfold colourDepth
      rw [if_neg (by omega), if_neg (by omega), if_pos h]
      by_cases q : D = 8 <;> simp [q] <;> rfl
    have hr : ∀ y, y = (decide (D = 8) || (D == 16)) → (if D = 8 then vitrineref08_Right.j1 2 true W H D C L else vitrineref08_Right.j1 2 (D == 16) W H D C L) = vitrineref08_Right.j1 2 y W H D C L := by
      intro y hy
      subst hy
      by_cases q : D = 8 <;> simp [q]
    by_cases b2 : C = 2
    · rw [if_pos b2]; exact hr _ (hq C (by omega))
    rw [if_neg b2]
    by_cases b4 : C = 4
    · rw [if_pos b4]; exact hr _ (hq C (by omega))
    rw [if_neg b4]
    by_cases b6 : C = 6
    · rw [if_pos b6]; exact hr _ (hq C (by omega))
    rw [if_neg b6]
    congr 1
    unfold colourDepth
    rw [if_neg b1, if_neg b3, if_neg (by omega)]
  have hfin : vitrineref08_Right.j1 2 (colourDepth C D) W H D C L = some (rightP W H D C L) := by
    rw [hj1, hj2]
    unfold rightP
    by_cases a : W < 1 ∨ W > 2147483647 ∨ H < 1 ∨ H > 2147483647 ∨ colourDepth C D = false ∨ (L ≠ 0 ∧ L ≠ 1)
    · rw [if_pos (by simpa using a), if_pos a]
    · rw [if_neg (by simpa using a), if_neg a]
      by_cases b1 : W > 1024
      · rw [if_pos b1, if_pos (by omega)]
      by_cases b2 : H > 1024
      · rw [if_neg b1, if_pos b2, if_pos (by omega)]
      rw [if_neg b1, if_neg b2, wrap_prod (by omega) (by omega) (by omega) (by omega)]
      by_cases b3 : W * H > 4096
      · rw [if_pos b3, if_pos (by omega)]
      · rw [if_neg b3, if_neg (by omega)]
  unfold vitrineref08_Right.f
  by_cases c1 : D = 1
  · rw [if_pos c1, hj0 true (by simp [c1]), hfin]
  by_cases c2 : D = 2
  · rw [if_neg c1, if_pos c2, hj0 true (by simp [c2]), hfin]
  rw [if_neg c1, if_neg c2, hj0 _ (by simp [c1, c2]; rfl), hfin]

theorem refRight_calls (W H D C L : Int) (w : World) :
    Calls Try.prog 10 #[.agg #[.int .i64 W, .int .i64 H, .int .i64 D, .int .i64 C, .int .i64 L]] w (Ret (.int .i64 (rightP W H D C L)) (fun w' => Eff w.heap.size [] w w')) :=
  (vitrineref08_Right.calls 3 W H D C L _ w (refRight_f W H D C L)).mono fun _ _ ⟨he, hb⟩ => ⟨he, (Eff.refl _ _ _).of_below hb⟩

end Go.Proofs.Ytgkmfedjmmleeaa
