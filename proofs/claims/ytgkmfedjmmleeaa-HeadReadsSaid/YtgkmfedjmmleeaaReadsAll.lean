/- HeadReads, walked. -/
import Derived.Test.YtgkmfedjmmleeaaRefReadB
import Derived.Test.YtgkmfedjmmleeaaAwake
import Derived.Laws.AppendOwnNone
namespace Go.Proofs.Ytgkmfedjmmleeaa
open Go.RowKit Go.Proofs.YtgkmfedjmmleeaaW.PrintWords
set_option linter.unusedVariables false
set_option linter.unusedSimpArgs false

def fewB : Nat → List (ByteArray × ByteArray) → Bool
  | _, [] => true
  | n, x :: r => if n + 12 + x.2.size > 100000 then false else fewB (n + 12 + x.2.size) r

theorem few_bounds : ∀ (l : List (ByteArray × ByteArray)) (n : Nat), fewB n l = true → n ≤ 100000 → n + 12 * l.length + total l ≤ 100000
  | [], n, _, h => by simpa [total] using h
  | x :: r, n, h, _ => by
    unfold fewB at h
    split at h
    · cases h
    · rename_i h1
      have := few_bounds r _ h (by omega)
      simp [total] at this ⊢
      omega

theorem few_mem {l : List (ByteArray × ByteArray)} (h : fewB 0 l = true) : l.length ≤ 100000 ∧ total l ≤ 100000 ∧ ∀ x ∈ l, x.2.size ≤ 100000 := by
  have h1 := few_bounds l 0 h (by omega)
  refine ⟨by omega, by omega, fun x hx => ?_⟩
  have : ∀ (l : List (ByteArray × ByteArray)), x ∈ l → x.2.size ≤ total l := by
    intro l hx
    induction l with
    | nil => cases hx
    | cons y l ih =>
      rcases List.mem_cons.1 hx with rfl | hx
      · simp [total]
      · have := ih hx
        simp [total] at this ⊢
        omega
  have := this l hx
  omega

set_option maxHeartbeats 4000000 in
theorem few_calls (w : World) (A : Option Addr) (c : Nat) (l : List (ByteArray × ByteArray)) (h : Chs w A l) (hl : l.length ≤ 140737488355328) (hds : ∀ x ∈ l, x.2.size ≤ 140737488351232) :
    Calls Try.prog 16 #[.slice A l.length c] w (Ret (.bool (fewB 0 l)) (fun w' => Eff w.heap.size [] w w')) := by
  obtain ⟨res, hres⟩ : ∃ res, fewB 0 l = res := ⟨_, rfl⟩
  rw [hres]
  have HRES := Aside0.mk hres
  have HCH := Aside0.mk h
  have HDS := Aside0.mk hds
  clear hres h hds
  go_enter Try.func16, Try.ntmps16
  go_wp2
  go_loop [3, 4] (fun t i => ∃ k n : Nat, k ≤ l.length ∧ i = .int .i64 k ∧ t = .int .i64 n ∧ n ≤ 100000 ∧ Aside0 (fewB n (l.drop k) = res)) (fun _ i => l.length - (intOf i).toNat)
  case atStart => exact ⟨0, 0, Nat.zero_le _, rfl, rfl, by omega, ⟨HRES.out⟩⟩
  case round =>
    obtain ⟨k, n, hk, rfl, rfl, hn, hf⟩ := hrel
    by_cases hlt : k < l.length
    · obtain ⟨T', D', hTD⟩ : ∃ T' D', l[k]? = some (T', D') := ⟨l[k].1, l[k].2, by rw [List.getElem?_eq_getElem hlt]⟩
      obtain ⟨ad, rfl, c0, c1⟩ := HCH.out k T' D' hTD
      have hDs : D'.size ≤ 140737488351232 := HDS.out _ (List.mem_of_getElem? hTD)
      have hdrop : l.drop k = (T', D') :: l.drop (k + 1) := by
        rw [List.drop_eq_getElem_cons hlt]
        rw [List.getElem?_eq_getElem hlt] at hTD
        injection hTD with hTD
        rw [hTD]
      have hf2 := hf.out
      rw [hdrop] at hf2
      unfold fewB at hf2
      by_cases big : n + 12 + D'.size > 100000
      · rw [if_pos big] at hf2
        have HF := Aside0.mk hf2
        have hb : (n : Int) + 12 + (D'.size : Int) > 100000 := by omega
        clear hdrop hTD hf2 big
        go_wp2
        refine bodyPost_ret (v := .bool false) (by simp [results, Try.results16, go_sem]) rfl (Ret.mk' (by rw [← HF.out]) (Eff.refl _ _ _))
      · rw [if_neg big] at hf2
        have HF := Aside0.mk hf2
        have hb : ¬ ((n : Int) + 12 + (D'.size : Int) > 100000) := by omega
        clear hdrop hTD hf2
        go_wp2
        go_round
        case rel => exact ⟨k + 1, n + 12 + D'.size, by omega, by go_num, by go_num, by omega, ⟨HF.out⟩⟩
        case measure => simp [intOf]; omega
    · have hf2 := hf.out
      rw [List.drop_eq_nil_of_le (by omega)] at hf2
      have HF := Aside0.mk (show true = res from hf2)
      clear hf2
      go_wp2
      refine bodyPost_ret (v := .bool true) (by simp [results, Try.results16, go_sem]) rfl (Ret.mk' (by rw [← HF.out]) (Eff.refl _ _ _))
end Go.Proofs.Ytgkmfedjmmleeaa
namespace Go.Proofs.Ytgkmfedjmmleeaa
open Go.RowKit Go.Proofs.YtgkmfedjmmleeaaW.PrintWords
set_option linter.unusedVariables false
set_option linter.unusedSimpArgs false

set_option maxRecDepth 100000 in
set_option maxHeartbeats 8000000 in
theorem headReads_not (w : World) (A : Option Addr) (c : Nat) (l : List (ByteArray × ByteArray)) (h : Chs w A l) (hl : l.length ≤ 140737488355328) (hds : ∀ x ∈ l, x.2.size ≤ 140737488351232) (hf : fewB 0 l = false) :
    Calls Try.prog 5 #[.slice A l.length c] w (Ret (.bool true) (fun w' => Eff w.heap.size [] w w')) := by
  have hfc := few_calls w A c l h hl hds
  rw [hf] at hfc
  have HFC := Aside0.mk hfc
  clear hfc h hds hf
  go_enter Try.func5, Try.ntmps5
  go_wp2_with (go_at_call 16; refine HFC.out.mono ?_)
  rintro e w1 ⟨rfl, h1⟩
  have H1 := Aside0.mk h1
  clear h1
  go_wp2_with (go_at_call 13; refine (awake_calls _).mono ?_)
  rintro e w2 ⟨rfl, h2⟩
  have H2 := Aside0.mk (H1.out.trans (h2.mono H1.out.size (by simp)))
  clear h2
  go_wp2_with fail
  refine bodyPost_ret (v := .bool true) (by simp [results, Try.results5, go_sem]) rfl (Ret.mk' rfl H2.out)

theorem chVals_length : ∀ l : List (ByteArray × ByteArray), (chVals l).length = l.length * 2
  | [] => rfl
  | x :: l => by
    have := chVals_length l
    simp only [chVals, List.flatMap_cons, List.length_append, List.length_cons, List.length_nil] at this ⊢
    omega
theorem chVals_at : ∀ (l : List (ByteArray × ByteArray)) (j : Nat) (u : Value), (chVals l)[j]? = some u → ∃ i T D, l[i]? = some (T, D) ∧ ((j = i * 2 ∧ u = .string T) ∨ (j = i * 2 + 1 ∧ u = .string D))
  | [], j, u, h => by simp [chVals] at h
  | (T, D) :: l, 0, u, h => ⟨0, T, D, rfl, .inl ⟨rfl, by simpa [chVals] using h.symm⟩⟩
  | (T, D) :: l, 1, u, h => ⟨0, T, D, rfl, .inr ⟨rfl, by simpa [chVals] using h.symm⟩⟩
  | (T, D) :: l, j + 2, u, h => by
    obtain ⟨i, T', D', h1, h2⟩ := chVals_at l j u (by simpa [chVals] using h)
    refine ⟨i + 1, T', D', by simpa using h1, ?_⟩
    rcases h2 with ⟨h2, h3⟩ | ⟨h2, h3⟩
    · exact .inl ⟨by omega, h3⟩
    · exact .inr ⟨by omega, h3⟩
theorem chs_news {w : World} {ad : Addr} {l : List (ByteArray × ByteArray)} (h : Chs w (some ad) l) : ∀ j u, (chVals l)[j]? = some u → w.cell? (ad.add j) = some u := by
  intro j u hu
  obtain ⟨i, T, D, h1, h2⟩ := chVals_at l j u hu
  obtain ⟨ad', e, c0, c1⟩ := h i T D h1
  injection e with e
  subst e
  rcases h2 with ⟨rfl, rfl⟩ | ⟨rfl, rfl⟩
  · exact c0
  · rw [add_field _ _ 1 (by omega)]; exact c1
theorem chVals_one (l : List (ByteArray × ByteArray)) : ∀ u ∈ chVals l, u.oneCell' = true := by
  intro u hu
  obtain ⟨j, hj⟩ := List.getElem?_of_mem hu
  obtain ⟨_, _, _, _, h2⟩ := chVals_at l j u hj
  rcases h2 with ⟨_, rfl⟩ | ⟨_, rfl⟩ <;> rfl
theorem chs_own {w : World} {base : Nat} {v : Value} {l : List (ByteArray × ByteArray)} (h : w.ownsRow base 30 2 v l.length (chVals l)) : ∃ A c, v = .slice A l.length c ∧ l.length ≤ c ∧ Chs w A l := by
  rcases h.2 with ⟨rfl, h0⟩ | ⟨g, cap, cur, rfl, _, hh, hn, _, hs, ht⟩
  · refine ⟨none, 0, by rw [h0], by omega, ?_⟩
    have : l = [] := List.eq_nil_of_length_eq_zero h0
    subst this
    intro i T D hi
    simp at hi
  · refine ⟨_, _, rfl, hn, chs_of_cells hh ?_⟩
    intro i T D hi
    have hlt : i < l.length := (List.getElem?_eq_some_iff.1 hi).1
    obtain ⟨c0, c1⟩ := chVals_get l i T D hi
    rw [← ht] at c0 c1
    rw [List.getElem?_take_of_lt (by omega)] at c0 c1
    exact ⟨by simpa using c0, by simpa using c1⟩
theorem chunkInfo : (Try.prog.info? 30).map (fun i => (i.zero, i.size, i.bytes)) = some (some (.agg #[.string ⟨#[]⟩, .string ⟨#[]⟩]), 2, 32) := by kernel_rfl

set_option maxRecDepth 100000 in
set_option maxHeartbeats 20000000 in
theorem headReads_few (w : World) (A : Option Addr) (c : Nat) (l : List (ByteArray × ByteArray)) (h : Chs w A l) (hc : l.length ≤ c) (hf : fewB 0 l = true) (ad : Addr) (hA : A = some ad) :
    Calls Try.prog 5 #[.slice A l.length c] w (Ret (.bool true) (fun w' => Eff w.heap.size [] w w')) := by
  subst hA
  obtain ⟨b1, b2, b3⟩ := few_mem hf
  have hfc := few_calls w (some ad) c l h (by omega) (fun x hx => by have := b3 x hx; omega)
  rw [hf] at hfc
  have HFC := Aside0.mk hfc
  have HCH := Aside0.mk h
  have HB3 := Aside0.mk b3
  clear hfc h hf b3
  go_enter Try.func5, Try.ntmps5
  go_wp2_with (go_at_call 16; refine HFC.out.mono ?_)
  rintro e w1 ⟨rfl, h1⟩
  have hch1 := HCH.out.below (h1.below (Nat.le_refl _))
  have HCH1 := Aside0.mk hch1
  have H1 := Aside0.mk h1
  have HNEWS := Aside0.mk (chs_news (hch1.below ((Below.refl _ w1).alloc (Nat.le_refl _) (.cells #[] 30))))
  have HOWN := Aside0.mk (World.ownsRow_lit (e := 30) (size := 2) (base := w1.heap.size) w1 #[] 0 (Nat.le_refl _) (by decide) rfl)
  clear h1 hch1
  obtain ⟨i0, hi, hzz⟩ := Option.map_eq_some_iff.1 chunkInfo
  simp only [Prod.mk.injEq] at hzz
  obtain ⟨hz0, hz1, hz2⟩ := hzz
  go_wp2_with (at_builtin; refine wpList_append_own_at _ rfl _ _ 33 rfl w1.heap.size 30 i0 _ 2 32 Try.underlying33 hi hz0 hz1 hz2 rfl (by decide) _ _ _ rfl HOWN.out ad l.length c (chVals l) rfl (chVals_length l) HNEWS.out (chVals_one l) ?a1 ?a2 ?a3 ?_)
  case a1 => unfold maxLen; omega
  case a2 => omega
  case a3 => simp
  intro v' w2 hown hgrow _ _
  obtain ⟨A', c', rfl, hc', hch2⟩ := chs_own hown
  have hb2 : Below w1.heap.size w1 w2 := ((Below.refl w1.heap.size w1).alloc (Nat.le_refl _) _).grown hgrow (by simp) (own_base HOWN.out)
  obtain ⟨S, BB, E, hp⟩ : ∃ S BB E, readP l = (S, BB, E) := ⟨_, _, _, rfl⟩
  have hr := read_calls w2 A' c' l hch2 hc' (by omega) (fun x hx => by have := HB3.out x hx; omega) (by omega)
  have hrr := fun W h => refRead_calls W (some ad) c l h hc (by omega) (fun x hx => by have := HB3.out x hx; omega) (by omega)
  rw [hp] at hr hrr
  have HR := Aside0.mk (show Calls Try.prog 17 #[.slice A' l.length c'] w2 (Ret (.tuple #[.agg #[.int .i64 S.W, .int .i64 S.H, .int .i64 S.D, .int .i64 S.C, .int .i64 S.L, .string S.pal, .string S.trans, .bool S.hasT], .string ⟨BB.toArray⟩, .int .i64 E]) (fun w' => Eff w2.heap.size [] w2 w')) from hr)
  have HRR := Aside0.mk (show ∀ W, Chs W (some ad) l → Calls Try.prog 18 #[.slice (some ad) l.length c] W (Ret (.tuple #[.agg #[.int .i64 S.W, .int .i64 S.H, .int .i64 S.D, .int .i64 S.C, .int .i64 S.L, .string S.pal, .string S.trans, .bool S.hasT], .string ⟨BB.toArray⟩, .int .i64 E]) (fun w' => Eff W.heap.size [] W w')) from hrr)
  have HCH2 := Aside0.mk hch2
  have HCH1' := Aside0.mk (HCH1.out.below hb2)
  have H2 := Aside0.mk (H1.out.of_below hb2)
  clear hr hrr hp hch2 hb2 hown hgrow HCH1 H1 HFC HCH HNEWS HOWN hi hz0 hz1 hz2
  go_wp2_with (go_at_call 17; refine HR.out.mono ?_)
  rintro e w3 ⟨rfl, h3⟩
  have HCA := Aside0.mk (HCH2.out.below (h3.below (Nat.le_refl _)))
  have HCB := Aside0.mk (HCH1'.out.below (h3.below (Nat.le_refl _)))
  have H3 := Aside0.mk (H2.out.trans (h3.mono H2.out.size (by simp)))
  clear h3 HCH2 HCH1' H2 HR
  have hrr2 := HRR.out (w3.alloc (.cells #[.int .i64 S.W, .int .i64 S.H, .int .i64 S.D, .int .i64 S.C, .int .i64 S.L, .string S.pal, .string S.trans, .bool S.hasT] 36)) (HCB.out.below ((Below.refl _ w3).alloc (Nat.le_refl _) _))
  have HRR2 := Aside0.mk hrr2
  clear hrr2 HRR
  go_wp2_with (go_at_call 18; refine HRR2.out.mono ?_)
  rintro e w4 ⟨rfl, h4⟩
  have hbl := h4.below (Nat.le_refl _)
  have HCA4 := Aside0.mk ((HCA.out.below ((Below.refl _ w3).alloc (Nat.le_refl _) (.cells #[.int .i64 S.W, .int .i64 S.H, .int .i64 S.D, .int .i64 S.C, .int .i64 S.L, .string S.pal, .string S.trans, .bool S.hasT] 36))).below hbl)
  have HCB4 := Aside0.mk ((HCB.out.below ((Below.refl _ w3).alloc (Nat.le_refl _) (.cells #[.int .i64 S.W, .int .i64 S.H, .int .i64 S.D, .int .i64 S.C, .int .i64 S.L, .string S.pal, .string S.trans, .bool S.hasT] 36))).below hbl)
  have HG4 := Aside0.mk (h4.blockB (heap_alloc_new w3 (.cells #[.int .i64 S.W, .int .i64 S.H, .int .i64 S.D, .int .i64 S.C, .int .i64 S.L, .string S.pal, .string S.trans, .bool S.hasT] 36)) (by simp))
  have H4 := Aside0.mk ((H3.out.alloc (.cells #[.int .i64 S.W, .int .i64 S.H, .int .i64 S.D, .int .i64 S.C, .int .i64 S.L, .string S.pal, .string S.trans, .bool S.hasT] 36)).trans (h4.mono (Nat.le_trans H3.out.size (by simp)) (by simp)))
  clear h4 hbl HCA HCB H3 HRR2
  go_wp2_with fail
  have hca := HCA4.out.below ((Below.refl _ w4).alloc (Nat.le_refl _) (.cells #[.int .i64 S.W, .int .i64 S.H, .int .i64 S.D, .int .i64 S.C, .int .i64 S.L, .string S.pal, .string S.trans, .bool S.hasT] 36))
  have hcb := HCB4.out.below ((Below.refl _ w4).alloc (Nat.le_refl _) (.cells #[.int .i64 S.W, .int .i64 S.H, .int .i64 S.D, .int .i64 S.C, .int .i64 S.L, .string S.pal, .string S.trans, .bool S.hasT] 36))
  have hg4 := blk_alloc HG4.out (.cells #[.int .i64 S.W, .int .i64 S.H, .int .i64 S.D, .int .i64 S.C, .int .i64 S.L, .string S.pal, .string S.trans, .bool S.hasT] 36)
  have hg7 := heap_alloc_new w4 (.cells #[.int .i64 S.W, .int .i64 S.H, .int .i64 S.D, .int .i64 S.C, .int .i64 S.L, .string S.pal, .string S.trans, .bool S.hasT] 36)
  have h5 := H4.out.alloc (.cells #[.int .i64 S.W, .int .i64 S.H, .int .i64 S.D, .int .i64 S.C, .int .i64 S.L, .string S.pal, .string S.trans, .bool S.hasT] 36)
  generalize w4.alloc (.cells #[.int .i64 S.W, .int .i64 S.H, .int .i64 S.D, .int .i64 S.C, .int .i64 S.L, .string S.pal, .string S.trans, .bool S.hasT] 36) = W5 at hca hcb hg4 hg7 h5 ⊢
  have HCA5 := Aside0.mk hca
  have HCB5 := Aside0.mk hcb
  have HG4' := Aside0.mk hg4
  have HG7' := Aside0.mk hg7
  have H5 := Aside0.mk h5
  clear hca hcb hg4 hg7 h5 HCA4 HCB4 HG4 H4
  go_loopw [10] (fun i wr => ∃ k n : Nat, k ≤ l.length ∧ i = .int .i64 k ∧ wr = W5.drewN n) (fun i _ => l.length - (intOf i).toNat)
  case atStart => exact ⟨0, 0, Nat.zero_le _, rfl, rfl⟩
  case round =>
    obtain ⟨k, n, hk, rfl, rfl⟩ := hrel
    by_cases hlt : k < l.length
    · obtain ⟨T', D', hTD⟩ : ∃ T' D', l[k]? = some (T', D') := ⟨l[k].1, l[k].2, by rw [List.getElem?_eq_getElem hlt]⟩
      obtain ⟨aa, rfl, a0, a1⟩ := HCA5.out k T' D' hTD
      obtain ⟨ab, e1, b0, b1'⟩ := HCB5.out k T' D' hTD
      injection e1 with e1
      subst e1
      clear hTD
      go_wp2
      go_quiet (fail)
      go_wp2
      go_roundw
      case rel => exact ⟨k + 1, _, by omega, by go_num, rfl⟩
      case measure => simp [intOf]; omega
    · obtain ⟨z0, z1, z2, z3, z4, z5, z6, z7⟩ := cells8 HG4'.out
      obtain ⟨y0, y1, y2, y3, y4, y5, y6, y7⟩ := cells8 HG7'.out
      go_wp2_with (go_at_call 13; refine (awake_calls _).mono ?_)
      rintro e w6 ⟨rfl, h6⟩
      have H8 := Aside0.mk (H5.out.trans ((((Eff.refl W5.heap.size [] W5).drewN n).trans (h6.mono (by simp) (by simp))).mono H5.out.size (by simp)))
      clear h6 z0 z1 z2 z3 z4 z5 z6 z7 y0 y1 y2 y3 y4 y5 y6 y7
      go_wp2_with fail
      refine bodyPost_ret (v := .bool true) (by simp [results, Try.results5, go_sem]) rfl (Ret.mk' rfl ?_)
      repeat (first | (with_reducible exact H8.out) | (with_reducible apply Eff.alloc) | (with_reducible apply Eff.drewN))
end Go.Proofs.Ytgkmfedjmmleeaa
namespace Go.Proofs.Ytgkmfedjmmleeaa
open Go.RowKit Go.Proofs.YtgkmfedjmmleeaaW.PrintWords
set_option linter.unusedVariables false
set_option linter.unusedSimpArgs false

set_option maxRecDepth 100000 in
set_option maxHeartbeats 20000000 in
theorem headReads_nil (w : World) : Calls Try.prog 5 #[.slice none 0 0] w (Ret (.bool true) (fun w' => Eff w.heap.size [] w w')) := by
  have hch : ∀ W A, Chs W A [] := fun W A i T D h => by simp at h
  have hfc : Calls Try.prog 16 #[.slice none 0 0] w (Ret (.bool true) (fun w' => Eff w.heap.size [] w w')) := few_calls w none 0 [] (hch _ _) (by simp) (by simp)
  obtain ⟨S, BB, E, hp⟩ : ∃ S BB E, readP [] = (S, BB, E) := ⟨_, _, _, rfl⟩
  have hr := fun W A c => read_nil W A c
  have hrr := fun W A c => refRead_nil W A c
  have hp2 : (shpZero, ([] : List UInt8), (23 : Int)) = (S, BB, E) := hp
  rw [hp] at hr
  rw [hp2] at hrr
  have HR := Aside0.mk (show ∀ W A c, Calls Try.prog 17 #[.slice A 0 c] W (Ret (.tuple #[.agg #[.int .i64 S.W, .int .i64 S.H, .int .i64 S.D, .int .i64 S.C, .int .i64 S.L, .string S.pal, .string S.trans, .bool S.hasT], .string ⟨BB.toArray⟩, .int .i64 E]) (fun w' => Eff W.heap.size [] W w')) from hr)
  have HRR := Aside0.mk (show ∀ W A c, Calls Try.prog 18 #[.slice A 0 c] W (Ret (.tuple #[.agg #[.int .i64 S.W, .int .i64 S.H, .int .i64 S.D, .int .i64 S.C, .int .i64 S.L, .string S.pal, .string S.trans, .bool S.hasT], .string ⟨BB.toArray⟩, .int .i64 E]) (fun w' => Eff W.heap.size [] W w')) from hrr)
  have HFC := Aside0.mk hfc
  clear hfc hr hrr hp hp2 hch
  go_enter Try.func5, Try.ntmps5
  go_wp2_with (go_at_call 16; refine HFC.out.mono ?_)
  rintro e w1 ⟨rfl, h1⟩
  have H1 := Aside0.mk h1
  have HOWN := Aside0.mk (World.ownsRow_lit (e := 30) (size := 2) (base := w1.heap.size) w1 #[] 0 (Nat.le_refl _) (by decide) rfl)
  clear h1
  obtain ⟨i0, hi, hzz⟩ := Option.map_eq_some_iff.1 chunkInfo
  clear hzz
  go_wp2_with (at_builtin; refine wpList_append_own_none rfl _ _ 33 rfl w1.heap.size 30 i0 2 Try.underlying33 hi _ _ _ rfl HOWN.out rfl ?_)
  clear hi
  go_wp2_with (go_at_call 17; refine (HR.out _ _ _).mono ?_)
  rintro e w3 ⟨rfl, h3⟩
  have H3 := Aside0.mk ((H1.out.alloc (.cells #[] 30)).trans (h3.mono (Nat.le_trans H1.out.size (by simp)) (by simp)))
  clear h3
  go_wp2_with (go_at_call 18; refine (HRR.out _ _ _).mono ?_)
  rintro e w4 ⟨rfl, h4⟩
  have HG4 := Aside0.mk (h4.blockB (heap_alloc_new w3 (.cells #[.int .i64 S.W, .int .i64 S.H, .int .i64 S.D, .int .i64 S.C, .int .i64 S.L, .string S.pal, .string S.trans, .bool S.hasT] 36)) (by simp))
  have H4 := Aside0.mk ((H3.out.alloc (.cells #[.int .i64 S.W, .int .i64 S.H, .int .i64 S.D, .int .i64 S.C, .int .i64 S.L, .string S.pal, .string S.trans, .bool S.hasT] 36)).trans (h4.mono (Nat.le_trans H3.out.size (by simp)) (by simp)))
  clear h4
  go_wp2_with fail
  have hg4 := blk_alloc HG4.out (.cells #[.int .i64 S.W, .int .i64 S.H, .int .i64 S.D, .int .i64 S.C, .int .i64 S.L, .string S.pal, .string S.trans, .bool S.hasT] 36)
  have hg7 := heap_alloc_new w4 (.cells #[.int .i64 S.W, .int .i64 S.H, .int .i64 S.D, .int .i64 S.C, .int .i64 S.L, .string S.pal, .string S.trans, .bool S.hasT] 36)
  have h5 := H4.out.alloc (.cells #[.int .i64 S.W, .int .i64 S.H, .int .i64 S.D, .int .i64 S.C, .int .i64 S.L, .string S.pal, .string S.trans, .bool S.hasT] 36)
  generalize w4.alloc (.cells #[.int .i64 S.W, .int .i64 S.H, .int .i64 S.D, .int .i64 S.C, .int .i64 S.L, .string S.pal, .string S.trans, .bool S.hasT] 36) = W5 at hg4 hg7 h5 ⊢
  have HG4' := Aside0.mk hg4
  have HG7' := Aside0.mk hg7
  have H5 := Aside0.mk h5
  clear hg4 hg7 h5 HG4 H4
  go_loopw [10] (fun i wr => i = .int .i64 0 ∧ wr = W5) (fun i _ => 0)
  case atStart => exact ⟨rfl, rfl⟩
  case round =>
    obtain ⟨rfl, rfl⟩ := hrel
    obtain ⟨z0, z1, z2, z3, z4, z5, z6, z7⟩ := cells8 HG4'.out
    obtain ⟨y0, y1, y2, y3, y4, y5, y6, y7⟩ := cells8 HG7'.out
    go_wp2_with (go_at_call 13; refine (awake_calls _).mono ?_)
    rintro e w6 ⟨rfl, h6⟩
    have H8 := Aside0.mk (H5.out.trans (h6.mono H5.out.size (by simp)))
    clear h6 z0 z1 z2 z3 z4 z5 z6 z7 y0 y1 y2 y3 y4 y5 y6 y7
    go_wp2_with fail
    refine bodyPost_ret (v := .bool true) (by simp [results, Try.results5, go_sem]) rfl (Ret.mk' rfl ?_)
    repeat (first | (with_reducible exact H8.out) | (with_reducible apply Eff.alloc) | (with_reducible apply Eff.drewN))
end Go.Proofs.Ytgkmfedjmmleeaa
