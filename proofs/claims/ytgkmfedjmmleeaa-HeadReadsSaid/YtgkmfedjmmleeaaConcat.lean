/- slices.Grow (of nil) and slices.Concat at bytes, walked. -/
import Derived.Test.YtgkmfedjmmleeaaBuilder
import Derived.Lib.AppendZeros
namespace Go.Proofs.Ytgkmfedjmmleeaa
open Go.RowKit Go.Proofs.YtgkmfedjmmleeaaW.PrintWords
set_option linter.unusedVariables false

set_option maxHeartbeats 2000000 in
/-- Grow(nil, n). -/
theorem grow_calls (w : World) (n : Nat) (hn : n ≤ 140737488355328) :
    Calls Try.prog 34 #[.slice none 0 0, .int .i64 n] w (RetEx (fun v w' => w'.ownsRow w.heap.size 5 1 v 0 [] ∧ Eff w.heap.size [] w w')) := by
  obtain ⟨i0, hi, hz0, hz1, hz2⟩ := info_parts byteInfo
  rcases Nat.eq_zero_or_pos n with h0 | h0
  · subst h0
    go_enter Try.func34, Try.ntmps34
    go_wp2_with fail
    go_ret
    exact RetEx.mk' ⟨World.ownsRow_nil _ _ _ _, Eff.refl _ _ _⟩
  · have hr := Lib.run_append_nil_zeros (P := Try.prog) w 51 3 51 5 i0 (.int .u8 0) .i64 .i64 Try.underlying51 Try.underlying3 hi hz0 n h0 (by omega) (by omega) (by rw [hz2]; omega)
    have hcap := grownCap_ge w n 0 5
    have hmax := grownCap_le_maxLen w n 0 5 (by unfold maxLen; omega)
    generalize grownCap w n 0 5 = cap at hr hcap hmax
    have hsz : (Builtin.zeroCells (Value.int .u8 0).cells n ++ Builtin.zeroCells (Value.int .u8 0).cells (cap - n)).size = cap * 1 := by
      rw [Array.size_append, size_zeroCells, size_zeroCells]
      simp [Value.cells]
      omega
    generalize (Builtin.zeroCells (Value.int .u8 0).cells n ++ Builtin.zeroCells (Value.int .u8 0).cells (cap - n)) = cur at hr hsz
    have hpos : (0 : Int) < (n : Int) := by omega
    have hn0 : ¬ (n : Int) < 0 := by omega
    have HR := Aside0.mk hr
    have HSZ := Aside0.mk hsz
    have HMAX := Aside0.mk hmax
    clear hr hsz hmax
    go_enter Try.func34, Try.ntmps34
    go_wp2_with (at_builtin; refine Lib.wpList_append_run _ rfl _ _ 51 3 rfl _ _ (by rfl) (by rfl) _ _ HR.out ?_)
    go_ret
    refine RetEx.mk' ⟨?_, ?_⟩
    · exact World.ownsRow_made w.drew cur cap (Nat.le_refl _) HMAX.out HSZ.out
    · exact ((Eff.refl _ _ _).drew).alloc _

/-- Slices of bytes that lie one behind the other. -/
def Bss (w : World) (A : Option Addr) (ls : List (List Int)) : Prop :=
  ∀ i l, ls[i]? = some l → ∃ ad Ai ci, A = some ad ∧ w.cell? (ad.add i) = some (.slice Ai l.length ci) ∧ ReadsInt w .u8 Ai l.length l

theorem Bss.below {w w' : World} {A : Option Addr} {ls : List (List Int)} (h : Bss w A ls) (hb : Below w.heap.size w w') : Bss w' A ls := by
  intro i l hi
  obtain ⟨ad, Ai, ci, e, h1, h2⟩ := h i l hi
  exact ⟨ad, Ai, ci, e, pw_cell_below hb h1, h2.below hb⟩

def sums (ls : List (List Int)) : Nat := (ls.map List.length).sum
theorem sums_succ (ls : List (List Int)) (k : Nat) (h : k < ls.length) : sums (ls.take (k + 1)) = sums (ls.take k) + ls[k].length := by
  unfold sums
  rw [List.take_succ_eq_append_getElem h, List.map_append, List.sum_append]
  simp only [List.map_cons, List.map_nil, List.sum_cons, List.sum_nil, Nat.add_zero]
theorem flat_succ (ls : List (List Int)) (k : Nat) (h : k < ls.length) : (ls.take (k + 1)).flatten = (ls.take k).flatten ++ ls[k] := by
  rw [List.take_succ_eq_append_getElem h, List.flatten_append]
  simp
theorem sums_le (ls : List (List Int)) (k : Nat) : sums (ls.take k) ≤ sums ls := by
  have h : ls = ls.take k ++ ls.drop k := (List.take_append_drop k ls).symm
  have : sums ls = sums (ls.take k) + sums (ls.drop k) := by
    unfold sums
    rw [← List.sum_append, ← List.map_append, ← h]
  omega
theorem flatten_len (ls : List (List Int)) : ls.flatten.length = sums ls := by simp [sums, List.length_flatten]

set_option maxHeartbeats 4000000 in
theorem concat_calls (w : World) (A : Option Addr) (c : Nat) (ls : List (List Int)) (h : Bss w A ls) (hc : ls.length ≤ c) (hn : ls.length ≤ 1000000) (ht : sums ls ≤ 140737488355328) :
    Calls Try.prog 26 #[.slice A ls.length c] w (RetEx (fun v w' => w'.ownsRow w.heap.size 5 1 v ls.flatten.length (nums .u8 ls.flatten) ∧ Eff w.heap.size [] w w')) := by
  have H := Aside0.mk h
  clear h
  go_enter Try.func26, Try.ntmps26
  go_wp2
  go_loop [3, 11] (fun s i => ∃ k : Nat, k ≤ ls.length ∧ i = .int .i64 k ∧ s = .int .i64 (sums (ls.take k) : Nat)) (fun _ i => ls.length - (intOf i).toNat)
  case atStart => exact ⟨0, Nat.zero_le _, rfl, rfl⟩
  case round =>
    obtain ⟨k, hk, rfl, rfl⟩ := hrel
    have hle := sums_le ls k
    by_cases hlt : k < ls.length
    · obtain ⟨ad, Ai, ci, rfl, h1, h2⟩ := H.out k ls[k] (List.getElem?_eq_getElem hlt)
      have hs := sums_succ ls k hlt
      have hle2 := sums_le ls (k + 1)
      have HS := Aside0.mk hs
      have H2 := Aside0.mk h2
      have hb1 : (sums (ls.take k) : Int) + (ls[k].length : Int) ≤ 140737488355328 := by omega
      clear hs h2
      go_wp2
      go_round
      case rel => exact ⟨k + 1, by omega, by go_num, by rw [HS.out]; go_num⟩
      case measure => simp [intOf]; omega
    · have hke : k = ls.length := by omega
      have hsk : sums (ls.take k) = sums ls := by rw [hke, List.take_length]
      rw [hsk]
      have HKE := Aside0.mk hke
      clear hke hsk hle
      have hg := fun w => grow_calls w (sums ls) ht
      have HG := Aside0.mk hg
      clear hg
      go_wp2_with (go_at_call 34; refine (HG.out _).mono ?_)
      rintro e w1 ⟨v1, rfl, ho1, he1⟩
      have HO1 := Aside0.mk ho1
      have HE1 := Aside0.mk he1
      clear ho1 he1
      go_wp2
      go_loopw [6, 27] (fun v i wr => ∃ k : Nat, k ≤ ls.length ∧ i = .int .i64 k ∧ Aside0 (wr.ownsRow w.heap.size 5 1 v (ls.take k).flatten.length (nums .u8 (ls.take k).flatten) ∧ Eff w.heap.size [] w wr)) (fun _ i _ => ls.length - (intOf i).toNat)
      case atStart => exact ⟨0, Nat.zero_le _, rfl, ⟨HO1.out, HE1.out⟩⟩
      case round =>
        obtain ⟨k, hk, rfl, hinv⟩ := hrel
        by_cases hlt : k < ls.length
        · have hbel := hinv.out.2.below' (Nat.le_refl _)
          obtain ⟨ad, Ai, ci, rfl, h1, h2⟩ := (H.out.below hbel) k ls[k] (List.getElem?_eq_getElem hlt)
          have hfl := flat_succ ls k hlt
          have hs := sums_succ ls k hlt
          have hle2 := sums_le ls (k + 1)
          have hl1 : (ls.take k).flatten.length + ls[k].length ≤ 140737488355328 := by rw [flatten_len]; omega
          have HFL := Aside0.mk hfl
          have H2 := Aside0.mk h2
          have HBEL := Aside0.mk hbel
          clear hfl h2 hs hle2 hbel
          go_wp2_with (at_builtin; refine print_append_row (w0 := w) w.heap.size rfl _ _ 51 5 .u8 1 rfl Try.underlying51 byteInfo (by omega) _ (ls.take k).flatten ls[k] Ai ls[k].length ci (by rfl) (by rfl) hinv.out.1 H2.out HBEL.out HBEL.out.size (by omega) ?_)
          intro v1 w2 ho hb hg hat
          have HO := Aside0.mk ho
          have HB := Aside0.mk hb
          clear ho hb hg hat
          go_wp2
          go_roundw
          case rel => exact ⟨k + 1, by omega, by go_num, ⟨by rw [HFL.out]; simpa using HO.out, (Eff.refl _ _ _).of_below HB.out⟩⟩
          case measure => simp [intOf]; omega
        · have hke : k = ls.length := by omega
          have hfk : (ls.take k).flatten = ls.flatten := by rw [hke, List.take_length]
          have HFK := Aside0.mk hfk
          clear hke hfk
          go_wp2
          go_ret
          refine RetEx.mk' ?_
          rw [← HFK.out]
          exact hinv.out

end Go.Proofs.Ytgkmfedjmmleeaa
