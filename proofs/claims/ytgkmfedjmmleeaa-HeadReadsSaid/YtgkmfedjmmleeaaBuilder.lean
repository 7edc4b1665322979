/- strings.Builder as a field of a struct (or alone): copyCheck, WriteString, String, at cells o, o + 1 of a block b of type T. -/
import Derived.Test.YtgkmfedjmmleeaaProg
import Derived.Test.YtgkmfedjmmleeaaBase
import Derived.Lib.Builder
import Derived.Lib.AppendStr
import Derived.Lib.UnsafeStr
import Derived.Laws.Externs
namespace Go.Proofs.Ytgkmfedjmmleeaa
open Go.RowKit Go.Proofs.YtgkmfedjmmleeaaW.PrintWords

/-- Block b, of type T, holds the cells cs; at o, o + 1 lies a Builder that holds the bytes bs; all from B on. -/
def BldAt (w : World) (B b o : Nat) (T : TypeId) (cs : Array Value) (bs : List Value) : Prop :=
  B ≤ b ∧ w.heap[b]? = some (.cells cs T (0, 0)) ∧ (cs[o]? = some (.pointer none) ∨ cs[o]? = some (.pointer (some ⟨b, o, none⟩))) ∧
  ∃ v, cs[o + 1]? = some v ∧ w.ownsRow B 5 1 v bs.length bs

theorem BldAt.cell {w : World} {B b o : Nat} {T : TypeId} {cs : Array Value} {bs : List Value} (h : BldAt w B b o T cs bs) (i : Nat) : w.cell? ⟨b, i, none⟩ = cs[i]? := blk_cell h.2.1 i
theorem BldAt.keep {w w' : World} {B B' b o : Nat} {T : TypeId} {cs : Array Value} {bs : List Value} {ts : List TypeId} (h : BldAt w B b o T cs bs) (k : Eff B' ts w w') (h5 : 5 ∉ ts) (hT : T ∉ ts) : BldAt w' B b o T cs bs := by
  obtain ⟨h1, h2, h3, v, h4, h5'⟩ := h
  exact ⟨h1, k.keep h2 hT, h3, v, h4, k.own h5' h5⟩
/-- A store into another cell of the block. -/
theorem BldAt.set_ {w : World} {B b o : Nat} {T : TypeId} {cs : Array Value} {bs : List Value} (h : BldAt w B b o T cs bs) (hT : T ≠ 5) (i : Nat) (hi : i ≠ o) (hi' : i ≠ o + 1) (u : Value) :
    BldAt (w.setCell ⟨b, i, none⟩ u) B b o T (cs.setIfInBounds i u) bs := by
  obtain ⟨h1, h2, h3, v, h4, h5⟩ := h
  refine ⟨h1, blk_set h2 i u, ?_, v, ?_, ?_⟩
  · rw [Array.getElem?_setIfInBounds_ne hi]
    exact h3
  · rw [Array.getElem?_setIfInBounds_ne hi']
    exact h4
  · exact (Eff.set_ (B := 0) (ts := [T]) (Eff.refl 0 [T] w) h2 (by simp) (Nat.zero_le _) i u).own h5 (by simpa using fun e => hT e.symm)


def LiesB (T : TypeId) (o n : Nat) : Prop := liesAt Try.prog Try.prog.depth T (n / Try.prog.cellsOf T) o 60 1 = true

theorem bldInfo : (Try.prog.info? 60).map (fun i => i.size) = some 2 := by kernel_rfl
theorem byteInfo : (Try.prog.info? 5).map (fun i => (i.zero, i.size, i.bytes)) = some (some (.int .u8 0), 1, 1) := by kernel_rfl
theorem byteCellsOf : Try.prog.cellsOf 5 = 1 := by kernel_rfl

set_option maxHeartbeats 1000000 in
theorem copyCheck_used (b o : Nat) (w : World) (h0 : w.cell? ⟨b, o, none⟩ = some (.pointer (some ⟨b, o, none⟩))) :
    Calls Try.prog 40 #[.pointer (some ⟨b, o, none⟩)] w (Ret (.tuple #[]) (fun w' => w' = w)) := by
  obtain ⟨j, hj, _⟩ := Option.map_eq_some_iff.1 bldInfo
  go_enter Try.func40, Try.ntmps40
  go_wp2
  rw [Lib.run_neq_ptr_same w _ Try.underlying58 hj]
  go_wp2
  go_end0
  exact Ret.mk' rfl rfl

set_option maxHeartbeats 1000000 in
theorem copyCheck_fresh (b o : Nat) (T : TypeId) (n : Nat) (w : World) (h0 : w.cell? ⟨b, o, none⟩ = some (.pointer none)) (hsh : w.shape? b = some (T, n)) (ho : o < n) (hfz : w.frozen? ⟨b, o, none⟩ = false) (hl : LiesB T o n) :
    Calls Try.prog 40 #[.pointer (some ⟨b, o, none⟩)] w (Ret (.tuple #[]) (fun w' => w' = w.setCell ⟨b, o, none⟩ (.pointer (some ⟨b, o, none⟩)))) := by
  obtain ⟨j, hj, hjs⟩ := Option.map_eq_some_iff.1 bldInfo
  have HL := Aside0.mk hl
  clear hl
  go_enter Try.func40, Try.ntmps40
  go_wp2
  rw [Lib.run_to_unsafe w ⟨b, o, none⟩ Try.underlying58 Try.underlying78 hj (by rw [hjs]; decide) hsh ho]
  simp only [Result.andThen]
  rw [Oper.upon_value]
  go_wp2
  rw [run_callFunc_extern Try.func42 (by kernel_rfl) (by kernel_rfl) (by kernel_rfl) (e := Extern.AbiNoEscape.same) (by kernel_rfl)]
  rw [Lib.run_noEscape]
  simp only [Result.andThen]
  rw [Oper.upon_value]
  go_wp2
  rw [Lib.run_from_unsafe w ⟨b, o, none⟩ Try.underlying78 Try.underlying58 hj hsh HL.out]
  simp only [Result.andThen]
  rw [Oper.upon_value]
  go_wp2
  go_end0
  exact Ret.mk' rfl rfl

/-- copyCheck: behind it the builder is used. -/
theorem copyCheck_calls (w : World) (B b o : Nat) (T : TypeId) (cs : Array Value) (bs : List Value) (h : BldAt w B b o T cs bs) (hT : T ≠ 5) (hl : LiesB T o cs.size) :
    Calls Try.prog 40 #[.pointer (some ⟨b, o, none⟩)] w (Ret (.tuple #[]) (fun w' => ∃ cs', cs' = cs.setIfInBounds o (.pointer (some ⟨b, o, none⟩)) ∧ BldAt w' B b o T cs' bs ∧ Eff B [T] w w')) := by
  obtain ⟨h1, h2, h3, v, h4, h5⟩ := h
  have ho : o < cs.size := by
    rcases h3 with h3 | h3 <;> exact (Array.getElem?_eq_some_iff.1 h3).1
  rcases h3 with h3 | h3
  · refine (copyCheck_fresh b o T cs.size w ((blk_cell h2 o).trans h3) (by simp [World.shape?, h2]) ho (blk_frozen h2 o) hl).mono ?_
    rintro e w' ⟨rfl, rfl⟩
    refine Ret.mk' rfl ⟨_, rfl, ⟨h1, blk_set h2 o _, .inr (by simp [ho]), v, ?_, ?_⟩, (Eff.refl B [T] w).set_ h2 (by simp) h1 o _⟩
    · rw [Array.getElem?_setIfInBounds_ne (by omega)]
      exact h4
    · exact ((Eff.refl 0 [T] w).set_ h2 (by simp) (Nat.zero_le _) o _).own h5 (by simpa using fun e => hT e.symm)
  · refine (copyCheck_used b o w ((blk_cell h2 o).trans h3)).mono ?_
    rintro e w' ⟨rfl, rfl⟩
    have he : cs.setIfInBounds o (.pointer (some ⟨b, o, none⟩)) = cs := by
      apply Array.ext_getElem?
      intro i
      rw [Array.getElem?_setIfInBounds]
      split
      · rename_i hi; subst hi; rw [h3]
      · rfl
    exact Ret.mk' rfl ⟨_, rfl, by rw [he]; exact ⟨h1, h2, .inr h3, v, h4, h5⟩, Eff.refl _ _ _⟩

set_option maxHeartbeats 2000000 in
/-- WriteString: the new length takes at most 2^47 bytes. -/
theorem writeString_calls (w : World) (B b o : Nat) (T : TypeId) (cs : Array Value) (bs : List Value) (s : ByteArray) (h : BldAt w B b o T cs bs) (hT : T ≠ 5) (hl : LiesB T o cs.size) (hlen : bs.length + s.size ≤ 140737488355328) (hBw : B ≤ w.heap.size) :
    Calls Try.prog 38 #[.pointer (some ⟨b, o, none⟩), .string s] w (Ret (.tuple #[.int .i64 s.size, .nilIface]) (fun w' => ∃ cs', cs'.size = cs.size ∧ (∀ i, i ≠ o → i ≠ o + 1 → cs'[i]? = cs[i]?) ∧ BldAt w' B b o T cs' (bs ++ Lib.strCells s) ∧ Eff B [5, T] w w')) := by
  obtain ⟨i0, hi, hz0, hz1, hz2⟩ := info_parts byteInfo
  have HL := Aside0.mk hl
  clear hl
  go_enter Try.func38, Try.ntmps38
  go_wp2_with (go_at_call 40; refine (copyCheck_calls _ B b o T cs bs h hT HL.out).mono ?_)
  rintro e w1 ⟨rfl, cs1, hcs, h1, hb1⟩
  obtain ⟨hB, hbk, hp, v, hv, hown⟩ := h1
  have c0 : w1.cell? ⟨b, o + 1, none⟩ = some v := (blk_cell hbk (o + 1)).trans hv
  have HC := Aside0.mk hcs
  have HBK := Aside0.mk hbk
  have HV := Aside0.mk hv
  have HP := Aside0.mk hp
  have HH := Aside0.mk h
  clear hcs hbk hv hp h
  go_wp2_with (at_builtin; refine Lib.wpList_append_own_string _ rfl _ _ 51 9 rfl B 5 i0 Try.underlying51 Try.underlying9 hi hz0 hz1 hz2 _ _ _ rfl hown s rfl ?c3 ?c4 ?c5 ?_)
  case c3 => unfold maxLen; omega
  case c4 => omega
  case c5 => have := hb1.size; omega
  intro v' w2 hown' hgrow _
  have hne : some b ≠ v.ownBlock := fun e => by
    obtain ⟨_, cs, t, fr, hh, ht⟩ := own_typed hown b e.symm
    rw [HBK.out] at hh
    injection hh with hh
    injection hh with _ e2 _
    exact hT (e2.trans ht)
  have hb2 : w2.heap[b]? = some (.cells cs1 T (0, 0)) := (hgrow.block b (blk_lt HBK.out) hne).trans HBK.out
  have ho : o + 1 < cs1.size := (Array.getElem?_eq_some_iff.1 HV.out).1
  have d1 : w2.cell? ⟨b, o + 1, none⟩ = some v := (blk_cell hb2 (o + 1)).trans HV.out
  have f1 : w2.frozen? ⟨b, o + 1, none⟩ = false := blk_frozen hb2 _
  have HB2 := Aside0.mk hb2
  clear hb2
  obtain ⟨ao, n', cap, rfl⟩ : ∃ ao n' cap, v' = .slice ao n' cap := by
    rcases hown'.2 with ⟨hv, _⟩ | ⟨g, cap, cur, hv, _⟩
    · exact ⟨_, _, _, hv⟩
    · exact ⟨_, _, _, hv⟩
  go_wp2
  go_ret2
  refine Ret.mk' rfl ⟨cs1.setIfInBounds (o + 1) (.slice ao n' cap), ?_, ?_, ⟨hB, blk_set HB2.out _ _, ?_, .slice ao n' cap, by simp [ho], ?_⟩, ?_⟩
  · rw [Array.size_setIfInBounds, HC.out, Array.size_setIfInBounds]
  · intro i h1 h2
    rw [Array.getElem?_setIfInBounds_ne (by omega), HC.out, Array.getElem?_setIfInBounds_ne (by omega)]
  · rw [Array.getElem?_setIfInBounds_ne (by omega)]
    exact HP.out
  · have := ((Eff.refl 0 [T] w2).set_ HB2.out (by simp) (Nat.zero_le _) (o + 1) (.slice ao n' cap)).own hown' (by simpa using fun e => hT e.symm)
    simpa [Lib.strCells_length] using this
  · refine Eff.set_ (Eff.grown (hb1.mono (Nat.le_refl _) (by simp)) hgrow ?_) HB2.out (by simp) hB _ _
    intro g hg
    obtain ⟨q1, cs, t, fr, q2, q3⟩ := own_typed hown g hg
    exact ⟨q1, cs, t, fr, q2, by simp [q3]⟩

theorem unsafeString_none (W : World) (q : Option Addr) : (Builtin.unsafeString_ #[70, 3] 9 #[.pointer q, .int .i64 0]).run Try.prog W = .ok (.string .empty) W :=
  Lib.run_unsafeString_none W _ _ _ q

theorem eff_freeze {B : Nat} {ts : List TypeId} {a w : World} (h : Eff B ts a w) {g : Nat} {cs : Array Value} {t : TypeId} {fr : Nat × Nat} (hb : w.heap[g]? = some (.cells cs t fr)) (ht : t ∈ ts) (hg : B ≤ g) (n : Nat) : Eff B ts a (w.freeze ⟨g, 0, none⟩ n) := by
  refine h.trans ?_
  unfold World.freeze
  split
  · exact Eff.refl B ts w
  · exact ⟨rfl, rfl, rfl, by simp, fun k hk ho => by
      simp only [Array.getElem?_modify]
      rw [if_neg ?_]
      rintro rfl
      rcases ho with ho | ho
      · omega
      · exact ho cs t fr hb ht⟩

set_option maxHeartbeats 2000000 in
/-- String: the bytes. -/
theorem string_calls (w : World) (B b o : Nat) (T : TypeId) (cs : Array Value) (l : List UInt8) (h : BldAt w B b o T cs (Lib.byteCells l)) :
    Calls Try.prog 31 #[.pointer (some ⟨b, o, none⟩)] w (Ret (.string ⟨l.toArray⟩) (fun w' => Eff B [5] w w')) := by
  obtain ⟨hB, hbk, hp, v, hv, hown⟩ := h
  have c1 : w.drew.cell? ⟨b, o + 1, none⟩ = some v := (blk_cell (w := w.drew) hbk (o + 1)).trans hv
  rw [Lib.byteCells_length] at hown
  have HBK := Aside0.mk hbk
  have HV := Aside0.mk hv
  have HP := Aside0.mk hp
  clear hbk hv hp
  have hUS := unsafeString_none
  rcases hown.2 with ⟨rfl, hl0⟩ | ⟨g, cap, cur, rfl, hbg, hg, hnc, hcm, hcs, htake⟩
  · have hl : l = [] := List.eq_nil_of_length_eq_zero hl0
    subst hl
    have hSD : (Builtin.unsafeSliceData_ #[51] 70 #[.slice none 0 0]).run Try.prog w.drew = .ok (.pointer none) w.drew := rfl
    go_enter Try.func31, Try.ntmps31
    go_wp2
    go_region
    all_goals (go_wp2; go_ret; exact Ret.mk' rfl ((Eff.refl _ _ _).drew))
  · by_cases hl0 : l = []
    · subst hl0
      by_cases hc0 : cap = 0
      · subst hc0
        have hlt : b < w.heap.size := blk_lt HBK.out
        have hSD : (Builtin.unsafeSliceData_ #[51] 70 #[.slice (some ⟨g, 0, none⟩) 0 0]).run Try.prog w.drew = .ok (.pointer (some ⟨w.drew.heap.size, 0, none⟩)) (w.drew.alloc (.view ⟨g, 0, none⟩ 5)) :=
          Lib.run_unsafeSliceData_zero w.drew _ _ 5 Try.underlying70 ⟨g, 0, none⟩ 0 (5, cur.size) (by have hg' : w.drew.heap[g]? = some (.cells cur 5 (0, 0)) := hg; simp [World.shape?, hg'])
        have c2 : (w.drew.alloc (.view ⟨g, 0, none⟩ 5)).cell? ⟨b, o + 1, none⟩ = some (.slice (some ⟨g, 0, none⟩) 0 0) := by
          have : (w.drew.alloc (.view ⟨g, 0, none⟩ 5)).heap[b]? = _ := (Lib.alloc_old w.drew _ b hlt).trans HBK.out
          exact (blk_cell this (o + 1)).trans HV.out
        have c3 : (w.alloc (.view ⟨g, 0, none⟩ 5)).drew.cell? ⟨b, o + 1, none⟩ = some (.slice (some ⟨g, 0, none⟩) 0 0) := c2
        have c0 : w.cell? ⟨b, o + 1, none⟩ = some (.slice (some ⟨g, 0, none⟩) 0 0) := c1
        go_enter Try.func31, Try.ntmps31
        go_wp2
        go_region
        all_goals (go_wp2; go_ret; refine Ret.mk' rfl ?_; repeat (first | exact Eff.refl _ _ _ | apply Eff.drew | apply Eff.drewN | apply Eff.alloc))
      · have hSD : (Builtin.unsafeSliceData_ #[51] 70 #[.slice (some ⟨g, 0, none⟩) 0 cap]).run Try.prog w.drew = .ok (.pointer (some ⟨g, 0, none⟩)) w.drew :=
          Lib.run_unsafeSliceData_row _ _ _ _ _ _ hc0
        go_enter Try.func31, Try.ntmps31
        go_wp2
        go_region
        all_goals (go_wp2; go_ret; exact Ret.mk' rfl ((Eff.refl _ _ _).drew))
    · have hl1 : l.length ≠ 0 := by simpa using hl0
      have hSD : (Builtin.unsafeSliceData_ #[51] 70 #[.slice (some ⟨g, 0, none⟩) l.length cap]).run Try.prog w.drew = .ok (.pointer (some ⟨g, 0, none⟩)) w.drew :=
        Lib.run_unsafeSliceData_row _ _ _ _ _ _ (by omega)
      have hUS1 : (Builtin.unsafeString_ #[70, 3] 9 #[.pointer (some ⟨g, 0, none⟩), .int .i64 l.length]).run Try.prog w.drew = .ok (.string ⟨l.toArray⟩) (w.drew.freeze ⟨g, 0, none⟩ l.length) := by
        refine Lib.run_unsafeString_row w.drew 70 3 9 5 Try.underlying70 byteCellsOf g cur.size (by have hg' : w.drew.heap[g]? = some (.cells cur 5 (0, 0)) := hg; simp [World.shape?, hg']) l hl0 (by omega) (by unfold maxLen at hcm; omega) ?_
        intro j x hx
        exact hown.cells (g := g) rfl j (.int .u8 x.toNat) (by simp [Lib.byteCells, hx])
      clear hUS
      go_enter Try.func31, Try.ntmps31
      go_wp2
      go_region
      all_goals (go_wp2; go_ret; refine Ret.mk' rfl ?_; exact eff_freeze ((Eff.refl _ _ _).drew) (by exact hg) (by simp) hbg _)

end Go.Proofs.Ytgkmfedjmmleeaa
