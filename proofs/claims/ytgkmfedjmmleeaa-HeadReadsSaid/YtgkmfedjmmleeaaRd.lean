/- The methods of head.reading, walked: plte, trns, takes, ends. -/
import Derived.Test.YtgkmfedjmmleeaaPHeadReadsx
import Derived.Test.YtgkmfedjmmleeaaBuilder
import Derived.Test.YtgkmfedjmmleeaaHeadFns
namespace Go.Proofs.Ytgkmfedjmmleeaa
open Go.RowKit Go.Proofs.YtgkmfedjmmleeaaW.PrintWords

def Rd.cells (r : Rd) (p v : Value) : Array Value :=
  #[.int .i64 r.W, .int .i64 r.H, .int .i64 r.D, .int .i64 r.C, .int .i64 r.L, .string r.pal, .string r.trans, .bool r.hasT, .bool r.palette, p, v, .bool r.idat, .bool r.gap]

/-- A reading in block b; the bytes that its builder holds. -/
def RdAt (w : World) (B b : Nat) (r : Rd) (bs : List UInt8) : Prop := ∃ p v, BldAt w B b 9 62 (r.cells p v) (Lib.byteCells bs)

theorem RdAt.keep {w w' : World} {B B' b : Nat} {r : Rd} {bs : List UInt8} {ts : List TypeId} (h : RdAt w B b r bs) (k : Eff B' ts w w') (h5 : 5 ∉ ts) (hT : 62 ∉ ts) : RdAt w' B b r bs := by
  obtain ⟨p, v, h⟩ := h
  exact ⟨p, v, h.keep k h5 hT⟩
theorem RdAt.alloc {w : World} {B b : Nat} {r : Rd} {bs : List UInt8} (h : RdAt w B b r bs) (o : Obj) : RdAt (w.alloc o) B b r bs := h.keep ((Eff.refl 0 [] w).alloc o) (by simp) (by simp)

theorem rd_lies : LiesB 62 9 13 := by unfold LiesB; kernel_rfl

set_option maxHeartbeats 2000000 in
theorem ends_calls (w : World) (B b : Nat) (r : Rd) (bs : List UInt8) (T D : ByteArray) (n : Int) (h : RdAt w B b r bs) :
    Calls Try.prog 30 #[.pointer (some ⟨b, 0, none⟩), .agg #[.string T, .string D], .int .i64 n] w (Ret (.int .i64 (endsP r D n)) (fun w' => Eff w.heap.size [] w w')) := by
  obtain ⟨p, v, h⟩ := h
  have hb := blk_lt h.2.1
  have c11 := h.cell 11
  simp only [Rd.cells] at c11
  have HH := Aside0.mk h
  clear h
  obtain ⟨W, H, Dp, C, L, pal, trans, hasT, palette, idat, gap⟩ := r
  by_cases h1 : D.toList = []
  · have h1b : (D.toList == []) = true := by simp [h1]
    have h1c : (!D.toList.isEmpty) = false := by simp [h1]
    cases idat
    · have hf : endsP ⟨W, H, Dp, C, L, pal, trans, hasT, palette, false, gap⟩ D n = 23 := by simp [endsP, h1]
      have HF := Aside0.mk hf
      clear hf h1
      go_enter Try.func30, Try.ntmps30
      go_wp2
      go_ret
      exact Ret.mk' (int_eq HF.out.symm) ((Eff.refl _ _ _).alloc _)
    · by_cases h2 : n > 0
      · have hf : endsP ⟨W, H, Dp, C, L, pal, trans, hasT, palette, true, gap⟩ D n = 4 := by simp [endsP, h1, h2]
        have HF := Aside0.mk hf
        clear hf h1
        go_enter Try.func30, Try.ntmps30
        go_wp2
        go_ret
        exact Ret.mk' (int_eq HF.out.symm) ((Eff.refl _ _ _).alloc _)
      · have hf : endsP ⟨W, H, Dp, C, L, pal, trans, hasT, palette, true, gap⟩ D n = 0 := by simp [endsP, h1]; omega
        have HF := Aside0.mk hf
        clear hf h1
        go_enter Try.func30, Try.ntmps30
        go_wp2
        go_ret
        exact Ret.mk' (int_eq HF.out.symm) ((Eff.refl _ _ _).alloc _)
  · have hf : endsP ⟨W, H, Dp, C, L, pal, trans, hasT, palette, idat, gap⟩ D n = 21 := by simp [endsP, h1]
    have HF := Aside0.mk hf
    have h1c : (!D.toList.isEmpty) = true := by simp [h1]
    clear hf h1
    go_enter Try.func30, Try.ntmps30
    go_wp2
    go_ret
    exact Ret.mk' (int_eq HF.out.symm) ((Eff.refl _ _ _).alloc _)

theorem size_zero_iff (d : ByteArray) : d.toList = [] ↔ d.size = 0 := by
  rw [ByteArray.toList_eq]
  constructor
  · intro h
    have : d.data.toList.length = 0 := by rw [h]; rfl
    rw [data_length] at this
    exact this
  · intro h
    apply List.eq_nil_of_length_eq_zero
    rw [data_length, h]

theorem pow_wrap {D : Int} (h0 : 0 ≤ D) (h1 : D ≤ 16) : wrap64 (2 ^ D.toNat) = 2 ^ D.toNat := by
  have hn : D.toNat ≤ 16 := by omega
  generalize D.toNat = n at hn
  have h2 : (2 : Nat) ^ n ≤ 2 ^ 16 := Nat.pow_le_pow_right (by omega) hn
  have h3 : ((2 : Int) ^ n) = ((2 ^ n : Nat) : Int) := by simp
  have h4 : (2 : Nat) ^ n ≤ 65536 := by simpa using h2
  rw [h3]
  generalize (2 : Nat) ^ n = m at h4
  unfold wrap64
  omega

set_option maxHeartbeats 4000000 in
theorem plte_calls (w : World) (B b : Nat) (r : Rd) (bs : List UInt8) (d : ByteArray) (h : RdAt w B b r bs) (hs : d.size ≤ 140737488351232) (hD0 : 0 ≤ r.D) (hD1 : r.D ≤ 16) :
    Calls Try.prog 36 #[.pointer (some ⟨b, 0, none⟩), .string d] w
      (Ret (.int .i64 (plteP r d).1) (fun w' => RdAt w' B b (plteP r d).2 bs ∧ Eff B [62] w w')) := by
  obtain ⟨p, v, h⟩ := h
  have hb := h.2.1
  have hB := h.1
  have c2 := h.cell 2
  have c3 := h.cell 3
  have c5 := h.cell 5
  have c7 := h.cell 7
  have c8 := h.cell 8
  have c11 := h.cell 11
  simp only [Rd.cells] at c2 c3 c5 c7 c8 c11
  have f5 := blk_frozen hb 5
  have f8 := blk_frozen hb 8
  have HH := Aside0.mk h
  have HB := Aside0.mk hb
  clear h hb
  obtain ⟨W, H, D, C, L, pal, trans, hasT, palette, idat, gap⟩ := r
  dsimp only at hD0 hD1 c2 c3 c5 c7 c8 c11
  by_cases h1 : palette = true ∨ hasT = true ∨ idat = true
  · have hf : plteP ⟨W, H, D, C, L, pal, trans, hasT, palette, idat, gap⟩ d = (23, ⟨W, H, D, C, L, pal, trans, hasT, palette, idat, gap⟩) := by simp only [plteP]; rw [if_pos h1]
    rw [hf]
    clear hf
    cases palette
    · cases hasT
      · cases idat
        · simp at h1
        · clear h1
          go_enter Try.func36, Try.ntmps36
          go_wp2
          go_ret
          exact Ret.mk' rfl ⟨⟨p, v, HH.out⟩, Eff.refl _ _ _⟩
      · clear h1
        go_enter Try.func36, Try.ntmps36
        go_wp2
        go_ret
        exact Ret.mk' rfl ⟨⟨p, v, HH.out⟩, Eff.refl _ _ _⟩
    · clear h1
      go_enter Try.func36, Try.ntmps36
      go_wp2
      go_ret
      exact Ret.mk' rfl ⟨⟨p, v, HH.out⟩, Eff.refl _ _ _⟩
  · have hp : palette = false := by cases palette <;> simp_all
    have ht : hasT = false := by cases hasT <;> simp_all
    have hi : idat = false := by cases idat <;> simp_all
    subst hp ht hi
    clear h1
    by_cases h2 : C = 0 ∨ C = 4 ∨ (d.size : Int) % 3 ≠ 0 ∨ d.size = 0 ∨ (d.size : Int) > 768 ∨ (C = 3 ∧ (d.size : Int) / 3 > 2 ^ D.toNat)
    · have hf : plteP ⟨W, H, D, C, L, pal, trans, false, false, false, gap⟩ d = (25, ⟨W, H, D, C, L, pal, trans, false, false, false, gap⟩) := by
        simp only [plteP]; rw [if_neg (by simp), if_pos h2]
      rw [hf]
      have H2 := Aside0.mk h2
      clear hf h2
      go_enter Try.func36, Try.ntmps36
      go_wp2
      all_goals first
        | (go_ret; exact Ret.mk' rfl ⟨⟨p, v, HH.out⟩, Eff.refl _ _ _⟩)
        | (exfalso
           have h2 := H2.out
           have hz := size_zero_iff d
           have hw := pow_wrap hD0 hD1
           simp_all
           try omega)
    · have hf : plteP ⟨W, H, D, C, L, pal, trans, false, false, false, gap⟩ d = (0, ⟨W, H, D, C, L, d, trans, false, true, false, gap⟩) := by
        simp only [plteP]; rw [if_neg (by simp), if_neg h2]
      rw [hf]
      have H2 := Aside0.mk h2
      clear hf h2
      go_enter Try.func36, Try.ntmps36
      go_wp2
      all_goals first
        | (go_ret
           refine Ret.mk' rfl ⟨⟨p, v, ?_⟩, ?_⟩
           · exact (HH.out.set_ (by decide) 8 (by decide) (by decide) (.bool true)).set_ (by decide) 5 (by decide) (by decide) (.string d)
           · exact ((Eff.refl _ _ _).set_ HB.out (by simp) hB 8 _).set_ (blk_set HB.out 8 _) (by simp) hB 5 _)
        | (exfalso
           have h2 := H2.out
           have hz := size_zero_iff d
           have hw := pow_wrap hD0 hD1
           simp_all
           try omega)

set_option maxHeartbeats 4000000 in
theorem trns_calls (w : World) (B b : Nat) (r : Rd) (bs : List UInt8) (d : ByteArray) (h : RdAt w B b r bs) (hs2 : r.pal.size ≤ 140737488351232) :
    Calls Try.prog 37 #[.pointer (some ⟨b, 0, none⟩), .string d] w
      (Ret (.int .i64 (trnsP r d).1) (fun w' => RdAt w' B b (trnsP r d).2 bs ∧ Eff B [62] w w')) := by
  obtain ⟨p, v, h⟩ := h
  have hb := h.2.1
  have hB := h.1
  have hlt := blk_lt hb
  have c3 := h.cell 3
  have c5 := h.cell 5
  have c7 := h.cell 7
  have c8 := h.cell 8
  have c6 := h.cell 6
  have c11 := h.cell 11
  simp only [Rd.cells] at c3 c5 c6 c7 c8 c11
  have f6 := blk_frozen hb 6
  have f7 := blk_frozen hb 7
  have HH := Aside0.mk h
  have HB := Aside0.mk hb
  clear h hb
  obtain ⟨W, H, D, C, L, pal, trans, hasT, palette, idat, gap⟩ := r
  dsimp only at hs2 c3 c5 c6 c7 c8 c11
  by_cases h1 : hasT = true ∨ idat = true ∨ (C = 3 ∧ palette = false)
  · have hf : trnsP ⟨W, H, D, C, L, pal, trans, hasT, palette, idat, gap⟩ d = (23, ⟨W, H, D, C, L, pal, trans, hasT, palette, idat, gap⟩) := by simp only [trnsP]; rw [if_pos h1]
    rw [hf]
    have H1 := Aside0.mk h1
    clear hf h1
    go_enter Try.func37, Try.ntmps37
    go_wp2_with fail
    all_goals first
      | (go_ret; exact Ret.mk' rfl ⟨⟨p, v, HH.out⟩, Eff.refl _ _ _⟩)
      | (exfalso
         have h1 := H1.out
         simp_all)
  · have hi : hasT = false := by cases hasT <;> simp_all
    have hj : idat = false := by cases idat <;> simp_all
    subst hi hj
    have hq : ¬ (C = 3 ∧ palette = false) := fun e => h1 (.inr (.inr e))
    clear h1
    by_cases h2 : (C = 0 ∧ d.size = 2) ∨ (C = 2 ∧ d.size = 6) ∨ (C = 3 ∧ (d.size : Int) ≤ (pal.size : Int) / 3)
    · have hf : trnsP ⟨W, H, D, C, L, pal, trans, false, palette, false, gap⟩ d = (0, ⟨W, H, D, C, L, pal, d, true, palette, false, gap⟩) := by
        simp only [trnsP]; rw [if_neg (by simpa using hq), if_pos h2]
      rw [hf]
      clear hf
      rcases h2 with ⟨rfl, h2⟩ | ⟨rfl, h2⟩ | ⟨rfl, h2⟩
      · have h2b : ((d.size : Int) == 2) = true := by simp; omega
        have hsam := fun w => samples_calls 0 w
        have HS := Aside0.mk hsam
        clear hsam h2
        go_enter Try.func37, Try.ntmps37
        go_wp2_with (go_at_call 11; refine (HS.out _).mono ?_)
        rintro e w1 ⟨rfl, he⟩
        have e7 : w1.frozen? ⟨b, 7, none⟩ = false := blk_frozen (he.blockB HB.out hlt) 7
        have e6 : w1.frozen? ⟨b, 6, none⟩ = false := blk_frozen (he.blockB HB.out hlt) 6
        have k7 : w1.cell? ⟨b, 7, none⟩ = some (.bool false) := (blk_cell (he.blockB HB.out hlt) 7).trans rfl
        have k6 : w1.cell? ⟨b, 6, none⟩ = some (.string trans) := (blk_cell (he.blockB HB.out hlt) 6).trans rfl
        have hsz := he.lt hlt
        have HE := Aside0.mk he
        clear he
        have es : samplesP 0 = 1 := rfl
        rw [es]
        go_wp2
        go_ret
        refine Ret.mk' rfl ⟨⟨p, v, ?_⟩, ?_⟩
        · exact ((HH.out.keep HE.out (by simp) (by simp)).set_ (by decide) 7 (by decide) (by decide) (.bool true)).set_ (by decide) 6 (by decide) (by decide) (.string d)
        · have hb1 := HE.out.blockB HB.out hlt
          exact (((Eff.refl _ _ _).trans (HE.out.mono (by omega) (by simp))).set_ hb1 (by simp) hB 7 _).set_ (blk_set hb1 7 _) (by simp) hB 6 _
      · have h2b : ((d.size : Int) == 6) = true := by simp; omega
        have hsam := fun w => samples_calls 2 w
        have HS := Aside0.mk hsam
        clear hsam h2
        go_enter Try.func37, Try.ntmps37
        go_wp2_with (go_at_call 11; refine (HS.out _).mono ?_)
        rintro e w1 ⟨rfl, he⟩
        have e7 : w1.frozen? ⟨b, 7, none⟩ = false := blk_frozen (he.blockB HB.out hlt) 7
        have e6 : w1.frozen? ⟨b, 6, none⟩ = false := blk_frozen (he.blockB HB.out hlt) 6
        have k7 : w1.cell? ⟨b, 7, none⟩ = some (.bool false) := (blk_cell (he.blockB HB.out hlt) 7).trans rfl
        have k6 : w1.cell? ⟨b, 6, none⟩ = some (.string trans) := (blk_cell (he.blockB HB.out hlt) 6).trans rfl
        have hsz := he.lt hlt
        have HE := Aside0.mk he
        clear he
        have es : samplesP 2 = 3 := rfl
        rw [es]
        go_wp2
        go_ret
        refine Ret.mk' rfl ⟨⟨p, v, ?_⟩, ?_⟩
        · exact ((HH.out.keep HE.out (by simp) (by simp)).set_ (by decide) 7 (by decide) (by decide) (.bool true)).set_ (by decide) 6 (by decide) (by decide) (.string d)
        · have hb1 := HE.out.blockB HB.out hlt
          exact (((Eff.refl _ _ _).trans (HE.out.mono (by omega) (by simp))).set_ hb1 (by simp) hB 7 _).set_ (blk_set hb1 7 _) (by simp) hB 6 _
      · have hp : palette = true := by cases palette <;> simp_all
        subst hp
        have h2b : decide ((d.size : Int) ≤ (pal.size : Int) / 3) = true := by simpa using h2
        clear hq h2
        go_enter Try.func37, Try.ntmps37
        go_wp2
        go_ret
        refine Ret.mk' rfl ⟨⟨p, v, ?_⟩, ?_⟩
        · exact (HH.out.set_ (by decide) 7 (by decide) (by decide) (.bool true)).set_ (by decide) 6 (by decide) (by decide) (.string d)
        · exact ((Eff.refl _ _ _).set_ HB.out (by simp) hB 7 _).set_ (blk_set HB.out 7 _) (by simp) hB 6 _
    · have hf : trnsP ⟨W, H, D, C, L, pal, trans, false, palette, false, gap⟩ d = (26, ⟨W, H, D, C, L, pal, trans, false, palette, false, gap⟩) := by
        simp only [trnsP]; rw [if_neg (by simpa using hq), if_neg h2]
      rw [hf]
      clear hf
      by_cases d0 : C = 0
      · subst d0
        have h2 : ¬ d.size = 2 := fun e => h2 (.inl ⟨rfl, e⟩)
        have h2b : ((d.size : Int) == 2) = false := by simp; omega
        have hsam := fun w => samples_calls 0 w
        have HS := Aside0.mk hsam
        clear hsam h2
        go_enter Try.func37, Try.ntmps37
        go_wp2_with (go_at_call 11; refine (HS.out _).mono ?_)
        rintro e w1 ⟨rfl, he⟩
        have HE := Aside0.mk he
        clear he
        have es : samplesP 0 = 1 := rfl
        rw [es]
        go_wp2
        go_ret
        exact Ret.mk' rfl ⟨⟨p, v, HH.out.keep HE.out (by simp) (by simp)⟩, HE.out.mono (by omega) (by simp)⟩
      by_cases d2 : C = 2
      · subst d2
        have h2 : ¬ d.size = 6 := fun e => h2 (.inr (.inl ⟨rfl, e⟩))
        have h2b : ((d.size : Int) == 6) = false := by simp; omega
        have hsam := fun w => samples_calls 2 w
        have HS := Aside0.mk hsam
        clear hsam h2
        go_enter Try.func37, Try.ntmps37
        go_wp2_with (go_at_call 11; refine (HS.out _).mono ?_)
        rintro e w1 ⟨rfl, he⟩
        have HE := Aside0.mk he
        clear he
        have es : samplesP 2 = 3 := rfl
        rw [es]
        go_wp2
        go_ret
        exact Ret.mk' rfl ⟨⟨p, v, HH.out.keep HE.out (by simp) (by simp)⟩, HE.out.mono (by omega) (by simp)⟩
      by_cases d3 : C = 3
      · subst d3
        have hp : palette = true := by cases palette <;> simp_all
        subst hp
        have h2b : decide ((d.size : Int) ≤ (pal.size : Int) / 3) = false := by
          rw [decide_eq_false_iff_not]; exact fun e => h2 (.inr (.inr ⟨rfl, e⟩))
        clear hq h2 d0 d2
        go_enter Try.func37, Try.ntmps37
        go_wp2
        go_ret
        exact Ret.mk' rfl ⟨⟨p, v, HH.out⟩, Eff.refl _ _ _⟩
      · have e0 : (C == 0) = false := by simpa using d0
        have e2 : (C == 2) = false := by simpa using d2
        have e3 : (C == 3) = false := by simpa using d3
        clear hq h2 d0 d2 d3
        go_enter Try.func37, Try.ntmps37
        go_wp2
        go_ret
        exact Ret.mk' rfl ⟨⟨p, v, HH.out⟩, Eff.refl _ _ _⟩

end Go.Proofs.Ytgkmfedjmmleeaa
