/- vitrineref08.Read, walked: it answers as head.Read does. -/
import Derived.Test.YtgkmfedjmmleeaaGen
import Derived.Test.YtgkmfedjmmleeaaPHeadReadsx
import Derived.Test.YtgkmfedjmmleeaaRead
namespace Go.Proofs.Ytgkmfedjmmleeaa
open Go.RowKit Go.Proofs.YtgkmfedjmmleeaaW.PrintWords PHeadReads
set_option linter.unusedVariables false
set_option linter.unusedSimpArgs false

theorem bt_byteAt (s : ByteArray) (i : Nat) (h : i < s.size) : bt s (i : Int) = byteAt s i := by
  unfold bt
  rw [dif_pos (by simpa using h), byteAt_eq s i h]
  rfl

theorem of_f (s : ByteArray) (h : s.size = 4) : vitrineref06_Of.f 5 s = some (big4 s 0) := by
  have e0 := bt_byteAt s 0 (by omega)
  have e1 := bt_byteAt s 1 (by omega)
  have e2 := bt_byteAt s 2 (by omega)
  have e3 := bt_byteAt s 3 (by omega)
  have r0 := byteAt_range s 0
  have r1 := byteAt_range s 1
  have r2 := byteAt_range s 2
  have r3 := byteAt_range s 3
  rw [big4_eq]
  unfold vitrineref06_Of.f
  simp only [vitrineref06_Of.l0]
  have w1 : wrap64 ((0 : Int) + 1) = 1 := by decide +kernel
  have w2 : wrap64 ((1 : Int) + 1) = 2 := by decide +kernel
  have w3 : wrap64 ((2 : Int) + 1) = 3 := by decide +kernel
  have w4 : wrap64 ((3 : Int) + 1) = 4 := by decide +kernel
  rw [w1, w2, w3, w4, h, if_pos (by decide), if_pos (by decide), if_pos (by decide), if_pos (by decide), if_pos (by decide), if_pos (by decide), if_pos (by decide), if_pos (by decide), if_neg (by decide)]
  have x0 : wrap64 (bt s 0) = byteAt s 0 := by rw [show (0 : Int) = ((0 : Nat) : Int) from rfl, e0]; unfold wrap64; omega
  have x1 : wrap64 (bt s 1) = byteAt s 1 := by rw [show (1 : Int) = ((1 : Nat) : Int) from rfl, e1]; unfold wrap64; omega
  have x2 : wrap64 (bt s 2) = byteAt s 2 := by rw [show (2 : Int) = ((2 : Nat) : Int) from rfl, e2]; unfold wrap64; omega
  have x3 : wrap64 (bt s 3) = byteAt s 3 := by rw [show (3 : Int) = ((3 : Nat) : Int) from rfl, e3]; unfold wrap64; omega
  rw [x0, x1, x2, x3]
  generalize byteAt s 0 = b0 at *
  generalize byteAt s (0 + 1) = b1 at *
  generalize byteAt s (0 + 2) = b2 at *
  generalize byteAt s (0 + 3) = b3 at *
  congr 1
  unfold wrap64
  omega

theorem of_calls (s : ByteArray) (h : s.size = 4) (w : World) :
    Calls Try.prog 33 #[.string s] w (Ret (.int .i64 (big4 s 0)) (fun w' => Eff w.heap.size [] w w')) :=
  (vitrineref06_Of.calls 5 s _ w (of_f s h)).mono fun _ _ ⟨he, n, hb⟩ => ⟨he, hb ▸ (Eff.refl _ _ _).drewN n⟩

theorem byteAt_cut (s : ByteArray) (a b i : Nat) (h : a + i < b) (hb : b ≤ s.size) : byteAt (s.extract a b) i = byteAt s (a + i) := by
  unfold byteAt
  congr 2
  simp only [Array.getD_eq_getD_getElem?, ByteArray.data_extract]
  have hd : s.data.size = s.size := rfl
  rw [Array.getElem?_extract_of_lt (by omega), Array.getElem?_eq_getElem (by omega)]

theorem of_cut (s : ByteArray) (a : Nat) (h : a + 4 ≤ s.size) (w : World) :
    Calls Try.prog 33 #[.string (s.extract a (a + 4))] w (Ret (.int .i64 (big4 s a)) (fun w' => Eff w.heap.size [] w w')) := by
  have hs : (s.extract a (a + 4)).size = 4 := by rw [ByteArray.size_extract]; omega
  have e : big4 (s.extract a (a + 4)) 0 = big4 s a := by
    rw [big4_eq, big4_eq, byteAt_cut _ _ _ _ (by omega) h, byteAt_cut _ _ _ _ (by omega) h, byteAt_cut _ _ _ _ (by omega) h, byteAt_cut _ _ _ _ (by omega) h]
    rfl
  rw [← e]
  exact of_calls _ hs w

theorem wrapByteAt (s : ByteArray) (i : Nat) : IntKind.i64.wrap (byteAt s i) = byteAt s i := by
  have := byteAt_range s i
  rw [IntKind.wrap_i64]
  omega

def Rd.shpCells (r : Rd) : Array Value := #[.int .i64 r.W, .int .i64 r.H, .int .i64 r.D, .int .i64 r.C, .int .i64 r.L, .string r.pal, .string r.trans, .bool r.hasT]

/-- The loop's relation, the memory: the row of the data, the two zero shapes, the shape. -/
structure RefMem (w : World) (g : Nat) (cs : Array Value) (bs : List UInt8) (v : Value) (wr : World) : Prop where
  own : wr.ownsRow w.heap.size 5 1 v bs.length (Lib.byteCells bs)
  blk2 : wr.heap[w.heap.size]? = some (.cells shp0 36 (0, 0))
  blk5 : wr.heap[w.heap.size + 1]? = some (.cells shp0 36 (0, 0))
  blkg : wr.heap[g]? = some (.cells cs 36 (0, 0))
  eff : Eff w.heap.size [] w wr

theorem RefMem.alloc {w : World} {g : Nat} {cs : Array Value} {bs : List UInt8} {v : Value} {wr : World} (h : RefMem w g cs bs v wr) (o : Obj) : RefMem w g cs bs v (wr.alloc o) :=
  ⟨((Eff.refl 0 [] wr).alloc o).own h.own (by simp), blk_alloc h.blk2 _, blk_alloc h.blk5 _, blk_alloc h.blkg _, h.eff.alloc o⟩
theorem RefMem.set {w : World} {g : Nat} {cs : Array Value} {bs : List UInt8} {v : Value} {wr : World} (h : RefMem w g cs bs v wr) (hg : w.heap.size + 1 < g) (i : Nat) (u : Value) : RefMem w g (cs.setIfInBounds i u) bs v (wr.setCell ⟨g, i, none⟩ u) :=
  ⟨((Eff.refl 0 [36] wr).set_ h.blkg (by simp) (Nat.zero_le _) i u).own h.own (by decide), by rw [Below.heap_setCell _ _ _ _ (by show w.heap.size ≠ g; omega)]; exact h.blk2, by rw [Below.heap_setCell _ _ _ _ (by show w.heap.size + 1 ≠ g; omega)]; exact h.blk5,
    blk_set h.blkg i u, h.eff.setNew (by omega) i u⟩
theorem RefMem.cast {w : World} {g : Nat} {cs cs' : Array Value} {bs : List UInt8} {v : Value} {wr : World} (h : RefMem w g cs bs v wr) (e : cs = cs') : RefMem w g cs' bs v wr := e ▸ h

theorem RefMem.app {w : World} {g : Nat} {cs : Array Value} {bs : List UInt8} {v v' : Value} {wr w2 : World} {s : ByteArray} {n : Nat} {xs : List Value} (h : RefMem w g cs bs v wr) (ho : w2.ownsRow w.heap.size 5 1 v' n xs) (hx : xs = Lib.byteCells bs ++ Lib.strCells s) (hg : wr.grownBy w2 v.ownBlock) : RefMem w g cs (bs ++ s.data.toList) v' w2 := by
  have hx2 : xs = Lib.byteCells (bs ++ s.data.toList) := by rw [hx, byteCells_app]
  have key : ∀ (k : Nat) (cs' : Array Value), wr.heap[k]? = some (.cells cs' 36 (0, 0)) → w2.heap[k]? = some (.cells cs' 36 (0, 0)) := by
    intro k cs' hk
    refine (hg.block k (blk_lt hk) ?_).trans hk
    intro e
    obtain ⟨_, cs, t, fr, hh, ht⟩ := own_typed h.own k e.symm
    rw [hk] at hh
    injection hh with hh
    injection hh with _ e2 _
    rw [ht] at e2
    cases e2
  refine ⟨?_, key _ _ h.blk2, key _ _ h.blk5, key _ _ h.blkg, ⟨hg.os.trans h.eff.os, hg.tape.trans h.eff.tape, hg.output.trans h.eff.output, Nat.le_trans h.eff.size hg.size, fun k hk ho => (hg.block k (Nat.lt_of_lt_of_le hk h.eff.size) (fun e => by have := (own_typed h.own k e.symm).1; omega)).trans (h.eff.block k hk ho)⟩⟩
  have hl := ho.1
  rw [hx2] at ho hl
  have : n = (bs ++ s.data.toList).length := by simpa [Lib.byteCells_length] using hl.symm
  rw [this] at ho
  exact ho

/-- What was met. -/
structure RefPure (l : List (ByteArray × ByteArray)) (res : Shp × List UInt8 × Int) (k : Nat) (r : Rd) (bs : List UInt8) : Prop where
  ok : r.ok
  col : r.C = 0 ∨ r.C = 2 ∨ r.C = 3 ∨ r.C = 4 ∨ r.C = 6
  len : bs.length + total (l.drop k) ≤ 140737488355328
  res : goOnP r bs (l.drop k) = res

/-- The loop's relation: so many chunks behind the first are behind us. -/
structure RefInv (w : World) (g : Nat) (l : List (ByteArray × ByteArray)) (res : Shp × List UInt8 × Int) (k : Nat) (r : Rd) (bs : List UInt8) (v : Value) (wr : World) : Prop extends RefPure l res k r bs, RefMem w g r.shpCells bs v wr

theorem shpCells8 {w : World} {g : Nat} {t : TypeId} {r : Rd} (h : w.heap[g]? = some (.cells r.shpCells t (0, 0))) :
    w.cell? ⟨g, 0, none⟩ = some (.int .i64 r.W) ∧ w.cell? ⟨g, 1, none⟩ = some (.int .i64 r.H) ∧ w.cell? ⟨g, 2, none⟩ = some (.int .i64 r.D) ∧ w.cell? ⟨g, 3, none⟩ = some (.int .i64 r.C) ∧ w.cell? ⟨g, 4, none⟩ = some (.int .i64 r.L) ∧ w.cell? ⟨g, 5, none⟩ = some (.string r.pal) ∧ w.cell? ⟨g, 6, none⟩ = some (.string r.trans) ∧ w.cell? ⟨g, 7, none⟩ = some (.bool r.hasT) :=
  ⟨blk_cell h 0, blk_cell h 1, blk_cell h 2, blk_cell h 3, blk_cell h 4, blk_cell h 5, blk_cell h 6, blk_cell h 7⟩

theorem step_err {r : Rd} {bs : List UInt8} {l rest : List (ByteArray × ByteArray)} {k : Nat} {res : Shp × List UInt8 × Int} {T D : ByteArray} (hres : goOnP r bs (l.drop k) = res) (hd : l.drop k = (T, D) :: rest) (hne : T.toList ≠ tIEND) {c : Int} (hc : (takesP r T D).1 = c) (h0 : c ≠ 0) : res = (shpZero, [], c) := by
  rw [← hres, hd]
  simp only [goOnP]
  rw [if_neg hne, if_neg (by rw [hc]; exact h0), hc]
theorem step_ok {r r' : Rd} {bs x : List UInt8} {l rest : List (ByteArray × ByteArray)} {k : Nat} {res : Shp × List UInt8 × Int} {T D : ByteArray} (hres : goOnP r bs (l.drop k) = res) (hd : l.drop k = (T, D) :: rest) (hne : T.toList ≠ tIEND) (hc : takesP r T D = (0, r', x)) : goOnP r' (bs ++ x) rest = res := by
  rw [← hres, hd]
  simp only [goOnP]
  rw [if_neg hne, if_pos (by rw [hc]), hc]
theorem step_len {bs x : List UInt8} {l : List (ByteArray × ByteArray)} {k : Nat} {T D : ByteArray} (h : bs.length + total (l.drop k) ≤ 140737488355328) (hd : l.drop k = (T, D) :: l.drop (k + 1)) (hx : x.length ≤ D.size) : (bs ++ x).length + total (l.drop (k + 1)) ≤ 140737488355328 := by
  rw [hd] at h
  simp [total] at h ⊢
  omega
theorem takes_plte {r : Rd} {T D : ByteArray} (h0 : T.toList ≠ tIHDR) (h : T.toList = tPLTE) : takesP r T D = ((plteP r D).1, { (plteP r D).2 with gap := (plteP r D).2.idat }, []) := by
  unfold takesP; rw [if_neg h0, if_pos h]
theorem takes_trns {r : Rd} {T D : ByteArray} (h0 : T.toList ≠ tIHDR) (h1 : T.toList ≠ tPLTE) (h : T.toList = tTRNS) : takesP r T D = ((trnsP r D).1, { (trnsP r D).2 with gap := (trnsP r D).2.idat }, []) := by
  unfold takesP; rw [if_neg h0, if_neg h1, if_pos h]
theorem takes_idat {r : Rd} {T D : ByteArray} (h0 : T.toList ≠ tIHDR) (h1 : T.toList ≠ tPLTE) (h2 : T.toList ≠ tTRNS) (h : T.toList = tIDAT) : takesP r T D = if r.gap = true ∨ (r.C = 3 ∧ r.palette = false) then (23, r, []) else (0, { r with idat := true }, D.data.toList) := by
  unfold takesP; rw [if_neg h0, if_neg h1, if_neg h2, if_pos h]
theorem takes_oth {r : Rd} {T D : ByteArray} (h0 : T.toList ≠ tIHDR) (h1 : T.toList ≠ tPLTE) (h2 : T.toList ≠ tTRNS) (h : T.toList ≠ tIDAT) : takesP r T D = ((if isCritical T.toList = true then 27 else 0), { r with gap := r.idat }, []) := by
  unfold takesP; rw [if_neg h0, if_neg h1, if_neg h2, if_neg h]

theorem plte_bad {r : Rd} {D : ByteArray} (h0 : r.palette = false) (h1 : r.hasT = false) (h2 : r.idat = false) (h : r.C = 0 ∨ r.C = 4 ∨ (D.size : Int) % 3 ≠ 0 ∨ D.size = 0 ∨ (D.size : Int) > 768 ∨ (r.C = 3 ∧ (D.size : Int) / 3 > 2 ^ r.D.toNat)) : (plteP r D).1 = 25 := by
  unfold plteP
  rw [if_neg (by simp [h0, h1, h2]), if_pos h]
theorem plte_fine {r : Rd} {D : ByteArray} (h0 : r.palette = false) (h1 : r.hasT = false) (h2 : r.idat = false) (h : ¬ (r.C = 0 ∨ r.C = 4 ∨ (D.size : Int) % 3 ≠ 0 ∨ D.size = 0 ∨ (D.size : Int) > 768 ∨ (r.C = 3 ∧ (D.size : Int) / 3 > 2 ^ r.D.toNat))) : plteP r D = (0, { r with palette := true, pal := D }) := by
  unfold plteP
  rw [if_neg (by simp [h0, h1, h2]), if_neg h]
theorem shl_cmp {n : Nat} {m : Int} (h : (n : Int) / 3 > m) : (n : Int) > 3 * m := by omega
theorem shl_cmp' {n : Nat} {m : Int} (h3 : (n : Int) % 3 = 0) (h : ¬ (n : Int) / 3 > m) : ¬ (n : Int) > 3 * m := by omega
theorem trns_fine {r : Rd} {D : ByteArray} (h0 : r.hasT = false) (h1 : r.idat = false) (h2 : ¬ (r.C = 3 ∧ r.palette = false)) (h : (r.C = 0 ∧ D.size = 2) ∨ (r.C = 2 ∧ D.size = 6) ∨ (r.C = 3 ∧ (D.size : Int) ≤ (r.pal.size : Int) / 3)) : trnsP r D = (0, { r with hasT := true, trans := D }) := by
  unfold trnsP
  rw [if_neg (by simp only [h0, h1]; rintro (h | h | h); cases h; cases h; exact h2 h), if_pos h]
theorem trns_bad {r : Rd} {D : ByteArray} (h0 : r.hasT = false) (h1 : r.idat = false) (h2 : ¬ (r.C = 3 ∧ r.palette = false)) (h : ¬ ((r.C = 0 ∧ D.size = 2) ∨ (r.C = 2 ∧ D.size = 6) ∨ (r.C = 3 ∧ (D.size : Int) ≤ (r.pal.size : Int) / 3))) : (trnsP r D).1 = 26 := by
  unfold trnsP
  rw [if_neg (by simp only [h0, h1]; rintro (h | h | h); cases h; cases h; exact h2 h), if_neg h]
theorem step_end {r : Rd} {bs : List UInt8} {l rest : List (ByteArray × ByteArray)} {k : Nat} {res : Shp × List UInt8 × Int} {T D : ByteArray} (hres : goOnP r bs (l.drop k) = res) (hd : l.drop k = (T, D) :: rest) (hT : T.toList = tIEND) {c : Int} (hc : endsP r D rest.length = c) : res = if c = 0 then (r.shp, bs, 0) else (shpZero, [], c) := by
  rw [← hres, hd]
  simp only [goOnP]
  rw [if_pos hT, hc]
theorem crit_at {T : ByteArray} (h : 0 < T.size) : isCritical T.toList = decide (65 ≤ T[0].toNat ∧ T[0].toNat ≤ 90) := by
  cases hT : T.toList with
  | nil => exact absurd ((size_zero_iff T).1 hT) (by omega)
  | cons c rest =>
    have hc : T[0] = c := by
      rw [ByteArray.toList_eq] at hT
      have h0 : T.data.toList[0]? = some c := by rw [hT]; rfl
      have h1 : T.data[0]? = some c := by simpa using h0
      exact (Array.getElem?_eq_some_iff.1 h1).2
    rw [hc]
    rfl

/-- A region that reads and stores a row of values into block g, in either order. -/
def StoreB (W : World) (g : Nat) (vs : List Value) (b : Bool) (w : World) : Prop := ∃ w1, Eff W.heap.size [] W w1 ∧ w = if b = true then storeL g vs 0 w1 else w1
theorem StoreB.start (W : World) (g : Nat) (vs : List Value) : StoreB W g vs false W.drew := ⟨_, (Eff.refl _ _ _).drew, rfl⟩
theorem StoreB.keep {W : World} {g : Nat} {vs : List Value} {b : Bool} {w : World} (hs : StoreB W g vs b w) {k : Nat} {o : Obj} (hk : W.heap[k]? = some o) (hne : k ≠ g) : w.heap[k]? = some o := by
  obtain ⟨w1, h1, rfl⟩ := hs
  have e1 := h1.blockB hk (blk_lt hk)
  cases b
  · exact e1
  · exact (storeL_far g vs 0 w1 k hne).trans e1
theorem StoreB.zero {W : World} {g : Nat} {vs : List Value} {w : World} (hs : StoreB W g vs false w) {o : Obj} (hk : W.heap[g]? = some o) : w.heap[g]? = some o := by
  obtain ⟨w1, h1, rfl⟩ := hs
  exact h1.blockB hk (blk_lt hk)
theorem StoreB.stored {W : World} {g : Nat} {vs : List Value} {w : World} (hs : StoreB W g vs false w) : StoreB W g vs true (storeL g vs 0 w) := by
  obtain ⟨w1, h1, rfl⟩ := hs
  exact ⟨_, h1, rfl⟩
theorem StoreB.own {W : World} {g : Nat} {vs : List Value} {b : Bool} {w : World} (hs : StoreB W g vs b w) {cs : Array Value} {t : TypeId} {fr : Nat × Nat} (hg : W.heap[g]? = some (.cells cs t fr)) {base : Nat} {e : TypeId} {size n : Nat} {v : Value} {xs : List Value} (ho : W.ownsRow base e size v n xs) (he : e ≠ t) : w.ownsRow base e size v n xs := by
  obtain ⟨w1, h1, rfl⟩ := hs
  have ho1 := h1.own ho (by simp)
  cases b
  · exact ho1
  · refine ⟨ho1.1, ?_⟩
    rcases ho1.2 with h0 | ⟨k, cap, cur, hv, hb, hk, r⟩
    · exact .inl h0
    · refine .inr ⟨k, cap, cur, hv, hb, ?_, r⟩
      refine (storeL_far g vs 0 w1 k ?_).trans hk
      rintro rfl
      have := h1.blockB hg (blk_lt hg)
      rw [hk] at this
      injection this with this
      injection this with _ e2 _
      exact he e2

theorem strOfNums_map' (l : List UInt8) : strOfNums (l.map fun b => (b.toNat : Int)) = ⟨l.toArray⟩ := by
  unfold strOfNums
  congr 2
  rw [List.map_map]
  conv => rhs; rw [← List.map_id l]
  apply List.map_congr_left
  intro b _
  simp

theorem three_wrap {D : Int} (h0 : 0 ≤ D) (h1 : D ≤ 16) : wrap64 (3 * 2 ^ D.toNat) = 3 * 2 ^ D.toNat := by
  have hn : D.toNat ≤ 16 := by omega
  generalize D.toNat = n at hn
  have h2 : (2 : Nat) ^ n ≤ 2 ^ 16 := Nat.pow_le_pow_right (by omega) hn
  have h3 : ((2 : Int) ^ n) = ((2 ^ n : Nat) : Int) := by simp
  have h4 : (2 : Nat) ^ n ≤ 65536 := by simpa using h2
  rw [h3]
  generalize (2 : Nat) ^ n = m at h4
  unfold wrap64
  omega

theorem colour_of {C D : Int} (h : colourDepth C D = true) : C = 0 ∨ C = 2 ∨ C = 3 ∨ C = 4 ∨ C = 6 := by
  unfold colourDepth at h
  split at h
  · omega
  · split at h
    · omega
    · split at h
      · omega
      · cases h


def firstLoop : Code → Option Code
  | .loop c => some c
  | .seq a b => match firstLoop a with
    | some c => some c
    | none => firstLoop b
  | .block _ c => firstLoop c
  | .scope c => firstLoop c
  | .cond _ a b => match firstLoop a with
    | some c => some c
    | none => firstLoop b
  | _ => none
/-- The loop's body. -/
noncomputable def refBody : Code := ((Try.f18.body.bind firstLoop).getD .skip)

set_option maxRecDepth 1000000 in
def RWI (w : World) (g : Nat) (ad : Addr) (c : Nat) (l : List (ByteArray × ByteArray)) (res : Shp × List UInt8 × Int) (d1 d6 d8 d16 d17 d18 d19 d20 d21 d22 d23 d24 d25 d26 d27 d28 d29 d30 d31 d32 d33 d34 d35 d36 d37 d38 d39 d40 d41 d42 d43 d44 d45 d46 d47 d48 d49 d50 d51 d52 d53 d54 d55 d56 d57 d58 d59 d60 d61 d62 d63 d64 d65 d66 d67 d68 d69 d260 : Value) (a : Act) (wr : World) : Prop :=
  ∃ (k : Nat) (r : Rd) (bs : List UInt8) (v : Value), k ≤ l.length ∧ Aside0 (RefInv w g l res k r bs v wr) ∧ ∃ x3 x4 x14 x15 x70 x71 x72 x73 x74 x75 x76 x77 x78 x79 x80 x81 x82 x83 x84 x85 x86 x87 x88 x89 x90 x91 x92 x93 x94 x95 x96 x97 x98 x99 x100 x101 x102 x103 x104 x105 x106 x107 x108 x109 x110 x111 x112 x113 x114 x115 x116 x117 x118 x119 x120 x121 x122 x123 x124 x125 x126 x127 x128 x129 x130 x131 x132 x133 x134 x135 x136 x137 x138 x139 x140 x141 x142 x143 x144 x145 x146 x147 x148 x149 x150 x151 x152 x153 x154 x155 x156 x157 x158 x159 x160 x161 x162 x163 x164 x165 x166 x167 x168 x169 x170 x171 x172 x173 x174 x175 x176 x177 x178 x179 x180 x181 x182 x183 x184 x185 x186 x187 x188 x189 x190 x191 x192 x193 x194 x195 x196 x197 x198 x199 x200 x201 x202 x203 x204 x205 x206 x207 x208 x209 x210 x211 x212 x213 x214 x215 x216 x217 x218 x219 x220 x221 x222 x223 x224 x225 x226 x227 x228 x229 x230 x231 x232 x233 x234 x235 x236 x237 x238 x239 x240 x241 x242 x243 x244 x245 x246 x247 x248 x249 x250 x251 x252 x253 x254 x255 x256 x257 x258 x259 : Value, a = ⟨#[.slice (some ad) (l.length + 1) c, d1, .pointer (some ⟨w.heap.size, 0, none⟩), x3, x4, .pointer (some ⟨w.heap.size + 1, 0, none⟩), d6, .pointer (some ⟨g, 0, none⟩), d8, v, .bool r.palette, .bool r.idat, .bool r.gap, .int .i64 ((k : Int) + 1), x14, x15, d16, d17, d18, d19, d20, d21, d22, d23, d24, d25, d26, d27, d28, d29, d30, d31, d32, d33, d34, d35, d36, d37, d38, d39, d40, d41, d42, d43, d44, d45, d46, d47, d48, d49, d50, d51, d52, d53, d54, d55, d56, d57, d58, d59, d60, d61, d62, d63, d64, d65, d66, d67, d68, d69, x70, x71, x72, x73, x74, x75, x76, x77, x78, x79, x80, x81, x82, x83, x84, x85, x86, x87, x88, x89, x90, x91, x92, x93, x94, x95, x96, x97, x98, x99, x100, x101, x102, x103, x104, x105, x106, x107, x108, x109, x110, x111, x112, x113, x114, x115, x116, x117, x118, x119, x120, x121, x122, x123, x124, x125, x126, x127, x128, x129, x130, x131, x132, x133, x134, x135, x136, x137, x138, x139, x140, x141, x142, x143, x144, x145, x146, x147, x148, x149, x150, x151, x152, x153, x154, x155, x156, x157, x158, x159, x160, x161, x162, x163, x164, x165, x166, x167, x168, x169, x170, x171, x172, x173, x174, x175, x176, x177, x178, x179, x180, x181, x182, x183, x184, x185, x186, x187, x188, x189, x190, x191, x192, x193, x194, x195, x196, x197, x198, x199, x200, x201, x202, x203, x204, x205, x206, x207, x208, x209, x210, x211, x212, x213, x214, x215, x216, x217, x218, x219, x220, x221, x222, x223, x224, x225, x226, x227, x228, x229, x230, x231, x232, x233, x234, x235, x236, x237, x238, x239, x240, x241, x242, x243, x244, x245, x246, x247, x248, x249, x250, x251, x252, x253, x254, x255, x256, x257, x258, x259, d260], []⟩
def RMu (l : List (ByteArray × ByteArray)) (a : Act) (_ : World) : Nat := l.length + 1 - (intOf (a.tmps.getD 13 undef)).toNat
set_option maxRecDepth 1000000 in
/-- What holds behind the loop. -/
def RX (w : World) (g : Nat) (ad : Addr) (c : Nat) (l : List (ByteArray × ByteArray)) (res : Shp × List UInt8 × Int) (d1 d6 d8 d16 d17 d18 d19 d20 d21 d22 d23 d24 d25 d26 d27 d28 d29 d30 d31 d32 d33 d34 d35 d36 d37 d38 d39 d40 d41 d42 d43 d44 d45 d46 d47 d48 d49 d50 d51 d52 d53 d54 d55 d56 d57 d58 d59 d60 d61 d62 d63 d64 d65 d66 d67 d68 d69 d260 : Value) (a : Act) (wr : World) : Prop :=
  res = (shpZero, [], 3) ∧ (∃ cs bs v, RefMem w g cs bs v wr) ∧ ∃ (p i2 gp i v x3 x4 x14 x15 x70 x71 x72 x73 x74 x75 x76 x77 x78 x79 x80 x81 x82 x83 x84 x85 x86 x87 x88 x89 x90 x91 x92 x93 x94 x95 x96 x97 x98 x99 x100 x101 x102 x103 x104 x105 x106 x107 x108 x109 x110 x111 x112 x113 x114 x115 x116 x117 x118 x119 x120 x121 x122 x123 x124 x125 x126 x127 x128 x129 x130 x131 x132 x133 x134 x135 x136 x137 x138 x139 x140 x141 x142 x143 x144 x145 x146 x147 x148 x149 x150 x151 x152 x153 x154 x155 x156 x157 x158 x159 x160 x161 x162 x163 x164 x165 x166 x167 x168 x169 x170 x171 x172 x173 x174 x175 x176 x177 x178 x179 x180 x181 x182 x183 x184 x185 x186 x187 x188 x189 x190 x191 x192 x193 x194 x195 x196 x197 x198 x199 x200 x201 x202 x203 x204 x205 x206 x207 x208 x209 x210 x211 x212 x213 x214 x215 x216 x217 x218 x219 x220 x221 x222 x223 x224 x225 x226 x227 x228 x229 x230 x231 x232 x233 x234 x235 x236 x237 x238 x239 x240 x241 x242 x243 x244 x245 x246 x247 x248 x249 x250 x251 x252 x253 x254 x255 x256 x257 x258 x259 : Value), a = ⟨#[.slice (some ad) (l.length + 1) c, d1, .pointer (some ⟨w.heap.size, 0, none⟩), x3, x4, .pointer (some ⟨w.heap.size + 1, 0, none⟩), d6, .pointer (some ⟨g, 0, none⟩), d8, v, p, i2, gp, i, x14, x15, d16, d17, d18, d19, d20, d21, d22, d23, d24, d25, d26, d27, d28, d29, d30, d31, d32, d33, d34, d35, d36, d37, d38, d39, d40, d41, d42, d43, d44, d45, d46, d47, d48, d49, d50, d51, d52, d53, d54, d55, d56, d57, d58, d59, d60, d61, d62, d63, d64, d65, d66, d67, d68, d69, x70, x71, x72, x73, x74, x75, x76, x77, x78, x79, x80, x81, x82, x83, x84, x85, x86, x87, x88, x89, x90, x91, x92, x93, x94, x95, x96, x97, x98, x99, x100, x101, x102, x103, x104, x105, x106, x107, x108, x109, x110, x111, x112, x113, x114, x115, x116, x117, x118, x119, x120, x121, x122, x123, x124, x125, x126, x127, x128, x129, x130, x131, x132, x133, x134, x135, x136, x137, x138, x139, x140, x141, x142, x143, x144, x145, x146, x147, x148, x149, x150, x151, x152, x153, x154, x155, x156, x157, x158, x159, x160, x161, x162, x163, x164, x165, x166, x167, x168, x169, x170, x171, x172, x173, x174, x175, x176, x177, x178, x179, x180, x181, x182, x183, x184, x185, x186, x187, x188, x189, x190, x191, x192, x193, x194, x195, x196, x197, x198, x199, x200, x201, x202, x203, x204, x205, x206, x207, x208, x209, x210, x211, x212, x213, x214, x215, x216, x217, x218, x219, x220, x221, x222, x223, x224, x225, x226, x227, x228, x229, x230, x231, x232, x233, x234, x235, x236, x237, x238, x239, x240, x241, x242, x243, x244, x245, x246, x247, x248, x249, x250, x251, x252, x253, x254, x255, x256, x257, x258, x259, d260], []⟩

end Go.Proofs.Ytgkmfedjmmleeaa
