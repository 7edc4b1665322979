/- Rounds of vitrineref08.Read: IEND. -/
import Derived.Test.YtgkmfedjmmleeaaRefReadA
namespace Go.Proofs.Ytgkmfedjmmleeaa
open Go.RowKit Go.Proofs.YtgkmfedjmmleeaaW.PrintWords PHeadReads
set_option linter.unusedVariables false
set_option linter.unusedSimpArgs false
set_option maxRecDepth 1000000 in
set_option maxHeartbeats 200000000 in
theorem ref_round_IEND (w : World) (g : Nat) (ad : Addr) (c : Nat) (l : List (ByteArray × ByteArray)) (res : Shp × List UInt8 × Int) (K : Act → World → Prop) (k : Nat) (rW rH rD rC rL : Int) (pal trans : ByteArray) (hasT palette idat gap : Bool) (bs : List UInt8) (v : Value) (wr : World) (d1 d6 d8 d16 d17 d18 d19 d20 d21 d22 d23 d24 d25 d26 d27 d28 d29 d30 d31 d32 d33 d34 d35 d36 d37 d38 d39 d40 d41 d42 d43 d44 d45 d46 d47 d48 d49 d50 d51 d52 d53 d54 d55 d56 d57 d58 d59 d60 d61 d62 d63 d64 d65 d66 d67 d68 d69 d260 x3 x4 x14 x15 x70 x71 x72 x73 x74 x75 x76 x77 x78 x79 x80 x81 x82 x83 x84 x85 x86 x87 x88 x89 x90 x91 x92 x93 x94 x95 x96 x97 x98 x99 x100 x101 x102 x103 x104 x105 x106 x107 x108 x109 x110 x111 x112 x113 x114 x115 x116 x117 x118 x119 x120 x121 x122 x123 x124 x125 x126 x127 x128 x129 x130 x131 x132 x133 x134 x135 x136 x137 x138 x139 x140 x141 x142 x143 x144 x145 x146 x147 x148 x149 x150 x151 x152 x153 x154 x155 x156 x157 x158 x159 x160 x161 x162 x163 x164 x165 x166 x167 x168 x169 x170 x171 x172 x173 x174 x175 x176 x177 x178 x179 x180 x181 x182 x183 x184 x185 x186 x187 x188 x189 x190 x191 x192 x193 x194 x195 x196 x197 x198 x199 x200 x201 x202 x203 x204 x205 x206 x207 x208 x209 x210 x211 x212 x213 x214 x215 x216 x217 x218 x219 x220 x221 x222 x223 x224 x225 x226 x227 x228 x229 x230 x231 x232 x233 x234 x235 x236 x237 x238 x239 x240 x241 x242 x243 x244 x245 x246 x247 x248 x249 x250 x251 x252 x253 x254 x255 x256 x257 x258 x259 : Value)
    (HL : l.length ≤ 1000000) (hsz : w.heap.size + 1 < g) (hadb : ad.block < w.heap.size) (HCC : Aside0 (l.length + 1 ≤ c)) (hinv : Aside0 (RefInv w g l res k ⟨rW, rH, rD, rC, rL, pal, trans, hasT, palette, idat, gap⟩ bs v wr))
    (hlt : k < l.length) (T' D' : ByteArray) (c0 : wr.cell? (ad.add ((k + 1) * 2)) = some (.string T')) (c1 : wr.cell? ⟨(ad.add ((k + 1) * 2)).block, (ad.add ((k + 1) * 2)).off + 1, none⟩ = some (.string D')) (hab : (ad.add ((k + 1) * 2)).block < wr.heap.size) (HDR : Aside0 (l.drop k = (T', D') :: l.drop (k + 1))) (hDs : D'.size ≤ 140737488351232) (hx : T'.toList ≠ tIHDR) (hx2 : T'.toList ≠ tPLTE) (hx3 : T'.toList ≠ tTRNS) (hx4 : T'.toList ≠ tIDAT) (hx5 : T'.toList = tIEND) :
    Code.wp Try.prog refBody (Exit.then (fun a' w'' => RWI w g ad c l res d1 d6 d8 d16 d17 d18 d19 d20 d21 d22 d23 d24 d25 d26 d27 d28 d29 d30 d31 d32 d33 d34 d35 d36 d37 d38 d39 d40 d41 d42 d43 d44 d45 d46 d47 d48 d49 d50 d51 d52 d53 d54 d55 d56 d57 d58 d59 d60 d61 d62 d63 d64 d65 d66 d67 d68 d69 d260 a' w'' ∧ RMu l a' w'' < RMu l ⟨#[.slice (some ad) (l.length + 1) c, d1, .pointer (some ⟨w.heap.size, 0, none⟩), x3, x4, .pointer (some ⟨w.heap.size + 1, 0, none⟩), d6, .pointer (some ⟨g, 0, none⟩), d8, v, .bool palette, .bool idat, .bool gap, .int .i64 ((k : Int) + 1), x14, x15, d16, d17, d18, d19, d20, d21, d22, d23, d24, d25, d26, d27, d28, d29, d30, d31, d32, d33, d34, d35, d36, d37, d38, d39, d40, d41, d42, d43, d44, d45, d46, d47, d48, d49, d50, d51, d52, d53, d54, d55, d56, d57, d58, d59, d60, d61, d62, d63, d64, d65, d66, d67, d68, d69, x70, x71, x72, x73, x74, x75, x76, x77, x78, x79, x80, x81, x82, x83, x84, x85, x86, x87, x88, x89, x90, x91, x92, x93, x94, x95, x96, x97, x98, x99, x100, x101, x102, x103, x104, x105, x106, x107, x108, x109, x110, x111, x112, x113, x114, x115, x116, x117, x118, x119, x120, x121, x122, x123, x124, x125, x126, x127, x128, x129, x130, x131, x132, x133, x134, x135, x136, x137, x138, x139, x140, x141, x142, x143, x144, x145, x146, x147, x148, x149, x150, x151, x152, x153, x154, x155, x156, x157, x158, x159, x160, x161, x162, x163, x164, x165, x166, x167, x168, x169, x170, x171, x172, x173, x174, x175, x176, x177, x178, x179, x180, x181, x182, x183, x184, x185, x186, x187, x188, x189, x190, x191, x192, x193, x194, x195, x196, x197, x198, x199, x200, x201, x202, x203, x204, x205, x206, x207, x208, x209, x210, x211, x212, x213, x214, x215, x216, x217, x218, x219, x220, x221, x222, x223, x224, x225, x226, x227, x228, x229, x230, x231, x232, x233, x234, x235, x236, x237, x238, x239, x240, x241, x242, x243, x244, x245, x246, x247, x248, x249, x250, x251, x252, x253, x254, x255, x256, x257, x258, x259, d260], []⟩ wr) (Exit.inBlock 0 (Exit.then K (bodyPost Try.prog Try.f18 (Ret (readRes res) (fun w' => Eff w.heap.size [] w w')))))) ⟨#[.slice (some ad) (l.length + 1) c, d1, .pointer (some ⟨w.heap.size, 0, none⟩), x3, x4, .pointer (some ⟨w.heap.size + 1, 0, none⟩), d6, .pointer (some ⟨g, 0, none⟩), d8, v, .bool palette, .bool idat, .bool gap, .int .i64 ((k : Int) + 1), x14, x15, d16, d17, d18, d19, d20, d21, d22, d23, d24, d25, d26, d27, d28, d29, d30, d31, d32, d33, d34, d35, d36, d37, d38, d39, d40, d41, d42, d43, d44, d45, d46, d47, d48, d49, d50, d51, d52, d53, d54, d55, d56, d57, d58, d59, d60, d61, d62, d63, d64, d65, d66, d67, d68, d69, x70, x71, x72, x73, x74, x75, x76, x77, x78, x79, x80, x81, x82, x83, x84, x85, x86, x87, x88, x89, x90, x91, x92, x93, x94, x95, x96, x97, x98, x99, x100, x101, x102, x103, x104, x105, x106, x107, x108, x109, x110, x111, x112, x113, x114, x115, x116, x117, x118, x119, x120, x121, x122, x123, x124, x125, x126, x127, x128, x129, x130, x131, x132, x133, x134, x135, x136, x137, x138, x139, x140, x141, x142, x143, x144, x145, x146, x147, x148, x149, x150, x151, x152, x153, x154, x155, x156, x157, x158, x159, x160, x161, x162, x163, x164, x165, x166, x167, x168, x169, x170, x171, x172, x173, x174, x175, x176, x177, x178, x179, x180, x181, x182, x183, x184, x185, x186, x187, x188, x189, x190, x191, x192, x193, x194, x195, x196, x197, x198, x199, x200, x201, x202, x203, x204, x205, x206, x207, x208, x209, x210, x211, x212, x213, x214, x215, x216, x217, x218, x219, x220, x221, x222, x223, x224, x225, x226, x227, x228, x229, x230, x231, x232, x233, x234, x235, x236, x237, x238, x239, x240, x241, x242, x243, x244, x245, x246, x247, x248, x249, x250, x251, x252, x253, x254, x255, x256, x257, x258, x259, d260], []⟩ wr := by
  have hwr := blk_lt hinv.out.blk2
  have hgr := blk_lt hinv.out.blkg
  have hwr5 := blk_lt hinv.out.blk5
  obtain ⟨z0, z1, z2, z3, z4, z5, z6, z7⟩ := cells8 hinv.out.blk2
  obtain ⟨f0, f1, f2, f3, f4, f5, f6, f7⟩ := frozen8 hinv.out.blk2
  obtain ⟨y0, y1, y2, y3, y4, y5, y6, y7⟩ := cells8 hinv.out.blk5
  have HCOL : Aside0 (rC = 0 ∨ rC = 2 ∨ rC = 3 ∨ rC = 4 ∨ rC = 6) := Aside0.mk hinv.out.col
  have HOK : Aside0 (Rd.ok ⟨rW, rH, rD, rC, rL, pal, trans, hasT, palette, idat, gap⟩) := Aside0.mk hinv.out.ok
  have ti : (T'.toList == [73, 72, 68, 82]) = false := by rw [beq_eq_false_iff_ne]; exact hx
  have ti2 : (T'.toList == [80, 76, 84, 69]) = false := by rw [beq_eq_false_iff_ne]; exact hx2
  have ti3 : (T'.toList == [116, 82, 78, 83]) = false := by rw [beq_eq_false_iff_ne]; exact hx3
  have ti4 : (T'.toList == [73, 68, 65, 84]) = false := by rw [beq_eq_false_iff_ne]; exact hx4
  conv => arg 2; whnf
  have ti5 : (T'.toList == [73, 69, 78, 68]) = true := by rw [hx5]; rfl
  have hlr : (l.drop (k + 1)).length = l.length - (k + 1) := List.length_drop
  by_cases z : D'.size = 0
  · have bz : ((D'.size : Int) != 0) = false := by rw [bne_eq_false_iff_eq]; omega
    have hz := (size_zero_iff D').2 z
    cases idat
    · have HRQ := Aside0.mk (show res = (shpZero, [], 23) from (step_end hinv.out.res HDR.out hx5 (c := 23) (by unfold endsP; rw [if_neg (by simp [hz]), if_pos rfl])).trans (if_neg (by decide)))
      clear hz z hlr
      clear hx hx2 hx3 hx4 hx5
      go_wp2
      refine bodyPost_ret (results_cell3 rfl _ _ w.heap.size 36 shp0 (0, 0) _ rfl ?a1 Try.underlying36 rfl (by kernel_rfl)) rfl (Ret.mk' ?a2 ?a3)
      case a1 =>
        (with_reducible repeat (refine blk_alloc ?_ _))
        have e := blk_store8 (v0 := .int .i64 0) (v1 := .int .i64 0) (v2 := .int .i64 0) (v3 := .int .i64 0) (v4 := .int .i64 0) (v5 := .string ⟨#[]⟩) (v6 := .string ⟨#[]⟩) (v7 := .bool false) hinv.out.blk2
        simp only [storeL, Nat.zero_add, Nat.reduceAdd] at e
        with_reducible refine e.trans ?_
        rfl
      case a2 => rw [HRQ.out]; kernel_rfl
      case a3 =>
        have h2 := hinv.out.eff
        repeat (first | (with_reducible exact h2) | (with_reducible apply Eff.alloc) | (with_reducible refine Eff.setNew ?_ (by first | exact Nat.le_refl _ | omega) _ _))
    · by_cases more : k + 1 < l.length
      · have HRQ := Aside0.mk (show res = (shpZero, [], 4) from (step_end hinv.out.res HDR.out hx5 (c := 4) (by unfold endsP; rw [if_neg (by simp [hz]), if_neg (by simp), if_pos (by omega)])).trans (if_neg (by decide)))
        clear hz z hlr
        clear hx hx2 hx3 hx4 hx5
        go_wp2
        refine bodyPost_ret (results_cell3 rfl _ _ w.heap.size 36 shp0 (0, 0) _ rfl ?a1 Try.underlying36 rfl (by kernel_rfl)) rfl (Ret.mk' ?a2 ?a3)
        case a1 =>
          (with_reducible repeat (refine blk_alloc ?_ _))
          have e := blk_store8 (v0 := .int .i64 0) (v1 := .int .i64 0) (v2 := .int .i64 0) (v3 := .int .i64 0) (v4 := .int .i64 0) (v5 := .string ⟨#[]⟩) (v6 := .string ⟨#[]⟩) (v7 := .bool false) hinv.out.blk2
          simp only [storeL, Nat.zero_add, Nat.reduceAdd] at e
          with_reducible refine e.trans ?_
          rfl
        case a2 => rw [HRQ.out]; kernel_rfl
        case a3 =>
          have h2 := hinv.out.eff
          repeat (first | (with_reducible exact h2) | (with_reducible apply Eff.alloc) | (with_reducible refine Eff.setNew ?_ (by first | exact Nat.le_refl _ | omega) _ _))
      · have hke : l.length = k + 1 := by omega
        have HRQ := Aside0.mk (show res = ((⟨rW, rH, rD, rC, rL, pal, trans, hasT, palette, true, gap⟩ : Rd).shp, bs, 0) from (step_end hinv.out.res HDR.out hx5 (c := 0) (by unfold endsP; rw [if_neg (by simp [hz]), if_neg (by simp), if_neg (by omega)])).trans (if_pos rfl))
        have HMEM := Aside0.mk (hinv.out.toRefMem.alloc (.cells #[.string T', .string D'] 30))
        have HNE := Aside0.mk (show g ≠ w.heap.size by omega)
        have HNUM := Aside0.mk (show Lib.byteCells bs = nums .u8 (bs.map fun b => (b.toNat : Int)) by simp [Lib.byteCells, nums])
        clear hx hx2 hx3 hx4 hx5 hz z hlr
        go_wp2_with fail
        generalize hWX : World.alloc wr _ = WX
        have HMX := Aside0.mk (show RefMem w g (Rd.shpCells ⟨rW, rH, rD, rC, rL, pal, trans, hasT, palette, true, gap⟩) bs v WX from by rw [← hWX]; exact HMEM.out)
        clear hWX HMEM z0 z1 z2 z3 z4 z5 z6 z7 f0 f1 f2 f3 f4 f5 f6 f7 y0 y1 y2 y3 y4 y5 y6 y7 c0 c1
        refine wp_region_all (Env := Unit) (vals := fun _ => [.agg #[.int .i64 rW, .int .i64 rH, .int .i64 rD, .int .i64 rC, .int .i64 rL, .string pal, .string trans, .bool hasT], v, .string ⟨bs.toArray⟩, undef, .string ⟨bs.toArray⟩, .int .i64 0])
          (WI := fun _ D w' => StoreB WX w.heap.size [.int .i64 rW, .int .i64 rH, .int .i64 rD, .int .i64 rC, .int .i64 rL, .string pal, .string trans, .bool hasT] (D 3) w')
          (dsts := [some 256, some 257, some 258, none, some 3, some 4])
          (deps := [([], []), ([], []), ([1], [1]), ([0, 0], [0]), ([2, 3, 0, 1, 2, 3], [2]), ([4, 0, 1, 2, 3, 4], [])])
          (all := [0, 1, 2, 3, 4, 5]) (by kernel_rfl) (by kernel_rfl) (by kernel_rfl) (by kernel_rfl) (by rfl) () ?_ ?_ _ (fun _ => rfl) ?_
        · refine StepsL.val ?_ ?_ ?_
          · intro env D wq hD hw
            simpa [upd] using hw
          · intro env D wq hd hw
            clear hd
            obtain ⟨u0, u1, u2, u3, u4, u5, u6, u7⟩ := shpCells8 (hw.keep HMX.out.blkg HNE.out)
            clear hw
            generalize hA : rfillL _ _ _ _ = a
            have q7 : a.tmps[7]? = some (.pointer (some ⟨g, 0, none⟩)) := by subst hA; kernel_rfl
            have r7 : a.tmps.getD 7 undef = (.pointer (some ⟨g, 0, none⟩)) := by subst hA; kernel_rfl
            clear hA
            unfold StepVal
            rw [if_pos (by rfl)]
            go_simp
          refine StepsL.val ?_ ?_ ?_
          · intro env D wq hD hw
            simpa [upd] using hw
          · intro env D wq hd hw
            clear hd hw
            generalize hA : rfillL _ _ _ _ = a
            have q9 : a.tmps[9]? = some (v) := by subst hA; kernel_rfl
            have r9 : a.tmps.getD 9 undef = (v) := by subst hA; kernel_rfl
            clear hA
            unfold StepVal
            rw [if_pos (by rfl)]
            go_simp
          refine StepsL.val ?_ ?_ ?_
          · intro env D wq hD hw
            simpa [upd] using hw
          · intro env D wq hd hw
            have hconv := own_string (P := Try.prog) (e' := 5) (src := 51) (dst := 9) (xs := bs.map fun b => (b.toNat : Int)) Try.underlying51 Try.underlying5 Try.underlying9 (HNUM.out ▸ hw.own HMX.out.blk2 HMX.out.own (by decide))
            rw [strOfNums_map'] at hconv
            clear hd hw
            generalize hA : rfillL _ _ _ _ = a
            have q257 : a.tmps[257]? = some (v) := by subst hA; kernel_rfl
            have r257 : a.tmps.getD 257 undef = (v) := by subst hA; kernel_rfl
            clear hA
            unfold StepVal
            rw [if_pos (by rfl)]
            go_simp
          refine StepsL.one ?_ ?_
          · intro env D wq hD hd hw
            have hD3 : D 3 = false := hD
            rw [hD3] at hw
            obtain ⟨u0, u1, u2, u3, u4, u5, u6, u7⟩ := cells8 (hw.zero HMX.out.blk2)
            obtain ⟨f0, f1, f2, f3, f4, f5, f6, f7⟩ := frozen8 (hw.zero HMX.out.blk2)
            have HWW := Aside0.mk hw
            clear hd hw hD hD3
            generalize hA : rfillL _ _ _ _ = a
            have q2 : a.tmps[2]? = some (.pointer (some ⟨w.heap.size, 0, none⟩)) := by subst hA; kernel_rfl
            have r2 : a.tmps.getD 2 undef = (.pointer (some ⟨w.heap.size, 0, none⟩)) := by subst hA; kernel_rfl
            have q256 : a.tmps[256]? = some (.agg #[.int .i64 rW, .int .i64 rH, .int .i64 rD, .int .i64 rC, .int .i64 rL, .string pal, .string trans, .bool hasT]) := by subst hA; kernel_rfl
            have r256 : a.tmps.getD 256 undef = (.agg #[.int .i64 rW, .int .i64 rH, .int .i64 rD, .int .i64 rC, .int .i64 rL, .string pal, .string trans, .bool hasT]) := by subst hA; kernel_rfl
            clear hA
            unfold StepOk
            rw [if_pos (by rfl)]
            go_simp
            have e2 : upd D 3 3 = true := by simp [upd]
            show StoreB _ _ _ (upd D 3 3) _
            rw [e2]
            exact HWW.out.stored
          refine StepsL.val ?_ ?_ ?_
          · intro env D wq hD hw
            simpa [upd] using hw
          · intro env D wq hd hw
            clear hd hw
            generalize hA : rfillL _ _ _ _ = a
            have q258 : a.tmps[258]? = some (.string ⟨bs.toArray⟩) := by subst hA; kernel_rfl
            have r258 : a.tmps.getD 258 undef = (.string ⟨bs.toArray⟩) := by subst hA; kernel_rfl
            clear hA
            unfold StepVal
            rw [if_pos (by rfl)]
            go_simp
          refine StepsL.val ?_ ?_ ?_
          · intro env D wq hD hw
            simpa [upd] using hw
          · intro env D wq hd hw
            clear hd hw
            generalize hA : rfillL _ _ _ _ = a
            clear hA
            unfold StepVal
            rw [if_pos (by rfl)]
            go_simp
          exact StepsL.nil
        · exact StoreB.start _ _ _
        · intro env D w' hD hw
          rw [hD 3 (by decide)] at hw
          obtain ⟨w5, h5, rfl⟩ := hw
          rw [if_pos rfl]
          have HB4 := Aside0.mk (h5.blockB HMX.out.blk2 (blk_lt HMX.out.blk2))
          have HE5 := Aside0.mk (HMX.out.eff.trans (h5.mono HMX.out.eff.size (by simp)))
          clear hD h5
          generalize hA : rfillL _ _ _ _ = af
          have q2 : af.tmps.getD 2 undef = .pointer (some ⟨w.heap.size, 0, none⟩) := by subst hA; kernel_rfl
          have q3 : af.tmps.getD 3 undef = .string ⟨bs.toArray⟩ := by subst hA; kernel_rfl
          have q4 : af.tmps.getD 4 undef = .int .i64 0 := by subst hA; kernel_rfl
          have qd : af.defers = [] := by subst hA; kernel_rfl
          clear hA
          have e8 := blk_store8 (v0 := .int .i64 rW) (v1 := .int .i64 rH) (v2 := .int .i64 rD) (v3 := .int .i64 rC) (v4 := .int .i64 rL) (v5 := .string pal) (v6 := .string trans) (v7 := .bool hasT) HB4.out
          have hnew := storeL_new (Nat.le_refl _) [.int .i64 rW, .int .i64 rH, .int .i64 rD, .int .i64 rC, .int .i64 rL, .string pal, .string trans, .bool hasT] 0 _ HE5.out
          generalize storeL w.heap.size [.int .i64 rW, .int .i64 rH, .int .i64 rD, .int .i64 rC, .int .i64 rL, .string pal, .string trans, .bool hasT] 0 w5 = W5 at e8 hnew ⊢
          have E8 := Aside0.mk e8
          have HNEW := Aside0.mk hnew
          have Q2 := Aside0.mk q2
          have Q3 := Aside0.mk q3
          have Q4 := Aside0.mk q4
          have QD := Aside0.mk qd
          clear e8 hnew q2 q3 q4 qd
          go_wp2
          refine bodyPost_ret (results_cell3 rfl _ _ w.heap.size 36 _ (0, 0) _ Q2.out E8.out Try.underlying36 rfl (by kernel_rfl)) QD.out (Ret.mk' ?_ HNEW.out)
          rw [HRQ.out, Q3.out, Q4.out]
          kernel_rfl
  · have bz : ((D'.size : Int) != 0) = true := bne_iff_ne.2 (by omega)
    have HRQ := Aside0.mk (show res = (shpZero, [], 21) from (step_end hinv.out.res HDR.out hx5 (c := 21) (by unfold endsP; rw [if_pos (fun h => z ((size_zero_iff D').1 h))])).trans (if_neg (by decide)))
    clear z hlr
    clear hx hx2 hx3 hx4 hx5
    go_wp2
    refine bodyPost_ret (results_cell3 rfl _ _ w.heap.size 36 shp0 (0, 0) _ rfl ?a1 Try.underlying36 rfl (by kernel_rfl)) rfl (Ret.mk' ?a2 ?a3)
    case a1 =>
      (with_reducible repeat (refine blk_alloc ?_ _))
      have e := blk_store8 (v0 := .int .i64 0) (v1 := .int .i64 0) (v2 := .int .i64 0) (v3 := .int .i64 0) (v4 := .int .i64 0) (v5 := .string ⟨#[]⟩) (v6 := .string ⟨#[]⟩) (v7 := .bool false) hinv.out.blk2
      simp only [storeL, Nat.zero_add, Nat.reduceAdd] at e
      with_reducible refine e.trans ?_
      rfl
    case a2 => rw [HRQ.out]; kernel_rfl
    case a3 =>
      have h2 := hinv.out.eff
      repeat (first | (with_reducible exact h2) | (with_reducible apply Eff.alloc) | (with_reducible refine Eff.setNew ?_ (by first | exact Nat.le_refl _ | omega) _ _))


end Go.Proofs.Ytgkmfedjmmleeaa
