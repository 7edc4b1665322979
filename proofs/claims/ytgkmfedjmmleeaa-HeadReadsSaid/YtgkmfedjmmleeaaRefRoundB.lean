/- Rounds of vitrineref08.Read: PLTE. -/
import Derived.Test.YtgkmfedjmmleeaaRefReadA
namespace Go.Proofs.Ytgkmfedjmmleeaa
open Go.RowKit Go.Proofs.YtgkmfedjmmleeaaW.PrintWords PHeadReads
set_option linter.unusedVariables false
set_option linter.unusedSimpArgs false
set_option maxRecDepth 1000000 in
set_option maxHeartbeats 200000000 in
theorem ref_round_PLTE (w : World) (g : Nat) (ad : Addr) (c : Nat) (l : List (ByteArray × ByteArray)) (res : Shp × List UInt8 × Int) (K : Act → World → Prop) (k : Nat) (rW rH rD rC rL : Int) (pal trans : ByteArray) (hasT palette idat gap : Bool) (bs : List UInt8) (v : Value) (wr : World) (d1 d6 d8 d16 d17 d18 d19 d20 d21 d22 d23 d24 d25 d26 d27 d28 d29 d30 d31 d32 d33 d34 d35 d36 d37 d38 d39 d40 d41 d42 d43 d44 d45 d46 d47 d48 d49 d50 d51 d52 d53 d54 d55 d56 d57 d58 d59 d60 d61 d62 d63 d64 d65 d66 d67 d68 d69 d260 x3 x4 x14 x15 x70 x71 x72 x73 x74 x75 x76 x77 x78 x79 x80 x81 x82 x83 x84 x85 x86 x87 x88 x89 x90 x91 x92 x93 x94 x95 x96 x97 x98 x99 x100 x101 x102 x103 x104 x105 x106 x107 x108 x109 x110 x111 x112 x113 x114 x115 x116 x117 x118 x119 x120 x121 x122 x123 x124 x125 x126 x127 x128 x129 x130 x131 x132 x133 x134 x135 x136 x137 x138 x139 x140 x141 x142 x143 x144 x145 x146 x147 x148 x149 x150 x151 x152 x153 x154 x155 x156 x157 x158 x159 x160 x161 x162 x163 x164 x165 x166 x167 x168 x169 x170 x171 x172 x173 x174 x175 x176 x177 x178 x179 x180 x181 x182 x183 x184 x185 x186 x187 x188 x189 x190 x191 x192 x193 x194 x195 x196 x197 x198 x199 x200 x201 x202 x203 x204 x205 x206 x207 x208 x209 x210 x211 x212 x213 x214 x215 x216 x217 x218 x219 x220 x221 x222 x223 x224 x225 x226 x227 x228 x229 x230 x231 x232 x233 x234 x235 x236 x237 x238 x239 x240 x241 x242 x243 x244 x245 x246 x247 x248 x249 x250 x251 x252 x253 x254 x255 x256 x257 x258 x259 : Value)
    (HL : l.length ≤ 1000000) (hsz : w.heap.size + 1 < g) (hadb : ad.block < w.heap.size) (HCC : Aside0 (l.length + 1 ≤ c)) (hinv : Aside0 (RefInv w g l res k ⟨rW, rH, rD, rC, rL, pal, trans, hasT, palette, idat, gap⟩ bs v wr))
    (hlt : k < l.length) (T' D' : ByteArray) (c0 : wr.cell? (ad.add ((k + 1) * 2)) = some (.string T')) (c1 : wr.cell? ⟨(ad.add ((k + 1) * 2)).block, (ad.add ((k + 1) * 2)).off + 1, none⟩ = some (.string D')) (hab : (ad.add ((k + 1) * 2)).block < wr.heap.size) (HDR : Aside0 (l.drop k = (T', D') :: l.drop (k + 1))) (hDs : D'.size ≤ 140737488351232) (hx : T'.toList ≠ tIHDR) (hx2 : T'.toList = tPLTE) :
    Code.wp Try.prog refBody (Exit.then (fun a' w'' => RWI w g ad c l res d1 d6 d8 d16 d17 d18 d19 d20 d21 d22 d23 d24 d25 d26 d27 d28 d29 d30 d31 d32 d33 d34 d35 d36 d37 d38 d39 d40 d41 d42 d43 d44 d45 d46 d47 d48 d49 d50 d51 d52 d53 d54 d55 d56 d57 d58 d59 d60 d61 d62 d63 d64 d65 d66 d67 d68 d69 d260 a' w'' ∧ RMu l a' w'' < RMu l ⟨#[.slice (some ad) (l.length + 1) c, d1, .pointer (some ⟨w.heap.size, 0, none⟩), x3, x4, .pointer (some ⟨w.heap.size + 1, 0, none⟩), d6, .pointer (some ⟨g, 0, none⟩), d8, v, .bool palette, .bool idat, .bool gap, .int .i64 ((k : Int) + 1), x14, x15, d16, d17, d18, d19, d20, d21, d22, d23, d24, d25, d26, d27, d28, d29, d30, d31, d32, d33, d34, d35, d36, d37, d38, d39, d40, d41, d42, d43, d44, d45, d46, d47, d48, d49, d50, d51, d52, d53, d54, d55, d56, d57, d58, d59, d60, d61, d62, d63, d64, d65, d66, d67, d68, d69, x70, x71, x72, x73, x74, x75, x76, x77, x78, x79, x80, x81, x82, x83, x84, x85, x86, x87, x88, x89, x90, x91, x92, x93, x94, x95, x96, x97, x98, x99, x100, x101, x102, x103, x104, x105, x106, x107, x108, x109, x110, x111, x112, x113, x114, x115, x116, x117, x118, x119, x120, x121, x122, x123, x124, x125, x126, x127, x128, x129, x130, x131, x132, x133, x134, x135, x136, x137, x138, x139, x140, x141, x142, x143, x144, x145, x146, x147, x148, x149, x150, x151, x152, x153, x154, x155, x156, x157, x158, x159, x160, x161, x162, x163, x164, x165, x166, x167, x168, x169, x170, x171, x172, x173, x174, x175, x176, x177, x178, x179, x180, x181, x182, x183, x184, x185, x186, x187, x188, x189, x190, x191, x192, x193, x194, x195, x196, x197, x198, x199, x200, x201, x202, x203, x204, x205, x206, x207, x208, x209, x210, x211, x212, x213, x214, x215, x216, x217, x218, x219, x220, x221, x222, x223, x224, x225, x226, x227, x228, x229, x230, x231, x232, x233, x234, x235, x236, x237, x238, x239, x240, x241, x242, x243, x244, x245, x246, x247, x248, x249, x250, x251, x252, x253, x254, x255, x256, x257, x258, x259, d260], []⟩ wr) (Exit.inBlock 0 (Exit.then K (bodyPost Try.prog Try.f18 (Ret (readRes res) (fun w' => Eff w.heap.size [] w w')))))) ⟨#[.slice (some ad) (l.length + 1) c, d1, .pointer (some ⟨w.heap.size, 0, none⟩), x3, x4, .pointer (some ⟨w.heap.size + 1, 0, none⟩), d6, .pointer (some ⟨g, 0, none⟩), d8, v, .bool palette, .bool idat, .bool gap, .int .i64 ((k : Int) + 1), x14, x15, d16, d17, d18, d19, d20, d21, d22, d23, d24, d25, d26, d27, d28, d29, d30, d31, d32, d33, d34, d35, d36, d37, d38, d39, d40, d41, d42, d43, d44, d45, d46, d47, d48, d49, d50, d51, d52, d53, d54, d55, d56, d57, d58, d59, d60, d61, d62, d63, d64, d65, d66, d67, d68, d69, x70, x71, x72, x73, x74, x75, x76, x77, x78, x79, x80, x81, x82, x83, x84, x85, x86, x87, x88, x89, x90, x91, x92, x93, x94, x95, x96, x97, x98, x99, x100, x101, x102, x103, x104, x105, x106, x107, x108, x109, x110, x111, x112, x113, x114, x115, x116, x117, x118, x119, x120, x121, x122, x123, x124, x125, x126, x127, x128, x129, x130, x131, x132, x133, x134, x135, x136, x137, x138, x139, x140, x141, x142, x143, x144, x145, x146, x147, x148, x149, x150, x151, x152, x153, x154, x155, x156, x157, x158, x159, x160, x161, x162, x163, x164, x165, x166, x167, x168, x169, x170, x171, x172, x173, x174, x175, x176, x177, x178, x179, x180, x181, x182, x183, x184, x185, x186, x187, x188, x189, x190, x191, x192, x193, x194, x195, x196, x197, x198, x199, x200, x201, x202, x203, x204, x205, x206, x207, x208, x209, x210, x211, x212, x213, x214, x215, x216, x217, x218, x219, x220, x221, x222, x223, x224, x225, x226, x227, x228, x229, x230, x231, x232, x233, x234, x235, x236, x237, x238, x239, x240, x241, x242, x243, x244, x245, x246, x247, x248, x249, x250, x251, x252, x253, x254, x255, x256, x257, x258, x259, d260], []⟩ wr := by
  have hwr := blk_lt hinv.out.blk2
  have hgr := blk_lt hinv.out.blkg
  have hwr5 := blk_lt hinv.out.blk5
  obtain ⟨z0, z1, z2, z3, z4, z5, z6, z7⟩ := cells8 hinv.out.blk2
  obtain ⟨f0, f1, f2, f3, f4, f5, f6, f7⟩ := frozen8 hinv.out.blk2
  obtain ⟨y0, y1, y2, y3, y4, y5, y6, y7⟩ := cells8 hinv.out.blk5
  have HCOL : Aside0 (rC = 0 ∨ rC = 2 ∨ rC = 3 ∨ rC = 4 ∨ rC = 6) := Aside0.mk hinv.out.col
  have HOK : Aside0 (Rd.ok ⟨rW, rH, rD, rC, rL, pal, trans, hasT, palette, idat, gap⟩) := Aside0.mk hinv.out.ok
  have ti : (T'.toList == [73, 72, 68, 82]) = false := by rw [beq_eq_false_iff_ne]; exact hx
  conv => arg 2; whnf
  have ti2 : (T'.toList == [80, 76, 84, 69]) = true := by rw [hx2]; rfl
  have htk := takes_plte (r := ⟨rW, rH, rD, rC, rL, pal, trans, hasT, palette, idat, gap⟩) (D := D') hx hx2
  have hne : T'.toList ≠ tIEND := by rw [hx2]; decide
  clear hx hx2
  cases palette
  · have g7 : wr.cell? ⟨g, 7, none⟩ = some (.bool hasT) := (shpCells8 hinv.out.blkg).2.2.2.2.2.2.2
    cases hasT
    · cases idat
      · have g3 : wr.cell? ⟨g, 3, none⟩ = some (.int .i64 rC) := (shpCells8 hinv.out.blkg).2.2.2.1
        by_cases a0 : rC = 0
        · subst a0
          have HRQ := Aside0.mk (step_err hinv.out.res HDR.out hne (c := 25) (by rw [htk]; exact plte_bad rfl rfl rfl (by dsimp only; omega)) (by decide))
          clear htk hne
          go_wp2
          refine bodyPost_ret (results_cell3 rfl _ _ w.heap.size 36 shp0 (0, 0) _ rfl ?a1 Try.underlying36 rfl (by kernel_rfl)) rfl (Ret.mk' ?a2 ?a3)
          case a1 =>
            (with_reducible repeat (refine blk_alloc ?_ _))
            have e := blk_store8 (v0 := .int .i64 0) (v1 := .int .i64 0) (v2 := .int .i64 0) (v3 := .int .i64 0) (v4 := .int .i64 0) (v5 := .string ⟨#[]⟩) (v6 := .string ⟨#[]⟩) (v7 := .bool false) hinv.out.blk2
            simp only [storeL, Nat.zero_add, Nat.reduceAdd] at e
            with_reducible refine e.trans ?_
            rfl
          case a2 => rw [HRQ.out]; kernel_rfl
          case a3 =>
            have h2 := hinv.out.eff
            repeat (first | (with_reducible exact h2) | (with_reducible apply Eff.alloc) | (with_reducible refine Eff.setNew ?_ (by first | exact Nat.le_refl _ | omega) _ _))
        by_cases a4 : rC = 4
        · subst a4
          have HRQ := Aside0.mk (step_err hinv.out.res HDR.out hne (c := 25) (by rw [htk]; exact plte_bad rfl rfl rfl (by dsimp only; omega)) (by decide))
          clear htk hne
          go_wp2
          refine bodyPost_ret (results_cell3 rfl _ _ w.heap.size 36 shp0 (0, 0) _ rfl ?a1 Try.underlying36 rfl (by kernel_rfl)) rfl (Ret.mk' ?a2 ?a3)
          case a1 =>
            (with_reducible repeat (refine blk_alloc ?_ _))
            have e := blk_store8 (v0 := .int .i64 0) (v1 := .int .i64 0) (v2 := .int .i64 0) (v3 := .int .i64 0) (v4 := .int .i64 0) (v5 := .string ⟨#[]⟩) (v6 := .string ⟨#[]⟩) (v7 := .bool false) hinv.out.blk2
            simp only [storeL, Nat.zero_add, Nat.reduceAdd] at e
            with_reducible refine e.trans ?_
            rfl
          case a2 => rw [HRQ.out]; kernel_rfl
          case a3 =>
            have h2 := hinv.out.eff
            repeat (first | (with_reducible exact h2) | (with_reducible apply Eff.alloc) | (with_reducible refine Eff.setNew ?_ (by first | exact Nat.le_refl _ | omega) _ _))
        have b0 : (rC == 0) = false := by simpa using a0
        have b4 : (rC == 4) = false := by simpa using a4
        by_cases m3 : (D'.size : Int) % 3 = 0
        case neg =>
          have bm : ((D'.size : Int) % 3 != 0) = true := by simpa [bne_iff_ne] using m3
          have HRQ := Aside0.mk (step_err hinv.out.res HDR.out hne (c := 25) (by rw [htk]; exact plte_bad rfl rfl rfl (.inr (.inr (.inl m3)))) (by decide))
          clear m3
          clear htk hne
          go_wp2
          refine bodyPost_ret (results_cell3 rfl _ _ w.heap.size 36 shp0 (0, 0) _ rfl ?a1 Try.underlying36 rfl (by kernel_rfl)) rfl (Ret.mk' ?a2 ?a3)
          case a1 =>
            (with_reducible repeat (refine blk_alloc ?_ _))
            have e := blk_store8 (v0 := .int .i64 0) (v1 := .int .i64 0) (v2 := .int .i64 0) (v3 := .int .i64 0) (v4 := .int .i64 0) (v5 := .string ⟨#[]⟩) (v6 := .string ⟨#[]⟩) (v7 := .bool false) hinv.out.blk2
            simp only [storeL, Nat.zero_add, Nat.reduceAdd] at e
            with_reducible refine e.trans ?_
            rfl
          case a2 => rw [HRQ.out]; kernel_rfl
          case a3 =>
            have h2 := hinv.out.eff
            repeat (first | (with_reducible exact h2) | (with_reducible apply Eff.alloc) | (with_reducible refine Eff.setNew ?_ (by first | exact Nat.le_refl _ | omega) _ _))
        have bm : ((D'.size : Int) % 3 != 0) = false := by simpa [bne_iff_ne] using m3
        by_cases lt3 : (D'.size : Int) < 3
        · have hz : D'.size = 0 := by omega
          have bz : decide ((D'.size : Int) < 3) = true := by simpa using lt3
          have HRQ := Aside0.mk (step_err hinv.out.res HDR.out hne (c := 25) (by rw [htk]; exact plte_bad rfl rfl rfl (.inr (.inr (.inr (.inl hz))))) (by decide))
          clear hz m3
          clear htk hne
          go_wp2
          refine bodyPost_ret (results_cell3 rfl _ _ w.heap.size 36 shp0 (0, 0) _ rfl ?a1 Try.underlying36 rfl (by kernel_rfl)) rfl (Ret.mk' ?a2 ?a3)
          case a1 =>
            (with_reducible repeat (refine blk_alloc ?_ _))
            have e := blk_store8 (v0 := .int .i64 0) (v1 := .int .i64 0) (v2 := .int .i64 0) (v3 := .int .i64 0) (v4 := .int .i64 0) (v5 := .string ⟨#[]⟩) (v6 := .string ⟨#[]⟩) (v7 := .bool false) hinv.out.blk2
            simp only [storeL, Nat.zero_add, Nat.reduceAdd] at e
            with_reducible refine e.trans ?_
            rfl
          case a2 => rw [HRQ.out]; kernel_rfl
          case a3 =>
            have h2 := hinv.out.eff
            repeat (first | (with_reducible exact h2) | (with_reducible apply Eff.alloc) | (with_reducible refine Eff.setNew ?_ (by first | exact Nat.le_refl _ | omega) _ _))
        have bz : decide ((D'.size : Int) < 3) = false := by simpa using lt3
        by_cases gt : (D'.size : Int) > 768
        · have bg : decide ((D'.size : Int) > 768) = true := by simpa using gt
          have HRQ := Aside0.mk (step_err hinv.out.res HDR.out hne (c := 25) (by rw [htk]; exact plte_bad rfl rfl rfl (.inr (.inr (.inr (.inr (.inl gt)))))) (by decide))
          clear m3
          clear htk hne
          go_wp2
          refine bodyPost_ret (results_cell3 rfl _ _ w.heap.size 36 shp0 (0, 0) _ rfl ?a1 Try.underlying36 rfl (by kernel_rfl)) rfl (Ret.mk' ?a2 ?a3)
          case a1 =>
            (with_reducible repeat (refine blk_alloc ?_ _))
            have e := blk_store8 (v0 := .int .i64 0) (v1 := .int .i64 0) (v2 := .int .i64 0) (v3 := .int .i64 0) (v4 := .int .i64 0) (v5 := .string ⟨#[]⟩) (v6 := .string ⟨#[]⟩) (v7 := .bool false) hinv.out.blk2
            simp only [storeL, Nat.zero_add, Nat.reduceAdd] at e
            with_reducible refine e.trans ?_
            rfl
          case a2 => rw [HRQ.out]; kernel_rfl
          case a3 =>
            have h2 := hinv.out.eff
            repeat (first | (with_reducible exact h2) | (with_reducible apply Eff.alloc) | (with_reducible refine Eff.setNew ?_ (by first | exact Nat.le_refl _ | omega) _ _))
        have bg : decide ((D'.size : Int) > 768) = false := by simpa using gt
        by_cases a3 : rC = 3
        · subst a3
          have g2 : wr.cell? ⟨g, 2, none⟩ = some (.int .i64 rD) := (shpCells8 hinv.out.blkg).2.2.1
          have hD0 : 0 ≤ rD := HOK.out.1
          have hD1 : rD ≤ 16 := HOK.out.2.1
          have hw := three_wrap hD0 hD1
          by_cases big : (D'.size : Int) / 3 > 2 ^ rD.toNat
          · have bb : decide ((D'.size : Int) > wrap64 (3 * 2 ^ rD.toNat)) = true := by rw [hw, decide_eq_true_eq]; exact shl_cmp big
            have HRQ := Aside0.mk (step_err hinv.out.res HDR.out hne (c := 25) (by rw [htk]; exact plte_bad rfl rfl rfl (.inr (.inr (.inr (.inr (.inr ⟨rfl, big⟩)))))) (by decide))
            have BB := Aside0.mk bb
            clear m3 big hw bb
            have bb := BB.out
            clear htk hne
            go_wp2
            refine bodyPost_ret (results_cell3 rfl _ _ w.heap.size 36 shp0 (0, 0) _ rfl ?a1 Try.underlying36 rfl (by kernel_rfl)) rfl (Ret.mk' ?a2 ?a3)
            case a1 =>
              (with_reducible repeat (refine blk_alloc ?_ _))
              have e := blk_store8 (v0 := .int .i64 0) (v1 := .int .i64 0) (v2 := .int .i64 0) (v3 := .int .i64 0) (v4 := .int .i64 0) (v5 := .string ⟨#[]⟩) (v6 := .string ⟨#[]⟩) (v7 := .bool false) hinv.out.blk2
              simp only [storeL, Nat.zero_add, Nat.reduceAdd] at e
              with_reducible refine e.trans ?_
              rfl
            case a2 => rw [HRQ.out]; kernel_rfl
            case a3 =>
              have h2 := hinv.out.eff
              repeat (first | (with_reducible exact h2) | (with_reducible apply Eff.alloc) | (with_reducible refine Eff.setNew ?_ (by first | exact Nat.le_refl _ | omega) _ _))
          · have bb : decide ((D'.size : Int) > wrap64 (3 * 2 ^ rD.toNat)) = false := by rw [hw, decide_eq_false_iff_not]; exact shl_cmp' m3 big
            have htk2 : takesP ⟨rW, rH, rD, 3, rL, pal, trans, false, false, false, gap⟩ T' D' = (0, ⟨rW, rH, rD, 3, rL, D', trans, false, true, false, false⟩, []) := by rw [htk, plte_fine rfl rfl rfl (by rintro (h | h | h | h | h | h); exact absurd h (by simp); exact absurd h (by simp); exact h m3; exact lt3 (by omega); exact gt h; exact big h.2)]
            have HPURE := Aside0.mk (show RefPure l res (k + 1) ⟨rW, rH, rD, 3, rL, D', trans, false, true, false, false⟩ (bs ++ []) from ⟨⟨HOK.out.1, HOK.out.2.1, hDs⟩, HCOL.out, step_len (x := []) hinv.out.len HDR.out (by simp), step_ok hinv.out.res HDR.out hne htk2⟩)
            have HMEM := Aside0.mk hinv.out.toRefMem
            have g5 : wr.cell? ⟨g, 5, none⟩ = some (.string pal) := (shpCells8 hinv.out.blkg).2.2.2.2.2.1
            have p5 : wr.frozen? ⟨g, 5, none⟩ = false := blk_frozen hinv.out.blkg 5
            have BB := Aside0.mk bb
            clear m3 big hw bb
            have bb := BB.out
            clear htk htk2 hne
            go_wp2
            refine ⟨?_, by simp [RMu, intOf]; omega⟩
            rw [show (k : Int) + 1 + 1 = ((k + 1 : Nat) : Int) + 1 by omega]
            unfold RWI
            refine ⟨k + 1, ⟨rW, rH, rD, 3, rL, D', trans, false, true, false, false⟩, bs ++ [], v, by omega, Aside0.mk ⟨HPURE.out, ?_⟩, _, _, _, _, _, _, _, _, _, _, _, _, _, _, _, _, _, _, _, _, _, _, _, _, _, _, _, _, _, _, _, _, _, _, _, _, _, _, _, _, _, _, _, _, _, _, _, _, _, _, _, _, _, _, _, _, _, _, _, _, _, _, _, _, _, _, _, _, _, _, _, _, _, _, _, _, _, _, _, _, _, _, _, _, _, _, _, _, _, _, _, _, _, _, _, _, _, _, _, _, _, _, _, _, _, _, _, _, _, _, _, _, _, _, _, _, _, _, _, _, _, _, _, _, _, _, _, _, _, _, _, _, _, _, _, _, _, _, _, _, _, _, _, _, _, _, _, _, _, _, _, _, _, _, _, _, _, _, _, _, _, _, _, _, _, _, _, _, _, _, _, _, _, _, _, _, _, _, _, _, _, _, _, _, _, _, _, _, _, _, _, _, _, _, rfl⟩
            rw [List.append_nil]
            have hm := (HMEM.out.set hsz 5 (.string D')).alloc (.cells #[.string T', .string D'] 30)
            with_reducible refine RefMem.cast hm ?_
            kernel_rfl
        · have b3 : (rC == 3) = false := by simpa using a3
          have htk2 : takesP ⟨rW, rH, rD, rC, rL, pal, trans, false, false, false, gap⟩ T' D' = (0, ⟨rW, rH, rD, rC, rL, D', trans, false, true, false, false⟩, []) := by rw [htk, plte_fine rfl rfl rfl (by rintro (h | h | h | h | h | h); exact a0 h; exact a4 h; exact h m3; exact lt3 (by omega); exact gt h; exact a3 h.1)]
          have HPURE := Aside0.mk (show RefPure l res (k + 1) ⟨rW, rH, rD, rC, rL, D', trans, false, true, false, false⟩ (bs ++ []) from ⟨⟨HOK.out.1, HOK.out.2.1, hDs⟩, HCOL.out, step_len (x := []) hinv.out.len HDR.out (by simp), step_ok hinv.out.res HDR.out hne htk2⟩)
          have HMEM := Aside0.mk hinv.out.toRefMem
          have g5 : wr.cell? ⟨g, 5, none⟩ = some (.string pal) := (shpCells8 hinv.out.blkg).2.2.2.2.2.1
          have p5 : wr.frozen? ⟨g, 5, none⟩ = false := blk_frozen hinv.out.blkg 5
          clear m3
          clear htk htk2 hne
          go_wp2
          refine ⟨?_, by simp [RMu, intOf]; omega⟩
          rw [show (k : Int) + 1 + 1 = ((k + 1 : Nat) : Int) + 1 by omega]
          unfold RWI
          refine ⟨k + 1, ⟨rW, rH, rD, rC, rL, D', trans, false, true, false, false⟩, bs ++ [], v, by omega, Aside0.mk ⟨HPURE.out, ?_⟩, _, _, _, _, _, _, _, _, _, _, _, _, _, _, _, _, _, _, _, _, _, _, _, _, _, _, _, _, _, _, _, _, _, _, _, _, _, _, _, _, _, _, _, _, _, _, _, _, _, _, _, _, _, _, _, _, _, _, _, _, _, _, _, _, _, _, _, _, _, _, _, _, _, _, _, _, _, _, _, _, _, _, _, _, _, _, _, _, _, _, _, _, _, _, _, _, _, _, _, _, _, _, _, _, _, _, _, _, _, _, _, _, _, _, _, _, _, _, _, _, _, _, _, _, _, _, _, _, _, _, _, _, _, _, _, _, _, _, _, _, _, _, _, _, _, _, _, _, _, _, _, _, _, _, _, _, _, _, _, _, _, _, _, _, _, _, _, _, _, _, _, _, _, _, _, _, _, _, _, _, _, _, _, _, _, _, _, _, _, _, _, _, _, _, rfl⟩
          rw [List.append_nil]
          have hm := (HMEM.out.set hsz 5 (.string D')).alloc (.cells #[.string T', .string D'] 30)
          with_reducible refine RefMem.cast hm ?_
          kernel_rfl
      · have HRQ := Aside0.mk (step_err hinv.out.res HDR.out hne (c := 23) (by rw [htk]; simp [plteP]) (by decide))
        clear htk hne
        go_wp2
        refine bodyPost_ret (results_cell3 rfl _ _ w.heap.size 36 shp0 (0, 0) _ rfl ?a1 Try.underlying36 rfl (by kernel_rfl)) rfl (Ret.mk' ?a2 ?a3)
        case a1 =>
          (with_reducible repeat (refine blk_alloc ?_ _))
          have e := blk_store8 (v0 := .int .i64 0) (v1 := .int .i64 0) (v2 := .int .i64 0) (v3 := .int .i64 0) (v4 := .int .i64 0) (v5 := .string ⟨#[]⟩) (v6 := .string ⟨#[]⟩) (v7 := .bool false) hinv.out.blk2
          simp only [storeL, Nat.zero_add, Nat.reduceAdd] at e
          with_reducible refine e.trans ?_
          rfl
        case a2 => rw [HRQ.out]; kernel_rfl
        case a3 =>
          have h2 := hinv.out.eff
          repeat (first | (with_reducible exact h2) | (with_reducible apply Eff.alloc) | (with_reducible refine Eff.setNew ?_ (by first | exact Nat.le_refl _ | omega) _ _))
    · have HRQ := Aside0.mk (step_err hinv.out.res HDR.out hne (c := 23) (by rw [htk]; simp [plteP]) (by decide))
      clear htk hne
      go_wp2
      refine bodyPost_ret (results_cell3 rfl _ _ w.heap.size 36 shp0 (0, 0) _ rfl ?a1 Try.underlying36 rfl (by kernel_rfl)) rfl (Ret.mk' ?a2 ?a3)
      case a1 =>
        (with_reducible repeat (refine blk_alloc ?_ _))
        have e := blk_store8 (v0 := .int .i64 0) (v1 := .int .i64 0) (v2 := .int .i64 0) (v3 := .int .i64 0) (v4 := .int .i64 0) (v5 := .string ⟨#[]⟩) (v6 := .string ⟨#[]⟩) (v7 := .bool false) hinv.out.blk2
        simp only [storeL, Nat.zero_add, Nat.reduceAdd] at e
        with_reducible refine e.trans ?_
        rfl
      case a2 => rw [HRQ.out]; kernel_rfl
      case a3 =>
        have h2 := hinv.out.eff
        repeat (first | (with_reducible exact h2) | (with_reducible apply Eff.alloc) | (with_reducible refine Eff.setNew ?_ (by first | exact Nat.le_refl _ | omega) _ _))
  · have HRQ := Aside0.mk (step_err hinv.out.res HDR.out hne (c := 23) (by rw [htk]; simp [plteP]) (by decide))
    clear htk hne
    go_wp2
    refine bodyPost_ret (results_cell3 rfl _ _ w.heap.size 36 shp0 (0, 0) _ rfl ?a1 Try.underlying36 rfl (by kernel_rfl)) rfl (Ret.mk' ?a2 ?a3)
    case a1 =>
      (with_reducible repeat (refine blk_alloc ?_ _))
      have e := blk_store8 (v0 := .int .i64 0) (v1 := .int .i64 0) (v2 := .int .i64 0) (v3 := .int .i64 0) (v4 := .int .i64 0) (v5 := .string ⟨#[]⟩) (v6 := .string ⟨#[]⟩) (v7 := .bool false) hinv.out.blk2
      simp only [storeL, Nat.zero_add, Nat.reduceAdd] at e
      with_reducible refine e.trans ?_
      rfl
    case a2 => rw [HRQ.out]; kernel_rfl
    case a3 =>
      have h2 := hinv.out.eff
      repeat (first | (with_reducible exact h2) | (with_reducible apply Eff.alloc) | (with_reducible refine Eff.setNew ?_ (by first | exact Nat.le_refl _ | omega) _ _))


end Go.Proofs.Ytgkmfedjmmleeaa
