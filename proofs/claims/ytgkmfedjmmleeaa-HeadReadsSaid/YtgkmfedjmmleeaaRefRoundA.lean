/- Rounds of vitrineref08.Read: IHDR, the end of the list, IDAT, others. -/
import Derived.Test.YtgkmfedjmmleeaaRefReadA
namespace Go.Proofs.Ytgkmfedjmmleeaa
open Go.RowKit Go.Proofs.YtgkmfedjmmleeaaW.PrintWords PHeadReads
set_option linter.unusedVariables false
set_option linter.unusedSimpArgs false
set_option maxRecDepth 1000000 in
set_option maxHeartbeats 200000000 in
theorem ref_round_IHDR (w : World) (g : Nat) (ad : Addr) (c : Nat) (l : List (ByteArray × ByteArray)) (res : Shp × List UInt8 × Int) (K : Act → World → Prop) (k : Nat) (rW rH rD rC rL : Int) (pal trans : ByteArray) (hasT palette idat gap : Bool) (bs : List UInt8) (v : Value) (wr : World) (d1 d6 d8 d16 d17 d18 d19 d20 d21 d22 d23 d24 d25 d26 d27 d28 d29 d30 d31 d32 d33 d34 d35 d36 d37 d38 d39 d40 d41 d42 d43 d44 d45 d46 d47 d48 d49 d50 d51 d52 d53 d54 d55 d56 d57 d58 d59 d60 d61 d62 d63 d64 d65 d66 d67 d68 d69 d260 x3 x4 x14 x15 x70 x71 x72 x73 x74 x75 x76 x77 x78 x79 x80 x81 x82 x83 x84 x85 x86 x87 x88 x89 x90 x91 x92 x93 x94 x95 x96 x97 x98 x99 x100 x101 x102 x103 x104 x105 x106 x107 x108 x109 x110 x111 x112 x113 x114 x115 x116 x117 x118 x119 x120 x121 x122 x123 x124 x125 x126 x127 x128 x129 x130 x131 x132 x133 x134 x135 x136 x137 x138 x139 x140 x141 x142 x143 x144 x145 x146 x147 x148 x149 x150 x151 x152 x153 x154 x155 x156 x157 x158 x159 x160 x161 x162 x163 x164 x165 x166 x167 x168 x169 x170 x171 x172 x173 x174 x175 x176 x177 x178 x179 x180 x181 x182 x183 x184 x185 x186 x187 x188 x189 x190 x191 x192 x193 x194 x195 x196 x197 x198 x199 x200 x201 x202 x203 x204 x205 x206 x207 x208 x209 x210 x211 x212 x213 x214 x215 x216 x217 x218 x219 x220 x221 x222 x223 x224 x225 x226 x227 x228 x229 x230 x231 x232 x233 x234 x235 x236 x237 x238 x239 x240 x241 x242 x243 x244 x245 x246 x247 x248 x249 x250 x251 x252 x253 x254 x255 x256 x257 x258 x259 : Value)
    (HL : l.length ≤ 1000000) (hsz : w.heap.size + 1 < g) (hadb : ad.block < w.heap.size) (HCC : Aside0 (l.length + 1 ≤ c)) (hinv : Aside0 (RefInv w g l res k ⟨rW, rH, rD, rC, rL, pal, trans, hasT, palette, idat, gap⟩ bs v wr))
    (hlt : k < l.length) (T' D' : ByteArray) (c0 : wr.cell? (ad.add ((k + 1) * 2)) = some (.string T')) (c1 : wr.cell? ⟨(ad.add ((k + 1) * 2)).block, (ad.add ((k + 1) * 2)).off + 1, none⟩ = some (.string D')) (hab : (ad.add ((k + 1) * 2)).block < wr.heap.size) (HDR : Aside0 (l.drop k = (T', D') :: l.drop (k + 1))) (hDs : D'.size ≤ 140737488351232) (hx : T'.toList = tIHDR) :
    Code.wp Try.prog refBody (Exit.then (fun a' w'' => RWI w g ad c l res d1 d6 d8 d16 d17 d18 d19 d20 d21 d22 d23 d24 d25 d26 d27 d28 d29 d30 d31 d32 d33 d34 d35 d36 d37 d38 d39 d40 d41 d42 d43 d44 d45 d46 d47 d48 d49 d50 d51 d52 d53 d54 d55 d56 d57 d58 d59 d60 d61 d62 d63 d64 d65 d66 d67 d68 d69 d260 a' w'' ∧ RMu l a' w'' < RMu l ⟨#[.slice (some ad) (l.length + 1) c, d1, .pointer (some ⟨w.heap.size, 0, none⟩), x3, x4, .pointer (some ⟨w.heap.size + 1, 0, none⟩), d6, .pointer (some ⟨g, 0, none⟩), d8, v, .bool palette, .bool idat, .bool gap, .int .i64 ((k : Int) + 1), x14, x15, d16, d17, d18, d19, d20, d21, d22, d23, d24, d25, d26, d27, d28, d29, d30, d31, d32, d33, d34, d35, d36, d37, d38, d39, d40, d41, d42, d43, d44, d45, d46, d47, d48, d49, d50, d51, d52, d53, d54, d55, d56, d57, d58, d59, d60, d61, d62, d63, d64, d65, d66, d67, d68, d69, x70, x71, x72, x73, x74, x75, x76, x77, x78, x79, x80, x81, x82, x83, x84, x85, x86, x87, x88, x89, x90, x91, x92, x93, x94, x95, x96, x97, x98, x99, x100, x101, x102, x103, x104, x105, x106, x107, x108, x109, x110, x111, x112, x113, x114, x115, x116, x117, x118, x119, x120, x121, x122, x123, x124, x125, x126, x127, x128, x129, x130, x131, x132, x133, x134, x135, x136, x137, x138, x139, x140, x141, x142, x143, x144, x145, x146, x147, x148, x149, x150, x151, x152, x153, x154, x155, x156, x157, x158, x159, x160, x161, x162, x163, x164, x165, x166, x167, x168, x169, x170, x171, x172, x173, x174, x175, x176, x177, x178, x179, x180, x181, x182, x183, x184, x185, x186, x187, x188, x189, x190, x191, x192, x193, x194, x195, x196, x197, x198, x199, x200, x201, x202, x203, x204, x205, x206, x207, x208, x209, x210, x211, x212, x213, x214, x215, x216, x217, x218, x219, x220, x221, x222, x223, x224, x225, x226, x227, x228, x229, x230, x231, x232, x233, x234, x235, x236, x237, x238, x239, x240, x241, x242, x243, x244, x245, x246, x247, x248, x249, x250, x251, x252, x253, x254, x255, x256, x257, x258, x259, d260], []⟩ wr) (Exit.inBlock 0 (Exit.then K (bodyPost Try.prog Try.f18 (Ret (readRes res) (fun w' => Eff w.heap.size [] w w')))))) ⟨#[.slice (some ad) (l.length + 1) c, d1, .pointer (some ⟨w.heap.size, 0, none⟩), x3, x4, .pointer (some ⟨w.heap.size + 1, 0, none⟩), d6, .pointer (some ⟨g, 0, none⟩), d8, v, .bool palette, .bool idat, .bool gap, .int .i64 ((k : Int) + 1), x14, x15, d16, d17, d18, d19, d20, d21, d22, d23, d24, d25, d26, d27, d28, d29, d30, d31, d32, d33, d34, d35, d36, d37, d38, d39, d40, d41, d42, d43, d44, d45, d46, d47, d48, d49, d50, d51, d52, d53, d54, d55, d56, d57, d58, d59, d60, d61, d62, d63, d64, d65, d66, d67, d68, d69, x70, x71, x72, x73, x74, x75, x76, x77, x78, x79, x80, x81, x82, x83, x84, x85, x86, x87, x88, x89, x90, x91, x92, x93, x94, x95, x96, x97, x98, x99, x100, x101, x102, x103, x104, x105, x106, x107, x108, x109, x110, x111, x112, x113, x114, x115, x116, x117, x118, x119, x120, x121, x122, x123, x124, x125, x126, x127, x128, x129, x130, x131, x132, x133, x134, x135, x136, x137, x138, x139, x140, x141, x142, x143, x144, x145, x146, x147, x148, x149, x150, x151, x152, x153, x154, x155, x156, x157, x158, x159, x160, x161, x162, x163, x164, x165, x166, x167, x168, x169, x170, x171, x172, x173, x174, x175, x176, x177, x178, x179, x180, x181, x182, x183, x184, x185, x186, x187, x188, x189, x190, x191, x192, x193, x194, x195, x196, x197, x198, x199, x200, x201, x202, x203, x204, x205, x206, x207, x208, x209, x210, x211, x212, x213, x214, x215, x216, x217, x218, x219, x220, x221, x222, x223, x224, x225, x226, x227, x228, x229, x230, x231, x232, x233, x234, x235, x236, x237, x238, x239, x240, x241, x242, x243, x244, x245, x246, x247, x248, x249, x250, x251, x252, x253, x254, x255, x256, x257, x258, x259, d260], []⟩ wr := by
  have hwr := blk_lt hinv.out.blk2
  have hgr := blk_lt hinv.out.blkg
  have hwr5 := blk_lt hinv.out.blk5
  obtain ⟨z0, z1, z2, z3, z4, z5, z6, z7⟩ := cells8 hinv.out.blk2
  obtain ⟨f0, f1, f2, f3, f4, f5, f6, f7⟩ := frozen8 hinv.out.blk2
  obtain ⟨y0, y1, y2, y3, y4, y5, y6, y7⟩ := cells8 hinv.out.blk5
  have HCOL : Aside0 (rC = 0 ∨ rC = 2 ∨ rC = 3 ∨ rC = 4 ∨ rC = 6) := Aside0.mk hinv.out.col
  have HOK : Aside0 (Rd.ok ⟨rW, rH, rD, rC, rL, pal, trans, hasT, palette, idat, gap⟩) := Aside0.mk hinv.out.ok
  conv => arg 2; whnf
  have ti : (T'.toList == [73, 72, 68, 82]) = true := by rw [hx]; rfl
  have HRQ := Aside0.mk (step_err hinv.out.res HDR.out (by rw [hx]; decide) (c := 23) (by unfold takesP; rw [if_pos hx]) (by decide))
  clear hx
  go_wp2
  refine bodyPost_ret (results_cell3 rfl _ _ w.heap.size 36 shp0 (0, 0) _ rfl ?a1 Try.underlying36 rfl (by kernel_rfl)) rfl (Ret.mk' ?a2 ?a3)
  case a1 =>
    (with_reducible repeat (refine blk_alloc ?_ _))
    have e := blk_store8 (v0 := .int .i64 0) (v1 := .int .i64 0) (v2 := .int .i64 0) (v3 := .int .i64 0) (v4 := .int .i64 0) (v5 := .string ⟨#[]⟩) (v6 := .string ⟨#[]⟩) (v7 := .bool false) hinv.out.blk2
    simp only [storeL, Nat.zero_add, Nat.reduceAdd] at e
    with_reducible refine e.trans ?_
    rfl
  case a2 => rw [HRQ.out]; kernel_rfl
  case a3 =>
    have h2 := hinv.out.eff
    repeat (first | (with_reducible exact h2) | (with_reducible apply Eff.alloc) | (with_reducible refine Eff.setNew ?_ (by first | exact Nat.le_refl _ | omega) _ _))

set_option maxRecDepth 1000000 in
set_option maxHeartbeats 200000000 in
theorem ref_round_done (w : World) (g : Nat) (ad : Addr) (c : Nat) (l : List (ByteArray × ByteArray)) (res : Shp × List UInt8 × Int) (K : Act → World → Prop) (k : Nat) (rW rH rD rC rL : Int) (pal trans : ByteArray) (hasT palette idat gap : Bool) (bs : List UInt8) (v : Value) (wr : World) (d1 d6 d8 d16 d17 d18 d19 d20 d21 d22 d23 d24 d25 d26 d27 d28 d29 d30 d31 d32 d33 d34 d35 d36 d37 d38 d39 d40 d41 d42 d43 d44 d45 d46 d47 d48 d49 d50 d51 d52 d53 d54 d55 d56 d57 d58 d59 d60 d61 d62 d63 d64 d65 d66 d67 d68 d69 d260 x3 x4 x14 x15 x70 x71 x72 x73 x74 x75 x76 x77 x78 x79 x80 x81 x82 x83 x84 x85 x86 x87 x88 x89 x90 x91 x92 x93 x94 x95 x96 x97 x98 x99 x100 x101 x102 x103 x104 x105 x106 x107 x108 x109 x110 x111 x112 x113 x114 x115 x116 x117 x118 x119 x120 x121 x122 x123 x124 x125 x126 x127 x128 x129 x130 x131 x132 x133 x134 x135 x136 x137 x138 x139 x140 x141 x142 x143 x144 x145 x146 x147 x148 x149 x150 x151 x152 x153 x154 x155 x156 x157 x158 x159 x160 x161 x162 x163 x164 x165 x166 x167 x168 x169 x170 x171 x172 x173 x174 x175 x176 x177 x178 x179 x180 x181 x182 x183 x184 x185 x186 x187 x188 x189 x190 x191 x192 x193 x194 x195 x196 x197 x198 x199 x200 x201 x202 x203 x204 x205 x206 x207 x208 x209 x210 x211 x212 x213 x214 x215 x216 x217 x218 x219 x220 x221 x222 x223 x224 x225 x226 x227 x228 x229 x230 x231 x232 x233 x234 x235 x236 x237 x238 x239 x240 x241 x242 x243 x244 x245 x246 x247 x248 x249 x250 x251 x252 x253 x254 x255 x256 x257 x258 x259 : Value)
    (HL : l.length ≤ 1000000) (hsz : w.heap.size + 1 < g) (hadb : ad.block < w.heap.size) (HCC : Aside0 (l.length + 1 ≤ c)) (hinv : Aside0 (RefInv w g l res k ⟨rW, rH, rD, rC, rL, pal, trans, hasT, palette, idat, gap⟩ bs v wr))
     (hge : ¬ k < l.length) (hk : k ≤ l.length) (hK : ∀ a w'', RX w g ad c l res d1 d6 d8 d16 d17 d18 d19 d20 d21 d22 d23 d24 d25 d26 d27 d28 d29 d30 d31 d32 d33 d34 d35 d36 d37 d38 d39 d40 d41 d42 d43 d44 d45 d46 d47 d48 d49 d50 d51 d52 d53 d54 d55 d56 d57 d58 d59 d60 d61 d62 d63 d64 d65 d66 d67 d68 d69 d260 a w'' → K a w'') :
    Code.wp Try.prog refBody (Exit.then (fun a' w'' => RWI w g ad c l res d1 d6 d8 d16 d17 d18 d19 d20 d21 d22 d23 d24 d25 d26 d27 d28 d29 d30 d31 d32 d33 d34 d35 d36 d37 d38 d39 d40 d41 d42 d43 d44 d45 d46 d47 d48 d49 d50 d51 d52 d53 d54 d55 d56 d57 d58 d59 d60 d61 d62 d63 d64 d65 d66 d67 d68 d69 d260 a' w'' ∧ RMu l a' w'' < RMu l ⟨#[.slice (some ad) (l.length + 1) c, d1, .pointer (some ⟨w.heap.size, 0, none⟩), x3, x4, .pointer (some ⟨w.heap.size + 1, 0, none⟩), d6, .pointer (some ⟨g, 0, none⟩), d8, v, .bool palette, .bool idat, .bool gap, .int .i64 ((k : Int) + 1), x14, x15, d16, d17, d18, d19, d20, d21, d22, d23, d24, d25, d26, d27, d28, d29, d30, d31, d32, d33, d34, d35, d36, d37, d38, d39, d40, d41, d42, d43, d44, d45, d46, d47, d48, d49, d50, d51, d52, d53, d54, d55, d56, d57, d58, d59, d60, d61, d62, d63, d64, d65, d66, d67, d68, d69, x70, x71, x72, x73, x74, x75, x76, x77, x78, x79, x80, x81, x82, x83, x84, x85, x86, x87, x88, x89, x90, x91, x92, x93, x94, x95, x96, x97, x98, x99, x100, x101, x102, x103, x104, x105, x106, x107, x108, x109, x110, x111, x112, x113, x114, x115, x116, x117, x118, x119, x120, x121, x122, x123, x124, x125, x126, x127, x128, x129, x130, x131, x132, x133, x134, x135, x136, x137, x138, x139, x140, x141, x142, x143, x144, x145, x146, x147, x148, x149, x150, x151, x152, x153, x154, x155, x156, x157, x158, x159, x160, x161, x162, x163, x164, x165, x166, x167, x168, x169, x170, x171, x172, x173, x174, x175, x176, x177, x178, x179, x180, x181, x182, x183, x184, x185, x186, x187, x188, x189, x190, x191, x192, x193, x194, x195, x196, x197, x198, x199, x200, x201, x202, x203, x204, x205, x206, x207, x208, x209, x210, x211, x212, x213, x214, x215, x216, x217, x218, x219, x220, x221, x222, x223, x224, x225, x226, x227, x228, x229, x230, x231, x232, x233, x234, x235, x236, x237, x238, x239, x240, x241, x242, x243, x244, x245, x246, x247, x248, x249, x250, x251, x252, x253, x254, x255, x256, x257, x258, x259, d260], []⟩ wr) (Exit.inBlock 0 (Exit.then K (bodyPost Try.prog Try.f18 (Ret (readRes res) (fun w' => Eff w.heap.size [] w w')))))) ⟨#[.slice (some ad) (l.length + 1) c, d1, .pointer (some ⟨w.heap.size, 0, none⟩), x3, x4, .pointer (some ⟨w.heap.size + 1, 0, none⟩), d6, .pointer (some ⟨g, 0, none⟩), d8, v, .bool palette, .bool idat, .bool gap, .int .i64 ((k : Int) + 1), x14, x15, d16, d17, d18, d19, d20, d21, d22, d23, d24, d25, d26, d27, d28, d29, d30, d31, d32, d33, d34, d35, d36, d37, d38, d39, d40, d41, d42, d43, d44, d45, d46, d47, d48, d49, d50, d51, d52, d53, d54, d55, d56, d57, d58, d59, d60, d61, d62, d63, d64, d65, d66, d67, d68, d69, x70, x71, x72, x73, x74, x75, x76, x77, x78, x79, x80, x81, x82, x83, x84, x85, x86, x87, x88, x89, x90, x91, x92, x93, x94, x95, x96, x97, x98, x99, x100, x101, x102, x103, x104, x105, x106, x107, x108, x109, x110, x111, x112, x113, x114, x115, x116, x117, x118, x119, x120, x121, x122, x123, x124, x125, x126, x127, x128, x129, x130, x131, x132, x133, x134, x135, x136, x137, x138, x139, x140, x141, x142, x143, x144, x145, x146, x147, x148, x149, x150, x151, x152, x153, x154, x155, x156, x157, x158, x159, x160, x161, x162, x163, x164, x165, x166, x167, x168, x169, x170, x171, x172, x173, x174, x175, x176, x177, x178, x179, x180, x181, x182, x183, x184, x185, x186, x187, x188, x189, x190, x191, x192, x193, x194, x195, x196, x197, x198, x199, x200, x201, x202, x203, x204, x205, x206, x207, x208, x209, x210, x211, x212, x213, x214, x215, x216, x217, x218, x219, x220, x221, x222, x223, x224, x225, x226, x227, x228, x229, x230, x231, x232, x233, x234, x235, x236, x237, x238, x239, x240, x241, x242, x243, x244, x245, x246, x247, x248, x249, x250, x251, x252, x253, x254, x255, x256, x257, x258, x259, d260], []⟩ wr := by
  have hwr := blk_lt hinv.out.blk2
  have hgr := blk_lt hinv.out.blkg
  have hwr5 := blk_lt hinv.out.blk5
  obtain ⟨z0, z1, z2, z3, z4, z5, z6, z7⟩ := cells8 hinv.out.blk2
  obtain ⟨f0, f1, f2, f3, f4, f5, f6, f7⟩ := frozen8 hinv.out.blk2
  obtain ⟨y0, y1, y2, y3, y4, y5, y6, y7⟩ := cells8 hinv.out.blk5
  have HCOL : Aside0 (rC = 0 ∨ rC = 2 ∨ rC = 3 ∨ rC = 4 ∨ rC = 6) := Aside0.mk hinv.out.col
  have HOK : Aside0 (Rd.ok ⟨rW, rH, rD, rC, rL, pal, trans, hasT, palette, idat, gap⟩) := Aside0.mk hinv.out.ok
  conv => arg 2; whnf
  have hend : res = (shpZero, [], 3) := by
    have := hinv.out.res
    rw [List.drop_eq_nil_of_le (by omega)] at this
    exact this.symm
  have HRQ := Aside0.mk hend
  have HMEM := Aside0.mk hinv.out.toRefMem
  clear hend
  go_wp2
  exact ⟨HRQ.out, ⟨_, _, _, HMEM.out⟩, _, _, _, _, _, _, _, _, _, _, _, _, _, _, _, _, _, _, _, _, _, _, _, _, _, _, _, _, _, _, _, _, _, _, _, _, _, _, _, _, _, _, _, _, _, _, _, _, _, _, _, _, _, _, _, _, _, _, _, _, _, _, _, _, _, _, _, _, _, _, _, _, _, _, _, _, _, _, _, _, _, _, _, _, _, _, _, _, _, _, _, _, _, _, _, _, _, _, _, _, _, _, _, _, _, _, _, _, _, _, _, _, _, _, _, _, _, _, _, _, _, _, _, _, _, _, _, _, _, _, _, _, _, _, _, _, _, _, _, _, _, _, _, _, _, _, _, _, _, _, _, _, _, _, _, _, _, _, _, _, _, _, _, _, _, _, _, _, _, _, _, _, _, _, _, _, _, _, _, _, _, _, _, _, _, _, _, _, _, _, _, _, _, _, _, _, _, _, _, rfl⟩

set_option maxRecDepth 1000000 in
set_option maxHeartbeats 200000000 in
theorem ref_round_IDAT (w : World) (g : Nat) (ad : Addr) (c : Nat) (l : List (ByteArray × ByteArray)) (res : Shp × List UInt8 × Int) (K : Act → World → Prop) (k : Nat) (rW rH rD rC rL : Int) (pal trans : ByteArray) (hasT palette idat gap : Bool) (bs : List UInt8) (v : Value) (wr : World) (d1 d6 d8 d16 d17 d18 d19 d20 d21 d22 d23 d24 d25 d26 d27 d28 d29 d30 d31 d32 d33 d34 d35 d36 d37 d38 d39 d40 d41 d42 d43 d44 d45 d46 d47 d48 d49 d50 d51 d52 d53 d54 d55 d56 d57 d58 d59 d60 d61 d62 d63 d64 d65 d66 d67 d68 d69 d260 x3 x4 x14 x15 x70 x71 x72 x73 x74 x75 x76 x77 x78 x79 x80 x81 x82 x83 x84 x85 x86 x87 x88 x89 x90 x91 x92 x93 x94 x95 x96 x97 x98 x99 x100 x101 x102 x103 x104 x105 x106 x107 x108 x109 x110 x111 x112 x113 x114 x115 x116 x117 x118 x119 x120 x121 x122 x123 x124 x125 x126 x127 x128 x129 x130 x131 x132 x133 x134 x135 x136 x137 x138 x139 x140 x141 x142 x143 x144 x145 x146 x147 x148 x149 x150 x151 x152 x153 x154 x155 x156 x157 x158 x159 x160 x161 x162 x163 x164 x165 x166 x167 x168 x169 x170 x171 x172 x173 x174 x175 x176 x177 x178 x179 x180 x181 x182 x183 x184 x185 x186 x187 x188 x189 x190 x191 x192 x193 x194 x195 x196 x197 x198 x199 x200 x201 x202 x203 x204 x205 x206 x207 x208 x209 x210 x211 x212 x213 x214 x215 x216 x217 x218 x219 x220 x221 x222 x223 x224 x225 x226 x227 x228 x229 x230 x231 x232 x233 x234 x235 x236 x237 x238 x239 x240 x241 x242 x243 x244 x245 x246 x247 x248 x249 x250 x251 x252 x253 x254 x255 x256 x257 x258 x259 : Value)
    (HL : l.length ≤ 1000000) (hsz : w.heap.size + 1 < g) (hadb : ad.block < w.heap.size) (HCC : Aside0 (l.length + 1 ≤ c)) (hinv : Aside0 (RefInv w g l res k ⟨rW, rH, rD, rC, rL, pal, trans, hasT, palette, idat, gap⟩ bs v wr))
    (hlt : k < l.length) (T' D' : ByteArray) (c0 : wr.cell? (ad.add ((k + 1) * 2)) = some (.string T')) (c1 : wr.cell? ⟨(ad.add ((k + 1) * 2)).block, (ad.add ((k + 1) * 2)).off + 1, none⟩ = some (.string D')) (hab : (ad.add ((k + 1) * 2)).block < wr.heap.size) (HDR : Aside0 (l.drop k = (T', D') :: l.drop (k + 1))) (hDs : D'.size ≤ 140737488351232) (hx : T'.toList ≠ tIHDR) (hx2 : T'.toList ≠ tPLTE) (hx3 : T'.toList ≠ tTRNS) (hx4 : T'.toList = tIDAT) :
    Code.wp Try.prog refBody (Exit.then (fun a' w'' => RWI w g ad c l res d1 d6 d8 d16 d17 d18 d19 d20 d21 d22 d23 d24 d25 d26 d27 d28 d29 d30 d31 d32 d33 d34 d35 d36 d37 d38 d39 d40 d41 d42 d43 d44 d45 d46 d47 d48 d49 d50 d51 d52 d53 d54 d55 d56 d57 d58 d59 d60 d61 d62 d63 d64 d65 d66 d67 d68 d69 d260 a' w'' ∧ RMu l a' w'' < RMu l ⟨#[.slice (some ad) (l.length + 1) c, d1, .pointer (some ⟨w.heap.size, 0, none⟩), x3, x4, .pointer (some ⟨w.heap.size + 1, 0, none⟩), d6, .pointer (some ⟨g, 0, none⟩), d8, v, .bool palette, .bool idat, .bool gap, .int .i64 ((k : Int) + 1), x14, x15, d16, d17, d18, d19, d20, d21, d22, d23, d24, d25, d26, d27, d28, d29, d30, d31, d32, d33, d34, d35, d36, d37, d38, d39, d40, d41, d42, d43, d44, d45, d46, d47, d48, d49, d50, d51, d52, d53, d54, d55, d56, d57, d58, d59, d60, d61, d62, d63, d64, d65, d66, d67, d68, d69, x70, x71, x72, x73, x74, x75, x76, x77, x78, x79, x80, x81, x82, x83, x84, x85, x86, x87, x88, x89, x90, x91, x92, x93, x94, x95, x96, x97, x98, x99, x100, x101, x102, x103, x104, x105, x106, x107, x108, x109, x110, x111, x112, x113, x114, x115, x116, x117, x118, x119, x120, x121, x122, x123, x124, x125, x126, x127, x128, x129, x130, x131, x132, x133, x134, x135, x136, x137, x138, x139, x140, x141, x142, x143, x144, x145, x146, x147, x148, x149, x150, x151, x152, x153, x154, x155, x156, x157, x158, x159, x160, x161, x162, x163, x164, x165, x166, x167, x168, x169, x170, x171, x172, x173, x174, x175, x176, x177, x178, x179, x180, x181, x182, x183, x184, x185, x186, x187, x188, x189, x190, x191, x192, x193, x194, x195, x196, x197, x198, x199, x200, x201, x202, x203, x204, x205, x206, x207, x208, x209, x210, x211, x212, x213, x214, x215, x216, x217, x218, x219, x220, x221, x222, x223, x224, x225, x226, x227, x228, x229, x230, x231, x232, x233, x234, x235, x236, x237, x238, x239, x240, x241, x242, x243, x244, x245, x246, x247, x248, x249, x250, x251, x252, x253, x254, x255, x256, x257, x258, x259, d260], []⟩ wr) (Exit.inBlock 0 (Exit.then K (bodyPost Try.prog Try.f18 (Ret (readRes res) (fun w' => Eff w.heap.size [] w w')))))) ⟨#[.slice (some ad) (l.length + 1) c, d1, .pointer (some ⟨w.heap.size, 0, none⟩), x3, x4, .pointer (some ⟨w.heap.size + 1, 0, none⟩), d6, .pointer (some ⟨g, 0, none⟩), d8, v, .bool palette, .bool idat, .bool gap, .int .i64 ((k : Int) + 1), x14, x15, d16, d17, d18, d19, d20, d21, d22, d23, d24, d25, d26, d27, d28, d29, d30, d31, d32, d33, d34, d35, d36, d37, d38, d39, d40, d41, d42, d43, d44, d45, d46, d47, d48, d49, d50, d51, d52, d53, d54, d55, d56, d57, d58, d59, d60, d61, d62, d63, d64, d65, d66, d67, d68, d69, x70, x71, x72, x73, x74, x75, x76, x77, x78, x79, x80, x81, x82, x83, x84, x85, x86, x87, x88, x89, x90, x91, x92, x93, x94, x95, x96, x97, x98, x99, x100, x101, x102, x103, x104, x105, x106, x107, x108, x109, x110, x111, x112, x113, x114, x115, x116, x117, x118, x119, x120, x121, x122, x123, x124, x125, x126, x127, x128, x129, x130, x131, x132, x133, x134, x135, x136, x137, x138, x139, x140, x141, x142, x143, x144, x145, x146, x147, x148, x149, x150, x151, x152, x153, x154, x155, x156, x157, x158, x159, x160, x161, x162, x163, x164, x165, x166, x167, x168, x169, x170, x171, x172, x173, x174, x175, x176, x177, x178, x179, x180, x181, x182, x183, x184, x185, x186, x187, x188, x189, x190, x191, x192, x193, x194, x195, x196, x197, x198, x199, x200, x201, x202, x203, x204, x205, x206, x207, x208, x209, x210, x211, x212, x213, x214, x215, x216, x217, x218, x219, x220, x221, x222, x223, x224, x225, x226, x227, x228, x229, x230, x231, x232, x233, x234, x235, x236, x237, x238, x239, x240, x241, x242, x243, x244, x245, x246, x247, x248, x249, x250, x251, x252, x253, x254, x255, x256, x257, x258, x259, d260], []⟩ wr := by
  have hwr := blk_lt hinv.out.blk2
  have hgr := blk_lt hinv.out.blkg
  have hwr5 := blk_lt hinv.out.blk5
  obtain ⟨z0, z1, z2, z3, z4, z5, z6, z7⟩ := cells8 hinv.out.blk2
  obtain ⟨f0, f1, f2, f3, f4, f5, f6, f7⟩ := frozen8 hinv.out.blk2
  obtain ⟨y0, y1, y2, y3, y4, y5, y6, y7⟩ := cells8 hinv.out.blk5
  have HCOL : Aside0 (rC = 0 ∨ rC = 2 ∨ rC = 3 ∨ rC = 4 ∨ rC = 6) := Aside0.mk hinv.out.col
  have HOK : Aside0 (Rd.ok ⟨rW, rH, rD, rC, rL, pal, trans, hasT, palette, idat, gap⟩) := Aside0.mk hinv.out.ok
  have ti : (T'.toList == [73, 72, 68, 82]) = false := by rw [beq_eq_false_iff_ne]; exact hx
  have ti2 : (T'.toList == [80, 76, 84, 69]) = false := by rw [beq_eq_false_iff_ne]; exact hx2
  have ti3 : (T'.toList == [116, 82, 78, 83]) = false := by rw [beq_eq_false_iff_ne]; exact hx3
  conv => arg 2; whnf
  have ti4 : (T'.toList == [73, 68, 65, 84]) = true := by rw [hx4]; rfl
  have htk := takes_idat (r := ⟨rW, rH, rD, rC, rL, pal, trans, hasT, palette, idat, gap⟩) (D := D') hx hx2 hx3 hx4
  have hne : T'.toList ≠ tIEND := by rw [hx4]; decide
  clear hx hx2 hx3 hx4
  have g3 : wr.cell? ⟨g, 3, none⟩ = some (.int .i64 rC) := (shpCells8 hinv.out.blkg).2.2.2.1
  by_cases a3 : rC = 3
  · subst a3
    cases palette
    · have HRQ := Aside0.mk (step_err hinv.out.res HDR.out hne (c := 23) (by rw [htk, if_pos (.inr ⟨rfl, rfl⟩)]) (by decide))
      clear htk hne
      go_wp2
      refine bodyPost_ret (results_cell3 rfl _ _ w.heap.size 36 shp0 (0, 0) _ rfl ?a1 Try.underlying36 rfl (by kernel_rfl)) rfl (Ret.mk' ?a2 ?a3)
      case a1 =>
        (with_reducible repeat (refine blk_alloc ?_ _))
        have e := blk_store8 (v0 := .int .i64 0) (v1 := .int .i64 0) (v2 := .int .i64 0) (v3 := .int .i64 0) (v4 := .int .i64 0) (v5 := .string ⟨#[]⟩) (v6 := .string ⟨#[]⟩) (v7 := .bool false) hinv.out.blk2
        simp only [storeL, Nat.zero_add, Nat.reduceAdd] at e
        with_reducible refine e.trans ?_
        rfl
      case a2 => rw [HRQ.out]; kernel_rfl
      case a3 =>
        have h2 := hinv.out.eff
        repeat (first | (with_reducible exact h2) | (with_reducible apply Eff.alloc) | (with_reducible refine Eff.setNew ?_ (by first | exact Nat.le_refl _ | omega) _ _))
    · cases gap
      · have htk2 : takesP ⟨rW, rH, rD, 3, rL, pal, trans, hasT, true, idat, false⟩ T' D' = (0, ⟨rW, rH, rD, 3, rL, pal, trans, hasT, true, true, false⟩, D'.data.toList) := by rw [htk, if_neg (by simp)]
        have HPURE := Aside0.mk (show RefPure l res (k + 1) ⟨rW, rH, rD, 3, rL, pal, trans, hasT, true, true, false⟩ (bs ++ D'.data.toList) from ⟨HOK.out, HCOL.out, step_len (x := D'.data.toList) hinv.out.len HDR.out (Nat.le_of_eq (data_length D')), step_ok hinv.out.res HDR.out hne htk2⟩)
        have hmem := hinv.out.toRefMem.alloc (.cells #[.string T', .string D'] 30)
        have hown := hmem.own
        have hlen2 : bs.length + D'.size ≤ 140737488355328 := by have h1 := hinv.out.len; rw [HDR.out] at h1; simp [total] at h1; omega
        have hBw : w.heap.size ≤ wr.heap.size + 1 := by omega
        have HMEM := Aside0.mk hmem
        have HLEN2 := Aside0.mk hlen2
        have HOWN := Aside0.mk hown
        clear htk htk2 hne hmem hlen2 hown
        obtain ⟨i0, hi, hz0, hz1, hz2⟩ := info_parts byteInfo
        go_wp2_with (at_builtin; refine Lib.wpList_append_own_string _ rfl _ _ 51 9 rfl w.heap.size 5 i0 Try.underlying51 Try.underlying9 hi hz0 hz1 hz2 _ _ _ rfl HOWN.out D' rfl ?x1 ?y1 ?z1 ?_)
        case x1 => unfold maxLen; have := HLEN2.out; omega
        case y1 => exact HLEN2.out
        try (case z1 => simp; omega)
        intro v' w2 hown' hgrow _
        have hm2 := HMEM.out.app hown' rfl hgrow
        have HM2 := Aside0.mk hm2
        clear hown' hgrow hm2
        go_wp2
        refine ⟨?_, by simp [RMu, intOf]; omega⟩
        rw [show (k : Int) + 1 + 1 = ((k + 1 : Nat) : Int) + 1 by omega]
        unfold RWI
        exact ⟨k + 1, ⟨rW, rH, rD, 3, rL, pal, trans, hasT, true, true, false⟩, bs ++ D'.data.toList, v', by omega, Aside0.mk ⟨HPURE.out, HM2.out⟩, _, _, _, _, _, _, _, _, _, _, _, _, _, _, _, _, _, _, _, _, _, _, _, _, _, _, _, _, _, _, _, _, _, _, _, _, _, _, _, _, _, _, _, _, _, _, _, _, _, _, _, _, _, _, _, _, _, _, _, _, _, _, _, _, _, _, _, _, _, _, _, _, _, _, _, _, _, _, _, _, _, _, _, _, _, _, _, _, _, _, _, _, _, _, _, _, _, _, _, _, _, _, _, _, _, _, _, _, _, _, _, _, _, _, _, _, _, _, _, _, _, _, _, _, _, _, _, _, _, _, _, _, _, _, _, _, _, _, _, _, _, _, _, _, _, _, _, _, _, _, _, _, _, _, _, _, _, _, _, _, _, _, _, _, _, _, _, _, _, _, _, _, _, _, _, _, _, _, _, _, _, _, _, _, _, _, _, _, _, _, _, _, _, _, rfl⟩
      · have HRQ := Aside0.mk (step_err hinv.out.res HDR.out hne (c := 23) (by rw [htk, if_pos (.inl rfl)]) (by decide))
        clear htk hne
        go_wp2
        refine bodyPost_ret (results_cell3 rfl _ _ w.heap.size 36 shp0 (0, 0) _ rfl ?a1 Try.underlying36 rfl (by kernel_rfl)) rfl (Ret.mk' ?a2 ?a3)
        case a1 =>
          (with_reducible repeat (refine blk_alloc ?_ _))
          have e := blk_store8 (v0 := .int .i64 0) (v1 := .int .i64 0) (v2 := .int .i64 0) (v3 := .int .i64 0) (v4 := .int .i64 0) (v5 := .string ⟨#[]⟩) (v6 := .string ⟨#[]⟩) (v7 := .bool false) hinv.out.blk2
          simp only [storeL, Nat.zero_add, Nat.reduceAdd] at e
          with_reducible refine e.trans ?_
          rfl
        case a2 => rw [HRQ.out]; kernel_rfl
        case a3 =>
          have h2 := hinv.out.eff
          repeat (first | (with_reducible exact h2) | (with_reducible apply Eff.alloc) | (with_reducible refine Eff.setNew ?_ (by first | exact Nat.le_refl _ | omega) _ _))
  · have b3 : (rC == 3) = false := by simpa using a3
    cases gap
    · have htk2 : takesP ⟨rW, rH, rD, rC, rL, pal, trans, hasT, palette, idat, false⟩ T' D' = (0, ⟨rW, rH, rD, rC, rL, pal, trans, hasT, palette, true, false⟩, D'.data.toList) := by rw [htk, if_neg (by simp [a3])]
      have HPURE := Aside0.mk (show RefPure l res (k + 1) ⟨rW, rH, rD, rC, rL, pal, trans, hasT, palette, true, false⟩ (bs ++ D'.data.toList) from ⟨HOK.out, HCOL.out, step_len (x := D'.data.toList) hinv.out.len HDR.out (Nat.le_of_eq (data_length D')), step_ok hinv.out.res HDR.out hne htk2⟩)
      have hmem := hinv.out.toRefMem.alloc (.cells #[.string T', .string D'] 30)
      have hown := hmem.own
      have hlen2 : bs.length + D'.size ≤ 140737488355328 := by have h1 := hinv.out.len; rw [HDR.out] at h1; simp [total] at h1; omega
      have hBw : w.heap.size ≤ wr.heap.size + 1 := by omega
      have HMEM := Aside0.mk hmem
      have HLEN2 := Aside0.mk hlen2
      have HOWN := Aside0.mk hown
      clear htk htk2 hne hmem hlen2 hown
      obtain ⟨i0, hi, hz0, hz1, hz2⟩ := info_parts byteInfo
      go_wp2_with (at_builtin; refine Lib.wpList_append_own_string _ rfl _ _ 51 9 rfl w.heap.size 5 i0 Try.underlying51 Try.underlying9 hi hz0 hz1 hz2 _ _ _ rfl HOWN.out D' rfl ?x2 ?y2 ?z2 ?_)
      case x2 => unfold maxLen; have := HLEN2.out; omega
      case y2 => exact HLEN2.out
      try (case z2 => simp; omega)
      intro v' w2 hown' hgrow _
      have hm2 := HMEM.out.app hown' rfl hgrow
      have HM2 := Aside0.mk hm2
      clear hown' hgrow hm2
      go_wp2
      refine ⟨?_, by simp [RMu, intOf]; omega⟩
      rw [show (k : Int) + 1 + 1 = ((k + 1 : Nat) : Int) + 1 by omega]
      unfold RWI
      exact ⟨k + 1, ⟨rW, rH, rD, rC, rL, pal, trans, hasT, palette, true, false⟩, bs ++ D'.data.toList, v', by omega, Aside0.mk ⟨HPURE.out, HM2.out⟩, _, _, _, _, _, _, _, _, _, _, _, _, _, _, _, _, _, _, _, _, _, _, _, _, _, _, _, _, _, _, _, _, _, _, _, _, _, _, _, _, _, _, _, _, _, _, _, _, _, _, _, _, _, _, _, _, _, _, _, _, _, _, _, _, _, _, _, _, _, _, _, _, _, _, _, _, _, _, _, _, _, _, _, _, _, _, _, _, _, _, _, _, _, _, _, _, _, _, _, _, _, _, _, _, _, _, _, _, _, _, _, _, _, _, _, _, _, _, _, _, _, _, _, _, _, _, _, _, _, _, _, _, _, _, _, _, _, _, _, _, _, _, _, _, _, _, _, _, _, _, _, _, _, _, _, _, _, _, _, _, _, _, _, _, _, _, _, _, _, _, _, _, _, _, _, _, _, _, _, _, _, _, _, _, _, _, _, _, _, _, _, _, _, _, rfl⟩
    · have HRQ := Aside0.mk (step_err hinv.out.res HDR.out hne (c := 23) (by rw [htk, if_pos (.inl rfl)]) (by decide))
      clear htk hne
      go_wp2
      refine bodyPost_ret (results_cell3 rfl _ _ w.heap.size 36 shp0 (0, 0) _ rfl ?a1 Try.underlying36 rfl (by kernel_rfl)) rfl (Ret.mk' ?a2 ?a3)
      case a1 =>
        (with_reducible repeat (refine blk_alloc ?_ _))
        have e := blk_store8 (v0 := .int .i64 0) (v1 := .int .i64 0) (v2 := .int .i64 0) (v3 := .int .i64 0) (v4 := .int .i64 0) (v5 := .string ⟨#[]⟩) (v6 := .string ⟨#[]⟩) (v7 := .bool false) hinv.out.blk2
        simp only [storeL, Nat.zero_add, Nat.reduceAdd] at e
        with_reducible refine e.trans ?_
        rfl
      case a2 => rw [HRQ.out]; kernel_rfl
      case a3 =>
        have h2 := hinv.out.eff
        repeat (first | (with_reducible exact h2) | (with_reducible apply Eff.alloc) | (with_reducible refine Eff.setNew ?_ (by first | exact Nat.le_refl _ | omega) _ _))

set_option maxRecDepth 1000000 in
set_option maxHeartbeats 200000000 in
theorem ref_round_other (w : World) (g : Nat) (ad : Addr) (c : Nat) (l : List (ByteArray × ByteArray)) (res : Shp × List UInt8 × Int) (K : Act → World → Prop) (k : Nat) (rW rH rD rC rL : Int) (pal trans : ByteArray) (hasT palette idat gap : Bool) (bs : List UInt8) (v : Value) (wr : World) (d1 d6 d8 d16 d17 d18 d19 d20 d21 d22 d23 d24 d25 d26 d27 d28 d29 d30 d31 d32 d33 d34 d35 d36 d37 d38 d39 d40 d41 d42 d43 d44 d45 d46 d47 d48 d49 d50 d51 d52 d53 d54 d55 d56 d57 d58 d59 d60 d61 d62 d63 d64 d65 d66 d67 d68 d69 d260 x3 x4 x14 x15 x70 x71 x72 x73 x74 x75 x76 x77 x78 x79 x80 x81 x82 x83 x84 x85 x86 x87 x88 x89 x90 x91 x92 x93 x94 x95 x96 x97 x98 x99 x100 x101 x102 x103 x104 x105 x106 x107 x108 x109 x110 x111 x112 x113 x114 x115 x116 x117 x118 x119 x120 x121 x122 x123 x124 x125 x126 x127 x128 x129 x130 x131 x132 x133 x134 x135 x136 x137 x138 x139 x140 x141 x142 x143 x144 x145 x146 x147 x148 x149 x150 x151 x152 x153 x154 x155 x156 x157 x158 x159 x160 x161 x162 x163 x164 x165 x166 x167 x168 x169 x170 x171 x172 x173 x174 x175 x176 x177 x178 x179 x180 x181 x182 x183 x184 x185 x186 x187 x188 x189 x190 x191 x192 x193 x194 x195 x196 x197 x198 x199 x200 x201 x202 x203 x204 x205 x206 x207 x208 x209 x210 x211 x212 x213 x214 x215 x216 x217 x218 x219 x220 x221 x222 x223 x224 x225 x226 x227 x228 x229 x230 x231 x232 x233 x234 x235 x236 x237 x238 x239 x240 x241 x242 x243 x244 x245 x246 x247 x248 x249 x250 x251 x252 x253 x254 x255 x256 x257 x258 x259 : Value)
    (HL : l.length ≤ 1000000) (hsz : w.heap.size + 1 < g) (hadb : ad.block < w.heap.size) (HCC : Aside0 (l.length + 1 ≤ c)) (hinv : Aside0 (RefInv w g l res k ⟨rW, rH, rD, rC, rL, pal, trans, hasT, palette, idat, gap⟩ bs v wr))
    (hlt : k < l.length) (T' D' : ByteArray) (c0 : wr.cell? (ad.add ((k + 1) * 2)) = some (.string T')) (c1 : wr.cell? ⟨(ad.add ((k + 1) * 2)).block, (ad.add ((k + 1) * 2)).off + 1, none⟩ = some (.string D')) (hab : (ad.add ((k + 1) * 2)).block < wr.heap.size) (HDR : Aside0 (l.drop k = (T', D') :: l.drop (k + 1))) (hDs : D'.size ≤ 140737488351232) (hx : T'.toList ≠ tIHDR) (hx2 : T'.toList ≠ tPLTE) (hx3 : T'.toList ≠ tTRNS) (hx4 : T'.toList ≠ tIDAT) (hx5 : T'.toList ≠ tIEND) :
    Code.wp Try.prog refBody (Exit.then (fun a' w'' => RWI w g ad c l res d1 d6 d8 d16 d17 d18 d19 d20 d21 d22 d23 d24 d25 d26 d27 d28 d29 d30 d31 d32 d33 d34 d35 d36 d37 d38 d39 d40 d41 d42 d43 d44 d45 d46 d47 d48 d49 d50 d51 d52 d53 d54 d55 d56 d57 d58 d59 d60 d61 d62 d63 d64 d65 d66 d67 d68 d69 d260 a' w'' ∧ RMu l a' w'' < RMu l ⟨#[.slice (some ad) (l.length + 1) c, d1, .pointer (some ⟨w.heap.size, 0, none⟩), x3, x4, .pointer (some ⟨w.heap.size + 1, 0, none⟩), d6, .pointer (some ⟨g, 0, none⟩), d8, v, .bool palette, .bool idat, .bool gap, .int .i64 ((k : Int) + 1), x14, x15, d16, d17, d18, d19, d20, d21, d22, d23, d24, d25, d26, d27, d28, d29, d30, d31, d32, d33, d34, d35, d36, d37, d38, d39, d40, d41, d42, d43, d44, d45, d46, d47, d48, d49, d50, d51, d52, d53, d54, d55, d56, d57, d58, d59, d60, d61, d62, d63, d64, d65, d66, d67, d68, d69, x70, x71, x72, x73, x74, x75, x76, x77, x78, x79, x80, x81, x82, x83, x84, x85, x86, x87, x88, x89, x90, x91, x92, x93, x94, x95, x96, x97, x98, x99, x100, x101, x102, x103, x104, x105, x106, x107, x108, x109, x110, x111, x112, x113, x114, x115, x116, x117, x118, x119, x120, x121, x122, x123, x124, x125, x126, x127, x128, x129, x130, x131, x132, x133, x134, x135, x136, x137, x138, x139, x140, x141, x142, x143, x144, x145, x146, x147, x148, x149, x150, x151, x152, x153, x154, x155, x156, x157, x158, x159, x160, x161, x162, x163, x164, x165, x166, x167, x168, x169, x170, x171, x172, x173, x174, x175, x176, x177, x178, x179, x180, x181, x182, x183, x184, x185, x186, x187, x188, x189, x190, x191, x192, x193, x194, x195, x196, x197, x198, x199, x200, x201, x202, x203, x204, x205, x206, x207, x208, x209, x210, x211, x212, x213, x214, x215, x216, x217, x218, x219, x220, x221, x222, x223, x224, x225, x226, x227, x228, x229, x230, x231, x232, x233, x234, x235, x236, x237, x238, x239, x240, x241, x242, x243, x244, x245, x246, x247, x248, x249, x250, x251, x252, x253, x254, x255, x256, x257, x258, x259, d260], []⟩ wr) (Exit.inBlock 0 (Exit.then K (bodyPost Try.prog Try.f18 (Ret (readRes res) (fun w' => Eff w.heap.size [] w w')))))) ⟨#[.slice (some ad) (l.length + 1) c, d1, .pointer (some ⟨w.heap.size, 0, none⟩), x3, x4, .pointer (some ⟨w.heap.size + 1, 0, none⟩), d6, .pointer (some ⟨g, 0, none⟩), d8, v, .bool palette, .bool idat, .bool gap, .int .i64 ((k : Int) + 1), x14, x15, d16, d17, d18, d19, d20, d21, d22, d23, d24, d25, d26, d27, d28, d29, d30, d31, d32, d33, d34, d35, d36, d37, d38, d39, d40, d41, d42, d43, d44, d45, d46, d47, d48, d49, d50, d51, d52, d53, d54, d55, d56, d57, d58, d59, d60, d61, d62, d63, d64, d65, d66, d67, d68, d69, x70, x71, x72, x73, x74, x75, x76, x77, x78, x79, x80, x81, x82, x83, x84, x85, x86, x87, x88, x89, x90, x91, x92, x93, x94, x95, x96, x97, x98, x99, x100, x101, x102, x103, x104, x105, x106, x107, x108, x109, x110, x111, x112, x113, x114, x115, x116, x117, x118, x119, x120, x121, x122, x123, x124, x125, x126, x127, x128, x129, x130, x131, x132, x133, x134, x135, x136, x137, x138, x139, x140, x141, x142, x143, x144, x145, x146, x147, x148, x149, x150, x151, x152, x153, x154, x155, x156, x157, x158, x159, x160, x161, x162, x163, x164, x165, x166, x167, x168, x169, x170, x171, x172, x173, x174, x175, x176, x177, x178, x179, x180, x181, x182, x183, x184, x185, x186, x187, x188, x189, x190, x191, x192, x193, x194, x195, x196, x197, x198, x199, x200, x201, x202, x203, x204, x205, x206, x207, x208, x209, x210, x211, x212, x213, x214, x215, x216, x217, x218, x219, x220, x221, x222, x223, x224, x225, x226, x227, x228, x229, x230, x231, x232, x233, x234, x235, x236, x237, x238, x239, x240, x241, x242, x243, x244, x245, x246, x247, x248, x249, x250, x251, x252, x253, x254, x255, x256, x257, x258, x259, d260], []⟩ wr := by
  have hwr := blk_lt hinv.out.blk2
  have hgr := blk_lt hinv.out.blkg
  have hwr5 := blk_lt hinv.out.blk5
  obtain ⟨z0, z1, z2, z3, z4, z5, z6, z7⟩ := cells8 hinv.out.blk2
  obtain ⟨f0, f1, f2, f3, f4, f5, f6, f7⟩ := frozen8 hinv.out.blk2
  obtain ⟨y0, y1, y2, y3, y4, y5, y6, y7⟩ := cells8 hinv.out.blk5
  have HCOL : Aside0 (rC = 0 ∨ rC = 2 ∨ rC = 3 ∨ rC = 4 ∨ rC = 6) := Aside0.mk hinv.out.col
  have HOK : Aside0 (Rd.ok ⟨rW, rH, rD, rC, rL, pal, trans, hasT, palette, idat, gap⟩) := Aside0.mk hinv.out.ok
  have ti : (T'.toList == [73, 72, 68, 82]) = false := by rw [beq_eq_false_iff_ne]; exact hx
  have ti2 : (T'.toList == [80, 76, 84, 69]) = false := by rw [beq_eq_false_iff_ne]; exact hx2
  have ti3 : (T'.toList == [116, 82, 78, 83]) = false := by rw [beq_eq_false_iff_ne]; exact hx3
  have ti4 : (T'.toList == [73, 68, 65, 84]) = false := by rw [beq_eq_false_iff_ne]; exact hx4
  have ti5 : (T'.toList == [73, 69, 78, 68]) = false := by rw [beq_eq_false_iff_ne]; exact hx5
  conv => arg 2; whnf
  have htk := takes_oth (r := ⟨rW, rH, rD, rC, rL, pal, trans, hasT, palette, idat, gap⟩) (D := D') hx hx2 hx3 hx4
  have hne := hx5
  clear hx hx2 hx3 hx4 hx5
  by_cases z : T'.size = 0
  · have hc : ¬ isCritical T'.toList = true := by rw [(size_zero_iff T').2 z]; decide
    have bz : decide ((T'.size : Int) > 0) = false := by rw [decide_eq_false_iff_not]; omega
    have HC9 := Aside0.mk hc
    clear hc
    have htk2 : takesP ⟨rW, rH, rD, rC, rL, pal, trans, hasT, palette, idat, gap⟩ T' D' = (0, ⟨rW, rH, rD, rC, rL, pal, trans, hasT, palette, idat, idat⟩, []) := by rw [htk, if_neg HC9.out]
    have HPURE := Aside0.mk (show RefPure l res (k + 1) ⟨rW, rH, rD, rC, rL, pal, trans, hasT, palette, idat, idat⟩ (bs ++ []) from ⟨HOK.out, HCOL.out, step_len (x := []) hinv.out.len HDR.out (by simp), step_ok hinv.out.res HDR.out hne htk2⟩)
    have HMEM := Aside0.mk hinv.out.toRefMem
    clear htk htk2 hne
    go_wp2
    refine ⟨?_, by simp [RMu, intOf]; omega⟩
    rw [show (k : Int) + 1 + 1 = ((k + 1 : Nat) : Int) + 1 by omega]
    unfold RWI
    refine ⟨k + 1, ⟨rW, rH, rD, rC, rL, pal, trans, hasT, palette, idat, idat⟩, bs ++ [], v, by omega, Aside0.mk ⟨HPURE.out, ?_⟩, _, _, _, _, _, _, _, _, _, _, _, _, _, _, _, _, _, _, _, _, _, _, _, _, _, _, _, _, _, _, _, _, _, _, _, _, _, _, _, _, _, _, _, _, _, _, _, _, _, _, _, _, _, _, _, _, _, _, _, _, _, _, _, _, _, _, _, _, _, _, _, _, _, _, _, _, _, _, _, _, _, _, _, _, _, _, _, _, _, _, _, _, _, _, _, _, _, _, _, _, _, _, _, _, _, _, _, _, _, _, _, _, _, _, _, _, _, _, _, _, _, _, _, _, _, _, _, _, _, _, _, _, _, _, _, _, _, _, _, _, _, _, _, _, _, _, _, _, _, _, _, _, _, _, _, _, _, _, _, _, _, _, _, _, _, _, _, _, _, _, _, _, _, _, _, _, _, _, _, _, _, _, _, _, _, _, _, _, _, _, _, _, _, _, rfl⟩
    rw [List.append_nil]
    have hm := (HMEM.out).alloc (.cells #[.string T', .string D'] 30)
    with_reducible refine RefMem.cast hm ?_
    kernel_rfl
  · have hp : 0 < T'.size := by omega
    have hi0 : (0 : Int) < (T'.size : Int) := by omega
    have bz : decide ((T'.size : Int) > 0) = true := by rw [decide_eq_true_eq]; omega
    have hcr := crit_at hp
    by_cases a65 : 65 ≤ T'[0].toNat
    · have b65 : decide (((T'[0].toNat : Nat) : Int) ≥ 65) = true := by rw [decide_eq_true_eq]; omega
      by_cases a90 : T'[0].toNat ≤ 90
      · have b90 : decide (((T'[0].toNat : Nat) : Int) ≤ 90) = true := by rw [decide_eq_true_eq]; omega
        have HRQ := Aside0.mk (step_err hinv.out.res HDR.out hne (c := 27) (by rw [htk, hcr, if_pos (by simp [a65, a90])]) (by decide))
        clear hcr a65 a90 z
        clear htk hne
        go_wp2
        refine bodyPost_ret (results_cell3 rfl _ _ w.heap.size 36 shp0 (0, 0) _ rfl ?a1 Try.underlying36 rfl (by kernel_rfl)) rfl (Ret.mk' ?a2 ?a3)
        case a1 =>
          (with_reducible repeat (refine blk_alloc ?_ _))
          have e := blk_store8 (v0 := .int .i64 0) (v1 := .int .i64 0) (v2 := .int .i64 0) (v3 := .int .i64 0) (v4 := .int .i64 0) (v5 := .string ⟨#[]⟩) (v6 := .string ⟨#[]⟩) (v7 := .bool false) hinv.out.blk2
          simp only [storeL, Nat.zero_add, Nat.reduceAdd] at e
          with_reducible refine e.trans ?_
          rfl
        case a2 => rw [HRQ.out]; kernel_rfl
        case a3 =>
          have h2 := hinv.out.eff
          repeat (first | (with_reducible exact h2) | (with_reducible apply Eff.alloc) | (with_reducible refine Eff.setNew ?_ (by first | exact Nat.le_refl _ | omega) _ _))
      · have b90 : decide (((T'[0].toNat : Nat) : Int) ≤ 90) = false := by rw [decide_eq_false_iff_not]; omega
        have HC9 := Aside0.mk (show ¬ isCritical T'.toList = true by rw [hcr]; simp; omega)
        clear hcr a65 a90 z
        have htk2 : takesP ⟨rW, rH, rD, rC, rL, pal, trans, hasT, palette, idat, gap⟩ T' D' = (0, ⟨rW, rH, rD, rC, rL, pal, trans, hasT, palette, idat, idat⟩, []) := by rw [htk, if_neg HC9.out]
        have HPURE := Aside0.mk (show RefPure l res (k + 1) ⟨rW, rH, rD, rC, rL, pal, trans, hasT, palette, idat, idat⟩ (bs ++ []) from ⟨HOK.out, HCOL.out, step_len (x := []) hinv.out.len HDR.out (by simp), step_ok hinv.out.res HDR.out hne htk2⟩)
        have HMEM := Aside0.mk hinv.out.toRefMem
        clear htk htk2 hne
        go_wp2
        refine ⟨?_, by simp [RMu, intOf]; omega⟩
        rw [show (k : Int) + 1 + 1 = ((k + 1 : Nat) : Int) + 1 by omega]
        unfold RWI
        refine ⟨k + 1, ⟨rW, rH, rD, rC, rL, pal, trans, hasT, palette, idat, idat⟩, bs ++ [], v, by omega, Aside0.mk ⟨HPURE.out, ?_⟩, _, _, _, _, _, _, _, _, _, _, _, _, _, _, _, _, _, _, _, _, _, _, _, _, _, _, _, _, _, _, _, _, _, _, _, _, _, _, _, _, _, _, _, _, _, _, _, _, _, _, _, _, _, _, _, _, _, _, _, _, _, _, _, _, _, _, _, _, _, _, _, _, _, _, _, _, _, _, _, _, _, _, _, _, _, _, _, _, _, _, _, _, _, _, _, _, _, _, _, _, _, _, _, _, _, _, _, _, _, _, _, _, _, _, _, _, _, _, _, _, _, _, _, _, _, _, _, _, _, _, _, _, _, _, _, _, _, _, _, _, _, _, _, _, _, _, _, _, _, _, _, _, _, _, _, _, _, _, _, _, _, _, _, _, _, _, _, _, _, _, _, _, _, _, _, _, _, _, _, _, _, _, _, _, _, _, _, _, _, _, _, _, _, _, rfl⟩
        rw [List.append_nil]
        have hm := (HMEM.out).alloc (.cells #[.string T', .string D'] 30)
        with_reducible refine RefMem.cast hm ?_
        kernel_rfl
    · have b65 : decide (((T'[0].toNat : Nat) : Int) ≥ 65) = false := by rw [decide_eq_false_iff_not]; omega
      have HC9 := Aside0.mk (show ¬ isCritical T'.toList = true by rw [hcr]; simp; omega)
      clear hcr a65 z
      have htk2 : takesP ⟨rW, rH, rD, rC, rL, pal, trans, hasT, palette, idat, gap⟩ T' D' = (0, ⟨rW, rH, rD, rC, rL, pal, trans, hasT, palette, idat, idat⟩, []) := by rw [htk, if_neg HC9.out]
      have HPURE := Aside0.mk (show RefPure l res (k + 1) ⟨rW, rH, rD, rC, rL, pal, trans, hasT, palette, idat, idat⟩ (bs ++ []) from ⟨HOK.out, HCOL.out, step_len (x := []) hinv.out.len HDR.out (by simp), step_ok hinv.out.res HDR.out hne htk2⟩)
      have HMEM := Aside0.mk hinv.out.toRefMem
      clear htk htk2 hne
      go_wp2
      refine ⟨?_, by simp [RMu, intOf]; omega⟩
      rw [show (k : Int) + 1 + 1 = ((k + 1 : Nat) : Int) + 1 by omega]
      unfold RWI
      refine ⟨k + 1, ⟨rW, rH, rD, rC, rL, pal, trans, hasT, palette, idat, idat⟩, bs ++ [], v, by omega, Aside0.mk ⟨HPURE.out, ?_⟩, _, _, _, _, _, _, _, _, _, _, _, _, _, _, _, _, _, _, _, _, _, _, _, _, _, _, _, _, _, _, _, _, _, _, _, _, _, _, _, _, _, _, _, _, _, _, _, _, _, _, _, _, _, _, _, _, _, _, _, _, _, _, _, _, _, _, _, _, _, _, _, _, _, _, _, _, _, _, _, _, _, _, _, _, _, _, _, _, _, _, _, _, _, _, _, _, _, _, _, _, _, _, _, _, _, _, _, _, _, _, _, _, _, _, _, _, _, _, _, _, _, _, _, _, _, _, _, _, _, _, _, _, _, _, _, _, _, _, _, _, _, _, _, _, _, _, _, _, _, _, _, _, _, _, _, _, _, _, _, _, _, _, _, _, _, _, _, _, _, _, _, _, _, _, _, _, _, _, _, _, _, _, _, _, _, _, _, _, _, _, _, _, _, _, rfl⟩
      rw [List.append_nil]
      have hm := (HMEM.out).alloc (.cells #[.string T', .string D'] 30)
      with_reducible refine RefMem.cast hm ?_
      kernel_rfl


end Go.Proofs.Ytgkmfedjmmleeaa
