/- The loop of vitrineref08.Read: its rounds joined. -/
import Derived.Test.YtgkmfedjmmleeaaRefRoundA
import Derived.Test.YtgkmfedjmmleeaaRefRoundB
import Derived.Test.YtgkmfedjmmleeaaRefRoundC
import Derived.Test.YtgkmfedjmmleeaaRefRoundD
namespace Go.Proofs.Ytgkmfedjmmleeaa
open Go.RowKit Go.Proofs.YtgkmfedjmmleeaaW.PrintWords PHeadReads
set_option linter.unusedVariables false
set_option linter.unusedSimpArgs false

set_option maxRecDepth 1000000 in
set_option maxHeartbeats 200000000 in
theorem ref_round {w : World} {g : Nat} {ad : Addr} {c : Nat} {l : List (ByteArray × ByteArray)} {res : Shp × List UInt8 × Int} {K : Act → World → Prop} {T D : ByteArray} {d1 d6 d8 d16 d17 d18 d19 d20 d21 d22 d23 d24 d25 d26 d27 d28 d29 d30 d31 d32 d33 d34 d35 d36 d37 d38 d39 d40 d41 d42 d43 d44 d45 d46 d47 d48 d49 d50 d51 d52 d53 d54 d55 d56 d57 d58 d59 d60 d61 d62 d63 d64 d65 d66 d67 d68 d69 d260 : Value} (HL : l.length ≤ 1000000) (hsz : w.heap.size + 1 < g) (hadb : ad.block < w.heap.size) (HCC : Aside0 (l.length + 1 ≤ c)) (HCH : Aside0 (Chs w (some ad) ((T, D) :: l))) (HDS : Aside0 (∀ x ∈ l, x.2.size ≤ 140737488351232)) (hK : ∀ a w'', RX w g ad c l res d1 d6 d8 d16 d17 d18 d19 d20 d21 d22 d23 d24 d25 d26 d27 d28 d29 d30 d31 d32 d33 d34 d35 d36 d37 d38 d39 d40 d41 d42 d43 d44 d45 d46 d47 d48 d49 d50 d51 d52 d53 d54 d55 d56 d57 d58 d59 d60 d61 d62 d63 d64 d65 d66 d67 d68 d69 d260 a w'' → K a w'') (a : Act) (wr : World) (hI : RWI w g ad c l res d1 d6 d8 d16 d17 d18 d19 d20 d21 d22 d23 d24 d25 d26 d27 d28 d29 d30 d31 d32 d33 d34 d35 d36 d37 d38 d39 d40 d41 d42 d43 d44 d45 d46 d47 d48 d49 d50 d51 d52 d53 d54 d55 d56 d57 d58 d59 d60 d61 d62 d63 d64 d65 d66 d67 d68 d69 d260 a wr) :
    Code.wp Try.prog refBody (Exit.then (fun a' w'' => RWI w g ad c l res d1 d6 d8 d16 d17 d18 d19 d20 d21 d22 d23 d24 d25 d26 d27 d28 d29 d30 d31 d32 d33 d34 d35 d36 d37 d38 d39 d40 d41 d42 d43 d44 d45 d46 d47 d48 d49 d50 d51 d52 d53 d54 d55 d56 d57 d58 d59 d60 d61 d62 d63 d64 d65 d66 d67 d68 d69 d260 a' w'' ∧ RMu l a' w'' < RMu l a wr) (Exit.inBlock 0 (Exit.then K (bodyPost Try.prog Try.f18 (Ret (readRes res) (fun w' => Eff w.heap.size [] w w')))))) a wr := by
  unfold RWI at hI
  obtain ⟨k, r, bs, v, hk, hinv, hI⟩ := hI
  obtain ⟨x3, hI⟩ := hI
  obtain ⟨x4, hI⟩ := hI
  obtain ⟨x14, hI⟩ := hI
  obtain ⟨x15, hI⟩ := hI
  obtain ⟨x70, hI⟩ := hI
  obtain ⟨x71, hI⟩ := hI
  obtain ⟨x72, hI⟩ := hI
  obtain ⟨x73, hI⟩ := hI
  obtain ⟨x74, hI⟩ := hI
  obtain ⟨x75, hI⟩ := hI
  obtain ⟨x76, hI⟩ := hI
  obtain ⟨x77, hI⟩ := hI
  obtain ⟨x78, hI⟩ := hI
  obtain ⟨x79, hI⟩ := hI
  obtain ⟨x80, hI⟩ := hI
  obtain ⟨x81, hI⟩ := hI
  obtain ⟨x82, hI⟩ := hI
  obtain ⟨x83, hI⟩ := hI
  obtain ⟨x84, hI⟩ := hI
  obtain ⟨x85, hI⟩ := hI
  obtain ⟨x86, hI⟩ := hI
  obtain ⟨x87, hI⟩ := hI
  obtain ⟨x88, hI⟩ := hI
  obtain ⟨x89, hI⟩ := hI
  obtain ⟨x90, hI⟩ := hI
  obtain ⟨x91, hI⟩ := hI
  obtain ⟨x92, hI⟩ := hI
  obtain ⟨x93, hI⟩ := hI
  obtain ⟨x94, hI⟩ := hI
  obtain ⟨x95, hI⟩ := hI
  obtain ⟨x96, hI⟩ := hI
  obtain ⟨x97, hI⟩ := hI
  obtain ⟨x98, hI⟩ := hI
  obtain ⟨x99, hI⟩ := hI
  obtain ⟨x100, hI⟩ := hI
  obtain ⟨x101, hI⟩ := hI
  obtain ⟨x102, hI⟩ := hI
  obtain ⟨x103, hI⟩ := hI
  obtain ⟨x104, hI⟩ := hI
  obtain ⟨x105, hI⟩ := hI
  obtain ⟨x106, hI⟩ := hI
  obtain ⟨x107, hI⟩ := hI
  obtain ⟨x108, hI⟩ := hI
  obtain ⟨x109, hI⟩ := hI
  obtain ⟨x110, hI⟩ := hI
  obtain ⟨x111, hI⟩ := hI
  obtain ⟨x112, hI⟩ := hI
  obtain ⟨x113, hI⟩ := hI
  obtain ⟨x114, hI⟩ := hI
  obtain ⟨x115, hI⟩ := hI
  obtain ⟨x116, hI⟩ := hI
  obtain ⟨x117, hI⟩ := hI
  obtain ⟨x118, hI⟩ := hI
  obtain ⟨x119, hI⟩ := hI
  obtain ⟨x120, hI⟩ := hI
  obtain ⟨x121, hI⟩ := hI
  obtain ⟨x122, hI⟩ := hI
  obtain ⟨x123, hI⟩ := hI
  obtain ⟨x124, hI⟩ := hI
  obtain ⟨x125, hI⟩ := hI
  obtain ⟨x126, hI⟩ := hI
  obtain ⟨x127, hI⟩ := hI
  obtain ⟨x128, hI⟩ := hI
  obtain ⟨x129, hI⟩ := hI
  obtain ⟨x130, hI⟩ := hI
  obtain ⟨x131, hI⟩ := hI
  obtain ⟨x132, hI⟩ := hI
  obtain ⟨x133, hI⟩ := hI
  obtain ⟨x134, hI⟩ := hI
  obtain ⟨x135, hI⟩ := hI
  obtain ⟨x136, hI⟩ := hI
  obtain ⟨x137, hI⟩ := hI
  obtain ⟨x138, hI⟩ := hI
  obtain ⟨x139, hI⟩ := hI
  obtain ⟨x140, hI⟩ := hI
  obtain ⟨x141, hI⟩ := hI
  obtain ⟨x142, hI⟩ := hI
  obtain ⟨x143, hI⟩ := hI
  obtain ⟨x144, hI⟩ := hI
  obtain ⟨x145, hI⟩ := hI
  obtain ⟨x146, hI⟩ := hI
  obtain ⟨x147, hI⟩ := hI
  obtain ⟨x148, hI⟩ := hI
  obtain ⟨x149, hI⟩ := hI
  obtain ⟨x150, hI⟩ := hI
  obtain ⟨x151, hI⟩ := hI
  obtain ⟨x152, hI⟩ := hI
  obtain ⟨x153, hI⟩ := hI
  obtain ⟨x154, hI⟩ := hI
  obtain ⟨x155, hI⟩ := hI
  obtain ⟨x156, hI⟩ := hI
  obtain ⟨x157, hI⟩ := hI
  obtain ⟨x158, hI⟩ := hI
  obtain ⟨x159, hI⟩ := hI
  obtain ⟨x160, hI⟩ := hI
  obtain ⟨x161, hI⟩ := hI
  obtain ⟨x162, hI⟩ := hI
  obtain ⟨x163, hI⟩ := hI
  obtain ⟨x164, hI⟩ := hI
  obtain ⟨x165, hI⟩ := hI
  obtain ⟨x166, hI⟩ := hI
  obtain ⟨x167, hI⟩ := hI
  obtain ⟨x168, hI⟩ := hI
  obtain ⟨x169, hI⟩ := hI
  obtain ⟨x170, hI⟩ := hI
  obtain ⟨x171, hI⟩ := hI
  obtain ⟨x172, hI⟩ := hI
  obtain ⟨x173, hI⟩ := hI
  obtain ⟨x174, hI⟩ := hI
  obtain ⟨x175, hI⟩ := hI
  obtain ⟨x176, hI⟩ := hI
  obtain ⟨x177, hI⟩ := hI
  obtain ⟨x178, hI⟩ := hI
  obtain ⟨x179, hI⟩ := hI
  obtain ⟨x180, hI⟩ := hI
  obtain ⟨x181, hI⟩ := hI
  obtain ⟨x182, hI⟩ := hI
  obtain ⟨x183, hI⟩ := hI
  obtain ⟨x184, hI⟩ := hI
  obtain ⟨x185, hI⟩ := hI
  obtain ⟨x186, hI⟩ := hI
  obtain ⟨x187, hI⟩ := hI
  obtain ⟨x188, hI⟩ := hI
  obtain ⟨x189, hI⟩ := hI
  obtain ⟨x190, hI⟩ := hI
  obtain ⟨x191, hI⟩ := hI
  obtain ⟨x192, hI⟩ := hI
  obtain ⟨x193, hI⟩ := hI
  obtain ⟨x194, hI⟩ := hI
  obtain ⟨x195, hI⟩ := hI
  obtain ⟨x196, hI⟩ := hI
  obtain ⟨x197, hI⟩ := hI
  obtain ⟨x198, hI⟩ := hI
  obtain ⟨x199, hI⟩ := hI
  obtain ⟨x200, hI⟩ := hI
  obtain ⟨x201, hI⟩ := hI
  obtain ⟨x202, hI⟩ := hI
  obtain ⟨x203, hI⟩ := hI
  obtain ⟨x204, hI⟩ := hI
  obtain ⟨x205, hI⟩ := hI
  obtain ⟨x206, hI⟩ := hI
  obtain ⟨x207, hI⟩ := hI
  obtain ⟨x208, hI⟩ := hI
  obtain ⟨x209, hI⟩ := hI
  obtain ⟨x210, hI⟩ := hI
  obtain ⟨x211, hI⟩ := hI
  obtain ⟨x212, hI⟩ := hI
  obtain ⟨x213, hI⟩ := hI
  obtain ⟨x214, hI⟩ := hI
  obtain ⟨x215, hI⟩ := hI
  obtain ⟨x216, hI⟩ := hI
  obtain ⟨x217, hI⟩ := hI
  obtain ⟨x218, hI⟩ := hI
  obtain ⟨x219, hI⟩ := hI
  obtain ⟨x220, hI⟩ := hI
  obtain ⟨x221, hI⟩ := hI
  obtain ⟨x222, hI⟩ := hI
  obtain ⟨x223, hI⟩ := hI
  obtain ⟨x224, hI⟩ := hI
  obtain ⟨x225, hI⟩ := hI
  obtain ⟨x226, hI⟩ := hI
  obtain ⟨x227, hI⟩ := hI
  obtain ⟨x228, hI⟩ := hI
  obtain ⟨x229, hI⟩ := hI
  obtain ⟨x230, hI⟩ := hI
  obtain ⟨x231, hI⟩ := hI
  obtain ⟨x232, hI⟩ := hI
  obtain ⟨x233, hI⟩ := hI
  obtain ⟨x234, hI⟩ := hI
  obtain ⟨x235, hI⟩ := hI
  obtain ⟨x236, hI⟩ := hI
  obtain ⟨x237, hI⟩ := hI
  obtain ⟨x238, hI⟩ := hI
  obtain ⟨x239, hI⟩ := hI
  obtain ⟨x240, hI⟩ := hI
  obtain ⟨x241, hI⟩ := hI
  obtain ⟨x242, hI⟩ := hI
  obtain ⟨x243, hI⟩ := hI
  obtain ⟨x244, hI⟩ := hI
  obtain ⟨x245, hI⟩ := hI
  obtain ⟨x246, hI⟩ := hI
  obtain ⟨x247, hI⟩ := hI
  obtain ⟨x248, hI⟩ := hI
  obtain ⟨x249, hI⟩ := hI
  obtain ⟨x250, hI⟩ := hI
  obtain ⟨x251, hI⟩ := hI
  obtain ⟨x252, hI⟩ := hI
  obtain ⟨x253, hI⟩ := hI
  obtain ⟨x254, hI⟩ := hI
  obtain ⟨x255, hI⟩ := hI
  obtain ⟨x256, hI⟩ := hI
  obtain ⟨x257, hI⟩ := hI
  obtain ⟨x258, hI⟩ := hI
  obtain ⟨x259, hI⟩ := hI
  subst hI
  obtain ⟨rW, rH, rD, rC, rL, pal, trans, hasT, palette, idat, gap⟩ := r
  by_cases hlt : k < l.length
  · obtain ⟨T', D', hTD⟩ : ∃ T' D', l[k]? = some (T', D') := ⟨l[k].1, l[k].2, by rw [List.getElem?_eq_getElem hlt]⟩
    obtain ⟨ad', e1, c0, c1⟩ := (HCH.out.below (hinv.out.eff.below' (Nat.le_refl _))) (k + 1) T' D' hTD
    injection e1 with e1
    subst e1
    have hab : (ad.add ((k + 1) * 2)).block < wr.heap.size := World.block_lt_of_cell? wr _ c0
    have hdrop : l.drop k = (T', D') :: l.drop (k + 1) := by
      rw [List.drop_eq_getElem_cons hlt]
      rw [List.getElem?_eq_getElem hlt] at hTD
      injection hTD with hTD
      rw [hTD]
    have hmem : (T', D') ∈ l := List.mem_of_getElem? hTD
    have hDs : D'.size ≤ 140737488351232 := HDS.out _ hmem
    have HDR := Aside0.mk hdrop
    by_cases hx : T'.toList = tIHDR
    · exact ref_round_IHDR w g ad c l res K k rW rH rD rC rL pal trans hasT palette idat gap bs v wr d1 d6 d8 d16 d17 d18 d19 d20 d21 d22 d23 d24 d25 d26 d27 d28 d29 d30 d31 d32 d33 d34 d35 d36 d37 d38 d39 d40 d41 d42 d43 d44 d45 d46 d47 d48 d49 d50 d51 d52 d53 d54 d55 d56 d57 d58 d59 d60 d61 d62 d63 d64 d65 d66 d67 d68 d69 d260 x3 x4 x14 x15 x70 x71 x72 x73 x74 x75 x76 x77 x78 x79 x80 x81 x82 x83 x84 x85 x86 x87 x88 x89 x90 x91 x92 x93 x94 x95 x96 x97 x98 x99 x100 x101 x102 x103 x104 x105 x106 x107 x108 x109 x110 x111 x112 x113 x114 x115 x116 x117 x118 x119 x120 x121 x122 x123 x124 x125 x126 x127 x128 x129 x130 x131 x132 x133 x134 x135 x136 x137 x138 x139 x140 x141 x142 x143 x144 x145 x146 x147 x148 x149 x150 x151 x152 x153 x154 x155 x156 x157 x158 x159 x160 x161 x162 x163 x164 x165 x166 x167 x168 x169 x170 x171 x172 x173 x174 x175 x176 x177 x178 x179 x180 x181 x182 x183 x184 x185 x186 x187 x188 x189 x190 x191 x192 x193 x194 x195 x196 x197 x198 x199 x200 x201 x202 x203 x204 x205 x206 x207 x208 x209 x210 x211 x212 x213 x214 x215 x216 x217 x218 x219 x220 x221 x222 x223 x224 x225 x226 x227 x228 x229 x230 x231 x232 x233 x234 x235 x236 x237 x238 x239 x240 x241 x242 x243 x244 x245 x246 x247 x248 x249 x250 x251 x252 x253 x254 x255 x256 x257 x258 x259 HL hsz hadb HCC hinv hlt T' D' c0 c1 hab HDR hDs hx
    by_cases hx2 : T'.toList = tPLTE
    · exact ref_round_PLTE w g ad c l res K k rW rH rD rC rL pal trans hasT palette idat gap bs v wr d1 d6 d8 d16 d17 d18 d19 d20 d21 d22 d23 d24 d25 d26 d27 d28 d29 d30 d31 d32 d33 d34 d35 d36 d37 d38 d39 d40 d41 d42 d43 d44 d45 d46 d47 d48 d49 d50 d51 d52 d53 d54 d55 d56 d57 d58 d59 d60 d61 d62 d63 d64 d65 d66 d67 d68 d69 d260 x3 x4 x14 x15 x70 x71 x72 x73 x74 x75 x76 x77 x78 x79 x80 x81 x82 x83 x84 x85 x86 x87 x88 x89 x90 x91 x92 x93 x94 x95 x96 x97 x98 x99 x100 x101 x102 x103 x104 x105 x106 x107 x108 x109 x110 x111 x112 x113 x114 x115 x116 x117 x118 x119 x120 x121 x122 x123 x124 x125 x126 x127 x128 x129 x130 x131 x132 x133 x134 x135 x136 x137 x138 x139 x140 x141 x142 x143 x144 x145 x146 x147 x148 x149 x150 x151 x152 x153 x154 x155 x156 x157 x158 x159 x160 x161 x162 x163 x164 x165 x166 x167 x168 x169 x170 x171 x172 x173 x174 x175 x176 x177 x178 x179 x180 x181 x182 x183 x184 x185 x186 x187 x188 x189 x190 x191 x192 x193 x194 x195 x196 x197 x198 x199 x200 x201 x202 x203 x204 x205 x206 x207 x208 x209 x210 x211 x212 x213 x214 x215 x216 x217 x218 x219 x220 x221 x222 x223 x224 x225 x226 x227 x228 x229 x230 x231 x232 x233 x234 x235 x236 x237 x238 x239 x240 x241 x242 x243 x244 x245 x246 x247 x248 x249 x250 x251 x252 x253 x254 x255 x256 x257 x258 x259 HL hsz hadb HCC hinv hlt T' D' c0 c1 hab HDR hDs hx hx2
    by_cases hx3 : T'.toList = tTRNS
    · exact ref_round_tRNS w g ad c l res K k rW rH rD rC rL pal trans hasT palette idat gap bs v wr d1 d6 d8 d16 d17 d18 d19 d20 d21 d22 d23 d24 d25 d26 d27 d28 d29 d30 d31 d32 d33 d34 d35 d36 d37 d38 d39 d40 d41 d42 d43 d44 d45 d46 d47 d48 d49 d50 d51 d52 d53 d54 d55 d56 d57 d58 d59 d60 d61 d62 d63 d64 d65 d66 d67 d68 d69 d260 x3 x4 x14 x15 x70 x71 x72 x73 x74 x75 x76 x77 x78 x79 x80 x81 x82 x83 x84 x85 x86 x87 x88 x89 x90 x91 x92 x93 x94 x95 x96 x97 x98 x99 x100 x101 x102 x103 x104 x105 x106 x107 x108 x109 x110 x111 x112 x113 x114 x115 x116 x117 x118 x119 x120 x121 x122 x123 x124 x125 x126 x127 x128 x129 x130 x131 x132 x133 x134 x135 x136 x137 x138 x139 x140 x141 x142 x143 x144 x145 x146 x147 x148 x149 x150 x151 x152 x153 x154 x155 x156 x157 x158 x159 x160 x161 x162 x163 x164 x165 x166 x167 x168 x169 x170 x171 x172 x173 x174 x175 x176 x177 x178 x179 x180 x181 x182 x183 x184 x185 x186 x187 x188 x189 x190 x191 x192 x193 x194 x195 x196 x197 x198 x199 x200 x201 x202 x203 x204 x205 x206 x207 x208 x209 x210 x211 x212 x213 x214 x215 x216 x217 x218 x219 x220 x221 x222 x223 x224 x225 x226 x227 x228 x229 x230 x231 x232 x233 x234 x235 x236 x237 x238 x239 x240 x241 x242 x243 x244 x245 x246 x247 x248 x249 x250 x251 x252 x253 x254 x255 x256 x257 x258 x259 HL hsz hadb HCC hinv hlt T' D' c0 c1 hab HDR hDs hx hx2 hx3
    by_cases hx4 : T'.toList = tIDAT
    · exact ref_round_IDAT w g ad c l res K k rW rH rD rC rL pal trans hasT palette idat gap bs v wr d1 d6 d8 d16 d17 d18 d19 d20 d21 d22 d23 d24 d25 d26 d27 d28 d29 d30 d31 d32 d33 d34 d35 d36 d37 d38 d39 d40 d41 d42 d43 d44 d45 d46 d47 d48 d49 d50 d51 d52 d53 d54 d55 d56 d57 d58 d59 d60 d61 d62 d63 d64 d65 d66 d67 d68 d69 d260 x3 x4 x14 x15 x70 x71 x72 x73 x74 x75 x76 x77 x78 x79 x80 x81 x82 x83 x84 x85 x86 x87 x88 x89 x90 x91 x92 x93 x94 x95 x96 x97 x98 x99 x100 x101 x102 x103 x104 x105 x106 x107 x108 x109 x110 x111 x112 x113 x114 x115 x116 x117 x118 x119 x120 x121 x122 x123 x124 x125 x126 x127 x128 x129 x130 x131 x132 x133 x134 x135 x136 x137 x138 x139 x140 x141 x142 x143 x144 x145 x146 x147 x148 x149 x150 x151 x152 x153 x154 x155 x156 x157 x158 x159 x160 x161 x162 x163 x164 x165 x166 x167 x168 x169 x170 x171 x172 x173 x174 x175 x176 x177 x178 x179 x180 x181 x182 x183 x184 x185 x186 x187 x188 x189 x190 x191 x192 x193 x194 x195 x196 x197 x198 x199 x200 x201 x202 x203 x204 x205 x206 x207 x208 x209 x210 x211 x212 x213 x214 x215 x216 x217 x218 x219 x220 x221 x222 x223 x224 x225 x226 x227 x228 x229 x230 x231 x232 x233 x234 x235 x236 x237 x238 x239 x240 x241 x242 x243 x244 x245 x246 x247 x248 x249 x250 x251 x252 x253 x254 x255 x256 x257 x258 x259 HL hsz hadb HCC hinv hlt T' D' c0 c1 hab HDR hDs hx hx2 hx3 hx4
    by_cases hx5 : T'.toList = tIEND
    · exact ref_round_IEND w g ad c l res K k rW rH rD rC rL pal trans hasT palette idat gap bs v wr d1 d6 d8 d16 d17 d18 d19 d20 d21 d22 d23 d24 d25 d26 d27 d28 d29 d30 d31 d32 d33 d34 d35 d36 d37 d38 d39 d40 d41 d42 d43 d44 d45 d46 d47 d48 d49 d50 d51 d52 d53 d54 d55 d56 d57 d58 d59 d60 d61 d62 d63 d64 d65 d66 d67 d68 d69 d260 x3 x4 x14 x15 x70 x71 x72 x73 x74 x75 x76 x77 x78 x79 x80 x81 x82 x83 x84 x85 x86 x87 x88 x89 x90 x91 x92 x93 x94 x95 x96 x97 x98 x99 x100 x101 x102 x103 x104 x105 x106 x107 x108 x109 x110 x111 x112 x113 x114 x115 x116 x117 x118 x119 x120 x121 x122 x123 x124 x125 x126 x127 x128 x129 x130 x131 x132 x133 x134 x135 x136 x137 x138 x139 x140 x141 x142 x143 x144 x145 x146 x147 x148 x149 x150 x151 x152 x153 x154 x155 x156 x157 x158 x159 x160 x161 x162 x163 x164 x165 x166 x167 x168 x169 x170 x171 x172 x173 x174 x175 x176 x177 x178 x179 x180 x181 x182 x183 x184 x185 x186 x187 x188 x189 x190 x191 x192 x193 x194 x195 x196 x197 x198 x199 x200 x201 x202 x203 x204 x205 x206 x207 x208 x209 x210 x211 x212 x213 x214 x215 x216 x217 x218 x219 x220 x221 x222 x223 x224 x225 x226 x227 x228 x229 x230 x231 x232 x233 x234 x235 x236 x237 x238 x239 x240 x241 x242 x243 x244 x245 x246 x247 x248 x249 x250 x251 x252 x253 x254 x255 x256 x257 x258 x259 HL hsz hadb HCC hinv hlt T' D' c0 c1 hab HDR hDs hx hx2 hx3 hx4 hx5
    exact ref_round_other w g ad c l res K k rW rH rD rC rL pal trans hasT palette idat gap bs v wr d1 d6 d8 d16 d17 d18 d19 d20 d21 d22 d23 d24 d25 d26 d27 d28 d29 d30 d31 d32 d33 d34 d35 d36 d37 d38 d39 d40 d41 d42 d43 d44 d45 d46 d47 d48 d49 d50 d51 d52 d53 d54 d55 d56 d57 d58 d59 d60 d61 d62 d63 d64 d65 d66 d67 d68 d69 d260 x3 x4 x14 x15 x70 x71 x72 x73 x74 x75 x76 x77 x78 x79 x80 x81 x82 x83 x84 x85 x86 x87 x88 x89 x90 x91 x92 x93 x94 x95 x96 x97 x98 x99 x100 x101 x102 x103 x104 x105 x106 x107 x108 x109 x110 x111 x112 x113 x114 x115 x116 x117 x118 x119 x120 x121 x122 x123 x124 x125 x126 x127 x128 x129 x130 x131 x132 x133 x134 x135 x136 x137 x138 x139 x140 x141 x142 x143 x144 x145 x146 x147 x148 x149 x150 x151 x152 x153 x154 x155 x156 x157 x158 x159 x160 x161 x162 x163 x164 x165 x166 x167 x168 x169 x170 x171 x172 x173 x174 x175 x176 x177 x178 x179 x180 x181 x182 x183 x184 x185 x186 x187 x188 x189 x190 x191 x192 x193 x194 x195 x196 x197 x198 x199 x200 x201 x202 x203 x204 x205 x206 x207 x208 x209 x210 x211 x212 x213 x214 x215 x216 x217 x218 x219 x220 x221 x222 x223 x224 x225 x226 x227 x228 x229 x230 x231 x232 x233 x234 x235 x236 x237 x238 x239 x240 x241 x242 x243 x244 x245 x246 x247 x248 x249 x250 x251 x252 x253 x254 x255 x256 x257 x258 x259 HL hsz hadb HCC hinv hlt T' D' c0 c1 hab HDR hDs hx hx2 hx3 hx4 hx5
  · exact ref_round_done w g ad c l res K k rW rH rD rC rL pal trans hasT palette idat gap bs v wr d1 d6 d8 d16 d17 d18 d19 d20 d21 d22 d23 d24 d25 d26 d27 d28 d29 d30 d31 d32 d33 d34 d35 d36 d37 d38 d39 d40 d41 d42 d43 d44 d45 d46 d47 d48 d49 d50 d51 d52 d53 d54 d55 d56 d57 d58 d59 d60 d61 d62 d63 d64 d65 d66 d67 d68 d69 d260 x3 x4 x14 x15 x70 x71 x72 x73 x74 x75 x76 x77 x78 x79 x80 x81 x82 x83 x84 x85 x86 x87 x88 x89 x90 x91 x92 x93 x94 x95 x96 x97 x98 x99 x100 x101 x102 x103 x104 x105 x106 x107 x108 x109 x110 x111 x112 x113 x114 x115 x116 x117 x118 x119 x120 x121 x122 x123 x124 x125 x126 x127 x128 x129 x130 x131 x132 x133 x134 x135 x136 x137 x138 x139 x140 x141 x142 x143 x144 x145 x146 x147 x148 x149 x150 x151 x152 x153 x154 x155 x156 x157 x158 x159 x160 x161 x162 x163 x164 x165 x166 x167 x168 x169 x170 x171 x172 x173 x174 x175 x176 x177 x178 x179 x180 x181 x182 x183 x184 x185 x186 x187 x188 x189 x190 x191 x192 x193 x194 x195 x196 x197 x198 x199 x200 x201 x202 x203 x204 x205 x206 x207 x208 x209 x210 x211 x212 x213 x214 x215 x216 x217 x218 x219 x220 x221 x222 x223 x224 x225 x226 x227 x228 x229 x230 x231 x232 x233 x234 x235 x236 x237 x238 x239 x240 x241 x242 x243 x244 x245 x246 x247 x248 x249 x250 x251 x252 x253 x254 x255 x256 x257 x258 x259 HL hsz hadb HCC hinv hlt hk hK

set_option maxRecDepth 1000000 in
set_option maxHeartbeats 200000000 in
theorem ref_loop {w : World} {g : Nat} {ad : Addr} {c : Nat} {l : List (ByteArray × ByteArray)} {res : Shp × List UInt8 × Int} {K : Act → World → Prop} {T D : ByteArray} {d1 d6 d8 d16 d17 d18 d19 d20 d21 d22 d23 d24 d25 d26 d27 d28 d29 d30 d31 d32 d33 d34 d35 d36 d37 d38 d39 d40 d41 d42 d43 d44 d45 d46 d47 d48 d49 d50 d51 d52 d53 d54 d55 d56 d57 d58 d59 d60 d61 d62 d63 d64 d65 d66 d67 d68 d69 d260 x3 x4 x14 x15 x70 x71 x72 x73 x74 x75 x76 x77 x78 x79 x80 x81 x82 x83 x84 x85 x86 x87 x88 x89 x90 x91 x92 x93 x94 x95 x96 x97 x98 x99 x100 x101 x102 x103 x104 x105 x106 x107 x108 x109 x110 x111 x112 x113 x114 x115 x116 x117 x118 x119 x120 x121 x122 x123 x124 x125 x126 x127 x128 x129 x130 x131 x132 x133 x134 x135 x136 x137 x138 x139 x140 x141 x142 x143 x144 x145 x146 x147 x148 x149 x150 x151 x152 x153 x154 x155 x156 x157 x158 x159 x160 x161 x162 x163 x164 x165 x166 x167 x168 x169 x170 x171 x172 x173 x174 x175 x176 x177 x178 x179 x180 x181 x182 x183 x184 x185 x186 x187 x188 x189 x190 x191 x192 x193 x194 x195 x196 x197 x198 x199 x200 x201 x202 x203 x204 x205 x206 x207 x208 x209 x210 x211 x212 x213 x214 x215 x216 x217 x218 x219 x220 x221 x222 x223 x224 x225 x226 x227 x228 x229 x230 x231 x232 x233 x234 x235 x236 x237 x238 x239 x240 x241 x242 x243 x244 x245 x246 x247 x248 x249 x250 x251 x252 x253 x254 x255 x256 x257 x258 x259 : Value} {r : Rd} {wr : World} (HL : l.length ≤ 1000000) (hsz : w.heap.size + 1 < g) (hadb : ad.block < w.heap.size) (HCC : Aside0 (l.length + 1 ≤ c)) (HCH : Aside0 (Chs w (some ad) ((T, D) :: l))) (HDS : Aside0 (∀ x ∈ l, x.2.size ≤ 140737488351232)) (hp : r.palette = false) (hi : r.idat = false) (hg : r.gap = false) (hinv : Aside0 (RefInv w g l res 0 r [] (.slice none 0 0) wr)) (hK : ∀ a w'', RX w g ad c l res d1 d6 d8 d16 d17 d18 d19 d20 d21 d22 d23 d24 d25 d26 d27 d28 d29 d30 d31 d32 d33 d34 d35 d36 d37 d38 d39 d40 d41 d42 d43 d44 d45 d46 d47 d48 d49 d50 d51 d52 d53 d54 d55 d56 d57 d58 d59 d60 d61 d62 d63 d64 d65 d66 d67 d68 d69 d260 a w'' → K a w'') :
    Code.wp Try.prog (Code.loop refBody) (Exit.inBlock 0 (Exit.then K (bodyPost Try.prog Try.f18 (Ret (readRes res) (fun w' => Eff w.heap.size [] w w'))))) ⟨#[.slice (some ad) (l.length + 1) c, d1, .pointer (some ⟨w.heap.size, 0, none⟩), x3, x4, .pointer (some ⟨w.heap.size + 1, 0, none⟩), d6, .pointer (some ⟨g, 0, none⟩), d8, .slice none 0 0, .bool false, .bool false, .bool false, .int .i64 1, x14, x15, d16, d17, d18, d19, d20, d21, d22, d23, d24, d25, d26, d27, d28, d29, d30, d31, d32, d33, d34, d35, d36, d37, d38, d39, d40, d41, d42, d43, d44, d45, d46, d47, d48, d49, d50, d51, d52, d53, d54, d55, d56, d57, d58, d59, d60, d61, d62, d63, d64, d65, d66, d67, d68, d69, x70, x71, x72, x73, x74, x75, x76, x77, x78, x79, x80, x81, x82, x83, x84, x85, x86, x87, x88, x89, x90, x91, x92, x93, x94, x95, x96, x97, x98, x99, x100, x101, x102, x103, x104, x105, x106, x107, x108, x109, x110, x111, x112, x113, x114, x115, x116, x117, x118, x119, x120, x121, x122, x123, x124, x125, x126, x127, x128, x129, x130, x131, x132, x133, x134, x135, x136, x137, x138, x139, x140, x141, x142, x143, x144, x145, x146, x147, x148, x149, x150, x151, x152, x153, x154, x155, x156, x157, x158, x159, x160, x161, x162, x163, x164, x165, x166, x167, x168, x169, x170, x171, x172, x173, x174, x175, x176, x177, x178, x179, x180, x181, x182, x183, x184, x185, x186, x187, x188, x189, x190, x191, x192, x193, x194, x195, x196, x197, x198, x199, x200, x201, x202, x203, x204, x205, x206, x207, x208, x209, x210, x211, x212, x213, x214, x215, x216, x217, x218, x219, x220, x221, x222, x223, x224, x225, x226, x227, x228, x229, x230, x231, x232, x233, x234, x235, x236, x237, x238, x239, x240, x241, x242, x243, x244, x245, x246, x247, x248, x249, x250, x251, x252, x253, x254, x255, x256, x257, x258, x259, d260], []⟩ wr := by
  refine wp_loop (RWI w g ad c l res d1 d6 d8 d16 d17 d18 d19 d20 d21 d22 d23 d24 d25 d26 d27 d28 d29 d30 d31 d32 d33 d34 d35 d36 d37 d38 d39 d40 d41 d42 d43 d44 d45 d46 d47 d48 d49 d50 d51 d52 d53 d54 d55 d56 d57 d58 d59 d60 d61 d62 d63 d64 d65 d66 d67 d68 d69 d260) (RMu l) ?_ (fun a w'' hI => ref_round HL hsz hadb HCC HCH HDS hK a w'' hI)
  unfold RWI
  refine ⟨0, r, [], .slice none 0 0, Nat.zero_le _, hinv, x3, x4, x14, x15, x70, x71, x72, x73, x74, x75, x76, x77, x78, x79, x80, x81, x82, x83, x84, x85, x86, x87, x88, x89, x90, x91, x92, x93, x94, x95, x96, x97, x98, x99, x100, x101, x102, x103, x104, x105, x106, x107, x108, x109, x110, x111, x112, x113, x114, x115, x116, x117, x118, x119, x120, x121, x122, x123, x124, x125, x126, x127, x128, x129, x130, x131, x132, x133, x134, x135, x136, x137, x138, x139, x140, x141, x142, x143, x144, x145, x146, x147, x148, x149, x150, x151, x152, x153, x154, x155, x156, x157, x158, x159, x160, x161, x162, x163, x164, x165, x166, x167, x168, x169, x170, x171, x172, x173, x174, x175, x176, x177, x178, x179, x180, x181, x182, x183, x184, x185, x186, x187, x188, x189, x190, x191, x192, x193, x194, x195, x196, x197, x198, x199, x200, x201, x202, x203, x204, x205, x206, x207, x208, x209, x210, x211, x212, x213, x214, x215, x216, x217, x218, x219, x220, x221, x222, x223, x224, x225, x226, x227, x228, x229, x230, x231, x232, x233, x234, x235, x236, x237, x238, x239, x240, x241, x242, x243, x244, x245, x246, x247, x248, x249, x250, x251, x252, x253, x254, x255, x256, x257, x258, x259, ?_⟩
  rw [hp, hi, hg]
  rfl

end Go.Proofs.Ytgkmfedjmmleeaa
