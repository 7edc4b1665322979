/- Layer 8 as plain functions: which heads may be, what chunks say. No program in sight. -/
import GoSem.Core.Value
namespace Go.Proofs.Ytgkmfedjmmleeaa

/-- What was met of an image till now (without the bytes of the IDATs). -/
structure Rd where
  W : Int
  H : Int
  D : Int
  C : Int
  L : Int
  pal : ByteArray
  trans : ByteArray
  hasT : Bool
  palette : Bool
  idat : Bool
  gap : Bool

def colourDepth (C D : Int) : Bool :=
  if C = 0 then decide (D = 1 ∨ D = 2 ∨ D = 4 ∨ D = 8 ∨ D = 16)
  else if C = 3 then decide (D = 1 ∨ D = 2 ∨ D = 4 ∨ D = 8)
  else if C = 2 ∨ C = 4 ∨ C = 6 then decide (D = 8 ∨ D = 16)
  else false

/-- Right's answer. -/
def rightP (W H D C L : Int) : Int :=
  if W < 1 ∨ W > 2147483647 ∨ H < 1 ∨ H > 2147483647 ∨ colourDepth C D = false ∨ (L ≠ 0 ∧ L ≠ 1) then 24
  else if W > 1024 ∨ H > 1024 ∨ W * H > 4096 then 5
  else 0

def samplesP (C : Int) : Int := if C = 0 ∨ C = 3 then 1 else if C = 4 then 2 else if C = 2 then 3 else if C = 6 then 4 else 0

def plteP (r : Rd) (d : ByteArray) : Int × Rd :=
  if r.palette = true ∨ r.hasT = true ∨ r.idat = true then (23, r)
  else if r.C = 0 ∨ r.C = 4 ∨ (d.size : Int) % 3 ≠ 0 ∨ d.size = 0 ∨ (d.size : Int) > 768 ∨ (r.C = 3 ∧ (d.size : Int) / 3 > 2 ^ r.D.toNat) then (25, r)
  else (0, { r with palette := true, pal := d })

def trnsP (r : Rd) (d : ByteArray) : Int × Rd :=
  if r.hasT = true ∨ r.idat = true ∨ (r.C = 3 ∧ r.palette = false) then (23, r)
  else if (r.C = 0 ∧ d.size = 2) ∨ (r.C = 2 ∧ d.size = 6) ∨ (r.C = 3 ∧ (d.size : Int) ≤ (r.pal.size : Int) / 3) then (0, { r with hasT := true, trans := d })
  else (26, r)

def isCritical (T : List UInt8) : Bool := match T with | [] => false | c :: _ => decide (65 ≤ c.toNat ∧ c.toNat ≤ 90)

def tIHDR : List UInt8 := [73, 72, 68, 82]
def tPLTE : List UInt8 := [80, 76, 84, 69]
def tTRNS : List UInt8 := [116, 82, 78, 83]
def tIDAT : List UInt8 := [73, 68, 65, 84]
def tIEND : List UInt8 := [73, 69, 78, 68]

/-- A chunk that is no IEND: the error, what was met behind it, the bytes that it gave. -/
def takesP (r : Rd) (T D : ByteArray) : Int × Rd × List UInt8 :=
  if T.toList = tIHDR then (23, { r with gap := r.idat }, [])
  else if T.toList = tPLTE then ((plteP r D).1, { (plteP r D).2 with gap := (plteP r D).2.idat }, [])
  else if T.toList = tTRNS then ((trnsP r D).1, { (trnsP r D).2 with gap := (trnsP r D).2.idat }, [])
  else if T.toList = tIDAT then
    if r.gap = true ∨ (r.C = 3 ∧ r.palette = false) then (23, r, []) else (0, { r with idat := true }, D.data.toList)
  else ((if isCritical T.toList = true then 27 else 0), { r with gap := r.idat }, [])

/-- What is wrong at an IEND, with so many chunks behind it. -/
def endsP (r : Rd) (D : ByteArray) (behind : Int) : Int :=
  if D.toList ≠ [] then 21 else if r.idat = false then 23 else if behind > 0 then 4 else 0

/-- What the first chunk says. -/
def big4 (s : ByteArray) (i : Nat) : Int := ((s.data.getD i 0).toNat : Int) * 16777216 + ((s.data.getD (i + 1) 0).toNat : Int) * 65536 + ((s.data.getD (i + 2) 0).toNat : Int) * 256 + ((s.data.getD (i + 3) 0).toNat : Int)
def byteAt (s : ByteArray) (i : Nat) : Int := ((s.data.getD i 0).toNat : Int)

structure Hd where
  W : Int
  H : Int
  D : Int
  C : Int
  L : Int
deriving DecidableEq

def Hd.right (h : Hd) : Int := rightP h.W h.H h.D h.C h.L
def hdZero : Hd := ⟨0, 0, 0, 0, 0⟩
def firstHd (d : ByteArray) : Hd := ⟨big4 d 0, big4 d 4, byteAt d 8, byteAt d 9, byteAt d 12⟩

def firstP (T d : ByteArray) : Hd × Int :=
  if T.toList ≠ tIHDR then (hdZero, 23)
  else if d.size ≠ 13 ∨ byteAt d 10 ≠ 0 ∨ byteAt d 11 ≠ 0 then (hdZero, 24)
  else (firstHd d, (firstHd d).right)

def rdOf (h : Hd) : Rd := ⟨h.W, h.H, h.D, h.C, h.L, ⟨#[]⟩, ⟨#[]⟩, false, false, false, false⟩

structure Shp where
  W : Int
  H : Int
  D : Int
  C : Int
  L : Int
  pal : ByteArray
  trans : ByteArray
  hasT : Bool

def shpZero : Shp := ⟨0, 0, 0, 0, 0, ⟨#[]⟩, ⟨#[]⟩, false⟩
def Rd.shp (r : Rd) : Shp := ⟨r.W, r.H, r.D, r.C, r.L, r.pal, r.trans, r.hasT⟩

/-- The chunks behind the first: the shape, the bytes, the error. -/
def goOnP : Rd → List UInt8 → List (ByteArray × ByteArray) → Shp × List UInt8 × Int
  | _, _, [] => (shpZero, [], 3)
  | r, bs, (T, D) :: rest =>
    if T.toList = tIEND then
      if endsP r D rest.length = 0 then (r.shp, bs, 0) else (shpZero, [], endsP r D rest.length)
    else if (takesP r T D).1 = 0 then goOnP (takesP r T D).2.1 (bs ++ (takesP r T D).2.2) rest
    else (shpZero, [], (takesP r T D).1)

def readP : List (ByteArray × ByteArray) → Shp × List UInt8 × Int
  | [] => (shpZero, [], 23)
  | (T, D) :: rest => if (firstP T D).2 ≠ 0 then (shpZero, [], (firstP T D).2) else goOnP (rdOf (firstP T D).1) [] rest

/-- The bounds that a head that may be keeps. -/
theorem right_bounds {W H D C L : Int} (h : rightP W H D C L = 0) : 1 ≤ W ∧ W ≤ 1024 ∧ 1 ≤ H ∧ H ≤ 1024 ∧ 1 ≤ D ∧ D ≤ 16 ∧ 0 ≤ C ∧ C ≤ 6 ∧ colourDepth C D = true ∧ W * H ≤ 4096 ∧ (L = 0 ∨ L = 1) := by
  unfold rightP at h
  split at h
  · omega
  · rename_i h1
    split at h
    · omega
    · rename_i h2
      have h3 : colourDepth C D = true := by
        cases hc : colourDepth C D
        · exact absurd (.inr (.inr (.inr (.inr (.inl hc))))) h1
        · rfl
      have h4 := h3
      unfold colourDepth at h4
      have hD : 1 ≤ D ∧ D ≤ 16 ∧ 0 ≤ C ∧ C ≤ 6 := by
        split at h4
        · simp at h4; omega
        · split at h4
          · simp at h4; omega
          · split at h4
            · simp at h4; omega
            · simp at h4
      refine ⟨by omega, by omega, by omega, by omega, hD.1, hD.2.1, hD.2.2.1, hD.2.2.2, h3, by omega, by omega⟩

end Go.Proofs.Ytgkmfedjmmleeaa
