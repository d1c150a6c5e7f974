import Derived.Test.YtlmdboaghojgiaaS12
/- What is rewritten, read: in plain Lean. -/
namespace Go.Proofs.Ytlmdboaghojgiaa
set_option linter.unusedVariables false
set_option linter.unusedSimpArgs false
open Go

/-! ## Checksums, as they change -/
section
variable {l : List UInt8} {A : Adr} {n : Int} {dst : Bool}
/-! ## The link's header -/
/-! ## The IP header -/
end
end Go.Proofs.Ytlmdboaghojgiaa

/- What is rewritten, read (the segment); its checksum: in plain Lean. -/
namespace Go.Proofs.Ytlmdboaghojgiaa
set_option linter.unusedVariables false
set_option linter.unusedSimpArgs false
open Go

/-! ## The segment's header -/
section
variable {l : List UInt8} {A : Adr} {n : Int} {dst : Bool}
/-! ## The segment's checksum -/
end
end Go.Proofs.Ytlmdboaghojgiaa

/- What is rewritten: its checksum, again and back: in plain Lean. -/
namespace Go.Proofs.Ytlmdboaghojgiaa
set_option linter.unusedVariables false
set_option linter.unusedSimpArgs false
open Go

section
variable {l : List UInt8} {A : Adr} {n : Int} {dst : Bool}
/-! ## The places of what is rewritten -/
structure SameP (x l : List UInt8) : Prop where
  a : pkA x = pkA l
  six : Q1v x = Q1v l
  seg : Q32 x = Q32 l
  end' : endP x = endP l
  proto : (pkN x).1.proto = (pkN l).1.proto
theorem SameP.at {x l : List UInt8} (s : SameP x l) (d : Bool) : at12 x d = at12 l d := by unfold at12; rw [s.a, s.six]
theorem SameP.pl {x l : List UInt8} (s : SameP x l) (d : Bool) : pl12 x d = pl12 l d := by unfold pl12; rw [s.seg]
theorem SameP.ip {x l : List UInt8} (s : SameP x l) : ip12 x = ip12 l := by unfold ip12; rw [s.a]
theorem SameP.ck {x l : List UInt8} (s : SameP x l) : ck12 x = ck12 l := by unfold ck12; rw [s.seg, s.proto]
/-! ## Is the segment's checksum right? -/
end
end Go.Proofs.Ytlmdboaghojgiaa

/- What is rewritten again, and back; what is made and rewritten: in plain Lean. -/
namespace Go.Proofs.Ytlmdboaghojgiaa
set_option linter.unusedVariables false
set_option linter.unusedSimpArgs false
open Go

section
variable {l : List UInt8} {A B : Adr} {m n : Int} {dst : Bool}
structure Cks (l : List UInt8) : Prop where
  ip : Q1v l = false → Q0a l (ip12 l) ≤ 65534
  ck : (pkN l).1.proto = 6 → Q0a l (ck12 l) ≤ 65534
end
end Go.Proofs.Ytlmdboaghojgiaa

/- What is made and rewritten is what is made for the other tuple: in plain Lean. -/
namespace Go.Proofs.Ytlmdboaghojgiaa
set_option linter.unusedVariables false
set_option linter.unusedSimpArgs false
open Go

section
variable {l : List UInt8} {A : Adr} {n : Int} {dst : Bool}
end
/-! ## What is made -/
section
variable {L : LinkL} {T : TupL} {f : Int} {load : List UInt8} {A : Adr} {n : Int} {dst : Bool}
end
end Go.Proofs.Ytlmdboaghojgiaa

/- What is made and rewritten is what is made for the other tuple (2): in plain Lean. -/
namespace Go.Proofs.Ytlmdboaghojgiaa
set_option linter.unusedVariables false
set_option linter.unusedSimpArgs false
open Go

def p8 (H : SixL) : List UInt8 := [96, 0, 0, 0] ++ put2 (H.total - 40) ++ [b8 H.proto, b8 H.hop]
section
variable {L : LinkL} {T : TupL} {f : Int} {load : List UInt8} {A : Adr} {n : Int} {dst : Bool}
structure Made (L : LinkL) (T : TupL) (f : Int) (load : List UInt8) : Prop where
  pa : pkA (Q85 L T f load) = 14 + 4 * L.tags.length
  n : pkN (Q85 L T f load) = (⟨(Qmh T : Int), (Qmh T : Int) + segN T load, T.proto, false, T.src, T.dst⟩, 0)
  p : pkP (Q85 L T f load) = Qij T.src T.dst T.proto (segL T f load)
  six : Q1v (Q85 L T f load) = T.src.six
  seg : Q32 (Q85 L T f load) = 14 + 4 * L.tags.length + Qmh T
  drop : (Q85 L T f load).drop (14 + 4 * L.tags.length) = ipL T (segN T load) ++ Qij T.src T.dst T.proto (segL T f load)
  take : (Q85 L T f load).take (14 + 4 * L.tags.length) = Q6c (Q36 L T.src.six)
end
end Go.Proofs.Ytlmdboaghojgiaa

/- What is made and rewritten is what is made for the other tuple (3): in plain Lean. -/
namespace Go.Proofs.Ytlmdboaghojgiaa
set_option linter.unusedVariables false
set_option linter.unusedSimpArgs false
open Go

section
variable {L : LinkL} {T : TupL} {f : Int} {load : List UInt8} {A : Adr} {n : Int} {dst : Bool}
end
end Go.Proofs.Ytlmdboaghojgiaa
