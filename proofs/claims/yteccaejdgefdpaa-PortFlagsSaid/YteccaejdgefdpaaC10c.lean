import Derived.Test.YteccaejdgefdpaaC10b
namespace Go.Proofs.Yteccaejdgefdpaa
open Go.RowKit
set_option linter.unusedVariables false
set_option maxRecDepth 4000

theorem c_pRead {x0 x1 : Value} {w : World} {q : Int} {l : List UInt8} (h0 : Is (.int .i64 q) x0 w) (h1 : Bs l x1 w) : Calls Try.prog 10 #[x0, x1] w (Ret (Tup2 (Is (PortV (portRead q l).1)) (Is (.int .i64 (portRead q l).2))) w) := by
  by_cases h6 : q = 6
  · subst h6; exact c_pRead_tcp h0 h1
  · by_cases h17 : q = 17
    · subst h17; exact c_pRead_udp h0 h1
    · rw [portRead_none h6 h17]; exact c_pRead_none h0 h1 h6 h17

end Go.Proofs.Yteccaejdgefdpaa
