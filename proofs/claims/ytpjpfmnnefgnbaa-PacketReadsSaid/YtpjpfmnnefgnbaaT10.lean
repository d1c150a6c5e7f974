/- TCP and UDP: what the statements of layer 10 say, in plain Lean. -/
import Derived.Test.YtpjpfmnnefgnbaaS10
import Derived.Test.YtpjpfmnnefgnbaaM06
namespace Go.Proofs.Ytpjpfmnnefgnbaa
set_option linter.unusedVariables false
set_option linter.unusedSimpArgs false

theorem fill_len {Sa Da : Adr} {q : Int} {l : List UInt8} (h : (portRead q l).2 = 0) : (pFill Sa Da q l).length = l.length := put2At_len (atN_le h).1 rfl
theorem fill_read {Sa Da : Adr} {q : Int} {l : List UInt8} (h : (portRead q l).2 = 0) : portRead q (pFill Sa Da q l) = portRead q l := read_put2 h rfl
/-! ## The laws' ends -/
end Go.Proofs.Ytpjpfmnnefgnbaa
