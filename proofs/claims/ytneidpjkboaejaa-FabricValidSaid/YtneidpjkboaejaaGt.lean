/-
  No variable is listed.
-/
import Derived.Test.YtneidpjkboaejaaRows
namespace Go.Proofs.Ytneidpjkboaejaa
def gRaw:Nat→Option (List Value):=fun _=>none
end Go.Proofs.Ytneidpjkboaejaa
