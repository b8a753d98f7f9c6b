/-
  No variable is listed.
-/
import Derived.Test.YthbegdeojkdlbaaRows
namespace Go.Proofs.Ythbegdeojkdlbaa
def gRaw:Nat→Option (List Value):=fun _=>none
end Go.Proofs.Ythbegdeojkdlbaa
