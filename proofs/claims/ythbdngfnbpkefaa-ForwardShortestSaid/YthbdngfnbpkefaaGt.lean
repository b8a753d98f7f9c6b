/-
  The listed variables and what they hold: none here.
-/
import Derived.Test.YthbdngfnbpkefaaRows
namespace Go.Proofs.Ythbdngfnbpkefaa
def gRaw : Nat → Option (List Value) := fun _ => none
end Go.Proofs.Ythbdngfnbpkefaa
