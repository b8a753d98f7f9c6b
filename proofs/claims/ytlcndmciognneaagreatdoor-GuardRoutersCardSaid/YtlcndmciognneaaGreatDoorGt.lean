/-
  The listed variables and what they hold: how messages of address resolution begin.
-/
import Derived.Test.YtlcndmciognneaaGreatDoorRows
namespace Go.Proofs.YtlcndmciognneaaGreatDoor
def gRaw:Nat→Option (List Value):=fun g=>match g with
 | 0=>some [.int .u8 0,.int .u8 1,.int .u8 8,.int .u8 0,.int .u8 6,.int .u8 4]
 | _=>none
end Go.Proofs.YtlcndmciognneaaGreatDoor
