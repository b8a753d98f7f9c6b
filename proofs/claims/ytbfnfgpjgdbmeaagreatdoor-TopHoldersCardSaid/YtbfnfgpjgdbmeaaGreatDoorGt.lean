/-
  The listed variables and what they hold: the orders of addresses and of numbers, how messages of address resolution begin, powers of ten, a table of bits.
-/
import Derived.Test.YtbfnfgpjgdbmeaaGreatDoorRows
import Derived.Maps.Keyed
namespace Go.Proofs.YtbfnfgpjgdbmeaaGreatDoor
def gRaw:Nat→Option (List Value):=fun g=>match g with
 | 0=>some [.func (.func 55) #[] #[],.func (.func 57) #[] #[],.func (.func 443) #[] #[]]
 | 1=>some [.func (.func 136) #[] #[],.func (.func 444) #[] #[],.func (.func 445) #[] #[]]
 | 2=>some [.int .u8 0,.int .u8 1,.int .u8 8,.int .u8 0,.int .u8 6,.int .u8 4]
 | 4=>some [.int .u64 1,.int .u64 10,.int .u64 100,.int .u64 1000,.int .u64 10000,.int .u64 100000,.int .u64 1000000,.int .u64 10000000,.int .u64 100000000,.int .u64 1000000000,.int .u64 10000000000,.int .u64 100000000000,.int .u64 1000000000000,.int .u64 10000000000000,.int .u64 100000000000000,.int .u64 1000000000000000,.int .u64 10000000000000000,.int .u64 100000000000000000,.int .u64 1000000000000000000,.int .u64 10000000000000000000]
 | 10=>some [.int .u8 0,.int .u8 1,.int .u8 56,.int .u8 2,.int .u8 57,.int .u8 49,.int .u8 28,.int .u8 3,.int .u8 61,.int .u8 58,.int .u8 42,.int .u8 50,.int .u8 38,.int .u8 29,.int .u8 17,.int .u8 4,.int .u8 62,.int .u8 47,.int .u8 59,.int .u8 36,.int .u8 45,.int .u8 43,.int .u8 51,.int .u8 22,.int .u8 53,.int .u8 39,.int .u8 33,.int .u8 30,.int .u8 24,.int .u8 18,.int .u8 12,.int .u8 5,.int .u8 63,.int .u8 55,.int .u8 48,.int .u8 27,.int .u8 60,.int .u8 41,.int .u8 37,.int .u8 16,.int .u8 46,.int .u8 35,.int .u8 44,.int .u8 21,.int .u8 52,.int .u8 32,.int .u8 23,.int .u8 11,.int .u8 54,.int .u8 26,.int .u8 40,.int .u8 15,.int .u8 34,.int .u8 20,.int .u8 31,.int .u8 10,.int .u8 25,.int .u8 14,.int .u8 19,.int .u8 9,.int .u8 13,.int .u8 8,.int .u8 7,.int .u8 6]
 | _=>none
def gOpn (g:Nat):Bool:=Nat.beq g 3
def kdX (k:Nat):Value→Prop:=fun v=>∃ l,Go.keyOf Tryz.prog k v=some l
end Go.Proofs.YtbfnfgpjgdbmeaaGreatDoor
