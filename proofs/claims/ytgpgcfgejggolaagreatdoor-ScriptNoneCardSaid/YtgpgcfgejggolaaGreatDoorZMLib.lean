/- What functions of Go's library compute. -/
import Derived.Shelf.Strconv.AtoiAll
import Derived.Shelf.Strconv.Itoa3
import Derived.Shelf.Strings.Count
import Derived.Test.YtgpgcfgejggolaaGreatDoorZK2
import Derived.Test.YtgpgcfgejggolaaGreatDoorZCut
namespace Go.Cf
open Go
def GL:MP:=⟨fun κ w=>(MP.whole 3 (Lib.pow10Tab.map fun z=>Value.int .u64 z)).p κ w∧(∃m,(MP.cells 0 0 [.int .i64 m]).p κ w)∧(∃e b,(MP.cells 1 0 [e]).p κ w∧ErrIs e b)∧(∃e b,(MP.cells 2 0 [e]).p κ w∧ErrIs e b),fun h=>by
 rintro ⟨h0,⟨m,h1⟩,⟨e,b,h2,h3⟩,⟨e',b',h4,h5⟩⟩
 exact ⟨MP.mono _ h h0,⟨m,MP.mono _ h h1⟩,⟨e,b,MP.mono _ h h2,h3⟩,⟨e',b',MP.mono _ h h4,h5⟩⟩⟩
namespace M
def strings_Split (N:Nat) (s sep:ByteArray):Option (List ByteArray):=if s.size<2147483648 then match sep.data.toList with
 | [c]=>some (words c s)
 | _=>none
 else none
def strconv_Atoi (N:Nat) (s:ByteArray):Option (Int×Bool):=if s.size≤2147483648 then some (match Lib.atoiAll s.data.toList with
 | .ok v=>(v,true)
 | .range=>(Lib.atoiSat s.data.toList,false)
 | _=>(0,false)) else none
def strings_Count (N:Nat) (s sep:ByteArray):Option Int:=match sep.data.toList with
 | [c]=>some (Lib.countByte s.data.toList c)
 | _=>none
def strings_Index (N:Nat) (s sep:ByteArray):Option Int:=if s.size<2147483648 then some (Lib.index s.data.toList sep.data.toList) else none
def strconv_Itoa (N:Nat) (n:Int):Option ByteArray:=if -9223372036854775808≤n∧n≤9223372036854775807 then some ⟨(Lib.itoa n).toArray⟩ else none
def internal_strconv_small (N:Nat) (n:Int):Option ByteArray:=if 0≤n∧n<100 then some ⟨(Lib.decDigits n.toNat).toArray⟩ else none
end M
end Go.Cf
