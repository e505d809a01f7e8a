import Derived.Test.YtgiedknghbpdfaaDoorC9
import Derived.Test.YtgiedknghbpdfaaDoorC8
import Derived.Test.YtgiedknghbpdfaaDoorA8

namespace Go.Proofs.YtgiedknghbpdfaaDoor
set_option linter.all false
attribute [-go_sem] swpOb renOb rfOb V.cells
def mvAt (A:Au) (p:Nat):List Mv:=(A.moves[p]?).getD []
theorem mo_get {A:Au} {p:Nat} (hp:p < A.moves.length):A.moves[p]?=some (mvAt A p):=by simp [mvAt,List.getElem?_eq_getElem hp]
theorem mo_at {A:Au} {p:Nat} (hp:p < A.moves.length):(A.moves.map mlC)[p]?=some [.sl ((mvAt A p).map mvC)]:=by
 rw[List.getElem?_map,mo_get hp];rfl
theorem mvs_at {l:List Mv} {i:Nat} (hi:i < l.length):(l.map mvC)[i]?=some (mvC l[i]):=by
 rw[List.getElem?_map,List.getElem?_eq_getElem hi];rfl
def stepL (A:Au) (x:Cf) (b:Nat) (ms:List Mv):List Cf:=ms.filterMap fun m=>if bitOf (stAt A m.to) b then mayF A x m else none
def stepF (A:Au) (x:Cf) (b:Nat):List Cf:=sdC (stepL A x b (mvAt A x.p.toNat))
theorem z64:((64:Int)=0)=False:=by simp
theorem z2:((2:Int)=0)=False:=by simp
attribute [go_sem] z64 z2
end Go.Proofs.YtgiedknghbpdfaaDoor
