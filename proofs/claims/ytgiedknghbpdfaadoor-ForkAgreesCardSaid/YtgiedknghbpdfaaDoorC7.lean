import Derived.Test.YtgiedknghbpdfaaDoorC6
import Derived.Test.YtgiedknghbpdfaaDoorC3

namespace Go.Proofs.YtgiedknghbpdfaaDoor
set_option linter.all false
attribute [-go_sem] swpOb renOb rfOb V.cells
def sdC (l:List Cf):List Cf:=cmpC (srtC l)
def stAt (A:Au) (p:Nat):Nat→Nat:=(A.sets[p]?).getD zSet
theorem st_at {A:Au} {p:Nat} (hp:p < A.sets.length):(A.sets.map u4)[p]?=some (u4 (stAt A p)):=by
 rw[List.getElem?_map,stAt,List.getElem?_eq_getElem hp];rfl
theorem st_w {A:Au} (hW:WF A) {p:Nat} (hp:p < A.sets.length):W64 (stAt A p):=by
 rw[stAt,List.getElem?_eq_getElem hp];exact hW.w _ (List.getElem_mem hp)
theorem u4_tk (s:Nat→Nat):List.take 4 (u4 s)=u4 s:=rfl
theorem u4_sw (s:Nat→Nat) (d:Nat):swpL d (u4 s)=u4 s:=rfl
theorem okf_u4 (s:Nat→Nat):okf FZ (.ag (u4 s))=true:=rfl
theorem clo_u4 (s:Nat→Nat):clo FZ (.ag (u4 s))=true:=rfl
attribute [go_sem] u4_len u4_tk u4_sw okf_u4 clo_u4
def begL (A:Au) (b:Nat) (ps:List Nat):List Cf:=(ps.filter fun p=>bitOf (stAt A p) b).map fun p=>enterF A p []
def begF (A:Au) (b:Nat):List Cf:=sdC (begL A b A.first)
end Go.Proofs.YtgiedknghbpdfaaDoor
