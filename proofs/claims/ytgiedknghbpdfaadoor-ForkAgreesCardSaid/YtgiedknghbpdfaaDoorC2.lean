import Derived.Test.YtgiedknghbpdfaaDoorC1

namespace Go.Proofs.YtgiedknghbpdfaaDoor
set_option linter.all false
attribute [-go_sem] swpOb renOb rfOb V.cells
theorem ar_at {A:Au} {p:Nat} (hp:p < A.around.length):(A.around.map lsC)[p]?=some [.sl ((arAt A p).map inC)]:=by
 rw[List.getElem?_map,arAt_get hp];rfl
theorem sc_at {A:Au} {i:Nat} (hi:i < A.scopes.length):(A.scopes.map scC)[i]?=some (scC (scI A i)):=by
 rw[List.getElem?_map,scI_get hi];rfl
theorem in_at {l:List Nat} {i:Nat} (hi:i < l.length):(l.map inC)[i]?=some [.i .i64 l[i]]:=by
 rw[List.getElem?_map,List.getElem?_eq_getElem hi];rfl
theorem wrap1 {i:Nat} (h:i < 4294967296):IntKind.i64.wrap ((i:Int)+1)=((i+1:Nat):Int):=by rw[wrap_i64 (by omega) (by omega)];rfl
theorem cf_cls (l:List Cf):(l.map cfC).all cls1L=true:=List.all_eq_true.2 fun c hc=>by obtain⟨x,_,rfl⟩:=List.mem_map.1 hc;rfl
def entI (p:Nat) (i:Nat):Cf:=mkCf p fun j=>if j < i then 1 else 0
theorem entI_set (p i:Nat) (h:i < 4):(entI p i).setC i 1=entI p (i+1):=by
 refine cf_ext rfl fun j hj=>?_;rw[setC_c _ _ _ _ hj,entI,entI,mkCf_c _ _ hj,mkCf_c _ _ hj];split
 ·rename_i h;subst h;rw[if_pos (by omega)]
 ·rename_i h;by_cases h2:j < i
  ·rw[if_pos h2,if_pos (by omega)]
  ·rw[if_neg h2,if_neg (by omega)]
theorem okAt_lt {l:List (Int × Int)} {x:Cf} {i:Nat} (h:i < l.length):okAt l x i=(decide (1≤x.c i)&&decide (x.c i≤topS l[i])):=by simp [okAt,List.getElem?_eq_getElem h]
theorem okAt_ge {l:List (Int × Int)} {x:Cf} {i:Nat} (h:¬ i < l.length):okAt l x i=(x.c i==0):=by simp [okAt,List.getElem?_eq_none (Nat.le_of_not_lt h)]
end Go.Proofs.YtgiedknghbpdfaaDoor
