import Derived.Test.YtklbhcjmaeedhaaGreatDoorKa

namespace Go.Proofs.YtklbhcjmaeedhaaGreatDoor
set_option linter.all false
variable {i p:Nat} {a:Au} {s:Int × Int}
def noC:Cf:=⟨0,0,0,0,0⟩
def cl4 (x:Cf):List Int:=[x.c0,x.c1,x.c2,x.c3]
def YC (x:Cf) (h:i < 4):(cl4 x)[i]?=some (x.c i):=by
 match i,h with
 | 0,_=>rfl
 | 1,_=>rfl
 | 2,_=>rfl
 | 3,_=>rfl
def X7 (p:Int) (f:Nat→Int) {j:Nat} (h:j < 4):(mkCf p f).c j=f j:=by
 match j,h with
 | 0,_=>rfl
 | 1,_=>rfl
 | 2,_=>rfl
 | 3,_=>rfl
def i64 (n:Int):Prop := -9223372036854775808≤n∧n < 9223372036854775808
structure CfOk (x:Cf):Prop where
 p:i64 x.p
 c:∀ i,i64 (x.c i)
def arAt (a:Au) (p:Nat):List Nat:=(a.around[p]?).getD []
def scI (a:Au) (i:Nat):Int × Int:=(a.scopes[i]?).getD (0,0)
def scAt (a:Au) (p:Nat):List (Int × Int):=(arAt a p).map (scI a)
def topS (s:Int × Int):Int:=if s.2 < 0 then s.1 else s.2
def low (l:List (Int × Int)) (i:Nat):Int:=((l[i]?).getD (0,0)).1
def okAt (l:List (Int × Int)) (x:Cf) (i:Nat):Bool:=match l[i]? with
 | some s=>decide (1≤x.c i)&&decide (x.c i≤topS s)
 | none=>x.c i==0
def Qr (a:Au) (x:Cf):Bool:=decide (1≤x.p)&&decide (x.p < a.around.length)&&(List.range 4).all (okAt (scAt a x.p.toNat) x)
def Qw (l:List (Int × Int)) (cs:List Int):Bool:=decide (∀ j,j < l.length→low l j≤(cs[j]?).getD 0)
def entN (n:Nat) (kept:List Int) (i:Nat):Int:=match kept[i]? with
 | some k=>k
 | none=>if i < n then 1 else 0
def QG (a:Au) (p:Nat) (kept:List Int):Cf:=mkCf p (entN (arAt a p).length kept)
def ZY (s:Int × Int) (n:Int):Option Int:=if s.2 < 0 then some ((if n < s.1 - 1 then n else s.1 - 1)+1) else if n≥s.2 then none else some (n+1)
def mayF (a:Au) (x:Cf) (m:Mv):Option Cf :=
 let l:=scAt a x.p.toNat
 if m.again then match ZY ((l[m.keep]?).getD (0,0)) (x.c m.keep) with
  | none=>none
  | some n=>if Qw (l.drop (m.keep+1)) ((cl4 x).drop (m.keep+1)) then some (QG a m.to ((cl4 x).take m.keep++[n])) else none
 else if Qw (l.drop m.keep) ((cl4 x).drop m.keep) then some (QG a m.to ((cl4 x).take m.keep)) else none
def accB (a:Au) (x:Cf):Bool:=Qr a x&&(a.last[x.p.toNat]?).getD false&&Qw (scAt a x.p.toNat) (cl4 x)
def QL {x:Cf}:Qr a x=true↔1≤x.p∧x.p < a.around.length∧∀ i,i < 4→okAt (scAt a x.p.toNat) x i=true:=by
 simp [Qr,and_assoc,List.all_eq_true,List.mem_range]
def Dc (h:p < a.around.length):a.around[p]?=some (arAt a p):=by
 simp [arAt,List.getElem?_eq_getElem h]
def WL (h:p < a.around.length):arAt a p∈a.around:=List.mem_of_getElem? (Dc h)
def Qdx (h:i < a.scopes.length):a.scopes[i]?=some (scI a i):=by
 simp [scI,List.getElem?_eq_getElem h]
def Hk (hW:WF a) (h:i < a.scopes.length):scOk (scI a i):=hW.sc _ (List.mem_of_getElem? (Qdx h))
def Qbf (hW:WF a) (h:p < a.around.length) (hi:i∈arAt a p):i < a.scopes.length:=hW.ai _ (WL h) i hi
def ar_4 (hW:WF a) (h:p < a.around.length):(arAt a p).length≤4:=hW.a4 _ (WL h)
def Qh0 (hW:WF a) (h:p < a.around.length) (hs:s∈scAt a p):scOk s:=by
 obtain⟨i,hi,rfl⟩:=List.mem_map.1 hs;exact Hk hW (Qbf hW h hi)
def JL (a:Au) (p:Nat):(scAt a p).length=(arAt a p).length:=by simp [scAt]
def KY (h:i < (arAt a p).length):(scAt a p)[i]?=some (scI a (arAt a p)[i]):=by
 simp [scAt,List.getElem?_eq_getElem h]
def Qcp (h:scOk s):1≤topS s∧topS s≤2147483647∧s.1≤topS s:=by
 unfold scOk topS at *;split<;>omega
end Go.Proofs.YtklbhcjmaeedhaaGreatDoor
