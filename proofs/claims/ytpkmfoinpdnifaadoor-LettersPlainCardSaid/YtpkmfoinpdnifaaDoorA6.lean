import Derived.Test.YtpkmfoinpdnifaaDoorKa

namespace Go.Proofs.YtpkmfoinpdnifaaDoor
set_option linter.all false
def noC:Cf:=⟨0,0,0,0,0⟩
def cl4 (x:Cf):List Int:=[x.c0,x.c1,x.c2,x.c3]
def i64 (n:Int):Prop := -9223372036854775808≤n∧n < 9223372036854775808
structure CfOk (x:Cf):Prop where
 p:i64 x.p
 c:∀ i,i64 (x.c i)
def arAt (a:Au) (p:Nat):List Nat:=(a.around[p]?).getD []
def scI (a:Au) (i:Nat):Int × Int:=(a.scopes[i]?).getD (0,0)
def scAt (a:Au) (p:Nat):List (Int × Int):=(arAt a p).map (scI a)
def topS (s:Int × Int):Int:=if s.2 < 0 then s.1 else s.2
def low (l:List (Int × Int)) (i:Nat):Int:=((l[i]?).getD (0,0)).1
def okAt (l:List (Int × Int)) (x:Cf) (i:Nat):Bool:=match l[i]? with
 | some s=>decide (1≤x.c i)&&decide (x.c i≤topS s)
 | none=>x.c i==0
def rightB (a:Au) (x:Cf):Bool:=decide (1≤x.p)&&decide (x.p < a.around.length)&&(List.range 4).all (okAt (scAt a x.p.toNat) x)
def leavesL (l:List (Int × Int)) (cs:List Int):Bool:=decide (∀ j,j < l.length→low l j≤(cs[j]?).getD 0)
def entN (n:Nat) (kept:List Int) (i:Nat):Int:=match kept[i]? with
 | some k=>k
 | none=>if i < n then 1 else 0
def enterF (a:Au) (p:Nat) (kept:List Int):Cf:=mkCf p (entN (arAt a p).length kept)
def nextS (s:Int × Int) (n:Int):Option Int:=if s.2 < 0 then some ((if n < s.1 - 1 then n else s.1 - 1)+1) else if n≥s.2 then none else some (n+1)
def mayF (a:Au) (x:Cf) (m:Mv):Option Cf :=
 let l:=scAt a x.p.toNat
 if m.again then match nextS ((l[m.keep]?).getD (0,0)) (x.c m.keep) with
  | none=>none
  | some n=>if leavesL (l.drop (m.keep+1)) ((cl4 x).drop (m.keep+1)) then some (enterF a m.to ((cl4 x).take m.keep++[n])) else none
 else if leavesL (l.drop m.keep) ((cl4 x).drop m.keep) then some (enterF a m.to ((cl4 x).take m.keep)) else none
def accB (a:Au) (x:Cf):Bool:=rightB a x&&(a.last[x.p.toNat]?).getD false&&leavesL (scAt a x.p.toNat) (cl4 x)
end Go.Proofs.YtpkmfoinpdnifaaDoor
