import Derived.Test.YtpkmfoinpdnifaaDoorA6

namespace Go.Proofs.YtpkmfoinpdnifaaDoor
set_option linter.all false
def lft (m:Mv):Nat:=m.keep+(if m.again then 1 else 0)
structure MvOk (A:Au) (p:Nat) (m:Mv):Prop where
 to:m.to < A.around.length
 to1:1≤m.to
 keep:lft m≤(arAt A p).length
 keep2:lft m≤(arAt A m.to).length
 pre:∀ k,k < lft m→(arAt A p)[k]?=(arAt A m.to)[k]?
def nxt (A:Au) (x:Cf) (m:Mv):Option Int:=nextS (((scAt A x.p.toNat)[m.keep]?).getD (0,0)) (x.c m.keep)
def kept (x:Cf) (m:Mv) (n:Int):List Int:=(cl4 x).take m.keep++(if m.again then [n] else [])
def rmC (A:Au) (x:Cf) (m:Mv) (n:Int) (i:Nat):Cf:=mkCf m.to fun j =>
 if j < i∧j < m.keep then x.c j else if j < i∧j=m.keep∧m.again=true then n else if j < (arAt A m.to).length then 1 else 0
end Go.Proofs.YtpkmfoinpdnifaaDoor
