import Derived.Test.YtgiedknghbpdfaaDoorMu

namespace Go.Proofs.YtgiedknghbpdfaaDoor
set_option linter.all false
theorem wrap_i64 {n:Int} (h1 : -9223372036854775808≤n) (h2:n < 9223372036854775808):IntKind.wrap .i64 n=n:=by
 simp only[IntKind.wrap,IntKind.bits,IntKind.signed];by_cases h:0≤n
 ·have:n % 2 ^ 64=n:=Int.emod_eq_of_lt h (by omega)
  simp only[this];rw[if_neg (by simp;omega)]
 ·have:n % 2 ^ 64=n+2 ^ 64:=by
   rw[← Int.add_emod_right,Int.emod_eq_of_lt (by omega) (by omega)]
  simp only[this];rw[if_pos (by simp;omega)];omega
theorem wrap_u64 {n:Int} (h1:0≤n) (h2:n < 18446744073709551616):IntKind.wrap .u64 n=n:=by
 simp only[IntKind.wrap,IntKind.bits,IntKind.signed];simp;omega
def u4 (s:Nat→Nat):List V:=[.i .u64 (s 0),.i .u64 (s 1),.i .u64 (s 2),.i .u64 (s 3)]
theorem u4_get (s:Nat→Nat) {j:Nat} (h:j < 4):(u4 s)[j]?=some (.i .u64 (s j)):=by
 match j,h with
 | 0,_=>rfl
 | 1,_=>rfl
 | 2,_=>rfl
 | 3,_=>rfl
theorem u4_len (s:Nat→Nat):(u4 s).length=4:=by simp [u4]
def W64 (s:Nat→Nat):Prop:=∀ j,j < 4→s j < 18446744073709551616
def bitOf (s:Nat→Nat) (k:Nat):Bool:=(s (k / 64)).testBit (k % 64)
inductive Nd where
 | mk (kind:Int) (set:Nat→Nat) (parts:List Nd) (lo hi:Int)
def nd8 (kind:Int) (s:Nat→Nat) (ps:V) (lo hi:Int):List V:=[.i .i64 kind,.i .u64 (s 0),.i .u64 (s 1),.i .u64 (s 2),.i .u64 (s 3),ps,.i .i64 lo,.i .i64 hi]
mutual
def cel:Nd→List V
 | .mk k s ps lo hi=>nd8 k s (.sl (cels ps)) lo hi
def cels:List Nd→List (List V)
 | []=>[]
 | p::ps=>cel p::cels ps
end
theorem cels_map (ps:List Nd):cels ps=ps.map cel:=by
 induction ps with
 | nil=>rfl
 | cons p ps ih=>simp [cels,ih]
theorem cel_mk (k:Int) (s:Nat→Nat) (ps:List Nd) (lo hi:Int):cel (.mk k s ps lo hi)=nd8 k s (.sl (ps.map cel)) lo hi:=by simp [cel,cels_map]
theorem cel_len (n:Nd):(cel n).length=8:=by cases n;rfl
theorem cel_okd (n:Nd) (j:Nat):(cel n).all (okd (j+1))=true:=by cases n;rfl
def Nd.kind:Nd→Int|.mk k _ _ _ _=>k
def Nd.set:Nd→Nat→Nat|.mk _ s _ _ _=>s
def Nd.parts:Nd→List Nd|.mk _ _ ps _ _=>ps
def Nd.lo:Nd→Int|.mk _ _ _ lo _=>lo
def Nd.hi:Nd→Int|.mk _ _ _ _ hi=>hi
def emptyS (s:Nat→Nat):Bool:=((s 0==0)&&((s 1==0)&&((s 2==0)&&(s 3==0))))
def shapedB (k:Int) (s:Nat→Nat) (n:Nat) (lo hi:Int):Bool :=
 if k=0 then lo==0&&hi==0&&emptyS s&&n==0
 else if k=1 then lo==0&&hi==0&&n==0
 else if k=2∨k=3 then lo==0&&hi==0&&emptyS s&&decide (2≤n)
 else if k=4 then emptyS s&&n==1&&decide (0≤lo)&&decide (lo≤2147483647)&&(hi == -1||decide (lo≤hi)&&decide (hi≤2147483647))
 else false
mutual
def formed:Nd→Bool
 | .mk k s ps lo hi=>shapedB k s ps.length lo hi&&formedL ps
def formedL:List Nd→Bool
 | []=>true
 | p::ps=>formed p&&formedL ps
end
theorem formedL_all (ps:List Nd):formedL ps=ps.all formed:=by
 induction ps with
 | nil=>rfl
 | cons p ps ih=>simp [formedL,ih]
mutual
def small:Nd→Prop
 | .mk _ s ps _ _=>W64 s∧ps.length < 9223372036854775808∧smallL ps
def smallL:List Nd→Prop
 | []=>True
 | p::ps=>small p∧smallL ps
end
theorem smallL_all (ps:List Nd):smallL ps↔∀ p∈ps,small p:=by
 induction ps with
 | nil=>simp [smallL]
 | cons p ps ih=>simp [smallL,ih]
end Go.Proofs.YtgiedknghbpdfaaDoor
