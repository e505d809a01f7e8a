import Derived.Test.YtklbhcjmaeedhaaGreatDoorMu

namespace Go.Proofs.YtklbhcjmaeedhaaGreatDoor
set_option linter.all false
variable {n:Int} {b:Nat}
def Qi (h1 : -9223372036854775808≤n) (h2:n < 9223372036854775808):IntKind.wrap .i64 n=n:=by
 simp only[IntKind.wrap,IntKind.bits,IntKind.signed];by_cases h:0≤n
 ·have:n % 2 ^ 64=n:=Int.emod_eq_of_lt h OM
  simp only[this];rw[if_neg (by simp;omega)]
 ·have:n % 2 ^ 64=n+2 ^ 64:=by
   rw[← Int.add_emod_right,Int.emod_eq_of_lt OM OM]
  simp only[this];rw[if_pos (by simp;omega)];omega
def Hc (h1:0≤n) (h2:n < 18446744073709551616):IntKind.wrap .u64 n=n:=by
 simp only[IntKind.wrap,IntKind.bits,IntKind.signed];simp;omega
def Qhz (h1:0≤n) (h2:n < 256):IntKind.wrap .u8 n=n:=by
 simp only[IntKind.wrap,IntKind.bits,IntKind.signed];simp;omega
def Vd (w n:Nat) (h:n < 2 ^ w):(BitVec.ofInt w (n:Int)).toNat=n:=by
 simp only[BitVec.ofInt_natCast,BitVec.toNat_ofNat];exact Nat.mod_eq_of_lt h
def QdF (w a b:Nat) (ha:a < 2 ^ w) (hb:b < 2 ^ w):(BitVec.ofInt w (a:Int) &&& BitVec.ofInt w (b:Int)).toNat=a &&& b:=by
 rw[BitVec.toNat_and,Vd w a ha,Vd w b hb]
def Qmb (n:Nat):n &&& 63=n % 64:=Nat.and_two_pow_sub_one_eq_mod n 6
def Qmr (n:Nat):n &&& 1=n % 2:=Nat.and_two_pow_sub_one_eq_mod n 1
def Qjk (hb:b < 256):andI .u8 (b:Int) 63=((b % 64:Nat):Int):=by
 unfold andI;rw[show (63:Int)=((63:Nat):Int) from rfl,QdF _ b 63 (by simp [IntKind.bits];omega) (by simp [IntKind.bits]),Qmb];exact Qhz OM OM
def Qi1 (hb:b < 18446744073709551616):andI .u64 (b:Int) 1=((b % 2:Nat):Int):=by
 unfold andI;rw[show (1:Int)=((1:Nat):Int) from rfl,QdF _ b 1 (by simp [IntKind.bits];omega) (by simp [IntKind.bits]),Qmr];exact Hc OM OM
def u4 (s:Nat→Nat):List V:=[.i .u64 (s 0),.i .u64 (s 1),.i .u64 (s 2),.i .u64 (s 3)]
def QcO (s:Nat→Nat) {j:Nat} (h:j < 4):(u4 s)[j]?=some (.i .u64 (s j)):=by
 match j,h with
 | 0,_=>rfl
 | 1,_=>rfl
 | 2,_=>rfl
 | 3,_=>rfl
def Qf7 (s:Nat→Nat):(u4 s).length=4:=by simp [u4]
def W64 (s:Nat→Nat):Prop:=∀ j,j < 4→s j < 18446744073709551616
def QA (s:Nat→Nat) (k:Nat):Bool:=(s (k / 64)).testBit (k % 64)
def Qk0 (k:Nat):(k:Int).fdiv 64=((k / 64:Nat):Int):=by rw[Int.fdiv_eq_ediv_of_nonneg _ OM];simp
def Qhv (x m:Nat):(x:Int).fdiv (2 ^ m)=((x / 2 ^ m:Nat):Int):=by
 rw[Int.fdiv_eq_ediv_of_nonneg _ (by exact_mod_cast Nat.zero_le (2 ^ m))];simp
def Qb7 (s:Nat→Nat) (k:Nat):((s (k / 64) / 2 ^ (k % 64)) % 2==1)=QA s k:=by
 unfold QA;rw[Nat.testBit_eq_decide_div_mod_eq];by_cases h:s (k / 64) / 2 ^ (k % 64) % 2=1<;>simp [h]
inductive Nd where
 | mk (kind:Int) (set:Nat→Nat) (parts:List Nd) (lo hi:Int)
def nd8 (kind:Int) (s:Nat→Nat) (ps:V) (lo hi:Int):List V:=[.i .i64 kind,.i .u64 (s 0),.i .u64 (s 1),.i .u64 (s 2),.i .u64 (s 3),ps,.i .i64 lo,.i .i64 hi]
mutual
def cel:Nd→List V
 | .mk k s ps lo hi=>nd8 k s (.sl (cels ps)) lo hi
def cels:List Nd→List (List V)
 | []=>[]
 | p::ps=>cel p::cels ps
end
def QaH (ps:List Nd):cels ps=ps.map cel:=by
 induction ps with
 | nil=>rfl
 | cons p ps ih=>simp [cels,ih]
def QZ (k:Int) (s:Nat→Nat) (ps:List Nd) (lo hi:Int):cel (.mk k s ps lo hi)=nd8 k s (.sl (ps.map cel)) lo hi:=by simp [cel,QaH]
def QI (n:Nd):(cel n).length=8:=by cases n;rfl
def Wa (n:Nd) (j:Nat):(cel n).all (okd (j+1))=true:=by cases n;rfl
def Nd.kind:Nd→Int|.mk k _ _ _ _=>k
def Nd.set:Nd→Nat→Nat|.mk _ s _ _ _=>s
def Nd.parts:Nd→List Nd|.mk _ _ ps _ _=>ps
def Nd.lo:Nd→Int|.mk _ _ _ lo _=>lo
def Nd.hi:Nd→Int|.mk _ _ _ _ hi=>hi
def Qq (s:Nat→Nat):Bool:=((s 0==0)&&((s 1==0)&&((s 2==0)&&(s 3==0))))
def Qk (k:Int) (s:Nat→Nat) (n:Nat) (lo hi:Int):Bool :=
 if k=0 then lo==0&&hi==0&&Qq s&&n==0
 else if k=1 then lo==0&&hi==0&&n==0
 else if k=2∨k=3 then lo==0&&hi==0&&Qq s&&decide (2≤n)
 else if k=4 then Qq s&&n==1&&decide (0≤lo)&&decide (lo≤2147483647)&&(hi == -1||decide (lo≤hi)&&decide (hi≤2147483647))
 else false
mutual
def Qe:Nd→Bool
 | .mk k s ps lo hi=>Qk k s ps.length lo hi&&Qc ps
def Qc:List Nd→Bool
 | []=>true
 | p::ps=>Qe p&&Qc ps
end
def Zw (ps:List Nd):Qc ps=ps.all Qe:=by
 induction ps with
 | nil=>rfl
 | cons p ps ih=>simp [Qc,ih]
mutual
def Zv:Nd→Prop
 | .mk _ s ps _ _=>W64 s∧ps.length < 9223372036854775808∧JJ ps
def JJ:List Nd→Prop
 | []=>True
 | p::ps=>Zv p∧JJ ps
end
def QX (ps:List Nd):JJ ps↔∀ p∈ps,Zv p:=by
 induction ps with
 | nil=>simp [JJ]
 | cons p ps ih=>simp [JJ,ih]
end Go.Proofs.YtklbhcjmaeedhaaGreatDoor
