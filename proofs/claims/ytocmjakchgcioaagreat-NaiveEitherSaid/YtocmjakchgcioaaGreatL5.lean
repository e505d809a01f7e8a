import Derived.Test.YtocmjakchgcioaaGreatKk

namespace Go.Proofs.YtocmjakchgcioaaGreat
set_option linter.all false
variable {s:Nat→Nat} {m:Nat} {u:List Nat}
abbrev Lan:=List Nat→Prop
variable {M:Lan}
def eps:Lan:=fun u=>u=[]
def lcat (M N:Lan):Lan:=fun u=>∃ x y,u=x++y∧M x∧N y
def lor (M N:Lan):Lan:=fun u=>M u∨N u
def Pw (M:Lan):Nat→Lan
 | 0=>eps
 | m+1=>lcat M (Pw M m)
def Lt (M:Lan) (lo hi:Int):Lan:=fun u=>∃ m:Nat,lo≤m∧(hi = -1∨(m:Int)≤hi)∧Pw M m u
def Zb {N:Lan} (h:∀ u,M u↔N u):M=N:=funext fun u=>propext (h u)
def WR (M:Lan):lcat eps M=M:=Zb fun u=>⟨by rintro⟨x,y,rfl,rfl,h⟩;exact h,fun h=>⟨[],u,rfl,rfl,h⟩⟩
def Jl (M:Lan):lcat M eps=M:=Zb fun u=>⟨by rintro⟨x,y,rfl,h,rfl⟩;simpa using h,fun h=>⟨u,[],SM,h,rfl⟩⟩
def Ws (A B D:Lan):lcat (lcat A B) D=lcat A (lcat B D):=Zb fun u=>by
 constructor
 ·rintro⟨_,z,rfl,⟨x,y,rfl,hx,hy⟩,hz⟩;exact⟨x,y++z,SM,hx,y,z,rfl,hy,hz⟩
 ·rintro⟨x,_,rfl,hx,y,z,rfl,hy,hz⟩;exact⟨x++y,z,SM,⟨x,y,rfl,hx,hy⟩,hz⟩
def XN (A B D:Lan):lor (lor A B) D=lor A (lor B D):=Zb fun u=>by simp only[lor,or_assoc]
def Qgr (M:Lan):Pw M 1=M:=by rw[Pw,Pw,Jl]
mutual
def Mb:Nd→Lan
 | .mk k s ps lo hi =>
  if k=1 then fun u=>∃ b,b < 256∧u=[b]∧Q2 s b=true
  else if k=3 then Zm ps
  else if k=2 then ZI ps
  else if k=4 then Lt (Jq ps) lo hi
  else eps
def Zm:List Nd→Lan
 | []=>fun _=>False
 | p::ps=>lor (Mb p) (Zm ps)
def ZI:List Nd→Lan
 | []=>eps
 | p::ps=>lcat (Mb p) (ZI ps)
def Jq:List Nd→Lan
 | []=>eps
 | p::_=>Mb p
end
def ZN:Lan:=fun _=>False
def Qhj (M:Lan):lcat M ZN=ZN:=Zb fun u=>⟨by rintro⟨_,_,_,_,h⟩;exact h,fun h=>h.elim⟩
def Qcf (M:Lan):lcat ZN M=ZN:=Zb fun u=>⟨by rintro⟨_,_,_,h,_⟩;exact h,fun h=>h.elim⟩
def Xl (M:Lan):lor M ZN=M:=Zb fun u=>by simp [lor,ZN]
def Qdp (M:Lan):lor ZN M=M:=Zb fun u=>by simp [lor,ZN]
def ZO (k:Int) (s:Nat→Nat) (ps:List Nd) (lo hi:Int):Mb (.mk k s ps lo hi)=if k=1 then fun u=>∃ b,b < 256∧u=[b]∧Q2 s b=true
   else if k=3 then Zm ps
   else if k=2 then ZI ps
   else if k=4 then Lt (Jq ps) lo hi
   else eps:=by funext u;rw[Mb]
def Ze:Zm []=ZN:=by funext u;rw[Zm];rfl
def Qv (p:Nd) (ps:List Nd):Zm (p::ps)=lor (Mb p) (Zm ps):=by funext u;rw[Zm]
def Zn:ZI []=eps:=by funext u;rw[ZI]
def QD (p:Nd) (ps:List Nd):ZI (p::ps)=lcat (Mb p) (ZI ps):=by funext u;rw[ZI]
def QR (p:Nd) (ps:List Nd):Jq (p::ps)=Mb p:=by funext u;rw[Jq]
def QdZ (l m:List Nd):Zm (l++m)=lor (Zm l) (Zm m):=by
 induction l with
 | nil=>rw[Ze,Qdp];rfl
 | cons p l ih=>rw[List.cons_append,Qv,Qv,ih,XN]
def QdH (l m:List Nd):ZI (l++m)=lcat (ZI l) (ZI m):=by
 induction l with
 | nil=>rw[Zn,WR];rfl
 | cons p l ih=>rw[List.cons_append,QD,QD,ih,Ws]
def Qfi (h:Qt s=true) {b:Nat} (hb:b < 256):Q2 s b=false:=by
 simp [Qt] at h
 have:s (b / 64)=0:=by
  have:b / 64=0∨b / 64=1∨b / 64=2∨b / 64=3:=by omega
  rcases this with h1|h1|h1|h1<;>rw[h1]<;>omega
 simp [Q2,this]
def Qlv (h:0 < m):Pw ZN m=ZN:=by
 cases m with
 | zero=>omega
 | succ m=>rw[Pw,Qcf]
mutual
theorem YA:∀ (n:Nd),QG n=true→Mb n=ZN
 | .mk k s ps lo hi,h=>by
  rw[QG] at h;rw[ZO];by_cases k1:k=1
  ·rw[if_pos k1] at h ⊢;exact Zb fun u=>⟨(by rintro⟨b,hb,_,h2⟩;rw[Qfi h hb] at h2;cases h2),fun hh=>hh.elim⟩
  rw[if_neg k1] at h ⊢;by_cases k2:k=2
  ·rw[if_pos k2] at h;rw[if_neg OM,if_pos k2];exact Kj ps h
  rw[if_neg k2] at h;by_cases k3:k=3
  ·rw[if_pos k3] at h ⊢;exact KJ ps h
  rw[if_neg k3] at h ⊢;rw[if_neg k2];by_cases k4:k=4
  ·rw[if_pos k4] at h ⊢;rw[Bool.and_eq_true,decide_eq_true_eq] at h;have h2:=Dg ps h.2;rw[h2];exact Zb fun u=>⟨by rintro⟨m,h3,_,h5⟩;rw[Qlv OM] at h5;exact h5,fun hh=>hh.elim⟩
  ·rw[if_neg k4] at h;cases h
theorem Kj:∀ (ps:List Nd),Z7 ps=true→ZI ps=ZN
 | [],h=>by rw[Z7] at h;cases h
 | p::ps,h=>by
  rw[Z7,Bool.or_eq_true] at h;rw[QD];rcases h with h|h
  ·rw[YA p h,Qcf]
  ·rw[Kj ps h,Qhj]
theorem KJ:∀ (ps:List Nd),Ym ps=true→Zm ps=ZN
 | [],_=>Ze
 | p::ps,h=>by
  rw[Ym,Bool.and_eq_true] at h;rw[Qv,YA p h.1,KJ ps h.2,Xl]
theorem Dg:∀ (ps:List Nd),J8 ps=true→Jq ps=ZN
 | [],h=>by rw[J8] at h;cases h
 | p::ps,h=>by rw[J8] at h;rw[QR,YA p h]
end
def Qgl (m:Nat):Pw eps m=eps:=by
 induction m with
 | zero=>rfl
 | succ m ih=>rw[Pw,ih,WR]
def QkE (h:M []) (m:Nat):Pw M m []:=by
 induction m with
 | zero=>rfl
 | succ m ih=>exact⟨[],[],rfl,h,ih⟩
def QhF (h:M []) (hu:Pw M m u) (d:Nat):Pw M (m+d) u:=by
 induction d with
 | zero=>exact hu
 | succ d ih=>exact⟨[],u,rfl,h,ih⟩
mutual
theorem Xq:∀ (n:Nd),Qg n=true→Q0 n=true→Mb n []
 | .mk k s ps lo hi,hf,h=>by
  have hf2:Qh k s ps.length lo hi=true∧Qc ps=true:=by rw[Qg,Bool.and_eq_true] at hf;exact hf
  rw[Q0] at h;rw[ZO];by_cases k1:k=1
  ·rw[if_pos k1] at h;cases h
  rw[if_neg k1] at h ⊢;by_cases k2:k=2
  ·rw[if_pos k2] at h;rw[if_neg OM,if_pos k2];exact Kh ps hf2.2 h
  rw[if_neg k2] at h;by_cases k3:k=3
  ·rw[if_pos k3] at h ⊢;exact KC ps hf2.2 h
  rw[if_neg k3] at h ⊢;rw[if_neg k2];by_cases k4:k=4
  ·rw[if_pos k4] at h ⊢;have h1:=hf2.1;rw[k4] at h1;obtain⟨_,g2,_,g4⟩:=WJ h1;rw[Bool.or_eq_true,beq_iff_eq] at h;rcases h with h|h
   ·exact⟨0,OM,OM,rfl⟩
   ·exact⟨lo.toNat,OM,OM,QkE (V0 ps hf2.2 h) _⟩
  ·rw[if_neg k4];rfl
theorem Kh:∀ (ps:List Nd),Qc ps=true→ZK ps=true→ZI ps []
 | [],_,_=>by rw[Zn];rfl
 | p::ps,hf,h=>by
  rw[Qc,Bool.and_eq_true] at hf;rw[ZK,Bool.and_eq_true] at h;rw[QD]
  exact⟨[],[],rfl,Xq p hf.1 h.1,Kh ps hf.2 h.2⟩
theorem KC:∀ (ps:List Nd),Qc ps=true→Zz ps=true→Zm ps []
 | [],_,h=>by rw[Zz] at h;cases h
 | p::ps,hf,h=>by
  rw[Qc,Bool.and_eq_true] at hf;rw[Zz,Bool.or_eq_true] at h;rw[Qv];rcases h with h|h
  ·exact .inl (Xq p hf.1 h)
  ·exact .inr (KC ps hf.2 h)
theorem V0:∀ (ps:List Nd),Qc ps=true→YQ ps=true→Jq ps []
 | [],_,h=>by rw[YQ] at h;cases h
 | p::ps,hf,h=>by
  rw[Qc,Bool.and_eq_true] at hf;rw[YQ] at h;rw[QR];exact Xq p hf.1 h
end
def QeA (hs:W64 s) (h:Qt s=false):∃ b,b < 256∧Q2 s b=true:=by
 have:∃ j,j < 4∧s j≠0:=by
  simp [Qt] at h;by_cases h0:s 0=0
  ·by_cases h1:s 1=0
   ·by_cases h2:s 2=0
    ·exact⟨3,OM,h h0 h1 h2⟩
    ·exact⟨2,OM,h2⟩
   ·exact⟨1,OM,h1⟩
  ·exact⟨0,OM,h0⟩
 obtain⟨j,hj,hne⟩:=this;obtain⟨i,hi⟩:=Nat.exists_testBit_of_ne_zero hne;have hi64:i < 64:=by
  rcases Nat.lt_or_ge i 64 with h1|h1
  ·exact h1
  ·have:s j < 2 ^ i:=Nat.lt_of_lt_of_le (hs j hj) (by rw[show (18446744073709551616:Nat)=2 ^ 64 by rfl];exact Nat.pow_le_pow_right OM h1)
   rw[Nat.testBit_lt_two_pow this] at hi;cases hi
 refine⟨64*j+i,OM,?_⟩
 unfold Q2;rw[show (64*j+i) / 64=j by omega,show (64*j+i) % 64=i by omega];exact hi
def QmW (h:∃ u,M u) (m:Nat):∃ u,Pw M m u:=by
 induction m with
 | zero=>exact⟨[],rfl⟩
 | succ m ih=>obtain⟨u,hu⟩:=h;obtain⟨v,hv⟩:=ih;exact⟨u++v,u,v,rfl,hu,hv⟩
mutual
theorem XI:∀ (n:Nd),Zd n→Qg n=true→QG n=false→∃ u,Mb n u
 | .mk k s ps lo hi,hs,hf,h=>by
  have hf2:Qh k s ps.length lo hi=true∧Qc ps=true:=by rw[Qg,Bool.and_eq_true] at hf;exact hf
  rw[QG] at h;rw[ZO];by_cases k1:k=1
  ·rw[if_pos k1] at h ⊢;obtain⟨b,h1,h2⟩:=QeA hs.1 h
   exact⟨[b],b,h1,rfl,h2⟩
  rw[if_neg k1] at h ⊢;by_cases k2:k=2
  ·rw[if_pos k2] at h;rw[if_neg OM,if_pos k2];exact Kw ps hs.2.2 hf2.2 h
  rw[if_neg k2] at h;by_cases k3:k=3
  ·rw[if_pos k3] at h ⊢;exact KM ps hs.2.2 hf2.2 h
  rw[if_neg k3] at h ⊢;rw[if_neg k2];by_cases k4:k=4
  ·rw[if_pos k4] at h ⊢;have h1:=hf2.1;rw[k4] at h1;obtain⟨g1,g2,_,g4⟩:=WJ h1;rw[Bool.and_eq_false_iff] at h;rcases h with h|h
   ·exact⟨[],0,by simp at h;omega,OM,rfl⟩
   ·obtain⟨u,hu⟩:=QmW (VK ps hs.2.2 hf2.2 OM h) lo.toNat
    exact⟨u,lo.toNat,OM,OM,hu⟩
  ·rw[if_neg k4];exact⟨[],rfl⟩
theorem Kw:∀ (ps:List Nd),JS ps→Qc ps=true→Z7 ps=false→∃ u,ZI ps u
 | [],_,_,_=>by rw[Zn];exact⟨[],rfl⟩
 | p::ps,hs,hf,h=>by
  rw[Qc,Bool.and_eq_true] at hf;rw[Z7,Bool.or_eq_false_iff] at h;obtain⟨u,hu⟩:=XI p hs.1 hf.1 h.1;obtain⟨v,hv⟩:=Kw ps hs.2 hf.2 h.2;rw[QD]
  exact⟨u++v,u,v,rfl,hu,hv⟩
theorem KM:∀ (ps:List Nd),JS ps→Qc ps=true→Ym ps=false→∃ u,Zm ps u
 | [],_,_,h=>by rw[Ym] at h;cases h
 | p::ps,hs,hf,h=>by
  rw[Qc,Bool.and_eq_true] at hf;rw[Ym,Bool.and_eq_false_iff] at h;rw[Qv];rcases h with h|h
  ·obtain⟨u,hu⟩:=XI p hs.1 hf.1 h;exact⟨u,.inl hu⟩
  ·obtain⟨u,hu⟩:=KM ps hs.2 hf.2 h;exact⟨u,.inr hu⟩
theorem VK:∀ (ps:List Nd),JS ps→Qc ps=true→ps.length=1→J8 ps=false→∃ u,Jq ps u
 | [],_,_,h,_=>by simp at h
 | p::ps,hs,hf,_,h=>by
  rw[Qc,Bool.and_eq_true] at hf;rw[J8] at h;rw[QR];exact XI p hs.1 hf.1 h
end
mutual
theorem QcM:∀ (a b:Nd),Y2 a b=true→Mb a=Mb b
 | .mk k s ps lo hi,.mk k' s' ps' lo' hi',h=>by
  rw[Y2] at h;simp only[Bool.and_eq_true,beq_iff_eq] at h;obtain⟨⟨⟨⟨h1,h2,h3,h4,h5⟩,h6⟩,h7⟩,h8⟩:=h;subst h1;subst h6;subst h7;obtain⟨g1,g2,g3⟩:=Qap ps ps' h8;rw[ZO,ZO,g1,g2,g3];have hb:(fun u=>∃ b,b < 256∧u=[b]∧Q2 s b=true)=(fun u=>∃ b,b < 256∧u=[b]∧Q2 s' b=true):=by
   funext u
   have:∀ b,b < 256→Q2 s b=Q2 s' b:=by
    intro b hb;unfold Q2
    have:b / 64=0∨b / 64=1∨b / 64=2∨b / 64=3:=by omega
    rcases this with e|e|e|e<;>rw[e]<;>simp [*]
   apply propext;constructor
   ·rintro⟨b,h1,h2,h3⟩;exact⟨b,h1,h2,by rw[← this b h1];exact h3⟩
   ·rintro⟨b,h1,h2,h3⟩;exact⟨b,h1,h2,by rw[this b h1];exact h3⟩
  rw[hb]
theorem Qap:∀ (ps qs:List Nd),HD ps qs=true→Zm ps=Zm qs∧ZI ps=ZI qs∧Jq ps=Jq qs
 | [],[],_=>⟨rfl,rfl,rfl⟩
 | [],_::_,h=>by simp [HD] at h
 | _::_,[],h=>by simp [HD] at h
 | p::ps,q::qs,h=>by
  rw[HD,Bool.and_eq_true] at h;have h1:=QcM p q h.1;obtain⟨h2,h3,_⟩:=Qap ps qs h.2;rw[Qv,Qv,QD,QD,QR,QR,h1,h2,h3]
  exact⟨rfl,rfl,rfl⟩
end
def QdK {q:Nd} {l:List Nd} (h:q∈l) (hu:Mb q u):Zm l u:=by
 induction l with
 | nil=>cases h
 | cons p l ih =>
  rw[Qv];rcases List.mem_cons.1 h with rfl|h
  ·exact .inl hu
  ·exact .inr (ih h)
mutual
theorem Qe7:∀ (l:List Nd) (p:Nd),ZI (put1 2 l p)=lcat (ZI l) (Mb p)
 | l,.mk k s ps lo hi=>by
  rw[put1];split
  ·rename_i h;subst h;rw[K6 l ps,ZO];simp
  ·split
   ·rename_i h1 h2;rw[ZO,h2.2];simp [Jl]
   ·rw[if_neg OM,QdH,QD,Zn,Jl]
theorem K6:∀ (l ps:List Nd),ZI (putL 2 l ps)=lcat (ZI l) (ZI ps)
 | l,[]=>by rw[putL,Zn,Jl]
 | l,p::ps=>by rw[putL,K6 (put1 2 l p) ps,Qe7 l p,QD,Ws]
end
mutual
theorem Qeu:∀ (l:List Nd) (p:Nd),Zm (put1 3 l p)=lor (Zm l) (Mb p)
 | l,.mk k s ps lo hi=>by
  rw[put1];split
  ·rename_i h;subst h;rw[Hf l ps,ZO];simp
  ·rw[if_neg OM];split
   ·rename_i h2;rw[Bool.or_eq_true] at h2;rcases h2.2 with h3|h3
    ·rw[YA _ h3,Xl]
    ·obtain⟨q,hq,hsm⟩:=List.any_eq_true.1 h3
     have:=QcM _ _ hsm
     exact Zb fun u=>⟨fun h=>.inl h,by rintro (h|h);exact h;rw[this] at h;exact QdK hq h⟩
   ·rw[QdZ,Qv,Ze,Xl]
theorem Hf:∀ (l ps:List Nd),Zm (putL 3 l ps)=lor (Zm l) (Zm ps)
 | l,[]=>by rw[putL,Ze,Xl]
 | l,p::ps=>by rw[putL,Hf (put1 3 l p) ps,Qeu l p,Qv,XN]
end
def Qfc:Mb noN=eps:=by rw[noN,ZO];simp
def Qid (l:List Nd):Mb (oneN 2 l)=ZI l:=by
 match l with
 | []=>rw[oneN,Qfc,Zn]
 | [p]=>rw[oneN,QD,Zn,Jl]
 | p::q::l=>rw[oneN,ZO]<;>simp
def QhH (l:List Nd) (h:l≠[]):Mb (oneN 3 l)=Zm l:=by
 match l with
 | []=>exact absurd rfl h
 | [p]=>rw[oneN,Qv,Ze,Xl]
 | p::q::l=>rw[oneN,ZO]<;>simp
def Qje (M:Lan) {lo:Int} (h0:0≤lo) (h1:lo≤0):Lt M lo 0=eps:=Zb fun u=>by
 constructor
 ·rintro⟨m,h2,h3,h4⟩
  have:m=0:=by omega
  subst this;exact h4
 ·intro h;exact⟨0,OM,OM,h⟩
def Qj1 {lo hi:Int} (h0:0≤lo) (h1:hi = -1∨lo≤hi):Lt eps lo hi=eps:=Zb fun u=>by
 constructor
 ·rintro⟨m,h2,h3,h4⟩;rw[Qgl] at h4;exact h4
 ·intro h;exact⟨lo.toNat,OM,OM,by rw[Qgl];exact h⟩
def QmY {hi:Int} (h1:hi = -1∨0≤hi):Lt ZN 0 hi=eps:=Zb fun u=>by
 constructor
 ·rintro⟨m,h2,h3,h4⟩
  cases m with
  | zero=>exact h4
  | succ m=>rw[Qlv OM] at h4;exact h4.elim
 ·intro h;exact⟨0,OM,OM,h⟩
def QlP (M:Lan):Lt M 1 1=M:=Zb fun u=>by
 constructor
 ·rintro⟨m,h2,h3,h4⟩
  have:m=1:=by omega
  subst this;rw[Qgr] at h4;exact h4
 ·intro h;exact⟨1,OM,OM,by rw[Qgr];exact h⟩
def QiY (h:M []) {lo hi:Int} (h0:0≤lo) (h1:hi = -1∨lo≤hi):Lt M 0 hi=Lt M lo hi:=Zb fun u=>by
 constructor
 ·rintro⟨m,h2,h3,h4⟩
  by_cases hm:lo≤m
  ·exact⟨m,hm,h3,h4⟩
  ·exact⟨m+(lo.toNat - m),OM,OM,QhF h h4 _⟩
 ·rintro⟨m,h2,h3,h4⟩;exact⟨m,OM,h3,h4⟩
def Qev {p:Nd} (hf:Qg p=true) {lo hi:Int} (h0:0≤lo) (h1:hi = -1∨lo≤hi) (hv:QG p=true→lo≤0):Mb (Yu p lo hi)=Lt (Mb p) lo hi:=by
 have hmk:Mb (.mk 4 zSet [p] (bif Q0 p then 0 else lo) hi)=Lt (Mb p) lo hi:=by
  rw[ZO];simp only[show ¬ ((4:Int)=1) by omega,show ¬ ((4:Int)=3) by omega,show ¬ ((4:Int)=2) by omega,if_false,if_true,QR];cases hn:Q0 p with
  | true=>exact QiY (Xq p hf hn) h0 h1
  | false=>rfl
 unfold Yu;cases hh:(hi==0) with
 | true =>
  have hh:hi=0:=eq_of_beq hh;subst hh;rw[cond_true,Qfc,Qje _ h0 OM]
 | false =>
  rw[cond_false];cases hk:(p.kind==0) with
  | true =>
   have hk:p.kind=0:=eq_of_beq hk
   have:Mb p=eps:=by cases p;simp only[Nd.kind] at hk;rw[ZO,hk];simp
   rw[cond_true,Qfc,this,Qj1 h0 h1]
  | false =>
   rw[cond_false];cases hvp:QG p with
   | true =>
    have:=hv hvp
    have h00:lo=0:=by omega
    rw[cond_true,Qfc,YA p hvp,h00,QmY OM]
   | false =>
    rw[cond_false];cases h11:(lo==1) with
    | false=>rw[cond_false];exact hmk
    | true =>
     rw[cond_true];cases h12:(hi==1) with
     | false=>rw[cond_false];exact hmk
     | true =>
      have e1:lo=1:=eq_of_beq h11;have e2:hi=1:=eq_of_beq h12;rw[cond_true,e1,e2,QlP]
mutual
theorem X5:∀ (n:Nd),okN n→cntN n≤900→Mb (Qb n)=Mb n
 | .mk k s ps lo hi,h,hc=>by
  have hps:=(Zu h).1;have hf:=h.2;rw[Qg,Bool.and_eq_true] at hf;rw[cntN] at hc;have hL:=Km ps hps OM;have hsl:=Jf ps hps OM;rw[Wx];split
  ·rename_i hv;rw[YA _ hv];exact YA _ (by rw[QG];simp [Qt,zSet])
  ·rename_i hv;split
   ·rename_i hk;rcases hk with rfl|rfl
    ·rw[Qid,K6,Zn,WR,hL.2.1,ZO];simp
    ·have h1:Zm (putL 3 [] (Qd ps))=Zm ps:=by rw[Hf,Ze,Qdp,hL.1]
     have h2:Mb (.mk 3 s ps lo hi)=Zm ps:=by rw[ZO];simp
     rw[h2,QhH _ ?_,h1];intro hnil;rw[hnil,Ze] at h1;obtain⟨u,hu⟩:=XI _ h.1 h.2 (by simpa using hv);rw[h2,← h1] at hu;exact hu
   ·split
    ·rename_i h4;subst h4;obtain⟨g1,g2,g3,g4⟩:=WJ hf.1;obtain⟨p,rfl⟩:=List.length_eq_one_iff.1 g1;simp only[cntL] at hc;have h5:=X5 p (hps p (by simp [Nd.parts])) OM;have h6:=hsl.1 (Qb p) (by simp [Qd]);simp only[Y8];rw[Qev h6.2 g2 OM (fun hvs=>?_),h5,ZO]
     ·simp [QR]
     ·
      have h7:=YA _ hvs;rw[h5] at h7;cases hvp:QG p with
      | false =>
       obtain⟨u,hu⟩:=XI p (hps p (by simp [Nd.parts])).1 (hps p (by simp [Nd.parts])).2 hvp;rw[h7] at hu;exact hu.elim
      | true =>
       rw[QG] at hv;simp [J8,hvp] at hv;exact hv
    ·rfl
theorem Km:∀ (ps:List Nd),(∀ p∈ps,okN p)→cntL ps≤900→Zm (Qd ps)=Zm ps∧ZI (Qd ps)=ZI ps∧True
 | [],_,_=>⟨rfl,rfl,trivial⟩
 | p::ps,h,hc=>by
  rw[cntL] at hc;have h1:=X5 p (h p SM) OM;obtain⟨h2,h3,_⟩:=Km ps (fun q hq=>h q (by simp [hq])) OM;rw[Qd,Qv,Qv,QD,QD,h1,h2,h3]
  exact⟨rfl,rfl,trivial⟩
end
end Go.Proofs.YtocmjakchgcioaaGreat
