import Derived.Test.YtocmjakchgcioaaGreatKk

namespace Go.Proofs.YtocmjakchgcioaaGreat
set_option linter.all false
variable {s:Nat→Nat} {m:Nat} {u:List Nat}
abbrev Lan:=List Nat→Prop
variable {M:Lan}
def eps:Lan:=fun u=>u=[]
def lcat (M N:Lan):Lan:=fun u=>∃ x y,u=x++y∧M x∧N y
def lor (M N:Lan):Lan:=fun u=>M u∨N u
def Pw (M:Lan):Nat→Lan
 | 0=>eps
 | m+1=>lcat M (Pw M m)
def Lt (M:Lan) (lo hi:Int):Lan:=fun u=>∃ m:Nat,lo≤m∧(hi = -1∨(m:Int)≤hi)∧Pw M m u
def Zb {N:Lan} (h:∀ u,M u↔N u):M=N:=funext fun u=>propext (h u)
def WW (M:Lan):lcat eps M=M:=Zb fun u=>⟨by rintro⟨x,y,rfl,rfl,h⟩;exact h,fun h=>⟨[],u,rfl,rfl,h⟩⟩
def Jk (M:Lan):lcat M eps=M:=Zb fun u=>⟨by rintro⟨x,y,rfl,h,rfl⟩;simpa using h,fun h=>⟨u,[],SM,h,rfl⟩⟩
def Wq (A B D:Lan):lcat (lcat A B) D=lcat A (lcat B D):=Zb fun u=>by
 constructor
 ·rintro⟨_,z,rfl,⟨x,y,rfl,hx,hy⟩,hz⟩;exact⟨x,y++z,SM,hx,y,z,rfl,hy,hz⟩
 ·rintro⟨x,_,rfl,hx,y,z,rfl,hy,hz⟩;exact⟨x++y,z,SM,⟨x,y,rfl,hx,hy⟩,hz⟩
def X5 (A B D:Lan):lor (lor A B) D=lor A (lor B D):=Zb fun u=>by simp only[lor,or_assoc]
def Qgd (M:Lan):Pw M 1=M:=by rw[Pw,Pw,Jk]
mutual
def Mb:Nd→Lan
 | .mk k s ps lo hi =>
  if k=1 then fun u=>∃ b,b < 256∧u=[b]∧Q2 s b=true
  else if k=3 then Zm ps
  else if k=2 then ZD ps
  else if k=4 then Lt (Jv ps) lo hi
  else eps
def Zm:List Nd→Lan
 | []=>fun _=>False
 | p::ps=>lor (Mb p) (Zm ps)
def ZD:List Nd→Lan
 | []=>eps
 | p::ps=>lcat (Mb p) (ZD ps)
def Jv:List Nd→Lan
 | []=>eps
 | p::_=>Mb p
end
def ZN:Lan:=fun _=>False
def QiV (M:Lan):lcat M ZN=ZN:=Zb fun u=>⟨by rintro⟨_,_,_,_,h⟩;exact h,fun h=>h.elim⟩
def QbT (M:Lan):lcat ZN M=ZN:=Zb fun u=>⟨by rintro⟨_,_,_,h,_⟩;exact h,fun h=>h.elim⟩
def XI (M:Lan):lor M ZN=M:=Zb fun u=>by simp [lor,ZN]
def QbW (M:Lan):lor ZN M=M:=Zb fun u=>by simp [lor,ZN]
def ZO (k:Int) (s:Nat→Nat) (ps:List Nd) (lo hi:Int):Mb (.mk k s ps lo hi)=if k=1 then fun u=>∃ b,b < 256∧u=[b]∧Q2 s b=true
   else if k=3 then Zm ps
   else if k=2 then ZD ps
   else if k=4 then Lt (Jv ps) lo hi
   else eps:=by funext u;rw[Mb]
def Zf:Zm []=ZN:=by funext u;rw[Zm];rfl
def Qv (p:Nd) (ps:List Nd):Zm (p::ps)=lor (Mb p) (Zm ps):=by funext u;rw[Zm]
def Zw:ZD []=eps:=by funext u;rw[ZD]
def QD (p:Nd) (ps:List Nd):ZD (p::ps)=lcat (Mb p) (ZD ps):=by funext u;rw[ZD]
def QR (p:Nd) (ps:List Nd):Jv (p::ps)=Mb p:=by funext u;rw[Jv]
def QcW (l m:List Nd):Zm (l++m)=lor (Zm l) (Zm m):=by
 induction l with
 | nil=>rw[Zf,QbW];rfl
 | cons p l ih=>rw[List.cons_append,Qv,Qv,ih,X5]
def Qc6 (l m:List Nd):ZD (l++m)=lcat (ZD l) (ZD m):=by
 induction l with
 | nil=>rw[Zw,WW];rfl
 | cons p l ih=>rw[List.cons_append,QD,QD,ih,Wq]
def Qfh (h:Qu s=true) {b:Nat} (hb:b < 256):Q2 s b=false:=by
 simp [Qu] at h
 have:s (b / 64)=0:=by
  have:b / 64=0∨b / 64=1∨b / 64=2∨b / 64=3:=by omega
  rcases this with h1|h1|h1|h1<;>rw[h1]<;>omega
 simp [Q2,this]
def Ql4 (h:0 < m):Pw ZN m=ZN:=by
 cases m with
 | zero=>omega
 | succ m=>rw[Pw,QbT]
mutual
theorem YI:∀ (n:Nd),QG n=true→Mb n=ZN
 | .mk k s ps lo hi,h=>by
  rw[QG] at h;rw[ZO];by_cases k1:k=1
  ·rw[if_pos k1] at h ⊢;exact Zb fun u=>⟨(by rintro⟨b,hb,_,h2⟩;rw[Qfh h hb] at h2;cases h2),fun hh=>hh.elim⟩
  rw[if_neg k1] at h ⊢;by_cases k2:k=2
  ·rw[if_pos k2] at h;rw[if_neg OM,if_pos k2];exact KI ps h
  rw[if_neg k2] at h;by_cases k3:k=3
  ·rw[if_pos k3] at h ⊢;exact Ks ps h
  rw[if_neg k3] at h ⊢;rw[if_neg k2];by_cases k4:k=4
  ·rw[if_pos k4] at h ⊢;rw[Bool.and_eq_true,decide_eq_true_eq] at h;have h2:=Dr ps h.2;rw[h2];exact Zb fun u=>⟨by rintro⟨m,h3,_,h5⟩;rw[Ql4 OM] at h5;exact h5,fun hh=>hh.elim⟩
  ·rw[if_neg k4] at h;cases h
theorem KI:∀ (ps:List Nd),Z7 ps=true→ZD ps=ZN
 | [],h=>by rw[Z7] at h;cases h
 | p::ps,h=>by
  rw[Z7,Bool.or_eq_true] at h;rw[QD];rcases h with h|h
  ·rw[YI p h,QbT]
  ·rw[KI ps h,QiV]
theorem Ks:∀ (ps:List Nd),Yj ps=true→Zm ps=ZN
 | [],_=>Zf
 | p::ps,h=>by
  rw[Yj,Bool.and_eq_true] at h;rw[Qv,YI p h.1,Ks ps h.2,XI]
theorem Dr:∀ (ps:List Nd),JP ps=true→Jv ps=ZN
 | [],h=>by rw[JP] at h;cases h
 | p::ps,h=>by rw[JP] at h;rw[QR,YI p h]
end
def Qgs (m:Nat):Pw eps m=eps:=by
 induction m with
 | zero=>rfl
 | succ m ih=>rw[Pw,ih,WW]
def Qjw (h:M []) (m:Nat):Pw M m []:=by
 induction m with
 | zero=>rfl
 | succ m ih=>exact⟨[],[],rfl,h,ih⟩
def QiM (h:M []) (hu:Pw M m u) (d:Nat):Pw M (m+d) u:=by
 induction d with
 | zero=>exact hu
 | succ d ih=>exact⟨[],u,rfl,h,ih⟩
mutual
theorem XS:∀ (n:Nd),Qg n=true→Q0 n=true→Mb n []
 | .mk k s ps lo hi,hf,h=>by
  have hf2:Qh k s ps.length lo hi=true∧Qc ps=true:=by rw[Qg,Bool.and_eq_true] at hf;exact hf
  rw[Q0] at h;rw[ZO];by_cases k1:k=1
  ·rw[if_pos k1] at h;cases h
  rw[if_neg k1] at h ⊢;by_cases k2:k=2
  ·rw[if_pos k2] at h;rw[if_neg OM,if_pos k2];exact KQ ps hf2.2 h
  rw[if_neg k2] at h;by_cases k3:k=3
  ·rw[if_pos k3] at h ⊢;exact Kr ps hf2.2 h
  rw[if_neg k3] at h ⊢;rw[if_neg k2];by_cases k4:k=4
  ·rw[if_pos k4] at h ⊢;have h1:=hf2.1;rw[k4] at h1;obtain⟨_,g2,_,g4⟩:=WL h1;rw[Bool.or_eq_true,beq_iff_eq] at h;rcases h with h|h
   ·exact⟨0,OM,OM,rfl⟩
   ·exact⟨lo.toNat,OM,OM,Qjw (VW ps hf2.2 h) _⟩
  ·rw[if_neg k4];rfl
theorem KQ:∀ (ps:List Nd),Qc ps=true→ZK ps=true→ZD ps []
 | [],_,_=>by rw[Zw];rfl
 | p::ps,hf,h=>by
  rw[Qc,Bool.and_eq_true] at hf;rw[ZK,Bool.and_eq_true] at h;rw[QD]
  exact⟨[],[],rfl,XS p hf.1 h.1,KQ ps hf.2 h.2⟩
theorem Kr:∀ (ps:List Nd),Qc ps=true→ZA ps=true→Zm ps []
 | [],_,h=>by rw[ZA] at h;cases h
 | p::ps,hf,h=>by
  rw[Qc,Bool.and_eq_true] at hf;rw[ZA,Bool.or_eq_true] at h;rw[Qv];rcases h with h|h
  ·exact .inl (XS p hf.1 h)
  ·exact .inr (Kr ps hf.2 h)
theorem VW:∀ (ps:List Nd),Qc ps=true→YR ps=true→Jv ps []
 | [],_,h=>by rw[YR] at h;cases h
 | p::ps,hf,h=>by
  rw[Qc,Bool.and_eq_true] at hf;rw[YR] at h;rw[QR];exact XS p hf.1 h
end
def Qfx (hs:W64 s) (h:Qu s=false):∃ b,b < 256∧Q2 s b=true:=by
 have:∃ j,j < 4∧s j≠0:=by
  simp [Qu] at h;by_cases h0:s 0=0
  ·by_cases h1:s 1=0
   ·by_cases h2:s 2=0
    ·exact⟨3,OM,h h0 h1 h2⟩
    ·exact⟨2,OM,h2⟩
   ·exact⟨1,OM,h1⟩
  ·exact⟨0,OM,h0⟩
 obtain⟨j,hj,hne⟩:=this;obtain⟨i,hi⟩:=Nat.exists_testBit_of_ne_zero hne;have hi64:i < 64:=by
  rcases Nat.lt_or_ge i 64 with h1|h1
  ·exact h1
  ·have:s j < 2 ^ i:=Nat.lt_of_lt_of_le (hs j hj) (by rw[show (18446744073709551616:Nat)=2 ^ 64 by rfl];exact Nat.pow_le_pow_right OM h1)
   rw[Nat.testBit_lt_two_pow this] at hi;cases hi
 refine⟨64*j+i,OM,?_⟩
 unfold Q2;rw[show (64*j+i) / 64=j by omega,show (64*j+i) % 64=i by omega];exact hi
def Qnb (h:∃ u,M u) (m:Nat):∃ u,Pw M m u:=by
 induction m with
 | zero=>exact⟨[],rfl⟩
 | succ m ih=>obtain⟨u,hu⟩:=h;obtain⟨v,hv⟩:=ih;exact⟨u++v,u,v,rfl,hu,hv⟩
mutual
theorem XG:∀ (n:Nd),Zc n→Qg n=true→QG n=false→∃ u,Mb n u
 | .mk k s ps lo hi,hs,hf,h=>by
  have hf2:Qh k s ps.length lo hi=true∧Qc ps=true:=by rw[Qg,Bool.and_eq_true] at hf;exact hf
  rw[QG] at h;rw[ZO];by_cases k1:k=1
  ·rw[if_pos k1] at h ⊢;obtain⟨b,h1,h2⟩:=Qfx hs.1 h
   exact⟨[b],b,h1,rfl,h2⟩
  rw[if_neg k1] at h ⊢;by_cases k2:k=2
  ·rw[if_pos k2] at h;rw[if_neg OM,if_pos k2];exact Ki ps hs.2.2 hf2.2 h
  rw[if_neg k2] at h;by_cases k3:k=3
  ·rw[if_pos k3] at h ⊢;exact Kw ps hs.2.2 hf2.2 h
  rw[if_neg k3] at h ⊢;rw[if_neg k2];by_cases k4:k=4
  ·rw[if_pos k4] at h ⊢;have h1:=hf2.1;rw[k4] at h1;obtain⟨g1,g2,_,g4⟩:=WL h1;rw[Bool.and_eq_false_iff] at h;rcases h with h|h
   ·exact⟨[],0,by simp at h;omega,OM,rfl⟩
   ·obtain⟨u,hu⟩:=Qnb (Do ps hs.2.2 hf2.2 OM h) lo.toNat
    exact⟨u,lo.toNat,OM,OM,hu⟩
  ·rw[if_neg k4];exact⟨[],rfl⟩
theorem Ki:∀ (ps:List Nd),JH ps→Qc ps=true→Z7 ps=false→∃ u,ZD ps u
 | [],_,_,_=>by rw[Zw];exact⟨[],rfl⟩
 | p::ps,hs,hf,h=>by
  rw[Qc,Bool.and_eq_true] at hf;rw[Z7,Bool.or_eq_false_iff] at h;obtain⟨u,hu⟩:=XG p hs.1 hf.1 h.1;obtain⟨v,hv⟩:=Ki ps hs.2 hf.2 h.2;rw[QD]
  exact⟨u++v,u,v,rfl,hu,hv⟩
theorem Kw:∀ (ps:List Nd),JH ps→Qc ps=true→Yj ps=false→∃ u,Zm ps u
 | [],_,_,h=>by rw[Yj] at h;cases h
 | p::ps,hs,hf,h=>by
  rw[Qc,Bool.and_eq_true] at hf;rw[Yj,Bool.and_eq_false_iff] at h;rw[Qv];rcases h with h|h
  ·obtain⟨u,hu⟩:=XG p hs.1 hf.1 h;exact⟨u,.inl hu⟩
  ·obtain⟨u,hu⟩:=Kw ps hs.2 hf.2 h;exact⟨u,.inr hu⟩
theorem Do:∀ (ps:List Nd),JH ps→Qc ps=true→ps.length=1→JP ps=false→∃ u,Jv ps u
 | [],_,_,h,_=>by simp at h
 | p::ps,hs,hf,_,h=>by
  rw[Qc,Bool.and_eq_true] at hf;rw[JP] at h;rw[QR];exact XG p hs.1 hf.1 h
end
mutual
theorem QdY:∀ (a b:Nd),Ja a b=true→Mb a=Mb b
 | .mk k s ps lo hi,.mk k' s' ps' lo' hi',h=>by
  rw[Ja] at h;simp only[Bool.and_eq_true,beq_iff_eq] at h;obtain⟨⟨⟨⟨h1,h2,h3,h4,h5⟩,h6⟩,h7⟩,h8⟩:=h;subst h1;subst h6;subst h7;obtain⟨g1,g2,g3⟩:=DY ps ps' h8;rw[ZO,ZO,g1,g2,g3];have hb:(fun u=>∃ b,b < 256∧u=[b]∧Q2 s b=true)=(fun u=>∃ b,b < 256∧u=[b]∧Q2 s' b=true):=by
   funext u
   have:∀ b,b < 256→Q2 s b=Q2 s' b:=by
    intro b hb;unfold Q2
    have:b / 64=0∨b / 64=1∨b / 64=2∨b / 64=3:=by omega
    rcases this with e|e|e|e<;>rw[e]<;>simp [*]
   apply propext;constructor
   ·rintro⟨b,h1,h2,h3⟩;exact⟨b,h1,h2,by rw[← this b h1];exact h3⟩
   ·rintro⟨b,h1,h2,h3⟩;exact⟨b,h1,h2,by rw[this b h1];exact h3⟩
  rw[hb]
theorem DY:∀ (ps qs:List Nd),HO ps qs=true→Zm ps=Zm qs∧ZD ps=ZD qs∧Jv ps=Jv qs
 | [],[],_=>⟨rfl,rfl,rfl⟩
 | [],_::_,h=>by simp [HO] at h
 | _::_,[],h=>by simp [HO] at h
 | p::ps,q::qs,h=>by
  rw[HO,Bool.and_eq_true] at h;have h1:=QdY p q h.1;obtain⟨h2,h3,_⟩:=DY ps qs h.2;rw[Qv,Qv,QD,QD,QR,QR,h1,h2,h3]
  exact⟨rfl,rfl,rfl⟩
end
def Qcm {q:Nd} {l:List Nd} (h:q∈l) (hu:Mb q u):Zm l u:=by
 induction l with
 | nil=>cases h
 | cons p l ih =>
  rw[Qv];rcases List.mem_cons.1 h with rfl|h
  ·exact .inl hu
  ·exact .inr (ih h)
mutual
theorem QeD:∀ (l:List Nd) (p:Nd),ZD (put1 2 l p)=lcat (ZD l) (Mb p)
 | l,.mk k s ps lo hi=>by
  rw[put1];split
  ·rename_i h;subst h;rw[Hw l ps,ZO];simp
  ·split
   ·rename_i h1 h2;rw[ZO,h2.2];simp [Jk]
   ·rw[if_neg OM,Qc6,QD,Zw,Jk]
theorem Hw:∀ (l ps:List Nd),ZD (putL 2 l ps)=lcat (ZD l) (ZD ps)
 | l,[]=>by rw[putL,Zw,Jk]
 | l,p::ps=>by rw[putL,Hw (put1 2 l p) ps,QeD l p,QD,Wq]
end
mutual
theorem QeC:∀ (l:List Nd) (p:Nd),Zm (put1 3 l p)=lor (Zm l) (Mb p)
 | l,.mk k s ps lo hi=>by
  rw[put1];split
  ·rename_i h;subst h;rw[KR l ps,ZO];simp
  ·rw[if_neg OM];split
   ·rename_i h2;rw[Bool.or_eq_true] at h2;rcases h2.2 with h3|h3
    ·rw[YI _ h3,XI]
    ·obtain⟨q,hq,hsm⟩:=List.any_eq_true.1 h3
     have:=QdY _ _ hsm
     exact Zb fun u=>⟨fun h=>.inl h,by rintro (h|h);exact h;rw[this] at h;exact Qcm hq h⟩
   ·rw[QcW,Qv,Zf,XI]
theorem KR:∀ (l ps:List Nd),Zm (putL 3 l ps)=lor (Zm l) (Zm ps)
 | l,[]=>by rw[putL,Zf,XI]
 | l,p::ps=>by rw[putL,KR (put1 3 l p) ps,QeC l p,Qv,X5]
end
def QeZ:Mb noN=eps:=by rw[noN,ZO];simp
def Qiw (l:List Nd):Mb (oneN 2 l)=ZD l:=by
 match l with
 | []=>rw[oneN,QeZ,Zw]
 | [p]=>rw[oneN,QD,Zw,Jk]
 | p::q::l=>rw[oneN,ZO]<;>simp
def Qi9 (l:List Nd) (h:l≠[]):Mb (oneN 3 l)=Zm l:=by
 match l with
 | []=>exact absurd rfl h
 | [p]=>rw[oneN,Qv,Zf,XI]
 | p::q::l=>rw[oneN,ZO]<;>simp
def QiO (M:Lan) {lo:Int} (h0:0≤lo) (h1:lo≤0):Lt M lo 0=eps:=Zb fun u=>by
 constructor
 ·rintro⟨m,h2,h3,h4⟩
  have:m=0:=by omega
  subst this;exact h4
 ·intro h;exact⟨0,OM,OM,h⟩
def Qlz {lo hi:Int} (h0:0≤lo) (h1:hi = -1∨lo≤hi):Lt eps lo hi=eps:=Zb fun u=>by
 constructor
 ·rintro⟨m,h2,h3,h4⟩;rw[Qgs] at h4;exact h4
 ·intro h;exact⟨lo.toNat,OM,OM,by rw[Qgs];exact h⟩
def QmR {hi:Int} (h1:hi = -1∨0≤hi):Lt ZN 0 hi=eps:=Zb fun u=>by
 constructor
 ·rintro⟨m,h2,h3,h4⟩
  cases m with
  | zero=>exact h4
  | succ m=>rw[Ql4 OM] at h4;exact h4.elim
 ·intro h;exact⟨0,OM,OM,h⟩
def Qk9 (M:Lan):Lt M 1 1=M:=Zb fun u=>by
 constructor
 ·rintro⟨m,h2,h3,h4⟩
  have:m=1:=by omega
  subst this;rw[Qgd] at h4;exact h4
 ·intro h;exact⟨1,OM,OM,by rw[Qgd];exact h⟩
def Qhs (h:M []) {lo hi:Int} (h0:0≤lo) (h1:hi = -1∨lo≤hi):Lt M 0 hi=Lt M lo hi:=Zb fun u=>by
 constructor
 ·rintro⟨m,h2,h3,h4⟩
  by_cases hm:lo≤m
  ·exact⟨m,hm,h3,h4⟩
  ·exact⟨m+(lo.toNat - m),OM,OM,QiM h h4 _⟩
 ·rintro⟨m,h2,h3,h4⟩;exact⟨m,OM,h3,h4⟩
def Qeg {p:Nd} (hf:Qg p=true) {lo hi:Int} (h0:0≤lo) (h1:hi = -1∨lo≤hi) (hv:QG p=true→lo≤0):Mb (Yw p lo hi)=Lt (Mb p) lo hi:=by
 have hmk:Mb (.mk 4 zSet [p] (bif Q0 p then 0 else lo) hi)=Lt (Mb p) lo hi:=by
  rw[ZO];simp only[show ¬ ((4:Int)=1) by omega,show ¬ ((4:Int)=3) by omega,show ¬ ((4:Int)=2) by omega,if_false,if_true,QR];cases hn:Q0 p with
  | true=>exact Qhs (XS p hf hn) h0 h1
  | false=>rfl
 unfold Yw;cases hh:(hi==0) with
 | true =>
  have hh:hi=0:=eq_of_beq hh;subst hh;rw[cond_true,QeZ,QiO _ h0 OM]
 | false =>
  rw[cond_false];cases hk:(p.kind==0) with
  | true =>
   have hk:p.kind=0:=eq_of_beq hk
   have:Mb p=eps:=by cases p;simp only[Nd.kind] at hk;rw[ZO,hk];simp
   rw[cond_true,QeZ,this,Qlz h0 h1]
  | false =>
   rw[cond_false];cases hvp:QG p with
   | true =>
    have:=hv hvp
    have h00:lo=0:=by omega
    rw[cond_true,QeZ,YI p hvp,h00,QmR OM]
   | false =>
    rw[cond_false];cases h11:(lo==1) with
    | false=>rw[cond_false];exact hmk
    | true =>
     rw[cond_true];cases h12:(hi==1) with
     | false=>rw[cond_false];exact hmk
     | true =>
      have e1:lo=1:=eq_of_beq h11;have e2:hi=1:=eq_of_beq h12;rw[cond_true,e1,e2,Qk9]
mutual
theorem XA:∀ (n:Nd),okN n→cntN n≤900→Mb (Qb n)=Mb n
 | .mk k s ps lo hi,h,hc=>by
  have hps:=(Zv h).1;have hf:=h.2;rw[Qg,Bool.and_eq_true] at hf;rw[cntN] at hc;have hL:=KK ps hps OM;have hsl:=Ji ps hps OM;rw[Wx];split
  ·rename_i hv;rw[YI _ hv];exact YI _ (by rw[QG];simp [Qu,zSet])
  ·rename_i hv;split
   ·rename_i hk;rcases hk with rfl|rfl
    ·rw[Qiw,Hw,Zw,WW,hL.2.1,ZO];simp
    ·have h1:Zm (putL 3 [] (Qd ps))=Zm ps:=by rw[KR,Zf,QbW,hL.1]
     have h2:Mb (.mk 3 s ps lo hi)=Zm ps:=by rw[ZO];simp
     rw[h2,Qi9 _ ?_,h1];intro hnil;rw[hnil,Zf] at h1;obtain⟨u,hu⟩:=XG _ h.1 h.2 (by simpa using hv);rw[h2,← h1] at hu;exact hu
   ·split
    ·rename_i h4;subst h4;obtain⟨g1,g2,g3,g4⟩:=WL hf.1;obtain⟨p,rfl⟩:=List.length_eq_one_iff.1 g1;simp only[cntL] at hc;have h5:=XA p (hps p (by simp [Nd.parts])) OM;have h6:=hsl.1 (Qb p) (by simp [Qd]);simp only[YW];rw[Qeg h6.2 g2 OM (fun hvs=>?_),h5,ZO]
     ·simp [QR]
     ·
      have h7:=YI _ hvs;rw[h5] at h7;cases hvp:QG p with
      | false =>
       obtain⟨u,hu⟩:=XG p (hps p (by simp [Nd.parts])).1 (hps p (by simp [Nd.parts])).2 hvp;rw[h7] at hu;exact hu.elim
      | true =>
       rw[QG] at hv;simp [JP,hvp] at hv;exact hv
    ·rfl
theorem KK:∀ (ps:List Nd),(∀ p∈ps,okN p)→cntL ps≤900→Zm (Qd ps)=Zm ps∧ZD (Qd ps)=ZD ps∧True
 | [],_,_=>⟨rfl,rfl,trivial⟩
 | p::ps,h,hc=>by
  rw[cntL] at hc;have h1:=XA p (h p SM) OM;obtain⟨h2,h3,_⟩:=KK ps (fun q hq=>h q (by simp [hq])) OM;rw[Qd,Qv,Qv,QD,QD,h1,h2,h3]
  exact⟨rfl,rfl,trivial⟩
end
end Go.Proofs.YtocmjakchgcioaaGreat
