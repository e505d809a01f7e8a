import Derived.Test.YtklbhcjmaeedhaaGreatDoorKk

namespace Go.Proofs.YtklbhcjmaeedhaaGreatDoor
set_option linter.all false
variable {s:Nat→Nat} {m:Nat} {u:List Nat}
abbrev Lan:=List Nat→Prop
variable {M:Lan}
def eps:Lan:=fun u=>u=[]
def lcat (M N:Lan):Lan:=fun u=>∃ x y,u=x++y∧M x∧N y
def lor (M N:Lan):Lan:=fun u=>M u∨N u
def Pw (M:Lan):Nat→Lan
 | 0=>eps
 | m+1=>lcat M (Pw M m)
def Lt (M:Lan) (lo hi:Int):Lan:=fun u=>∃ m:Nat,lo≤m∧(hi = -1∨(m:Int)≤hi)∧Pw M m u
def Za {N:Lan} (h:∀ u,M u↔N u):M=N:=funext fun u=>propext (h u)
def JS (M:Lan):lcat eps M=M:=Za fun u=>⟨by rintro⟨x,y,rfl,rfl,h⟩;exact h,fun h=>⟨[],u,rfl,rfl,h⟩⟩
def YI (M:Lan):lcat M eps=M:=Za fun u=>⟨by rintro⟨x,y,rfl,h,rfl⟩;simpa using h,fun h=>⟨u,[],SM,h,rfl⟩⟩
def Ja (A B D:Lan):lcat (lcat A B) D=lcat A (lcat B D):=Za fun u=>by
 constructor
 ·rintro⟨_,z,rfl,⟨x,y,rfl,hx,hy⟩,hz⟩;exact⟨x,y++z,SM,hx,y,z,rfl,hy,hz⟩
 ·rintro⟨x,_,rfl,hx,y,z,rfl,hy,hz⟩;exact⟨x++y,z,SM,⟨x,y,rfl,hx,hy⟩,hz⟩
def JB (A B D:Lan):lor (lor A B) D=lor A (lor B D):=Za fun u=>by simp only[lor,or_assoc]
def Qfu (M:Lan):Pw M 1=M:=by rw[Pw,Pw,YI]
mutual
def Mb:Nd→Lan
 | .mk k s ps lo hi =>
  if k=1 then fun u=>∃ b,b < 256∧u=[b]∧QA s b=true
  else if k=3 then Zj ps
  else if k=2 then Zt ps
  else if k=4 then Lt (Jj ps) lo hi
  else eps
def Zj:List Nd→Lan
 | []=>fun _=>False
 | p::ps=>lor (Mb p) (Zj ps)
def Zt:List Nd→Lan
 | []=>eps
 | p::ps=>lcat (Mb p) (Zt ps)
def Jj:List Nd→Lan
 | []=>eps
 | p::_=>Mb p
end
def ZI:Lan:=fun _=>False
def QhH (M:Lan):lcat M ZI=ZI:=Za fun u=>⟨by rintro⟨_,_,_,_,h⟩;exact h,fun h=>h.elim⟩
def Qcd (M:Lan):lcat ZI M=ZI:=Za fun u=>⟨by rintro⟨_,_,_,h,_⟩;exact h,fun h=>h.elim⟩
def Xp (M:Lan):lor M ZI=M:=Za fun u=>by simp [lor,ZI]
def D9 (M:Lan):lor ZI M=M:=Za fun u=>by simp [lor,ZI]
def Zo (k:Int) (s:Nat→Nat) (ps:List Nd) (lo hi:Int):Mb (.mk k s ps lo hi)=if k=1 then fun u=>∃ b,b < 256∧u=[b]∧QA s b=true
   else if k=3 then Zj ps
   else if k=2 then Zt ps
   else if k=4 then Lt (Jj ps) lo hi
   else eps:=by funext u;rw[Mb]
def Ze:Zj []=ZI:=by funext u;rw[Zj];rfl
def Qx (p:Nd) (ps:List Nd):Zj (p::ps)=lor (Mb p) (Zj ps):=by funext u;rw[Zj]
def Zd:Zt []=eps:=by funext u;rw[Zt]
def QB (p:Nd) (ps:List Nd):Zt (p::ps)=lcat (Mb p) (Zt ps):=by funext u;rw[Zt]
def QH (p:Nd) (ps:List Nd):Jj (p::ps)=Mb p:=by funext u;rw[Jj]
def Qdu (l m:List Nd):Zj (l++m)=lor (Zj l) (Zj m):=by
 induction l with
 | nil=>rw[Ze,D9];rfl
 | cons p l ih=>rw[List.cons_append,Qx,Qx,ih,JB]
def QbE (l m:List Nd):Zt (l++m)=lcat (Zt l) (Zt m):=by
 induction l with
 | nil=>rw[Zd,JS];rfl
 | cons p l ih=>rw[List.cons_append,QB,QB,ih,Ja]
def Qes (h:Qq s=true) {b:Nat} (hb:b < 256):QA s b=false:=by
 simp [Qq] at h
 have:s (b / 64)=0:=by
  have:b / 64=0∨b / 64=1∨b / 64=2∨b / 64=3:=by omega
  rcases this with h1|h1|h1|h1<;>rw[h1]<;>omega
 simp [QA,this]
def Qlo (h:0 < m):Pw ZI m=ZI:=by
 cases m with
 | zero=>omega
 | succ m=>rw[Pw,Qcd]
mutual
theorem YE:∀ (n:Nd),QD n=true→Mb n=ZI
 | .mk k s ps lo hi,h=>by
  rw[QD] at h;rw[Zo];by_cases k1:k=1
  ·rw[if_pos k1] at h ⊢;exact Za fun u=>⟨(by rintro⟨b,hb,_,h2⟩;rw[Qes h hb] at h2;cases h2),fun hh=>hh.elim⟩
  rw[if_neg k1] at h ⊢;by_cases k2:k=2
  ·rw[if_pos k2] at h;rw[if_neg OM,if_pos k2];exact Kk ps h
  rw[if_neg k2] at h;by_cases k3:k=3
  ·rw[if_pos k3] at h ⊢;exact Kn ps h
  rw[if_neg k3] at h ⊢;rw[if_neg k2];by_cases k4:k=4
  ·rw[if_pos k4] at h ⊢;rw[Bool.and_eq_true,decide_eq_true_eq] at h;have h2:=VD ps h.2;rw[h2];exact Za fun u=>⟨by rintro⟨m,h3,_,h5⟩;rw[Qlo OM] at h5;exact h5,fun hh=>hh.elim⟩
  ·rw[if_neg k4] at h;cases h
theorem Kk:∀ (ps:List Nd),ZU ps=true→Zt ps=ZI
 | [],h=>by rw[ZU] at h;cases h
 | p::ps,h=>by
  rw[ZU,Bool.or_eq_true] at h;rw[QB];rcases h with h|h
  ·rw[YE p h,Qcd]
  ·rw[Kk ps h,QhH]
theorem Kn:∀ (ps:List Nd),Ye ps=true→Zj ps=ZI
 | [],_=>Ze
 | p::ps,h=>by
  rw[Ye,Bool.and_eq_true] at h;rw[Qx,YE p h.1,Kn ps h.2,Xp]
theorem VD:∀ (ps:List Nd),JG ps=true→Jj ps=ZI
 | [],h=>by rw[JG] at h;cases h
 | p::ps,h=>by rw[JG] at h;rw[QH,YE p h]
end
def Qfx (m:Nat):Pw eps m=eps:=by
 induction m with
 | zero=>rfl
 | succ m ih=>rw[Pw,ih,JS]
def QjA (h:M []) (m:Nat):Pw M m []:=by
 induction m with
 | zero=>rfl
 | succ m ih=>exact⟨[],[],rfl,h,ih⟩
def QgO (h:M []) (hu:Pw M m u) (d:Nat):Pw M (m+d) u:=by
 induction d with
 | zero=>exact hu
 | succ d ih=>exact⟨[],u,rfl,h,ih⟩
mutual
theorem Xx:∀ (n:Nd),Qe n=true→QU n=true→Mb n []
 | .mk k s ps lo hi,hf,h=>by
  have hf2:Qk k s ps.length lo hi=true∧Qc ps=true:=by rw[Qe,Bool.and_eq_true] at hf;exact hf
  rw[QU] at h;rw[Zo];by_cases k1:k=1
  ·rw[if_pos k1] at h;cases h
  rw[if_neg k1] at h ⊢;by_cases k2:k=2
  ·rw[if_pos k2] at h;rw[if_neg OM,if_pos k2];exact Kb ps hf2.2 h
  rw[if_neg k2] at h;by_cases k3:k=3
  ·rw[if_pos k3] at h ⊢;exact XV ps hf2.2 h
  rw[if_neg k3] at h ⊢;rw[if_neg k2];by_cases k4:k=4
  ·rw[if_pos k4] at h ⊢;have h1:=hf2.1;rw[k4] at h1;obtain⟨_,g2,_,g4⟩:=Wu h1;rw[Bool.or_eq_true,beq_iff_eq] at h;rcases h with h|h
   ·exact⟨0,OM,OM,rfl⟩
   ·exact⟨lo.toNat,OM,OM,QjA (VG ps hf2.2 h) _⟩
  ·rw[if_neg k4];rfl
theorem Kb:∀ (ps:List Nd),Qc ps=true→ZJ ps=true→Zt ps []
 | [],_,_=>by rw[Zd];rfl
 | p::ps,hf,h=>by
  rw[Qc,Bool.and_eq_true] at hf;rw[ZJ,Bool.and_eq_true] at h;rw[QB]
  exact⟨[],[],rfl,Xx p hf.1 h.1,Kb ps hf.2 h.2⟩
theorem XV:∀ (ps:List Nd),Qc ps=true→Zy ps=true→Zj ps []
 | [],_,h=>by rw[Zy] at h;cases h
 | p::ps,hf,h=>by
  rw[Qc,Bool.and_eq_true] at hf;rw[Zy,Bool.or_eq_true] at h;rw[Qx];rcases h with h|h
  ·exact .inl (Xx p hf.1 h)
  ·exact .inr (XV ps hf.2 h)
theorem VG:∀ (ps:List Nd),Qc ps=true→Yv ps=true→Jj ps []
 | [],_,h=>by rw[Yv] at h;cases h
 | p::ps,hf,h=>by
  rw[Qc,Bool.and_eq_true] at hf;rw[Yv] at h;rw[QH];exact Xx p hf.1 h
end
def Qao (hs:W64 s) (h:Qq s=false):∃ b,b < 256∧QA s b=true:=by
 have:∃ j,j < 4∧s j≠0:=by
  simp [Qq] at h;by_cases h0:s 0=0
  ·by_cases h1:s 1=0
   ·by_cases h2:s 2=0
    ·exact⟨3,OM,h h0 h1 h2⟩
    ·exact⟨2,OM,h2⟩
   ·exact⟨1,OM,h1⟩
  ·exact⟨0,OM,h0⟩
 obtain⟨j,hj,hne⟩:=this;obtain⟨i,hi⟩:=Nat.exists_testBit_of_ne_zero hne;have hi64:i < 64:=by
  rcases Nat.lt_or_ge i 64 with h1|h1
  ·exact h1
  ·have:s j < 2 ^ i:=Nat.lt_of_lt_of_le (hs j hj) (by rw[show (18446744073709551616:Nat)=2 ^ 64 by rfl];exact Nat.pow_le_pow_right OM h1)
   rw[Nat.testBit_lt_two_pow this] at hi;cases hi
 refine⟨64*j+i,OM,?_⟩
 unfold QA;rw[show (64*j+i) / 64=j by omega,show (64*j+i) % 64=i by omega];exact hi
def QmG (h:∃ u,M u) (m:Nat):∃ u,Pw M m u:=by
 induction m with
 | zero=>exact⟨[],rfl⟩
 | succ m ih=>obtain⟨u,hu⟩:=h;obtain⟨v,hv⟩:=ih;exact⟨u++v,u,v,rfl,hu,hv⟩
mutual
theorem Xo:∀ (n:Nd),Zv n→Qe n=true→QD n=false→∃ u,Mb n u
 | .mk k s ps lo hi,hs,hf,h=>by
  have hf2:Qk k s ps.length lo hi=true∧Qc ps=true:=by rw[Qe,Bool.and_eq_true] at hf;exact hf
  rw[QD] at h;rw[Zo];by_cases k1:k=1
  ·rw[if_pos k1] at h ⊢;obtain⟨b,h1,h2⟩:=Qao hs.1 h
   exact⟨[b],b,h1,rfl,h2⟩
  rw[if_neg k1] at h ⊢;by_cases k2:k=2
  ·rw[if_pos k2] at h;rw[if_neg OM,if_pos k2];exact X4 ps hs.2.2 hf2.2 h
  rw[if_neg k2] at h;by_cases k3:k=3
  ·rw[if_pos k3] at h ⊢;exact Kf ps hs.2.2 hf2.2 h
  rw[if_neg k3] at h ⊢;rw[if_neg k2];by_cases k4:k=4
  ·rw[if_pos k4] at h ⊢;have h1:=hf2.1;rw[k4] at h1;obtain⟨g1,g2,_,g4⟩:=Wu h1;rw[Bool.and_eq_false_iff] at h;rcases h with h|h
   ·exact⟨[],0,by simp at h;omega,OM,rfl⟩
   ·obtain⟨u,hu⟩:=QmG (V8 ps hs.2.2 hf2.2 OM h) lo.toNat
    exact⟨u,lo.toNat,OM,OM,hu⟩
  ·rw[if_neg k4];exact⟨[],rfl⟩
theorem X4:∀ (ps:List Nd),JJ ps→Qc ps=true→ZU ps=false→∃ u,Zt ps u
 | [],_,_,_=>by rw[Zd];exact⟨[],rfl⟩
 | p::ps,hs,hf,h=>by
  rw[Qc,Bool.and_eq_true] at hf;rw[ZU,Bool.or_eq_false_iff] at h;obtain⟨u,hu⟩:=Xo p hs.1 hf.1 h.1;obtain⟨v,hv⟩:=X4 ps hs.2 hf.2 h.2;rw[QB]
  exact⟨u++v,u,v,rfl,hu,hv⟩
theorem Kf:∀ (ps:List Nd),JJ ps→Qc ps=true→Ye ps=false→∃ u,Zj ps u
 | [],_,_,h=>by rw[Ye] at h;cases h
 | p::ps,hs,hf,h=>by
  rw[Qc,Bool.and_eq_true] at hf;rw[Ye,Bool.and_eq_false_iff] at h;rw[Qx];rcases h with h|h
  ·obtain⟨u,hu⟩:=Xo p hs.1 hf.1 h;exact⟨u,.inl hu⟩
  ·obtain⟨u,hu⟩:=Kf ps hs.2 hf.2 h;exact⟨u,.inr hu⟩
theorem V8:∀ (ps:List Nd),JJ ps→Qc ps=true→ps.length=1→JG ps=false→∃ u,Jj ps u
 | [],_,_,h,_=>by simp at h
 | p::ps,hs,hf,_,h=>by
  rw[Qc,Bool.and_eq_true] at hf;rw[JG] at h;rw[QH];exact Xo p hs.1 hf.1 h
end
mutual
theorem Qdr:∀ (a b:Nd),Y2 a b=true→Mb a=Mb b
 | .mk k s ps lo hi,.mk k' s' ps' lo' hi',h=>by
  rw[Y2] at h;simp only[Bool.and_eq_true,beq_iff_eq] at h;obtain⟨⟨⟨⟨h1,h2,h3,h4,h5⟩,h6⟩,h7⟩,h8⟩:=h;subst h1;subst h6;subst h7;obtain⟨g1,g2,g3⟩:=Dl ps ps' h8;rw[Zo,Zo,g1,g2,g3];have hb:(fun u=>∃ b,b < 256∧u=[b]∧QA s b=true)=(fun u=>∃ b,b < 256∧u=[b]∧QA s' b=true):=by
   funext u
   have:∀ b,b < 256→QA s b=QA s' b:=by
    intro b hb;unfold QA
    have:b / 64=0∨b / 64=1∨b / 64=2∨b / 64=3:=by omega
    rcases this with e|e|e|e<;>rw[e]<;>simp [*]
   apply propext;constructor
   ·rintro⟨b,h1,h2,h3⟩;exact⟨b,h1,h2,by rw[← this b h1];exact h3⟩
   ·rintro⟨b,h1,h2,h3⟩;exact⟨b,h1,h2,by rw[this b h1];exact h3⟩
  rw[hb]
theorem Dl:∀ (ps qs:List Nd),H4 ps qs=true→Zj ps=Zj qs∧Zt ps=Zt qs∧Jj ps=Jj qs
 | [],[],_=>⟨rfl,rfl,rfl⟩
 | [],_::_,h=>by simp [H4] at h
 | _::_,[],h=>by simp [H4] at h
 | p::ps,q::qs,h=>by
  rw[H4,Bool.and_eq_true] at h;have h1:=Qdr p q h.1;obtain⟨h2,h3,_⟩:=Dl ps qs h.2;rw[Qx,Qx,QB,QB,QH,QH,h1,h2,h3]
  exact⟨rfl,rfl,rfl⟩
end
def QbK {q:Nd} {l:List Nd} (h:q∈l) (hu:Mb q u):Zj l u:=by
 induction l with
 | nil=>cases h
 | cons p l ih =>
  rw[Qx];rcases List.mem_cons.1 h with rfl|h
  ·exact .inl hu
  ·exact .inr (ih h)
mutual
theorem Qe8:∀ (l:List Nd) (p:Nd),Zt (put1 2 l p)=lcat (Zt l) (Mb p)
 | l,.mk k s ps lo hi=>by
  rw[put1];split
  ·rename_i h;subst h;rw[KI l ps,Zo];simp
  ·split
   ·rename_i h1 h2;rw[Zo,h2.2];simp [YI]
   ·rw[if_neg OM,QbE,QB,Zd,YI]
theorem KI:∀ (l ps:List Nd),Zt (putL 2 l ps)=lcat (Zt l) (Zt ps)
 | l,[]=>by rw[putL,Zd,YI]
 | l,p::ps=>by rw[putL,KI (put1 2 l p) ps,Qe8 l p,QB,Ja]
end
mutual
theorem QdX:∀ (l:List Nd) (p:Nd),Zj (put1 3 l p)=lor (Zj l) (Mb p)
 | l,.mk k s ps lo hi=>by
  rw[put1];split
  ·rename_i h;subst h;rw[Kv l ps,Zo];simp
  ·rw[if_neg OM];split
   ·rename_i h2;rw[Bool.or_eq_true] at h2;rcases h2.2 with h3|h3
    ·rw[YE _ h3,Xp]
    ·obtain⟨q,hq,hsm⟩:=List.any_eq_true.1 h3
     have:=Qdr _ _ hsm
     exact Za fun u=>⟨fun h=>.inl h,by rintro (h|h);exact h;rw[this] at h;exact QbK hq h⟩
   ·rw[Qdu,Qx,Ze,Xp]
theorem Kv:∀ (l ps:List Nd),Zj (putL 3 l ps)=lor (Zj l) (Zj ps)
 | l,[]=>by rw[putL,Ze,Xp]
 | l,p::ps=>by rw[putL,Kv (put1 3 l p) ps,QdX l p,Qx,JB]
end
def Qd2:Mb noN=eps:=by rw[noN,Zo];simp
def Qip (l:List Nd):Mb (oneN 2 l)=Zt l:=by
 match l with
 | []=>rw[oneN,Qd2,Zd]
 | [p]=>rw[oneN,QB,Zd,YI]
 | p::q::l=>rw[oneN,Zo]<;>simp
def QhP (l:List Nd) (h:l≠[]):Mb (oneN 3 l)=Zj l:=by
 match l with
 | []=>exact absurd rfl h
 | [p]=>rw[oneN,Qx,Ze,Xp]
 | p::q::l=>rw[oneN,Zo]<;>simp
def Qg7 (M:Lan) {lo:Int} (h0:0≤lo) (h1:lo≤0):Lt M lo 0=eps:=Za fun u=>by
 constructor
 ·rintro⟨m,h2,h3,h4⟩
  have:m=0:=by omega
  subst this;exact h4
 ·intro h;exact⟨0,OM,OM,h⟩
def QkS {lo hi:Int} (h0:0≤lo) (h1:hi = -1∨lo≤hi):Lt eps lo hi=eps:=Za fun u=>by
 constructor
 ·rintro⟨m,h2,h3,h4⟩;rw[Qfx] at h4;exact h4
 ·intro h;exact⟨lo.toNat,OM,OM,by rw[Qfx];exact h⟩
def Qmf {hi:Int} (h1:hi = -1∨0≤hi):Lt ZI 0 hi=eps:=Za fun u=>by
 constructor
 ·rintro⟨m,h2,h3,h4⟩
  cases m with
  | zero=>exact h4
  | succ m=>rw[Qlo OM] at h4;exact h4.elim
 ·intro h;exact⟨0,OM,OM,h⟩
def Qkt (M:Lan):Lt M 1 1=M:=Za fun u=>by
 constructor
 ·rintro⟨m,h2,h3,h4⟩
  have:m=1:=by omega
  subst this;rw[Qfu] at h4;exact h4
 ·intro h;exact⟨1,OM,OM,by rw[Qfu];exact h⟩
def Qhn (h:M []) {lo hi:Int} (h0:0≤lo) (h1:hi = -1∨lo≤hi):Lt M 0 hi=Lt M lo hi:=Za fun u=>by
 constructor
 ·rintro⟨m,h2,h3,h4⟩
  by_cases hm:lo≤m
  ·exact⟨m,hm,h3,h4⟩
  ·exact⟨m+(lo.toNat - m),OM,OM,QgO h h4 _⟩
 ·rintro⟨m,h2,h3,h4⟩;exact⟨m,OM,h3,h4⟩
def Qff {p:Nd} (hf:Qe p=true) {lo hi:Int} (h0:0≤lo) (h1:hi = -1∨lo≤hi) (hv:QD p=true→lo≤0):Mb (Yn p lo hi)=Lt (Mb p) lo hi:=by
 have hmk:Mb (.mk 4 zSet [p] (bif QU p then 0 else lo) hi)=Lt (Mb p) lo hi:=by
  rw[Zo];simp only[show ¬ ((4:Int)=1) by omega,show ¬ ((4:Int)=3) by omega,show ¬ ((4:Int)=2) by omega,if_false,if_true,QH];cases hn:QU p with
  | true=>exact Qhn (Xx p hf hn) h0 h1
  | false=>rfl
 unfold Yn;cases hh:(hi==0) with
 | true =>
  have hh:hi=0:=eq_of_beq hh;subst hh;rw[cond_true,Qd2,Qg7 _ h0 OM]
 | false =>
  rw[cond_false];cases hk:(p.kind==0) with
  | true =>
   have hk:p.kind=0:=eq_of_beq hk
   have:Mb p=eps:=by cases p;simp only[Nd.kind] at hk;rw[Zo,hk];simp
   rw[cond_true,Qd2,this,QkS h0 h1]
  | false =>
   rw[cond_false];cases hvp:QD p with
   | true =>
    have:=hv hvp
    have h00:lo=0:=by omega
    rw[cond_true,Qd2,YE p hvp,h00,Qmf OM]
   | false =>
    rw[cond_false];cases h11:(lo==1) with
    | false=>rw[cond_false];exact hmk
    | true =>
     rw[cond_true];cases h12:(hi==1) with
     | false=>rw[cond_false];exact hmk
     | true =>
      have e1:lo=1:=eq_of_beq h11;have e2:hi=1:=eq_of_beq h12;rw[cond_true,e1,e2,Qkt]
mutual
theorem Vg:∀ (n:Nd),okN n→cntN n≤900→Mb (Qb n)=Mb n
 | .mk k s ps lo hi,h,hc=>by
  have hps:=(Zn h).1;have hf:=h.2;rw[Qe,Bool.and_eq_true] at hf;rw[cntN] at hc;have hL:=Kl ps hps OM;have hsl:=Jc ps hps OM;rw[We];split
  ·rename_i hv;rw[YE _ hv];exact YE _ (by rw[QD];simp [Qq,zSet])
  ·rename_i hv;split
   ·rename_i hk;rcases hk with rfl|rfl
    ·rw[Qip,KI,Zd,JS,hL.2.1,Zo];simp
    ·have h1:Zj (putL 3 [] (Qd ps))=Zj ps:=by rw[Kv,Ze,D9,hL.1]
     have h2:Mb (.mk 3 s ps lo hi)=Zj ps:=by rw[Zo];simp
     rw[h2,QhP _ ?_,h1];intro hnil;rw[hnil,Ze] at h1;obtain⟨u,hu⟩:=Xo _ h.1 h.2 (by simpa using hv);rw[h2,← h1] at hu;exact hu
   ·split
    ·rename_i h4;subst h4;obtain⟨g1,g2,g3,g4⟩:=Wu hf.1;obtain⟨p,rfl⟩:=List.length_eq_one_iff.1 g1;simp only[cntL] at hc;have h5:=Vg p (hps p (by simp [Nd.parts])) OM;have h6:=hsl.1 (Qb p) (by simp [Qd]);simp only[YU];rw[Qff h6.2 g2 OM (fun hvs=>?_),h5,Zo]
     ·simp [QH]
     ·
      have h7:=YE _ hvs;rw[h5] at h7;cases hvp:QD p with
      | false =>
       obtain⟨u,hu⟩:=Xo p (hps p (by simp [Nd.parts])).1 (hps p (by simp [Nd.parts])).2 hvp;rw[h7] at hu;exact hu.elim
      | true =>
       rw[QD] at hv;simp [JG,hvp] at hv;exact hv
    ·rfl
theorem Kl:∀ (ps:List Nd),(∀ p∈ps,okN p)→cntL ps≤900→Zj (Qd ps)=Zj ps∧Zt (Qd ps)=Zt ps∧True
 | [],_,_=>⟨rfl,rfl,trivial⟩
 | p::ps,h,hc=>by
  rw[cntL] at hc;have h1:=Vg p (h p SM) OM;obtain⟨h2,h3,_⟩:=Kl ps (fun q hq=>h q (by simp [hq])) OM;rw[Qd,Qx,Qx,QB,QB,h1,h2,h3]
  exact⟨rfl,rfl,trivial⟩
end
end Go.Proofs.YtklbhcjmaeedhaaGreatDoor
