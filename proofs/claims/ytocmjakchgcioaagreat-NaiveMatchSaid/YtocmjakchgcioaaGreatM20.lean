import Derived.Test.YtocmjakchgcioaaGreatM19
import Derived.Test.YtocmjakchgcioaaGreatKa
import Derived.Test.YtocmjakchgcioaaGreatKt

namespace Go.Proofs.YtocmjakchgcioaaGreat
set_option linter.all false
attribute [-go_sem] Qp Qb rfOb V.cells
def Qbo (t:Nd) (h:cntN t≤900):∀ l∈(Zn t).moves,l.length < 2147483648:=by
 intro l hl;obtain⟨p,_,rfl⟩:=List.mem_map.1 hl;have h1:=wk_L t 0 0 [] OM;have h2:(srtM (Zj (wk t 0 0 []).L p)).length≤(wk t 0 0 []).L.length:=by
  simp only[srtM,List.length_mergeSort,Zj,List.length_map];exact List.length_filter_le ..
 simp only[List.length_nil] at h1;omega
def QgY (n:Nd) (hs:Zz n) (hc:cntN n≤900):∃ (A:Au) (er:Int),Pu F 19 [.ag (cel n)] (.tp [.ag (auC A),.i .i64 er])∧((er≠0∧A=noA)∨(er=0∧Qn n=true∧Qn (Qd n)=true∧A=Zn (Qd n)∧WF A∧∀ l∈A.moves,l.length < 2147483648)):=by
 cases hf:Qn n with
 | false=>exact⟨noA,1,Dq n 1 LM (Qmq n hs hf),.inl ⟨LM,rfl⟩⟩
 | true =>
  have ho:=QiG n ⟨hs,hf⟩ hc;obtain⟨h1,h2⟩:=Yi n ⟨hs,hf⟩ OM;cases hp:plOk (plT (Qd n)) with
  | false =>
   rw[hp,if_neg LM] at ho
   exact⟨noA,3,Dq n 3 LM ho,.inl ⟨LM,rfl⟩⟩
  | true=>exact⟨_,0,Qb5 n ⟨hs,hf⟩ hc hp,.inr ⟨rfl,rfl,h1.2,rfl,D6 _ h1.2 h1.1 hp,Qbo _ OM⟩⟩
def oneS:Nat→Nat:=fun j=>if j=0 then 1 else 0
def oneT:Nd:=.mk 1 oneS [] 0 0
theorem D9:∀ (ps:List Nd) (k m:Int),0≤m→1≤k→k≤YM ps k m
 | [],k,m,_,_=>by simp [YM]
 | p::ps,k,m,hm,hk=>by
  simp only[YM];split
  ·rename_i h
   have:=Wp p (m - k) OM
   have:=D9 ps (k+Zq p (m - k)) m hm OM
   omega
  ·omega
mutual
theorem K5:∀ (n:Nd) (m:Int),0≤m→Zq n m≤m→Zq n m=cntN n
 | .mk _ _ ps _ _,m,hm,h=>by
  rw[Zq] at h ⊢;rw[Hx ps 1 m hm OM h,cntN];omega
theorem Hx:∀ (ps:List Nd) (k m:Int),0≤m→1≤k→YM ps k m≤m→YM ps k m=k+cntL ps
 | [],k,m,_,_,_=>by simp [YM,cntL]
 | p::ps,k,m,hm,hk,h=>by
  simp only[YM] at h ⊢;split at h
  ·rename_i hk2;rw[if_pos hk2];have h1:=D9 ps (k+Zq p (m - k)) m hm (by have:=Wp p (m - k) OM;omega);have h2:=K5 p (m - k) OM OM;rw[Hx ps _ m hm OM h,h2,cntL];omega
  ·omega
end
end Go.Proofs.YtocmjakchgcioaaGreat
