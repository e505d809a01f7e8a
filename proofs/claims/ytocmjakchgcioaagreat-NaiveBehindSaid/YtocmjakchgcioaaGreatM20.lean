import Derived.Test.YtocmjakchgcioaaGreatM19
import Derived.Test.YtocmjakchgcioaaGreatKa
import Derived.Test.YtocmjakchgcioaaGreatKt

namespace Go.Proofs.YtocmjakchgcioaaGreat
set_option linter.all false
attribute [-go_sem] Qp Qb rfOb V.cells
def Qa5 (t:Nd) (h:cntN t≤900):∀ l∈(Zn t).moves,l.length < 2147483648:=by
 intro l hl;obtain⟨p,_,rfl⟩:=List.mem_map.1 hl;have h1:=wk_L t 0 0 [] OM;have h2:(srtM (Zj (wk t 0 0 []).L p)).length≤(wk t 0 0 []).L.length:=by
  simp only[srtM,List.length_mergeSort,Zj,List.length_map];exact List.length_filter_le ..
 simp only[List.length_nil] at h1;omega
def Qhy (n:Nd) (hs:ZB n) (hc:cntN n≤900):∃ (A:Au) (er:Int),Pu F 19 [.ag (cel n)] (.tp [.ag (auC A),.i .i64 er])∧((er≠0∧A=noA)∨(er=0∧Qm n=true∧Qm (Qd n)=true∧A=Zn (Qd n)∧WF A∧∀ l∈A.moves,l.length < 2147483648)):=by
 cases hf:Qm n with
 | false=>exact⟨noA,1,VV n 1 LM (Qmx n hs hf),.inl ⟨LM,rfl⟩⟩
 | true =>
  have ho:=QjI n ⟨hs,hf⟩ hc;obtain⟨h1,h2⟩:=Yn n ⟨hs,hf⟩ OM;cases hp:plOk (plT (Qd n)) with
  | false =>
   rw[hp,if_neg LM] at ho
   exact⟨noA,3,VV n 3 LM ho,.inl ⟨LM,rfl⟩⟩
  | true=>exact⟨_,0,Qbl n ⟨hs,hf⟩ hc hp,.inr ⟨rfl,rfl,h1.2,rfl,VS _ h1.2 h1.1 hp,Qa5 _ OM⟩⟩
def oneS:Nat→Nat:=fun j=>if j=0 then 1 else 0
def oneT:Nd:=.mk 1 oneS [] 0 0
theorem VO:∀ (ps:List Nd) (k m:Int),0≤m→1≤k→k≤YV ps k m
 | [],k,m,_,_=>by simp [YV]
 | p::ps,k,m,hm,hk=>by
  simp only[YV];split
  ·rename_i h
   have:=Wq p (m - k) OM
   have:=VO ps (k+Zr p (m - k)) m hm OM
   omega
  ·omega
mutual
theorem HB:∀ (n:Nd) (m:Int),0≤m→Zr n m≤m→Zr n m=cntN n
 | .mk _ _ ps _ _,m,hm,h=>by
  rw[Zr] at h ⊢;rw[HW ps 1 m hm OM h,cntN];omega
theorem HW:∀ (ps:List Nd) (k m:Int),0≤m→1≤k→YV ps k m≤m→YV ps k m=k+cntL ps
 | [],k,m,_,_,_=>by simp [YV,cntL]
 | p::ps,k,m,hm,hk,h=>by
  simp only[YV] at h ⊢;split at h
  ·rename_i hk2;rw[if_pos hk2];have h1:=VO ps (k+Zr p (m - k)) m hm (by have:=Wq p (m - k) OM;omega);have h2:=HB p (m - k) OM OM;rw[HW ps _ m hm OM h,h2,cntL];omega
  ·omega
end
end Go.Proofs.YtocmjakchgcioaaGreat
