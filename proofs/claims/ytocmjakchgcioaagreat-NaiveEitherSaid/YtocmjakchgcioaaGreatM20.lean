import Derived.Test.YtocmjakchgcioaaGreatM19
import Derived.Test.YtocmjakchgcioaaGreatKa
import Derived.Test.YtocmjakchgcioaaGreatKt

namespace Go.Proofs.YtocmjakchgcioaaGreat
set_option linter.all false
attribute [-go_sem] Qw Qe rfOb V.cells
def Qch (t:Nd) (h:cntN t≤900):∀ l∈(Qr t).moves,l.length < 2147483648:=by
 intro l hl;obtain⟨p,_,rfl⟩:=List.mem_map.1 hl;have h1:=wk_L t 0 0 [] OM;have h2:(srtM (Za (wk t 0 0 []).L p)).length≤(wk t 0 0 []).L.length:=by
  simp only[srtM,List.length_mergeSort,Za,List.length_map];exact List.length_filter_le ..
 simp only[List.length_nil] at h1;omega
def QhW (n:Nd) (hs:Zd n) (hc:cntN n≤900):∃ (A:Au) (er:Int),Pu F 19 [.ag (cel n)] (.tp [.ag (auC A),.i .i64 er])∧((er≠0∧A=noA)∨(er=0∧Qg n=true∧Qg (Qb n)=true∧A=Qr (Qb n)∧WF A∧∀ l∈A.moves,l.length < 2147483648)):=by
 cases hf:Qg n with
 | false=>exact⟨noA,1,QaS n 1 LM (QmK n hs hf),.inl ⟨LM,rfl⟩⟩
 | true =>
  have ho:=Qjh n ⟨hs,hf⟩ hc;obtain⟨h1,h2⟩:=Yr n ⟨hs,hf⟩ OM;cases hp:plOk (plT (Qb n)) with
  | false =>
   rw[hp,if_neg LM] at ho
   exact⟨noA,3,QaS n 3 LM ho,.inl ⟨LM,rfl⟩⟩
  | true=>exact⟨_,0,Qdt n ⟨hs,hf⟩ hc hp,.inr ⟨rfl,rfl,h1.2,rfl,D3 _ h1.2 h1.1 hp,Qch _ OM⟩⟩
def oneS:Nat→Nat:=fun j=>if j=0 then 1 else 0
def oneT:Nd:=.mk 1 oneS [] 0 0
theorem DB:∀ (ps:List Nd) (k m:Int),0≤m→1≤k→k≤Y3 ps k m
 | [],k,m,_,_=>by simp [Y3]
 | p::ps,k,m,hm,hk=>by
  simp only[Y3];split
  ·rename_i h
   have:=W5 p (m - k) OM
   have:=DB ps (k+Zx p (m - k)) m hm OM
   omega
  ·omega
mutual
theorem Vu:∀ (n:Nd) (m:Int),0≤m→Zx n m≤m→Zx n m=cntN n
 | .mk _ _ ps _ _,m,hm,h=>by
  rw[Zx] at h ⊢;rw[HO ps 1 m hm OM h,cntN];omega
theorem HO:∀ (ps:List Nd) (k m:Int),0≤m→1≤k→Y3 ps k m≤m→Y3 ps k m=k+cntL ps
 | [],k,m,_,_,_=>by simp [Y3,cntL]
 | p::ps,k,m,hm,hk,h=>by
  simp only[Y3] at h ⊢;split at h
  ·rename_i hk2;rw[if_pos hk2];have h1:=DB ps (k+Zx p (m - k)) m hm (by have:=W5 p (m - k) OM;omega);have h2:=Vu p (m - k) OM OM;rw[HO ps _ m hm OM h,h2,cntL];omega
  ·omega
end
end Go.Proofs.YtocmjakchgcioaaGreat
