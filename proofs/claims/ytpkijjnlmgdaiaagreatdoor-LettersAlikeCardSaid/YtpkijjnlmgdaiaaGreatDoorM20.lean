import Derived.Test.YtpkijjnlmgdaiaaGreatDoorM19
import Derived.Test.YtpkijjnlmgdaiaaGreatDoorKa
import Derived.Test.YtpkijjnlmgdaiaaGreatDoorKt

namespace Go.Proofs.YtpkijjnlmgdaiaaGreatDoor
set_option linter.all false
attribute [-go_sem] Qp Qb rfOb V.cells
def QbL (t:Nd) (h:cntN t≤900):∀ l∈(Wv t).moves,l.length < 2147483648:=by
 intro l hl;obtain⟨p,_,rfl⟩:=List.mem_map.1 hl;have h1:=wk_L t 0 0 [] OM;have h2:(srtM (ZE (wk t 0 0 []).L p)).length≤(wk t 0 0 []).L.length:=by
  simp only[srtM,List.length_mergeSort,ZE,List.length_map];exact List.length_filter_le ..
 simp only[List.length_nil] at h1;omega
def QgN (n:Nd) (hs:Zx n) (hc:cntN n≤900):∃ (A:Au) (er:Int),Pu F 24 [.ag (cel n)] (.tp [.ag (auC A),.i .i64 er])∧((er≠0∧A=noA)∨(er=0∧Qn n=true∧Qn (Qd n)=true∧A=Wv (Qd n)∧WF A∧∀ l∈A.moves,l.length < 2147483648)):=by
 cases hf:Qn n with
 | false=>exact⟨noA,1,D9 n 1 LM (Qm5 n hs hf),.inl ⟨LM,rfl⟩⟩
 | true =>
  have ho:=Qja n ⟨hs,hf⟩ hc;obtain⟨h1,h2⟩:=Yk n ⟨hs,hf⟩ OM;cases hp:plOk (plT (Qd n)) with
  | false =>
   rw[hp,if_neg LM] at ho
   exact⟨noA,3,D9 n 3 LM ho,.inl ⟨LM,rfl⟩⟩
  | true=>exact⟨_,0,QhY n ⟨hs,hf⟩ hc hp,.inr ⟨rfl,rfl,h1.2,rfl,Qff _ h1.2 h1.1 hp,QbL _ OM⟩⟩
def oneS:Nat→Nat:=fun j=>if j=0 then 1 else 0
def oneT:Nd:=.mk 1 oneS [] 0 0
theorem Qad:∀ (ps:List Nd) (k m:Int),0≤m→1≤k→k≤YZ ps k m
 | [],k,m,_,_=>by simp [YZ]
 | p::ps,k,m,hm,hk=>by
  simp only[YZ];split
  ·rename_i h
   have:=Wy p (m - k) OM
   have:=Qad ps (k+Zs p (m - k)) m hm OM
   omega
  ·omega
mutual
theorem Hl:∀ (n:Nd) (m:Int),0≤m→Zs n m≤m→Zs n m=cntN n
 | .mk _ _ ps _ _,m,hm,h=>by
  rw[Zs] at h ⊢;rw[HZ ps 1 m hm OM h,cntN];omega
theorem HZ:∀ (ps:List Nd) (k m:Int),0≤m→1≤k→YZ ps k m≤m→YZ ps k m=k+cntL ps
 | [],k,m,_,_,_=>by simp [YZ,cntL]
 | p::ps,k,m,hm,hk,h=>by
  simp only[YZ] at h ⊢;split at h
  ·rename_i hk2;rw[if_pos hk2];have h1:=Qad ps (k+Zs p (m - k)) m hm (by have:=Wy p (m - k) OM;omega);have h2:=Hl p (m - k) OM OM;rw[HZ ps _ m hm OM h,h2,cntL];omega
  ·omega
end
end Go.Proofs.YtpkijjnlmgdaiaaGreatDoor
