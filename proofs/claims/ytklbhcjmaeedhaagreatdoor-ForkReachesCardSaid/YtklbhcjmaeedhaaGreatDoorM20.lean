import Derived.Test.YtklbhcjmaeedhaaGreatDoorM19
import Derived.Test.YtklbhcjmaeedhaaGreatDoorKa
import Derived.Test.YtklbhcjmaeedhaaGreatDoorKt

namespace Go.Proofs.YtklbhcjmaeedhaaGreatDoor
set_option linter.all false
attribute [-go_sem] Qy Qj rfOb V.cells
def Vl (t:Nd) (h:cntN t≤900):∀ l∈(Qf t).moves,l.length < 2147483648:=by
 intro l hl;obtain⟨p,_,rfl⟩:=List.mem_map.1 hl;have h1:=wk_L t 0 0 [] OM;have h2:(srtM (Q8 (wk t 0 0 []).L p)).length≤(wk t 0 0 []).L.length:=by
  simp only[srtM,List.length_mergeSort,Q8,List.length_map];exact List.length_filter_le ..
 simp only[List.length_nil] at h1;omega
def Qhs (n:Nd) (hs:Zv n) (hc:cntN n≤900):∃ (A:Au) (er:Int),Pu F 13 [.ag (cel n)] (.tp [.ag (auC A),.i .i64 er])∧((er≠0∧A=noA)∨(er=0∧Qe n=true∧Qe (Qb n)=true∧A=Qf (Qb n)∧WF A∧∀ l∈A.moves,l.length < 2147483648)):=by
 cases hf:Qe n with
 | false=>exact⟨noA,1,Dx n 1 LM (QlZ n hs hf),.inl ⟨LM,rfl⟩⟩
 | true =>
  have ho:=Qj8 n ⟨hs,hf⟩ hc;obtain⟨h1,h2⟩:=Ys n ⟨hs,hf⟩ OM;cases hp:plOk (plT (Qb n)) with
  | false =>
   rw[hp,if_neg LM] at ho
   exact⟨noA,3,Dx n 3 LM ho,.inl ⟨LM,rfl⟩⟩
  | true=>exact⟨_,0,QdD n ⟨hs,hf⟩ hc hp,.inr ⟨rfl,rfl,h1.2,rfl,Qam _ h1.2 h1.1 hp,Vl _ OM⟩⟩
def oneS:Nat→Nat:=fun j=>if j=0 then 1 else 0
def oneT:Nd:=.mk 1 oneS [] 0 0
theorem Dj:∀ (ps:List Nd) (k m:Int),0≤m→1≤k→k≤YZ ps k m
 | [],k,m,_,_=>by simp [YZ]
 | p::ps,k,m,hm,hk=>by
  simp only[YZ];split
  ·rename_i h
   have:=WP p (m - k) OM
   have:=Dj ps (k+Q6 p (m - k)) m hm OM
   omega
  ·omega
mutual
theorem Hq:∀ (n:Nd) (m:Int),0≤m→Q6 n m≤m→Q6 n m=cntN n
 | .mk _ _ ps _ _,m,hm,h=>by
  rw[Q6] at h ⊢;rw[H7 ps 1 m hm OM h,cntN];omega
theorem H7:∀ (ps:List Nd) (k m:Int),0≤m→1≤k→YZ ps k m≤m→YZ ps k m=k+cntL ps
 | [],k,m,_,_,_=>by simp [YZ,cntL]
 | p::ps,k,m,hm,hk,h=>by
  simp only[YZ] at h ⊢;split at h
  ·rename_i hk2;rw[if_pos hk2];have h1:=Dj ps (k+Q6 p (m - k)) m hm (by have:=WP p (m - k) OM;omega);have h2:=Hq p (m - k) OM OM;rw[H7 ps _ m hm OM h,h2,cntL];omega
  ·omega
end
end Go.Proofs.YtklbhcjmaeedhaaGreatDoor
