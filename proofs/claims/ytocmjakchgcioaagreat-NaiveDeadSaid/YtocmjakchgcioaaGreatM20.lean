import Derived.Test.YtocmjakchgcioaaGreatM19
import Derived.Test.YtocmjakchgcioaaGreatKa
import Derived.Test.YtocmjakchgcioaaGreatKt

namespace Go.Proofs.YtocmjakchgcioaaGreat
set_option linter.all false
attribute [-go_sem] swpOb renOb rfOb V.cells
theorem makeT_len (t:Nd) (h:cntN t≤900):∀ l∈(makeT t).moves,l.length < 2147483648:=by
 intro l hl;obtain⟨p,_,rfl⟩:=List.mem_map.1 hl;have h1:=wk_L t 0 0 [] (by omega);have h2:(srtM (movesOf (wk t 0 0 []).L p)).length≤(wk t 0 0 []).L.length:=by
  simp only[srtM,List.length_mergeSort,movesOf,List.length_map];exact List.length_filter_le ..
 simp only[List.length_nil] at h1;omega
theorem make_pu (n:Nd) (hs:small n) (hc:cntN n≤900):∃ (A:Au) (er:Int),Pu F 19 [.ag (cel n)] (.tp [.ag (auC A),.i .i64 er])∧((er≠0∧A=noA)∨(er=0∧formed n=true∧formed (simpleN n)=true∧A=makeT (simpleN n)∧WF A∧∀ l∈A.moves,l.length < 2147483648)):=by
 cases hf:formed n with
 | false=>exact⟨noA,1,make_err n 1 (by decide) (of_no n hs hf),.inl ⟨by decide,rfl⟩⟩
 | true =>
  have ho:=of_ok n ⟨hs,hf⟩ hc;obtain⟨h1,h2⟩:=simpleN_ok n ⟨hs,hf⟩ (by omega);cases hp:plOk (plT (simpleN n)) with
  | false =>
   rw[hp,if_neg (by decide)] at ho
   exact⟨noA,3,make_err n 3 (by decide) ho,.inl ⟨by decide,rfl⟩⟩
  | true=>exact⟨_,0,make_ok n ⟨hs,hf⟩ hc hp,.inr ⟨rfl,rfl,h1.2,rfl,makeT_wf _ h1.2 h1.1 hp,makeT_len _ (by omega)⟩⟩
def oneS:Nat→Nat:=fun j=>if j=0 then 1 else 0
def oneT:Nd:=.mk 1 oneS [] 0 0
theorem sizeL_ge:∀ (ps:List Nd) (k m:Int),0≤m→1≤k→k≤sizeL ps k m
 | [],k,m,_,_=>by simp [sizeL]
 | p::ps,k,m,hm,hk=>by
  simp only[sizeL];split
  ·rename_i h
   have:=sizeF_le p (m - k) (by omega)
   have:=sizeL_ge ps (k+sizeF p (m - k)) m hm (by omega)
   omega
  ·omega
mutual
theorem sizeF_cnt:∀ (n:Nd) (m:Int),0≤m→sizeF n m≤m→sizeF n m=cntN n
 | .mk _ _ ps _ _,m,hm,h=>by
  rw[sizeF] at h ⊢;rw[sizeL_cnt ps 1 m hm (by omega) h,cntN];omega
theorem sizeL_cnt:∀ (ps:List Nd) (k m:Int),0≤m→1≤k→sizeL ps k m≤m→sizeL ps k m=k+cntL ps
 | [],k,m,_,_,_=>by simp [sizeL,cntL]
 | p::ps,k,m,hm,hk,h=>by
  simp only[sizeL] at h ⊢;split at h
  ·rename_i hk2;rw[if_pos hk2];have h1:=sizeL_ge ps (k+sizeF p (m - k)) m hm (by have:=sizeF_le p (m - k) (by omega);omega);have h2:=sizeF_cnt p (m - k) (by omega) (by omega);rw[sizeL_cnt ps _ m hm (by omega) h,h2,cntL];omega
  ·omega
end
end Go.Proofs.YtocmjakchgcioaaGreat
