import Derived.Test.YtocmjakchgcioaaGreatM19
import Derived.Test.YtocmjakchgcioaaGreatKa
import Derived.Test.YtocmjakchgcioaaGreatKt

namespace Go.Proofs.YtocmjakchgcioaaGreat
set_option linter.all false
attribute [-go_sem] QE Qn rfOb V.cells
theorem Qa8 (t:Nd) (h:cntN t≤900):∀ l∈(Zy t).moves,l.length < 2147483648:=by
 intro l hl;obtain⟨p,_,rfl⟩:=List.mem_map.1 hl;have h1:=wk_L t 0 0 [] (by omega);have h2:(srtM (ZG (wk t 0 0 []).L p)).length≤(wk t 0 0 []).L.length:=by
  simp only[srtM,List.length_mergeSort,ZG,List.length_map];exact List.length_filter_le ..
 simp only[List.length_nil] at h1;omega
theorem QgH (n:Nd) (hs:ZO n) (hc:cntN n≤900):∃ (A:Au) (er:Int),Pu F 19 [.ag (cel n)] (.tp [.ag (auC A),.i .i64 er])∧((er≠0∧A=noA)∨(er=0∧Qz n=true∧Qz (Qo n)=true∧A=Zy (Qo n)∧WF A∧∀ l∈A.moves,l.length < 2147483648)):=by
 cases hf:Qz n with
 | false=>exact⟨noA,1,D4 n 1 (by decide) (QlJ n hs hf),.inl ⟨by decide,rfl⟩⟩
 | true =>
  have ho:=QkU n ⟨hs,hf⟩ hc;obtain⟨h1,h2⟩:=YB n ⟨hs,hf⟩ (by omega);cases hp:plOk (plT (Qo n)) with
  | false =>
   rw[hp,if_neg (by decide)] at ho
   exact⟨noA,3,D4 n 3 (by decide) ho,.inl ⟨by decide,rfl⟩⟩
  | true=>exact⟨_,0,Qbw n ⟨hs,hf⟩ hc hp,.inr ⟨rfl,rfl,h1.2,rfl,DK _ h1.2 h1.1 hp,Qa8 _ (by omega)⟩⟩
def oneS:Nat→Nat:=fun j=>if j=0 then 1 else 0
def oneT:Nd:=.mk 1 oneS [] 0 0
theorem DL:∀ (ps:List Nd) (k m:Int),0≤m→1≤k→k≤YW ps k m
 | [],k,m,_,_=>by simp [YW]
 | p::ps,k,m,hm,hk=>by
  simp only[YW];split
  ·rename_i h
   have:=WD p (m - k) (by omega)
   have:=DL ps (k+ZJ p (m - k)) m hm (by omega)
   omega
  ·omega
mutual
theorem HQ:∀ (n:Nd) (m:Int),0≤m→ZJ n m≤m→ZJ n m=cntN n
 | .mk _ _ ps _ _,m,hm,h=>by
  rw[ZJ] at h ⊢;rw[Hm ps 1 m hm (by omega) h,cntN];omega
theorem Hm:∀ (ps:List Nd) (k m:Int),0≤m→1≤k→YW ps k m≤m→YW ps k m=k+cntL ps
 | [],k,m,_,_,_=>by simp [YW,cntL]
 | p::ps,k,m,hm,hk,h=>by
  simp only[YW] at h ⊢;split at h
  ·rename_i hk2;rw[if_pos hk2];have h1:=DL ps (k+ZJ p (m - k)) m hm (by have:=WD p (m - k) (by omega);omega);have h2:=HQ p (m - k) (by omega) (by omega);rw[Hm ps _ m hm (by omega) h,h2,cntL];omega
  ·omega
end
end Go.Proofs.YtocmjakchgcioaaGreat
