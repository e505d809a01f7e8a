import Derived.Test.YtgiedknghbpdfaaM19
import Derived.Test.YtgiedknghbpdfaaKa
import Derived.Test.YtgiedknghbpdfaaKt

namespace Go.Proofs.Ytgiedknghbpdfaa
set_option linter.all false
attribute [-go_sem] swpOb renOb rfOb V.cells
theorem makeT_len (t:Nd) (h:cntN t≤900):∀ l∈(makeT t).moves,l.length < 2147483648:=by
 intro l hl;obtain⟨p,_,rfl⟩:=List.mem_map.1 hl;have h1:=wk_L t 0 0 [] (by omega);have h2:(srtM (movesOf (wk t 0 0 []).L p)).length≤(wk t 0 0 []).L.length:=by
  simp only[srtM,List.length_mergeSort,movesOf,List.length_map];exact List.length_filter_le ..
 simp only[List.length_nil] at h1;omega
def oneS:Nat→Nat:=fun j=>if j=0 then 1 else 0
def oneT:Nd:=.mk 1 oneS [] 0 0
theorem one_ok:okN oneT:=⟨⟨fun j _=>by unfold oneS;split<;>omega,by simp,by simp [smallL]⟩,rfl⟩
theorem one_simple:simpleN oneT=oneT:=rfl
theorem one_wk:wk oneT 0 0 []=⟨[1],[1],false,1,[]⟩:=rfl
theorem one_pl:plT oneT=⟨[zSet,oneS],[],[[],[]]⟩:=rfl
theorem one_make:auC (makeT oneT)=cel oneT++[.sl [u4 zSet,u4 oneS],.sl [],.sl [lsC [],lsC []],.sl [inC 1],.sl [mlC [],mlC []],.sl [boC false,boC true],.bo false]:=by
 have h1:srtN [1]=[1]:=by simp [srtN]
 have h2:∀ p,srtM (movesOf [] p)=[]:=fun p=>by simp [movesOf,srtM]
 simp only[makeT,one_wk,one_pl,h1,h2];rfl
theorem sizeL_ge:∀ (ps:List Nd) (k m:Int),0≤m→1≤k→k≤sizeL ps k m
 | [],k,m,_,_=>by simp [sizeL]
 | p::ps,k,m,hm,hk=>by
  simp only[sizeL];split
  ·rename_i h
   have:=sizeF_le p (m - k) (by omega)
   have:=sizeL_ge ps (k+sizeF p (m - k)) m hm (by omega)
   omega
  ·omega
mutual
theorem sizeF_cnt:∀ (n:Nd) (m:Int),0≤m→sizeF n m≤m→sizeF n m=cntN n
 | .mk _ _ ps _ _,m,hm,h=>by
  rw[sizeF] at h ⊢;rw[sizeL_cnt ps 1 m hm (by omega) h,cntN];omega
theorem sizeL_cnt:∀ (ps:List Nd) (k m:Int),0≤m→1≤k→sizeL ps k m≤m→sizeL ps k m=k+cntL ps
 | [],k,m,_,_,_=>by simp [sizeL,cntL]
 | p::ps,k,m,hm,hk,h=>by
  simp only[sizeL] at h ⊢;split at h
  ·rename_i hk2;rw[if_pos hk2];have h1:=sizeL_ge ps (k+sizeF p (m - k)) m hm (by have:=sizeF_le p (m - k) (by omega);omega);have h2:=sizeF_cnt p (m - k) (by omega) (by omega);rw[sizeL_cnt ps _ m hm (by omega) h,h2,cntL];omega
  ·omega
end
end Go.Proofs.Ytgiedknghbpdfaa
