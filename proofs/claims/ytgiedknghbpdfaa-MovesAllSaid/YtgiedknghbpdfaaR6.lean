import Derived.Test.YtgiedknghbpdfaaR5

namespace Go.Proofs.Ytgiedknghbpdfaa
set_option linter.all false
def cN (n:Nd):Bool:=cntR n.kind n.lo n.hi
def leafN (n:Nd):Bool:=decide (n.kind=1)&&!emptyS n.set
def cntOf (l:List Nd) (i:Nat):Nat:=((l.take i).filter cN).length
def isC (l:List Nd) (j:Nat):Bool:=match l[j]? with|some n=>cN n|none=>false
def selA (l:List Nd) (path:List Nat):List Nat:=(path.filter (isC l)).map (cntOf l)
def scsN (l:List Nd):List (Int × Int):=(l.filter cN).map fun n=>(lowR n.lo,n.hi)
def lvSet (l:List Nd):List (Nat→Nat):=(l.filter leafN).map Nd.set
def lvAr (all l:List Nd) (P:List (List Nat)):List (List Nat):=((l.zip P).filter fun x=>leafN x.1).map fun x=>selA all x.2
def refPl (l:List Nd) (P:List (List Nat)):Pl:=⟨zSet::lvSet l,scsN l,[]::lvAr l l P⟩
def goodN (n:Nd):Prop:=cN n=cnts n.kind n.lo n.hi∧(cN n=true→lowR n.lo=low1 n.lo)
theorem good_formed {k:Int} {s:Nat→Nat} {ps:List Nd} {lo hi:Int} (h:formed (.mk k s ps lo hi)=true):goodN (.mk k s ps lo hi):=by
 rw[formed,Bool.and_eq_true] at h;have hs:=h.1;unfold goodN cN;simp only[Nd.kind,Nd.lo,Nd.hi];by_cases hk:k=4
 ·subst hk;obtain⟨-,h1,h2,h3⟩:=shape4 hs;have e:lowR lo=low1 lo:=by
   unfold lowR low1;split
   ·rename_i h0;rw[h0];simp
   ·split<;>omega
  refine⟨?_,fun _=>e⟩
  unfold cntR cnts;rw[e];rcases h3 with h3|⟨h3,h4⟩
  ·subst h3;rfl
  ·have e1:decide (hi < 0)=false:=by simp;omega
   have e2:(hi == -1)=false:=by simp;omega
   rw[e1,e2]
 ·have e:(k==4)=false:=by simpa using hk
  unfold cntR cnts;rw[e]
  exact⟨rfl,fun h=>by simp at h⟩
mutual
def goodAll:Nd→Prop
 | .mk k s ps lo hi=>goodN (.mk k s ps lo hi)∧goodLs ps
def goodLs:List Nd→Prop
 | []=>True
 | p::ps=>goodAll p∧goodLs ps
end
mutual
theorem good_all:∀ n:Nd,formed n=true→goodAll n
 | .mk k s ps lo hi,h=>by
  rw[goodAll]
  refine⟨good_formed h,good_ls ps ?_⟩
  rw[formed,Bool.and_eq_true] at h;exact h.2
theorem good_ls:∀ l:List Nd,formedL l=true→goodLs l
 | [],_=>by rw[goodLs];trivial
 | p::ps,h=>by
  rw[formedL,Bool.and_eq_true] at h;rw[goodLs]
  exact⟨good_all p h.1,good_ls ps h.2⟩
end
theorem selA_snoc (l:List Nd) (up:List Nat) (f:Nat):selA l (up++[f])=selA l up++(if isC l f then [cntOf l f] else []):=by
 unfold selA;rw[List.filter_append,List.map_append];congr 1;cases h:isC l f<;>simp [h]
theorem cnt_app {all a post:List Nd} {f:Nat} (h:all.drop f=a++post):cntOf all (f+a.length)=cntOf all f+(a.filter cN).length:=by
 have e:all.take (f+a.length)=all.take f++a:=by
  rw[List.take_add,h,List.take_left'];rfl
 unfold cntOf;rw[e,List.filter_append,List.length_append]
theorem drop_app {all a post:List Nd} {f:Nat} (h:all.drop f=a++post):all.drop (f+a.length)=post:=by
 rw[← List.drop_drop,h,List.drop_left'];rfl
theorem get_drop {all post:List Nd} {a:Nd} {f:Nat} (h:all.drop f=a::post):all[f]?=some a:=by
 have:=List.getElem?_drop (xs:=all) (i:=f) (j:=0)
 rw[h] at this;simpa using this.symm
def plus (q:Pl) (all l:List Nd) (P:List (List Nat)):Pl:=⟨q.sets++lvSet l,q.scopes++scsN l,q.around++lvAr all l P⟩
theorem plus_app (q:Pl) (all a b:List Nd) (P Q:List (List Nat)) (h:a.length=P.length):plus (plus q all a P) all b Q=plus q all (a++b) (P++Q):=by
 simp only[plus,lvSet,scsN,lvAr,List.zip_append h,List.filter_append,List.map_append,List.append_assoc]
theorem plus_nil (q:Pl) (all:List Nd):plus q all [] []=q:=by
 simp [plus,lvSet,scsN,lvAr]
mutual
theorem walkP_ref (all:List Nd):∀ (n:Nd) (up:List Nat) (f:Nat) (post:List Nd) (q:Pl),all.drop f=preN n++post→goodAll n→q.scopes.length=cntOf all f→walkP n (selA all up) q=plus q all (preN n) (pathsN n up f)
 | .mk k s ps lo hi,up,f,post,q,hd,hg,hq=>by
  rw[goodAll] at hg;obtain⟨⟨hg1,hg2⟩,hgl⟩:=hg;simp only[Nd.kind,Nd.lo,Nd.hi] at hg1 hg2;rw[preN] at hd;have hf:=get_drop (all:=all) (f:=f) (a:=.mk k s ps lo hi) (post:=preL ps++post) (by rw[hd];rfl);have hd1:all.drop (f+1)=preL ps++post:=by
   have:=drop_app (all:=all) (a:=[.mk k s ps lo hi]) (post:=preL ps++post) (f:=f) (by rw[hd];rfl)
   exact this
  have hic:isC all f=cnts k lo hi:=by unfold isC;rw[hf];exact hg1
  rw[walkP,preN,pathsN];have e1:(if cnts k lo hi then selA all up++[q.scopes.length] else selA all up)=selA all (up++[f]):=by
   rw[selA_snoc,hic,hq];split<;>simp
  rw[e1];have hc1:cntOf all (f+1)=cntOf all f+(if cnts k lo hi then 1 else 0):=by
   have:=cnt_app (all:=all) (a:=[.mk k s ps lo hi]) (post:=preL ps++post) (f:=f) (by rw[hd];rfl)
   rw[show f+1=f+[Nd.mk k s ps lo hi].length from rfl,this,← hg1];cases h:cN (.mk k s ps lo hi)<;>simp [h]
  rw[walkPs_ref all ps (up++[f]) (f+1) post _ hd1 hgl (by
   dsimp only;rw[hc1];split<;>simp [hq])]
  have e2:(⟨if k=1∧emptyS s=false then q.sets++[s] else q.sets,if cnts k lo hi then q.scopes++[(low1 lo,hi)] else q.scopes,if k=1∧emptyS s=false then q.around++[selA all up] else q.around⟩:Pl)=plus q all [.mk k s ps lo hi] [up]:=by
   have hl:leafN (.mk k s ps lo hi)=decide (k=1∧emptyS s=false):=by
    simp only[leafN,Nd.kind,Nd.set];by_cases hk:k=1<;>cases emptyS s<;>simp [hk]
   have hc:cN (.mk k s ps lo hi)=cnts k lo hi:=hg1;simp only[plus,lvSet,scsN,lvAr,List.zip_cons_cons,List.zip_nil_right,List.filter_cons,List.filter_nil,hl,hc];congr 1
   ·split<;>simp_all [Nd.set]
   ·split
    ·rename_i h;simp [Nd.lo,Nd.hi,hg2 (by rw[hg1];exact h)]
    ·simp
   ·split<;>simp_all
  rw[e2,plus_app _ _ _ _ _ _ rfl];rfl
theorem walkPs_ref (all:List Nd):∀ (l:List Nd) (up:List Nat) (f:Nat) (post:List Nd) (q:Pl),all.drop f=preL l++post→goodLs l→q.scopes.length=cntOf all f→walkPs l (selA all up) q=plus q all (preL l) (pathsL l up f)
 | [],up,f,post,q,hd,hg,hq=>by rw[walkPs,preL,pathsL,plus_nil]
 | p::ps,up,f,post,q,hd,hg,hq=>by
  rw[goodLs] at hg;rw[preL,List.append_assoc] at hd;have h1:=walkP_ref all p up f _ q hd hg.1 hq;have hd2:=drop_app hd;rw[preN_len] at hd2;have hc:=cnt_app hd;rw[preN_len] at hc;rw[walkPs,h1,walkPs_ref all ps up (f+cntN p) post _ hd2 hg.2 (by
   simp only[plus,List.length_append,hq,hc,scsN,List.length_map]),preL,pathsL,plus_app _ _ _ _ _ _ (by rw[preN_len,paN_len])]
end
theorem refPl_plT (t:Nd) (h:formed t=true):refPl (preN t) (pathsN t [] 0)=plT t:=by
 have:=walkP_ref (preN t) t [] 0 [] ⟨[zSet],[],[[]]⟩ (by simp) (good_all t h) (by simp [cntOf])
 rw[plT];have e:selA (preN t) []=[]:=rfl;rw[e] at this;rw[this];rfl
end Go.Proofs.Ytgiedknghbpdfaa
