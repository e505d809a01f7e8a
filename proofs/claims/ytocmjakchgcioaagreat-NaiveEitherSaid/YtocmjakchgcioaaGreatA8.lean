import Derived.Test.YtocmjakchgcioaaGreatC7
import Derived.Test.YtocmjakchgcioaaGreatA7
import Derived.Test.YtocmjakchgcioaaGreatA9

namespace Go.Proofs.YtocmjakchgcioaaGreat
set_option linter.all false
theorem XV {α:Type} [DecidableEq α]:∀ (l m:List α),l.Nodup→(∀ x∈l,x∈m)→l.length≤m.length
 | [],_,_,_=>by simp
 | a::l,m,hn,h=>by
  have ha:=h a SM;rw[List.nodup_cons] at hn
  have:=XV l (m.erase a) hn.2 fun x hx=>(List.mem_erase_of_ne (fun e=>hn.1 (by rw[← e];exact hx))).2 (h x (by simp [hx]))
  rw[List.length_erase_of_mem ha] at this;have hp:0 < m.length:=List.length_pos_of_mem ha;simp only[List.length_cons];omega
def HG (l:List Cf):(srtC l).Perm l:=List.mergeSort_perm _ _
def Qc6 (l:List Cf):(srtC l).Pairwise fun x y=>ordC x y≤0:=by
 have h:(srtC l).Pairwise fun x y=>(!(ltOf ordC) y x)=true:=by
  refine List.pairwise_mergeSort ?_ ?_ _
  ·intro a b c h1 h2;simp only[ltOf,Bool.not_eq_true',decide_eq_false_iff_not] at *;have e1:=Zv a b;have e2:=Zv b c;have e3:=Zv a c
   have:=Qbv a b c OM OM
   omega
  ·intro a b;have e1:=Zv a b;simp only[ltOf,Bool.or_eq_true,Bool.not_eq_true',decide_eq_false_iff_not];omega
 refine h.imp fun {x y} hh=>?_;have e1:=Zv x y;simp only[ltOf,Bool.not_eq_true',decide_eq_false_iff_not] at hh;omega
def Qcp {l:List Cf} (h:l.Pairwise fun x y=>ordC x y≤0) {i j:Nat} (hij:i < j) (hj:j < l.length):ordC (l[i]'(by omega)) l[j]≤0:=List.pairwise_iff_getElem.1 h i j (Nat.lt_trans hij hj) hj hij
theorem QbI {l:List Cf}:∀ (n:Nat),n≤l.length→∀ y,y∈cp l n↔∃ i,∃ h:i < l.length,i < n∧l[i]=y
 | 0,_,y=>by simp [cp]
 | n+1,hn,y=>by
  have ih:=QbI (l:=l) n OM y;have hnl:n < l.length:=by omega
  have hg:l[n]?=some l[n]:=List.getElem?_eq_getElem hnl;by_cases h0:0 < n∧l[n - 1]?=some l[n]
  ·rw[Qfd hg h0.1 h0.2,ih];constructor
   ·rintro⟨i,h1,h2,h3⟩;exact⟨i,h1,OM,h3⟩
   ·rintro⟨i,h1,h2,h3⟩
    by_cases hi:i=n
    ·subst hi
     have:=h0.2
     have g:i - 1 < l.length:=by omega
     rw[List.getElem?_eq_getElem g] at this
     exact⟨i - 1,OM,OM,by rw[← h3];exact Option.some.inj this⟩
    ·exact⟨i,h1,OM,h3⟩
  ·have hc:cp l (n+1)=cp l n++[l[n]]:=by simp only[cp,hg];rw[if_neg h0]
   rw[hc,List.mem_append,ih,List.mem_singleton];constructor
   ·rintro (⟨i,h1,h2,h3⟩|h)
    ·exact⟨i,h1,OM,h3⟩
    ·exact⟨n,OM,OM,h.symm⟩
   ·rintro⟨i,h1,h2,h3⟩
    by_cases hi:i=n
    ·subst hi;exact .inr h3.symm
    ·exact .inl ⟨i,h1,OM,h3⟩
theorem QlO {l:List Cf} (hp:l.Pairwise fun x y=>ordC x y≤0):∀ (n:Nat),n≤l.length→(cp l n).Pairwise fun x y=>ordC x y < 0
 | 0,_=>by simp [cp]
 | n+1,hn=>by
  have ih:=QlO hp n OM;have hnl:n < l.length:=by omega
  have hg:l[n]?=some l[n]:=List.getElem?_eq_getElem hnl;by_cases h0:0 < n∧l[n - 1]?=some l[n]
  ·rw[Qfd hg h0.1 h0.2];exact ih
  ·have hc:cp l (n+1)=cp l n++[l[n]]:=by simp only[cp,hg];rw[if_neg h0]
   rw[hc,List.pairwise_append]
   refine⟨ih,SM,fun z hz y hy=>?_⟩
   rw[List.mem_singleton.1 hy];obtain⟨i,h1,h2,rfl⟩:=(QbI n OM z).1 hz;have hle:=Qcp hp h2 OM;by_cases he:ordC l[i] l[n]=0
   ·exfalso;have hen:=(Yy _ _).1 he;refine h0 ⟨OM,?_⟩;have g:n - 1 < l.length:=by omega
    rw[List.getElem?_eq_getElem g];congr 1;by_cases hi:i=n - 1
    ·subst hi;exact hen
    ·have g1:=Qcp hp (show i < n - 1 by omega) OM;have g2:=Qcp hp (show n - 1 < n by omega) OM;rw[hen] at g1;have g3:=Zv l[n] l[n - 1];exact (Yy _ _).1 OM
   ·omega
def J4 (l:List Cf) (y:Cf):y∈sdC l↔y∈l:=by
 rw[sdC,cmpC,QbI _ (Nat.le_refl _),← (HG l).mem_iff,List.mem_iff_getElem];constructor
 ·rintro⟨i,h1,_,h3⟩;exact⟨i,h1,h3⟩
 ·rintro⟨i,h1,h3⟩;exact⟨i,h1,h1,h3⟩
def Qjy (l:List Cf):(sdC l).Pairwise fun x y=>ordC x y < 0:=QlO (Qc6 l) _ (Nat.le_refl _)
def DG (l:List Cf):(sdC l).Nodup:=(Qjy l).imp fun {x y} h e=>by
 rw[e,(Yy y y).2 rfl] at h;omega
end Go.Proofs.YtocmjakchgcioaaGreat
