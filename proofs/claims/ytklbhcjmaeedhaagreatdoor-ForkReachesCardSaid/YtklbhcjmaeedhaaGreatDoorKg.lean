import Derived.Test.YtklbhcjmaeedhaaGreatDoorL5
import Derived.Test.YtklbhcjmaeedhaaGreatDoorC7
import Derived.Test.YtklbhcjmaeedhaaGreatDoorC12
import Derived.Test.YtklbhcjmaeedhaaGreatDoorKa
import Derived.Test.YtklbhcjmaeedhaaGreatDoorKh

namespace Go.Proofs.YtklbhcjmaeedhaaGreatDoor
set_option linter.all false
variable {M N:Lan} {b sc nx p n at_ most:Nat} {w:List Nat} {A:Au} {s s':Int × Int} {cs:List Int} {t:Nd} {L L':List (Eg × Int)} {q x:Nds} {R T:Nat→List Int→Lan} {S:List (Int × Int)} {z:Bool} {m:Mv} {l:Int} {y:Cf} {B:List Cf}
def YY:lcat M N (b::w)↔(∃ x y,w=x++y∧M (b::x)∧N y)∨(M []∧N (b::w)):=by
 constructor
 ·rintro⟨x,y,h,hx,hy⟩
  cases x with
  | nil=>rw[List.nil_append] at h;subst h;exact .inr ⟨hx,hy⟩
  | cons c x =>
   rw[List.cons_append] at h;injection h with h1 h2;subst h1
   exact .inl ⟨x,y,h2,hx,hy⟩
 ·rintro (⟨x,y,rfl,hx,hy⟩|⟨hx,hy⟩)
  ·exact⟨b::x,y,rfl,hx,hy⟩
  ·exact⟨[],b::w,rfl,hx,hy⟩
def Jf:lcat M N []↔M []∧N []:=by
 constructor
 ·rintro⟨x,y,h,hx,hy⟩
  obtain⟨rfl,rfl⟩:=List.append_eq_nil_iff.1 h.symm
  exact⟨hx,hy⟩
 ·rintro⟨hx,hy⟩;exact⟨[],[],rfl,hx,hy⟩
theorem Jg {M:Lan}:∀ {m:Nat},Pw M m []↔m=0∨M []
 | 0=>⟨fun _=>.inl rfl,fun _=>rfl⟩
 | m+1=>by
  rw[Pw,Jf,Jg (m:=m)];constructor
  ·rintro⟨h,_⟩;exact .inr h
  ·rintro (h|h)
   ·cases h
   ·exact⟨h,.inr h⟩
theorem QdO {M:Lan} {b:Nat} {w:List Nat}:∀ {m:Nat},Pw M m (b::w)→∃ k x y,k < m∧(k+1=m∨M [])∧w=x++y∧M (b::x)∧Pw M k y
 | 0,h=>by cases h
 | m+1,h=>by
  rw[Pw,YY] at h;rcases h with⟨x,y,rfl,hx,hy⟩|⟨h0,h⟩
  ·exact⟨m,x,y,OM,.inl rfl,rfl,hx,hy⟩
  ·obtain⟨k,x,y,hk,_,h1,h2,h3⟩:=QdO h
   exact⟨k,x,y,OM,.inr h0,h1,h2,h3⟩
def QjB {lo hi:Int} (h:hi = -1∨(lo≤hi∧0≤hi)):Lt M lo hi []↔lo≤0∨M []:=by
 constructor
 ·rintro⟨m,h1,h2,h3⟩
  rcases Jg.1 h3 with rfl|h3
  ·exact .inl (by simpa using h1)
  ·exact .inr h3
 ·rintro (h0|h0)
  ·exact⟨0,by simpa using h0,by rcases h with h|h;exact .inl h;exact .inr (by simpa using h.2),rfl⟩
  ·exact⟨lo.toNat,OM,by rcases h with h|h;exact .inl h;exact .inr OM,Jg.2 (.inr h0)⟩
def Ku {lo hi:Int} (h0:M []→lo≤1):Lt M lo hi (b::w)↔∃ x y,w=x++y∧M (b::x)∧∃ k:Nat,lo - 1≤k∧(hi = -1∨(k:Int)≤hi - 1)∧Pw M k y:=by
 constructor
 ·rintro⟨m,h1,h2,h3⟩
  obtain⟨k,x,y,hk,hm,e,hx,hy⟩:=QdO h3
  refine⟨x,y,e,hx,k,?_,OM,hy⟩
  rcases hm with hm|hm
  ·omega
  ·have:=h0 hm;omega
 ·rintro⟨x,y,rfl,hx,k,h1,h2,h3⟩
  exact⟨k+1,OM,OM,b::x,y,rfl,hx,h3⟩
def ones (n:Nat):List Int:=List.replicate n 1
def inS (A:Au) (sc p:Nat):List (Int × Int):=(scAt A p).drop sc
def mayI (A:Au) (sc p:Nat) (cs:List Int) (m:Mv):Option (List Int) :=
 let S:=inS A sc p
 let k:=m.keep - sc
 if m.again then match ZY ((S[k]?).getD (0,0)) ((cs[k]?).getD 0) with
  | none=>none
  | some n=>if Qw (S.drop (k+1)) (cs.drop (k+1)) then some (cs.take k++n::ones ((inS A sc m.to).length - (k+1))) else none
 else if Qw (S.drop k) (cs.drop k) then some (cs.take k++ones ((inS A sc m.to).length - k)) else none
def okC (S:List (Int × Int)) (cs:List Int):Prop:=cs.length=S.length∧∀ i,i < S.length→1≤(cs[i]?).getD 0∧(cs[i]?).getD 0≤topS ((S[i]?).getD (0,0))
structure Reads (A:Au) (sc nx:Nat) (L:List (Eg × Int)) (y:Nds) (N:Lan) (E:Eg→Prop) (R:Nat→List Int→Lan):Prop where
 le:nx≤y.next
 ed:∀ x,isE x y.L↔isE x L∨E x
 er:∀ x,E x→nx < x.1∧x.1≤y.next∧nx < x.2.to∧x.2.to≤y.next∧sc≤x.2.keep
 fr:∀ p∈y.first,nx < p∧p≤y.next
 lr:∀ p∈y.last,nx < p∧p≤y.next
 nl:y.empty=true↔N []
 en:∀ b w,b < 256→(N (b::w)↔∃ p∈y.first,QA (stAt A p) b=true∧R p (ones (inS A sc p).length) w)
 ex:∀ p cs,nx < p→p≤y.next→okC (inS A sc p) cs→(R p cs []↔p∈y.last∧Qw (inS A sc p) cs=true)
 st:∀ p cs b w,nx < p→p≤y.next→okC (inS A sc p) cs→b < 256→(R p cs (b::w)↔∃ m,E (p,m)∧QA (stAt A m.to) b=true∧∃ cs',mayI A sc p cs m=some cs'∧R m.to cs' w)
def Jy (A:Au) (sc nx:Nat) (L:List (Eg × Int)):Reads A sc nx L ⟨[],[],true,nx,L⟩ eps (fun _=>False) (fun _ _=>ZI) where
 le:=Nat.le_refl _
 ed x:=by simp
 er x h:=h.elim
 fr p h:=by cases h
 lr p h:=by cases h
 nl:=by simp [eps]
 en b w _:=by simp [eps]
 ex p cs h1 h2:=by dsimp only at h2;omega
 st p cs b w h1 h2:=by dsimp only at h2;omega
def KB (A:Au) (sc nx:Nat) (L:List (Eg × Int)):Reads A sc nx L ⟨[],[],false,nx,L⟩ ZI (fun _=>False) (fun _ _=>ZI) where
 le:=Nat.le_refl _
 ed x:=by simp
 er x h:=h.elim
 fr p h:=by cases h
 lr p h:=by cases h
 nl:=by simp [ZI]
 en b w _:=by simp [ZI]
 ex p cs h1 h2:=by dsimp only at h2;omega
 st p cs b w h1 h2:=by dsimp only at h2;omega
def Ki {s:Nat→Nat} (L:List (Eg × Int)) (h1:stAt A (nx+1)=s) (h2:inS A sc (nx+1)=[]) :
  Reads A sc nx L ⟨[nx+1],[nx+1],false,nx+1,L⟩ (fun u=>∃ b,b < 256∧u=[b]∧QA s b=true) (fun _=>False) (fun _ _=>eps) where
 le:=Nat.le_succ _
 ed x:=by simp
 er x h:=h.elim
 fr p h:=by rw[List.mem_singleton.1 h];dsimp only;omega
 lr p h:=by rw[List.mem_singleton.1 h];dsimp only;omega
 nl:=by simp
 en b w hb:=by
  constructor
  ·rintro⟨c,_,hc,hs⟩
   injection hc with e1 e2;subst e1;subst e2
   exact⟨nx+1,List.mem_singleton.2 rfl,by rw[h1];exact hs,rfl⟩
  ·rintro⟨p,hp,hs,hw⟩
   rw[List.mem_singleton.1 hp,h1] at hs
   exact⟨b,hb,by rw[show w=[] from hw],hs⟩
 ex p cs g1 g2 g3:=by
  dsimp only at g2;obtain rfl:p=nx+1:=by omega
  simp [eps,Qw,h2]
 st p cs b w g1 g2 g3 _:=by simp [eps]
def Yj {t:Nat}:mayI A sc p cs ⟨t,sc,false⟩=if Qw (inS A sc p) cs then some (ones (inS A sc t).length) else none:=by
 simp [mayI]
def HL {E F:Eg→Prop} (hq:Reads A sc nx L q N E R) (hx:Reads A sc q.next q.L x M F T) :
  Reads A sc nx L ⟨if q.empty then q.first++x.first else q.first,if x.empty then q.last++x.last else x.last,q.empty&&x.empty,x.next,lnk q.last x.first sc false x.L⟩ (lcat N M)
   (fun e=>E e∨F e∨∃ a∈q.last,∃ b∈x.first,e=(a,⟨b,sc,false⟩)) (fun p cs=>if p≤q.next then lcat (R p cs) M else T p cs) where
 le:=Nat.le_trans hq.le hx.le
 ed e:=by
  rw[Yc,hx.ed,hq.ed];constructor
  ·rintro (h|(h|h)|h)
   ·exact .inr (.inr (.inr h))
   ·exact .inl h
   ·exact .inr (.inl h)
   ·exact .inr (.inr (.inl h))
  ·rintro (h|h|h|h)
   ·exact .inr (.inl (.inl h))
   ·exact .inr (.inl (.inr h))
   ·exact .inr (.inr h)
   ·exact .inl h
 er e h:=by
  have:=hq.le;have:=hx.le
  rcases h with h|h|⟨a,ha,b,hb,rfl⟩
  ·have:=hq.er e h;dsimp only;omega
  ·have:=hx.er e h;dsimp only;omega
  ·have:=hq.lr a ha;have:=hx.fr b hb;dsimp only;omega
 fr p h:=by
  have:=hq.le;have:=hx.le
  dsimp only at h ⊢;split at h
  ·rcases List.mem_append.1 h with h|h
   ·have:=hq.fr p h;omega
   ·have:=hx.fr p h;omega
  ·have:=hq.fr p h;omega
 lr p h:=by
  have:=hq.le;have:=hx.le
  dsimp only at h ⊢;split at h
  ·rcases List.mem_append.1 h with h|h
   ·have:=hq.lr p h;omega
   ·have:=hx.lr p h;omega
  ·have:=hx.lr p h;omega
 nl:=by rw[Jf,Bool.and_eq_true,hq.nl,hx.nl]
 en b w hb:=by
  rw[YY,hx.en b w hb];constructor
  ·rintro (⟨u,v,rfl,h1,h2⟩|⟨h1,p,hp,h2,h3⟩)
   ·obtain⟨p,hp,h3,h4⟩:=(hq.en b u hb).1 h1
    refine⟨p,?_,h3,?_⟩
    ·dsimp only;split
     ·exact List.mem_append_left _ hp
     ·exact hp
    ·rw[if_pos (hq.fr p hp).2];exact⟨u,v,rfl,h4,h2⟩
   ·refine⟨p,?_,h2,?_⟩
    ·dsimp only;rw[if_pos (hq.nl.2 h1)];exact List.mem_append_right _ hp
    ·have:=hx.fr p hp
     rw[if_neg OM];exact h3
  ·rintro⟨p,hp,h1,h2⟩
   have key:p∈q.first∨(q.empty=true∧p∈x.first):=by
    dsimp only at hp;split at hp
    ·rcases List.mem_append.1 hp with h|h
     ·exact .inl h
     ·exact .inr ⟨by assumption,h⟩
    ·exact .inl hp
   rcases key with h|⟨h,h'⟩
   ·rw[if_pos (hq.fr p h).2] at h2;obtain⟨u,v,rfl,h3,h4⟩:=h2;exact .inl ⟨u,v,rfl,(hq.en b u hb).2 ⟨p,h,h1,h3⟩,h4⟩
   ·have:=hx.fr p h'
    rw[if_neg OM] at h2;exact .inr ⟨hq.nl.1 h,p,h',h1,h2⟩
 ex p cs g1 g2 g3:=by
  dsimp only at g2 ⊢;by_cases hp:p≤q.next
  ·rw[if_pos hp,Jf,hq.ex p cs g1 hp g3,← hx.nl];constructor
   ·rintro⟨⟨h1,h2⟩,h3⟩;rw[if_pos h3];exact⟨List.mem_append_left _ h1,h2⟩
   ·rintro⟨h1,h2⟩
    split at h1
    ·rcases List.mem_append.1 h1 with h|h
     ·exact⟨⟨h,h2⟩,by assumption⟩
     ·have:=hx.lr p h;omega
    ·have:=hx.lr p h1;omega
  ·rw[if_neg hp,hx.ex p cs OM g2 g3];constructor
   ·rintro⟨h1,h2⟩
    refine⟨?_,h2⟩
    split
    ·exact List.mem_append_right _ h1
    ·exact h1
   ·rintro⟨h1,h2⟩
    refine⟨?_,h2⟩
    split at h1
    ·rcases List.mem_append.1 h1 with h|h
     ·have:=hq.lr p h;omega
     ·exact h
    ·exact h1
 st p cs b w g1 g2 g3 hb:=by
  dsimp only at g2 ⊢;by_cases hp:p≤q.next
  ·rw[if_pos hp,YY,hq.ex p cs g1 hp g3,hx.en b w hb];constructor
   ·rintro (⟨u,v,rfl,h1,h2⟩|⟨⟨h1,h2⟩,t,ht,h3,h4⟩)
    ·obtain⟨m,hm,h3,cs',h4,h5⟩:=(hq.st p cs b u g1 hp g3 hb).1 h1
     refine⟨m,.inl hm,h3,cs',h4,?_⟩
     rw[if_pos (hq.er _ hm).2.2.2.1];exact⟨u,v,rfl,h5,h2⟩
    ·refine⟨⟨t,sc,false⟩,.inr (.inr ⟨p,h1,t,ht,rfl⟩),h3,_,by rw[Yj,if_pos h2],?_⟩
     have:=hx.fr t ht
     rw[if_neg (by dsimp only;omega)];exact h4
   ·rintro⟨m,hm|hm|⟨a,ha,t,ht,e⟩,h3,cs',h4,h5⟩
    ·rw[if_pos (hq.er _ hm).2.2.2.1] at h5;obtain⟨u,v,rfl,h6,h7⟩:=h5;exact .inl ⟨u,v,rfl,(hq.st p cs b u g1 hp g3 hb).2 ⟨m,hm,h3,cs',h4,h6⟩,h7⟩
    ·have:=hx.er _ hm;dsimp only at this;omega
    ·injection e with e1 e2;subst e1;subst e2
     rw[Yj] at h4
     have:=hx.fr t ht
     rw[if_neg (by dsimp only;omega)] at h5;split at h4
     ·injection h4 with h4;subst h4
      exact .inr ⟨⟨ha,by assumption⟩,t,ht,h3,h5⟩
     ·cases h4
  ·rw[if_neg hp,hx.st p cs b w OM g2 g3 hb];constructor
   ·rintro⟨m,hm,h3,cs',h4,h5⟩
    have:=hx.er _ hm;dsimp only at this
    exact⟨m,.inr (.inl hm),h3,cs',h4,by rw[if_neg OM];exact h5⟩
   ·rintro⟨m,hm|hm|⟨a,ha,t,ht,e⟩,h3,cs',h4,h5⟩
    ·have:=hq.er _ hm;dsimp only at this;omega
    ·have:=hx.er _ hm;dsimp only at this
     rw[if_neg OM] at h5
     exact⟨m,hm,h3,cs',h4,h5⟩
    ·injection e with e1 e2;subst e1
     have:=hq.lr p ha;omega
def HQ {E F:Eg→Prop} (hq:Reads A sc nx L q N E R) (hx:Reads A sc q.next q.L x M F T) :
  Reads A sc nx L ⟨q.first++x.first,q.last++x.last,q.empty||x.empty,x.next,x.L⟩ (lor N M) (fun e=>E e∨F e) (fun p cs=>if p≤q.next then R p cs else T p cs) where
 le:=Nat.le_trans hq.le hx.le
 ed e:=by rw[hx.ed,hq.ed,or_assoc]
 er e h:=by
  have:=hq.le;have:=hx.le
  rcases h with h|h
  ·have:=hq.er e h;dsimp only;omega
  ·have:=hx.er e h;dsimp only;omega
 fr p h:=by
  have:=hq.le;have:=hx.le
  dsimp only;rcases List.mem_append.1 h with h|h
  ·have:=hq.fr p h;omega
  ·have:=hx.fr p h;omega
 lr p h:=by
  have:=hq.le;have:=hx.le
  dsimp only;rcases List.mem_append.1 h with h|h
  ·have:=hq.lr p h;omega
  ·have:=hx.lr p h;omega
 nl:=by rw[Bool.or_eq_true,hq.nl,hx.nl];rfl
 en b w hb:=by
  show N (b::w)∨M (b::w)↔_;rw[hq.en b w hb,hx.en b w hb];constructor
  ·rintro (⟨p,hp,h1,h2⟩|⟨p,hp,h1,h2⟩)
   ·exact⟨p,List.mem_append_left _ hp,h1,by rw[if_pos (hq.fr p hp).2];exact h2⟩
   ·have:=hx.fr p hp
    exact⟨p,List.mem_append_right _ hp,h1,by rw[if_neg OM];exact h2⟩
  ·rintro⟨p,hp,h1,h2⟩
   rcases List.mem_append.1 hp with h|h
   ·rw[if_pos (hq.fr p h).2] at h2;exact .inl ⟨p,h,h1,h2⟩
   ·have:=hx.fr p h
    rw[if_neg OM] at h2;exact .inr ⟨p,h,h1,h2⟩
 ex p cs g1 g2 g3:=by
  dsimp only at g2 ⊢;rw[List.mem_append];by_cases hp:p≤q.next
  ·rw[if_pos hp,hq.ex p cs g1 hp g3];constructor
   ·rintro⟨h1,h2⟩;exact⟨.inl h1,h2⟩
   ·rintro⟨h|h,h2⟩
    ·exact⟨h,h2⟩
    ·have:=hx.lr p h;omega
  ·rw[if_neg hp,hx.ex p cs OM g2 g3];constructor
   ·rintro⟨h1,h2⟩;exact⟨.inr h1,h2⟩
   ·rintro⟨h|h,h2⟩
    ·have:=hq.lr p h;omega
    ·exact⟨h,h2⟩
 st p cs b w g1 g2 g3 hb:=by
  dsimp only at g2 ⊢;by_cases hp:p≤q.next
  ·rw[if_pos hp,hq.st p cs b w g1 hp g3 hb];constructor
   ·rintro⟨m,hm,h3,cs',h4,h5⟩
    exact⟨m,.inl hm,h3,cs',h4,by rw[if_pos (hq.er _ hm).2.2.2.1];exact h5⟩
   ·rintro⟨m,hm|hm,h3,cs',h4,h5⟩
    ·rw[if_pos (hq.er _ hm).2.2.2.1] at h5;exact⟨m,hm,h3,cs',h4,h5⟩
    ·have:=hx.er _ hm;dsimp only at this;omega
  ·rw[if_neg hp,hx.st p cs b w OM g2 g3 hb];constructor
   ·rintro⟨m,hm,h3,cs',h4,h5⟩
    have:=hx.er _ hm;dsimp only at this
    exact⟨m,.inr hm,h3,cs',h4,by rw[if_neg OM];exact h5⟩
   ·rintro⟨m,hm|hm,h3,cs',h4,h5⟩
    ·have:=hq.er _ hm;dsimp only at this;omega
    ·have:=hx.er _ hm;dsimp only at this
     rw[if_neg OM] at h5;exact⟨m,hm,h3,cs',h4,h5⟩
def VE {c:Int}:Qw (s::S) (c::cs)=true↔s.1≤c∧Qw S cs=true:=by
 simp only[Qw,decide_eq_true_eq,List.length_cons];constructor
 ·intro h
  refine⟨by simpa [low] using h 0 OM,fun j hj=>?_⟩
  simpa [low] using h (j+1) OM
 ·rintro⟨h1,h2⟩ j hj
  cases j with
  | zero=>simpa [low] using h1
  | succ j=>simpa [low] using h2 j OM
def Kw (h:okC (s::S) cs):∃ c cs',cs=c::cs'∧1≤c∧c≤topS s∧okC S cs':=by
 obtain⟨h1,h2⟩:=h;cases cs with
 | nil=>cases h1
 | cons c cs =>
  have h0:=h2 0 SM
  refine⟨c,cs,rfl,by simpa using h0.1,by simpa using h0.2,by simpa using h1,fun i hi=>?_⟩
  simpa using h2 (i+1) (by simpa using hi)
def HT (n:Nat):ones (n+1)=1::ones n:=rfl
def Vk {E:Eg→Prop} (hx:Reads A sc nx L x M E R) {lo:Int} (h0:0≤lo) (h1:lo≤1) (hz:z=true↔Lt M lo 1 []) :
  Reads A sc nx L ⟨x.first,x.last,z,x.next,x.L⟩ (Lt M lo 1) E R where
 le:=hx.le
 ed:=hx.ed
 er:=hx.er
 fr:=hx.fr
 lr:=hx.lr
 nl:=hz
 en b w hb:=by
  rw[← hx.en b w hb,Ku fun _=>h1];constructor
  ·rintro⟨u,v,rfl,h2,k,_,h3,h4⟩
   have hk:k=0:=by omega
   subst hk;rw[show v=[] from h4,List.append_nil];exact h2
  ·intro h
   exact⟨w,[],SM,h,0,OM,OM,rfl⟩
 ex:=hx.ex
 st:=hx.st
def QlH (M:Lan):Lt M 0 (-1) []:=⟨0,OM,.inl rfl,rfl⟩
def QbA {lo:Int} (h1:lo≤1):Lt M lo (-1) (b::w)↔∃ x y,w=x++y∧M (b::x)∧Lt M 0 (-1) y:=by
 rw[Ku fun _=>h1];constructor
 ·rintro⟨x,y,h2,h3,k,_,_,h4⟩;exact⟨x,y,h2,h3,k,OM,.inl rfl,h4⟩
 ·rintro⟨x,y,h2,h3,k,_,_,h4⟩;exact⟨x,y,h2,h3,k,OM,.inl rfl,h4⟩
def Kj {E:Eg→Prop} (hx:Reads A sc nx L x M E R) {lo:Int} (h1:lo≤1) (hz:z=true↔Lt M lo (-1) []) :
  Reads A sc nx L ⟨x.first,x.last,z,x.next,lnk x.last x.first sc false x.L⟩ (Lt M lo (-1)) (fun e=>E e∨∃ a∈x.last,∃ b∈x.first,e=(a,⟨b,sc,false⟩)) (fun p cs=>lcat (R p cs) (Lt M 0 (-1))) where
 le:=hx.le
 ed e:=by
  rw[Yc,hx.ed];constructor
  ·rintro (h|h|h)
   ·exact .inr (.inr h)
   ·exact .inl h
   ·exact .inr (.inl h)
  ·rintro (h|h|h)
   ·exact .inr (.inl h)
   ·exact .inr (.inr h)
   ·exact .inl h
 er e h:=by
  rcases h with h|⟨a,ha,b,hb,rfl⟩
  ·exact hx.er e h
  ·have:=hx.lr a ha;have:=hx.fr b hb;dsimp only;omega
 fr:=hx.fr
 lr:=hx.lr
 nl:=hz
 en b w hb:=by
  rw[QbA h1];constructor
  ·rintro⟨u,v,rfl,h2,h3⟩
   obtain⟨p,hp,h4,h5⟩:=(hx.en b u hb).1 h2
   exact⟨p,hp,h4,u,v,rfl,h5,h3⟩
  ·rintro⟨p,hp,h4,u,v,rfl,h5,h3⟩
   exact⟨u,v,rfl,(hx.en b u hb).2 ⟨p,hp,h4,h5⟩,h3⟩
 ex p cs g1 g2 g3:=by
  rw[Jf,hx.ex p cs g1 g2 g3]
  exact⟨fun h=>h.1,fun h=>⟨h,QlH M⟩⟩
 st p cs b w g1 g2 g3 hb:=by
  rw[YY,hx.ex p cs g1 g2 g3,QbA OM];constructor
  ·rintro (⟨u,v,rfl,h2,h3⟩|⟨⟨h2,h3⟩,u,v,rfl,h4,h5⟩)
   ·obtain⟨m,hm,h4,cs',h5,h6⟩:=(hx.st p cs b u g1 g2 g3 hb).1 h2
    exact⟨m,.inl hm,h4,cs',h5,u,v,rfl,h6,h3⟩
   ·obtain⟨t,ht,h6,h7⟩:=(hx.en b u hb).1 h4
    exact⟨⟨t,sc,false⟩,.inr ⟨p,h2,t,ht,rfl⟩,h6,_,by rw[Yj,if_pos h3],u,v,rfl,h7,h5⟩
  ·rintro⟨m,hm|⟨a,ha,t,ht,e⟩,h4,cs',h5,u,v,rfl,h6,h3⟩
   ·exact .inl ⟨u,v,rfl,(hx.st p cs b u g1 g2 g3 hb).2 ⟨m,hm,h4,cs',h5,h6⟩,h3⟩
   ·injection e with e1 e2;subst e1;subst e2
    rw[Yj] at h5;split at h5
    ·injection h5 with h5;subst h5
     exact .inr ⟨⟨ha,by assumption⟩,u,v,rfl,(hx.en b u hb).2 ⟨t,ht,h4,h6⟩,h3⟩
    ·cases h5
def VK {c:Int} (hp:inS A sc p=s::inS A (sc+1) p) (ht:inS A sc m.to=s'::inS A (sc+1) m.to) (hk:sc+1≤m.keep):mayI A sc p (c::cs) m=(mayI A (sc+1) p cs m).map (c::·):=by
 obtain⟨t,k,ag⟩:=m;dsimp only at hk ht;obtain⟨j,rfl⟩:∃ j,k=sc+1+j:=⟨k - (sc+1),OM⟩;unfold mayI;dsimp only;rw[hp,ht,show sc+1+j - sc=j+1 by omega,show sc+1+j - (sc+1)=j by omega];simp only[List.getElem?_cons_succ,List.drop_succ_cons,List.take_succ_cons,List.length_cons,List.cons_append];rw[show (inS A (sc+1) t).length+1 - (j+1)=(inS A (sc+1) t).length - j by omega,show (inS A (sc+1) t).length+1 - (j+1+1)=(inS A (sc+1) t).length - (j+1) by omega];cases ag with
 | true =>
  simp only[if_true];cases ZY ((inS A (sc+1) p)[j]?.getD (0,0)) (cs[j]?.getD 0) with
  | none=>rfl
  | some n=>dsimp only;split<;>rfl
 | false =>
  simp only[Bool.false_eq_true,if_false];split<;>rfl
def Wl {t:Nat} {c:Int} (hp:inS A sc p=s::inS A (sc+1) p) (ht:inS A sc t=s'::inS A (sc+1) t) :
  mayI A sc p (c::cs) ⟨t,sc,true⟩=match ZY s c with|none=>none|some n=>if Qw (inS A (sc+1) p) cs then some (n::ones (inS A (sc+1) t).length) else none:=by
 unfold mayI;dsimp only;rw[hp,ht,Nat.sub_self];simp only[if_true,List.getElem?_cons_zero,Option.getD_some,Nat.zero_add,List.drop_succ_cons,List.drop_zero,List.take_zero,List.nil_append,List.length_cons,Nat.add_sub_cancel];all_goals rfl
def rst (M:Lan) (l hi c:Int):Lan:=Lt M (l - c) (if hi = -1 then -1 else hi - c)
def rcn (R:Nat→List Int→Lan) (M:Lan) (l hi:Int) (p:Nat):List Int→Lan
 | []=>ZI
 | c::cs=>lcat (R p cs) (rst M l hi c)
def Qhi {hi c:Int} (h1:1≤c) (h2:(hi = -1∧1 < l)∨(1 < hi∧l≤hi)) (h3:c≤topS (l,hi)) (h4:M []→l=1):rst M l hi c []↔l≤c:=by
 have ht:topS (l,hi)=if hi < 0 then l else hi:=rfl
 rw[ht] at h3;rw[rst,QjB]
 ·constructor
  ·rintro (h|h)
   ·omega
   ·have:=h4 h;omega
  ·intro h;exact .inl OM
 ·rcases h2 with⟨rfl,_⟩|h2
  ·exact .inl SM
  ·rw[if_neg OM] at h3;rw[if_neg OM];exact .inr OM
def Qe5 {hi c:Int} (h1:1≤c) (h2:(hi = -1∧1 < l)∨(1 < hi∧l≤hi)) (h3:c≤topS (l,hi)) (h4:M []→l=1) :
  rst M l hi c (b::w)↔∃ n,ZY (l,hi) c=some n∧∃ x y,w=x++y∧M (b::x)∧rst M l hi n y:=by
 have ht:topS (l,hi)=if hi < 0 then l else hi:=rfl
 rw[ht] at h3;rw[rst,Ku fun h=>by have:=h4 h;omega];rcases h2 with⟨rfl,hl⟩|⟨hh,hl⟩
 ·have hn:ZY (l,-1) c=some ((if c < l - 1 then c else l - 1)+1):=by simp [ZY]
  rw[hn];have key:∀ k:Nat,l - c - 1≤(k:Int)↔l - ((if c < l - 1 then c else l - 1)+1)≤(k:Int):=fun k=>by split<;>omega
  generalize (if c < l - 1 then c else l - 1)+1=n at key;constructor
  ·rintro⟨x,y,e,hx,k,g1,g2,g3⟩
   exact⟨n,rfl,x,y,e,hx,k,(key k).1 g1,.inl SM,g3⟩
  ·rintro⟨m,e0,x,y,e,hx,k,g1,g2,g3⟩
   injection e0 with e0;subst e0
   exact⟨x,y,e,hx,k,(key k).2 g1,.inl SM,g3⟩
 ·rw[if_neg OM] at h3 ⊢;by_cases hc:c≥hi
  ·have hn:ZY (l,hi) c=none:=by unfold ZY;rw[if_neg (by dsimp only;omega),if_pos hc]
   rw[hn];constructor
   ·rintro⟨x,y,e,hx,k,g1,g2,g3⟩;omega
   ·rintro⟨n,h,_⟩;cases h
  ·have hn:ZY (l,hi) c=some (c+1):=by unfold ZY;rw[if_neg (by dsimp only;omega),if_neg hc]
   rw[hn];constructor
   ·rintro⟨x,y,e,hx,k,g1,g2,g3⟩
    exact⟨c+1,rfl,x,y,e,hx,k,OM,by rw[if_neg OM];omega,g3⟩
   ·rintro⟨n,h,x,y,e,hx,k,g1,g2,g3⟩
    injection h with h;subst h
    rw[if_neg OM] at g2
    exact⟨x,y,e,hx,k,OM,OM,g3⟩
def Qh2 {lo hi:Int} (h0:0≤lo) (h2:(hi = -1∧1 < low1 lo)∨(1 < hi∧low1 lo≤hi)) (h4:M []→lo=0) :
  Lt M lo hi (b::w)↔∃ x y,w=x++y∧M (b::x)∧rst M (low1 lo) hi 1 y:=by
 rw[Ku fun h=>by have:=h4 h;omega];have hl:∀ k:Nat,lo - 1≤(k:Int)↔low1 lo - 1≤(k:Int):=fun k=>by unfold low1;split<;>omega
 constructor
 ·rintro⟨x,y,e,hx,k,g1,g2,g3⟩
  refine⟨x,y,e,hx,k,(hl k).1 g1,?_,g3⟩
  split<;>omega
 ·rintro⟨x,y,e,hx,k,g1,g2,g3⟩
  refine⟨x,y,e,hx,k,(hl k).2 g1,?_,g3⟩
  split at g2<;>omega
def HM {E:Eg→Prop} (hx:Reads A (sc+1) nx L x M E R) {lo hi:Int} (h0:0≤lo) (h2:(hi = -1∧1 < low1 lo)∨(1 < hi∧low1 lo≤hi)) (h4:M []→lo=0)
  (hS:∀ p,nx < p→p≤x.next→inS A sc p=(low1 lo,hi)::inS A (sc+1) p) (hz:z=true↔Lt M lo hi []) :
  Reads A sc nx L ⟨x.first,x.last,z,x.next,lnk x.last x.first sc true x.L⟩ (Lt M lo hi) (fun e=>E e∨∃ a∈x.last,∃ b∈x.first,e=(a,⟨b,sc,true⟩)) (rcn R M (low1 lo) hi):=by
 have h4':M []→low1 lo=1:=fun h=>by rw[h4 h];rfl
 have hon:∀ p,nx < p→p≤x.next→ones (inS A sc p).length=1::ones (inS A (sc+1) p).length:=fun p g1 g2=>by rw[hS p g1 g2,List.length_cons,HT]
 refine⟨hx.le,fun e=>?_,fun e h=>?_,hx.fr,hx.lr,hz,fun b w hb=>?_,fun p cs g1 g2 g3=>?_,fun p cs b w g1 g2 g3 hb=>?_⟩
 ·rw[Yc,hx.ed];constructor
  ·rintro (h|h|h)
   ·exact .inr (.inr h)
   ·exact .inl h
   ·exact .inr (.inl h)
  ·rintro (h|h|h)
   ·exact .inr (.inl h)
   ·exact .inr (.inr h)
   ·exact .inl h
 ·rcases h with h|⟨a,ha,b,hb,rfl⟩
  ·have:=hx.er e h;dsimp only;omega
  ·have:=hx.lr a ha;have:=hx.fr b hb;dsimp only;omega
 ·rw[Qh2 h0 h2 h4];constructor
  ·rintro⟨u,v,rfl,h5,h6⟩
   obtain⟨p,hp,h7,h8⟩:=(hx.en b u hb).1 h5
   have:=hx.fr p hp
   exact⟨p,hp,h7,by rw[hon p this.1 this.2];exact⟨u,v,rfl,h8,h6⟩⟩
  ·rintro⟨p,hp,h7,h8⟩
   have:=hx.fr p hp
   rw[hon p this.1 this.2] at h8;obtain⟨u,v,rfl,h9,h6⟩:=h8
   exact⟨u,v,rfl,(hx.en b u hb).2 ⟨p,hp,h7,h9⟩,h6⟩
 ·dsimp only at g2 ⊢;rw[hS p g1 g2] at g3 ⊢;obtain⟨c,cs,rfl,c1,c2,g3⟩:=Kw g3;rw[rcn,Jf,hx.ex p cs g1 g2 g3,Qhi c1 h2 c2 h4',VE]
  exact⟨fun h=>⟨h.1.1,h.2,h.1.2⟩,fun h=>⟨⟨h.1,h.2.2⟩,h.2.1⟩⟩
 ·dsimp only at g2;have hSp:=hS p g1 g2;rw[hSp] at g3;obtain⟨c,cs,rfl,c1,c2,g3⟩:=Kw g3;rw[rcn,YY,hx.ex p cs g1 g2 g3,Qe5 c1 h2 c2 h4'];constructor
  ·rintro (⟨u,v,rfl,h5,h6⟩|⟨⟨h5,h6⟩,n,hn,u,v,rfl,h7,h8⟩)
   ·obtain⟨m,hm,h7,cs',h8,h9⟩:=(hx.st p cs b u g1 g2 g3 hb).1 h5;have hr:=hx.er _ hm;dsimp only at hr
    exact⟨m,.inl hm,h7,c::cs',by rw[VK hSp (hS _ hr.2.2.1 hr.2.2.2.1) hr.2.2.2.2,h8];rfl,u,v,rfl,h9,h6⟩
   ·obtain⟨t,ht,h9,h10⟩:=(hx.en b u hb).1 h7;have hr:=hx.fr t ht
    refine⟨⟨t,sc,true⟩,.inr ⟨p,h5,t,ht,rfl⟩,h9,n::ones (inS A (sc+1) t).length,?_,u,v,rfl,h10,h8⟩
    rw[Wl hSp (hS t hr.1 hr.2),hn];dsimp only;rw[if_pos h6]
  ·rintro⟨m,hm|⟨a,ha,t,ht,e⟩,h7,cs',h8,h9⟩
   ·have hr:=hx.er _ hm;dsimp only at hr;rw[VK hSp (hS _ hr.2.2.1 hr.2.2.2.1) hr.2.2.2.2] at h8;obtain⟨ds,h10,rfl⟩:=Option.map_eq_some_iff.1 h8;obtain⟨u,v,rfl,h11,h12⟩:=h9;exact .inl ⟨u,v,rfl,(hx.st p cs b u g1 g2 g3 hb).2 ⟨m,hm,h7,ds,h10,h11⟩,h12⟩
   ·injection e with e1 e2;subst e1;subst e2
    have hr:=hx.fr t ht;rw[Wl hSp (hS t hr.1 hr.2)] at h8;cases hn:ZY (low1 lo,hi) c with
    | none=>rw[hn] at h8;cases h8
    | some n =>
     rw[hn] at h8;dsimp only at h8;split at h8
     ·injection h8 with h8;subst h8
      obtain⟨u,v,rfl,h11,h12⟩:=h9;exact .inr ⟨⟨ha,by assumption⟩,n,rfl,u,v,rfl,(hx.en b u hb).2 ⟨t,ht,h7,h11⟩,h12⟩
     ·cases h8
mutual
def Zs:Nd→Prop
 | .mk k _ ps lo hi=>(k=4→hi≠0∧(Yv ps=true→lo=0))∧K4 ps
def K4:List Nd→Prop
 | []=>True
 | p::ps=>Zs p∧K4 ps
end
theorem W3:∀ (ps:List Nd),K4 ps↔∀ p∈ps,Zs p
 | []=>by simp [K4]
 | p::ps=>by simp [K4,W3 ps]
mutual
theorem Yu:∀ (n:Nd),Qe n=true→Mb n []→QU n=true
 | .mk k s ps lo hi,hf,h=>by
  rw[Qe,Bool.and_eq_true] at hf;rw[Zo] at h;rw[QU];by_cases h1:k=1
  ·rw[if_pos h1] at h;obtain⟨b,_,hb,_⟩:=h;cases hb
  ·rw[if_neg h1] at h ⊢;by_cases h3:k=3
   ·subst h3;simp only[if_true] at h;rw[if_neg OM,if_pos rfl];exact Dy ps hf.2 h
   ·rw[if_neg h3] at h;by_cases h2:k=2
    ·rw[if_pos h2] at h ⊢;exact DI ps hf.2 h
    ·rw[if_neg h2] at h ⊢;rw[if_neg h3];by_cases h4:k=4
     ·rw[if_pos h4] at h ⊢;obtain⟨m,g1,g2,g3⟩:=h;rcases Jg.1 g3 with rfl|g3
      ·have hl:0≤lo:=by
        have:=hf.1;subst h4;simp [Qk] at this;exact this.1.1.2
       rw[Bool.or_eq_true];left;rw[beq_iff_eq];simp at g1;omega
      ·rw[QdB ps hf.2 (by
        have:=hf.1;subst h4;simp [Qk] at this;exact this.1.1.1.2) g3,Bool.or_true]
     ·rw[if_neg h4]
theorem Dy:∀ (ps:List Nd),Qc ps=true→Zj ps []→Zy ps=true
 | [],_,h=>by rw[Ze] at h;exact h.elim
 | p::ps,hf,h=>by
  rw[Qc,Bool.and_eq_true] at hf;rw[Qx] at h;rw[Zy,Bool.or_eq_true];rcases h with h|h
  ·exact .inl (Yu p hf.1 h)
  ·exact .inr (Dy ps hf.2 h)
theorem DI:∀ (ps:List Nd),Qc ps=true→Zt ps []→ZJ ps=true
 | [],_,_=>rfl
 | p::ps,hf,h=>by
  rw[Qc,Bool.and_eq_true] at hf;rw[QB,Jf] at h;rw[ZJ,Bool.and_eq_true]
  exact⟨Yu p hf.1 h.1,DI ps hf.2 h.2⟩
theorem QdB:∀ (ps:List Nd),Qc ps=true→ps.length=1→Jj ps []→Yv ps=true
 | [],_,h,_=>by cases h
 | p::ps,hf,_,h=>by
  rw[Qc,Bool.and_eq_true] at hf;rw[QH] at h;rw[Yv];exact Yu p hf.1 h
end
def Qad {n:Nd} (hf:Qe n=true):QU n=true↔Mb n []:=⟨Xx n hf,Yu n hf⟩
structure PlPre (q q':Pl):Prop where
 s:q.sets <+: q'.sets
 a:q.around <+: q'.around
 c:q.scopes <+: q'.scopes
def PlPre.tr {a b c:Pl} (h1:PlPre a b) (h2:PlPre b c):PlPre a c:=⟨Ya h1.s h2.s,Ya h1.a h2.a,Ya h1.c h2.c⟩
mutual
theorem Xm:∀ (n:Nd) (ar:List Nat) (q:Pl),PlPre q (Ql n ar q)
 | .mk k s ps lo hi,ar,q=>by
  rw[Ql];refine PlPre.tr ?_ (ZQ ps _ _);constructor
  ·dsimp only;split
   ·exact List.prefix_append _ _
   ·exact List.prefix_rfl
  ·dsimp only;split
   ·exact List.prefix_append _ _
   ·exact List.prefix_rfl
  ·dsimp only;split
   ·exact List.prefix_append _ _
   ·exact List.prefix_rfl
theorem ZQ:∀ (ps:List Nd) (ar:List Nat) (q:Pl),PlPre q (Qt ps ar q)
 | [],_,_=>⟨List.prefix_rfl,List.prefix_rfl,List.prefix_rfl⟩
 | p::ps,ar,q=>by
  rw[Qt];exact (Xm p ar q).tr (ZQ ps ar _)
end
def plA (A:Au):Pl:=⟨A.sets,A.scopes,A.around⟩
mutual
theorem WJ (A:Au):∀ (n:Nd) (nx:Nat) (L:List (Eg × Int)) (ar:List Nat) (q:Pl),Qe n=true→Zs n→q.sets.length=nx+1→q.around.length=nx+1→PlPre (Ql n ar q) (plA A) →
  ∃ E R,Reads A ar.length nx L (wk n ar.length nx L) (Mb n) E R
 | .mk k s ps lo hi,nx,L,ar,q,hf0,hn,hq1,hq2,hA=>by
  have hf:=hf0;rw[Qe,Bool.and_eq_true] at hf;rw[Zs] at hn;have hnl:∀ (ar':List Nat) (q':Pl),ps=[]→Qt ps ar' q'=q':=fun ar' q' h=>by subst h;rfl
  by_cases h1:k=1
  ·subst h1;have hps:ps=[]:=by
    have:=hf.1;simp [Qk] at this;exact this.2
   have hc:cnts 1 lo hi=false:=rfl;rw[Ql,hnl _ _ hps,hc] at hA;simp only[true_and,Bool.false_eq_true,if_false] at hA;rw[wk];simp only[if_true];cases he:Qq s with
   | true =>
    have hv:Mb (.mk 1 s ps lo hi)=ZI:=YE _ (by rw[QD,if_pos rfl];exact he);rw[hv];simp only[if_true]
    exact⟨_,_,KB A _ nx L⟩
   | false =>
    simp only[he,Bool.false_eq_true,if_false,if_true] at hA ⊢;rw[Zo,if_pos rfl];have e1:A.sets[nx+1]?=some s:=Zb hA.s (by rw[← hq1];simp);have e2:A.around[nx+1]?=some ar:=Zb hA.a (by rw[← hq2];simp)
    exact⟨_,_,Ki L (by rw[stAt,e1];rfl) (by rw[inS,scAt,arAt,e2];simp)⟩
  ·have hs:(k=1∧Qq s=false)=False:=by simp [h1]
   by_cases h2:k=2
   ·subst h2;have hc:cnts 2 lo hi=false:=rfl;rw[Ql,hc] at hA;simp only[h1,if_false,false_and,Bool.false_eq_true] at hA;rw[wk,Zo];simp only[h1,if_false,if_true,show ¬ (2:Int)=3 by omega]
    have:=HP A ps ar ⟨[],[],true,nx,L⟩ nx L q eps _ _ hf.2 hn.2 hq1 hq2 hA (Jy A ar.length nx L)
    rw[JS] at this;exact this
   ·by_cases h3:k=3
    ·subst h3;have hc:cnts 3 lo hi=false:=rfl;rw[Ql,hc] at hA;simp only[h1,if_false,false_and,Bool.false_eq_true] at hA;rw[wk,Zo];simp only[h1,h2,if_false,if_true]
     have:=Vb A ps ar ⟨[],[],false,nx,L⟩ nx L q ZI _ _ hf.2 hn.2 hq1 hq2 hA (KB A ar.length nx L)
     rw[D9] at this;exact this
    ·by_cases h4:k=4
     ·subst h4;have hsh:=hf.1;simp [Qk] at hsh;obtain⟨⟨⟨⟨_,hl1⟩,hlo⟩,_⟩,hhi⟩:=hsh;obtain⟨p,rfl⟩:=List.length_eq_one_iff.1 hl1;have hfp:Qe p=true:=by have:=hf.2;rw[Qc,Qc] at this;simpa using this
      have hnp:Zs p:=hn.2.1;obtain⟨hh0,hnl0⟩:=hn.1 rfl;rw[Yv] at hnl0;have hz:QU (.mk 4 s [p] lo hi)=true↔Lt (Mb p) lo hi []:=by
       rw[Qad hf0,Zo];simp only[h1,h2,h3,if_false,if_true,QH]
      have hM:Mb (.mk 4 s [p] lo hi)=Lt (Mb p) lo hi:=by
       rw[Zo];simp only[h1,h2,h3,if_false,if_true,QH]
      have h0:Mb p []→lo=0:=fun h=>hnl0 (Yu p hfp h);rw[hM,wk];simp only[h1,h2,h3,if_false,if_true,wkH];rw[Ql] at hA;simp only[h1,if_false,false_and,Qt] at hA;cases hc:cnts 4 lo hi with
      | false =>
       rw[hc] at hA;simp only[Bool.false_eq_true,if_false] at hA ⊢;obtain⟨E,R,ih⟩:=WJ A p nx L ar q hfp hnp hq1 hq2 hA;by_cases hh:hi=1
       ·subst hh;rw[if_pos rfl]
        exact⟨_,_,Vk ih hlo OM hz⟩
       ·rw[if_neg hh];have hc':¬ (1 < hi)∧(hi = -1→¬ 1 < low1 lo):=by
         simp [cnts] at hc
         exact⟨OM,fun h=>by have:=hc.2 h;omega⟩
        have hh1:hi = -1:=by omega
        subst hh1;have hl:lo≤1:=by
         have:=hc'.2 rfl;unfold low1 at this;split at this<;>omega
        exact⟨_,_,Kj ih hl hz⟩
      | true =>
       rw[hc] at hA;simp only[if_true] at hA ⊢;have hok:=Xq p nx L (ar++[q.scopes.length]) { q with scopes:=q.scopes++[(low1 lo,hi)] } hfp hq1 hq2;obtain⟨E,R,ih⟩:=WJ A p nx L (ar++[q.scopes.length]) { q with scopes:=q.scopes++[(low1 lo,hi)] } hfp hnp hq1 hq2 hA;rw[List.length_append,List.length_cons,List.length_nil] at ih hok;have hc':(hi = -1∧1 < low1 lo)∨(1 < hi∧low1 lo≤hi):=by
        simp [cnts] at hc;have hl:low1 lo≤1∨low1 lo=lo:=by unfold low1;split<;>omega
        omega
       rw[if_neg OM]
       refine⟨_,_,HM ih hlo hc' h0 (fun i g1 g2=>?_) hz⟩
       obtain⟨l,e1,t,rfl⟩:=hok.pre i g1 g2;have e2:A.around[i]?=some (ar++[q.scopes.length]++t):=Zb hA.a e1;have e3:A.scopes[q.scopes.length]?=some (low1 lo,hi):=Zb (Ya (Xm p _ _).c hA.c) SM;have e4:scAt A i=ar.map (scI A)++(low1 lo,hi)::t.map (scI A):=by
        rw[scAt,arAt,e2];simp [scI,e3]
       have hlen:(ar.map (scI A)).length=ar.length:=List.length_map ..;rw[inS,inS,e4,← hlen,List.drop_left,← List.drop_drop,List.drop_left];rfl
     ·have h0:k=0:=by
       have:=hf.1;unfold Qk at this
       by_cases h0:k=0
       ·exact h0
       ·simp [h0,h1,h2,h3,h4] at this
      subst h0;rw[wk,Zo];simp only[h1,h2,h3,h4,if_false]
      exact⟨_,_,Jy A ar.length nx L⟩
theorem HP (A:Au):∀ (ps:List Nd) (ar:List Nat) (y:Nds) (nx:Nat) (L:List (Eg × Int)) (q:Pl) (N:Lan) (E:Eg→Prop) (R:Nat→List Int→Lan),Qc ps=true→K4 ps→q.sets.length=y.next+1→q.around.length=y.next+1→PlPre (Qt ps ar q) (plA A) →
  Reads A ar.length nx L y N E R→∃ E R,Reads A ar.length nx L (wkC ps ar.length y) (lcat N (Zt ps)) E R
 | [],ar,y,nx,L,q,N,E,R,_,_,_,_,_,h=>by rw[wkC,Zd,YI];exact⟨E,R,h⟩
 | p::ps,ar,y,nx,L,q,N,E,R,hf,hn,h1,h2,hA,h=>by
  rw[Qc,Bool.and_eq_true] at hf;rw[Qt] at hA;have hok:=Xq p y.next y.L ar q hf.1 h1 h2;obtain⟨F,T,ih⟩:=WJ A p y.next y.L ar q hf.1 hn.1 h1 h2 ((ZQ ps ar _).tr hA);rw[wkC,QB,← Ja];exact HP A ps ar _ nx L _ _ _ _ hf.2 hn.2 hok.ls hok.la hA (HL h ih)
theorem Vb (A:Au):∀ (ps:List Nd) (ar:List Nat) (y:Nds) (nx:Nat) (L:List (Eg × Int)) (q:Pl) (N:Lan) (E:Eg→Prop) (R:Nat→List Int→Lan),Qc ps=true→K4 ps→q.sets.length=y.next+1→q.around.length=y.next+1→PlPre (Qt ps ar q) (plA A) →
  Reads A ar.length nx L y N E R→∃ E R,Reads A ar.length nx L (wkA ps ar.length y) (lor N (Zj ps)) E R
 | [],ar,y,nx,L,q,N,E,R,_,_,_,_,_,h=>by rw[wkA,Ze,Xp];exact⟨E,R,h⟩
 | p::ps,ar,y,nx,L,q,N,E,R,hf,hn,h1,h2,hA,h=>by
  rw[Qc,Bool.and_eq_true] at hf;rw[Qt] at hA;have hok:=Xq p y.next y.L ar q hf.1 h1 h2;obtain⟨F,T,ih⟩:=WJ A p y.next y.L ar q hf.1 hn.1 h1 h2 ((ZQ ps ar _).tr hA);rw[wkA,Qx,← JB];exact Vb A ps ar _ nx L _ _ _ _ hf.2 hn.2 hok.ls hok.la hA (HQ h ih)
end
mutual
theorem QcP (k:Int):∀ (l:List Nd) (p:Nd),Zs p→(∀ q∈l,Zs q)→∀ q∈put1 k l p,Zs q
 | l,.mk k2 s ps lo hi,hp,hl=>by
  rw[put1];split
  ·rw[Zs] at hp;exact W6 k l ps ((W3 ps).1 hp.2) hl
  ·split
   ·exact hl
   ·split
    ·exact hl
    ·intro q hq;rcases List.mem_append.1 hq with h|h
     ·exact hl q h
     ·simp at h;rw[h];exact hp
theorem W6 (k:Int):∀ (l ps:List Nd),(∀ p∈ps,Zs p)→(∀ q∈l,Zs q)→∀ q∈putL k l ps,Zs q
 | l,[],_,hl=>by rw[putL];exact hl
 | l,p::ps,hp,hl=>by
  rw[putL];exact W6 k _ ps (fun q hq=>hp q (by simp [hq])) (QcP k l p (hp p SM) hl)
end
def JK:Zs noN:=by rw[noN,Zs];exact⟨fun h=>absurd h LM,trivial⟩
def Qba {p:Nd} (hp:Zs p) (lo hi:Int):Zs (Yn p lo hi):=by
 have hm:hi≠0→Zs (.mk 4 zSet [p] (bif QU p then 0 else lo) hi):=fun h=>by
  rw[Zs]
  refine⟨fun _=>⟨h,fun hn=>?_⟩,hp,trivial⟩
  rw[Yv] at hn;rw[hn];rfl
 unfold Yn;by_cases h0:hi=0
 ·rw[h0];exact JK
 ·rw[show (hi==0)=false by simpa using h0,cond_false];cases (p.kind==0) with
  | true=>exact JK
  | false =>
   rw[cond_false];cases QD p with
   | true=>exact JK
   | false =>
    rw[cond_false];cases (lo==1) with
    | false=>exact hm h0
    | true =>
     rw[cond_true];cases (hi==1) with
     | true=>exact hp
     | false=>exact hm h0
mutual
theorem Jr:∀ (n:Nd),Qe n=true→Zs (Qb n)
 | .mk k s ps lo hi,hf=>by
  rw[Qe,Bool.and_eq_true] at hf;rw[Qb];split
  ·rw[Zs];exact⟨fun h=>by omega,trivial⟩
  ·split
   ·have hall:=W6 k [] (Qd ps) (Wt ps hf.2) SM;generalize putL k [] (Qd ps)=M at hall
    match M,hall with
    | [],_=>exact JK
    | [p],hall=>exact hall p SM
    | p::q::M,hall =>
     show Zs (.mk k zSet (p::q::M) 0 0);rw[Zs]
     exact⟨fun h=>by omega,(W3 _).2 hall⟩
   ·split
    ·exact Qba (Hm ps hf.2) lo hi
    ·rename_i h2 h4;have hk:k=0∨k=1:=by
      have:=hf.1;unfold Qk at this
      by_cases h0:k=0
      ·exact .inl h0
      ·by_cases h1:k=1
       ·exact .inr h1
       ·simp [h0,h1,h2,h4] at this
     have hps:ps=[]:=by
      have:=hf.1
      rcases hk with rfl|rfl
      ·simp [Qk] at this;exact this.2
      ·simp [Qk] at this;exact this.2
     rw[hps,Zs]
     exact⟨fun h=>by omega,trivial⟩
theorem Wt:∀ (ps:List Nd),Qc ps=true→∀ q∈Qd ps,Zs q
 | [],_,q,hq=>by cases hq
 | p::ps,hf,q,hq=>by
  rw[Qc,Bool.and_eq_true] at hf;rw[Qd] at hq;rcases List.mem_cons.1 hq with hq|hq
  ·rw[hq];exact Jr p hf.1
  ·exact Wt ps hf.2 q hq
theorem Hm:∀ (ps:List Nd),Qc ps=true→Zs (YU ps)
 | [],_=>JK
 | p::ps,hf=>by
  rw[Qc,Bool.and_eq_true] at hf;rw[YU];exact Jr p hf.1
end
def cts (A:Au) (x:Cf):List Int:=(cl4 x).take (scAt A x.p.toNat).length
def Vq (x:Cf):(cl4 x).length=4:=rfl
def in0 (A:Au) (p:Nat):inS A 0 p=scAt A p:=rfl
def sc_4 (hW:WF A) (h:p < A.around.length):(scAt A p).length≤4:=by rw[scAt,List.length_map];exact ar_4 hW h
def QS {x:Cf} (h:Qr A x=true):1≤x.p.toNat∧x.p.toNat < A.around.length:=by
 obtain⟨h1,h2,_⟩:=QL.1 h;omega
def Dr (hW:WF A) {x:Cf} (h:Qr A x=true):okC (scAt A x.p.toNat) (cts A x):=by
 have h4:=sc_4 hW (QS h).2;obtain⟨_,_,h3⟩:=QL.1 h
 refine⟨by rw[cts,List.length_take,Vq];omega,fun i hi=>?_⟩
 have:=h3 i OM
 rw[cts,List.getElem?_take_of_lt hi,YC x OM,List.getElem?_eq_getElem hi];rw[okAt,List.getElem?_eq_getElem hi] at this;simpa using this
def XG {l:List (Int × Int)} (h:l.length≤n):Qw l (cs.take n)=Qw l cs:=by
 unfold Qw;congr 1;refine propext ⟨fun g j hj=>?_,fun g j hj=>?_⟩
 ·have:=g j hj;rwa [List.getElem?_take_of_lt OM] at this
 ·have:=g j hj;rwa [List.getElem?_take_of_lt OM]
def Yk {K:List Int} (h1:K.length≤(scAt A p).length) (h4:(scAt A p).length≤4):cts A (QG A p K)=K++ones ((scAt A p).length - K.length):=by
 have hp:(QG A p K).p.toNat=p:=by show ((p:Int)).toNat=p;omega
 refine List.ext_getElem? fun i=>?_;rw[cts,hp];by_cases hi:i < (scAt A p).length
 ·rw[List.getElem?_take_of_lt hi,YC _ OM,show (QG A p K).c i=entN (arAt A p).length K i from X7 _ _ OM,entN];by_cases hk:i < K.length
  ·rw[List.getElem?_append_left hk,List.getElem?_eq_getElem hk]
  ·rw[List.getElem?_append_right OM,List.getElem?_eq_none OM]
   have:i < (arAt A p).length:=by rw[scAt,List.length_map] at hi;exact hi
   rw[if_pos this,ones,List.getElem?_replicate,if_pos OM]
 ·rw[List.getElem?_eq_none (by rw[List.length_take];omega),List.getElem?_eq_none (by rw[List.length_append,ones,List.length_replicate];omega)]
def QkY (hW:WF A) {x:Cf} (hr:Qr A x=true) (hm:MvOk A x.p.toNat m) (y:Cf) :
  mayF A x m=some y↔∃ cs,mayI A 0 x.p.toNat (cts A x) m=some cs∧y.p.toNat=m.to∧cts A y=cs∧y=QG A m.to (cs.take (lft m)):=by
 have h4:=sc_4 hW (QS hr).2;have h4':=sc_4 hW hm.to;have hk:=hm.keep;have hk2:=hm.keep2;have l1:(arAt A x.p.toNat).length=(scAt A x.p.toNat).length:=(List.length_map ..).symm;have l2:(arAt A m.to).length=(scAt A m.to).length:=(List.length_map ..).symm;rw[l1] at hk;rw[l2] at hk2;have hp:∀ K,(QG A m.to K).p.toNat=m.to:=fun K=>by show ((m.to:Int)).toNat=m.to;omega
 obtain⟨t,k,ag⟩:=m;unfold mayF mayI;dsimp only at hk hk2 h4' hp ⊢;rw[in0,in0,Nat.sub_zero];generalize hS:scAt A x.p.toNat=S at h4 hk;have hc:cts A x=(cl4 x).take S.length:=by rw[cts,hS]
 rw[hc];cases ag with
 | true =>
  simp only[lft,if_true] at hk hk2 ⊢;have hlv:Qw (S.drop (k+1)) (((cl4 x).take S.length).drop (k+1))=Qw (S.drop (k+1)) ((cl4 x).drop (k+1)):=by
   rw[List.drop_take,XG (by rw[List.length_drop];omega)]
  have hg:(((cl4 x).take S.length)[k]?).getD 0=x.c k:=by rw[List.getElem?_take_of_lt OM,YC x OM];rfl
  have ht:((cl4 x).take S.length).take k=(cl4 x).take k:=by rw[List.take_take,Nat.min_eq_left OM]
  rw[hlv,hg,ht];have hkl:((cl4 x).take k).length=k:=by rw[List.length_take,Vq];omega
  cases ZY ((S[k]?).getD (0,0)) (x.c k) with
  | none=>simp
  | some n =>
   dsimp only;have hKl:((cl4 x).take k++[n]).length=k+1:=by rw[List.length_append,hkl];rfl
   have hE:=Yk (A:=A) (p:=t) (K:=(cl4 x).take k++[n]) OM h4';rw[hKl] at hE;have hT:((cl4 x).take k++n::ones ((scAt A t).length - (k+1))).take (k+1)=(cl4 x).take k++[n]:=by
    rw[show (cl4 x).take k++n::ones ((scAt A t).length - (k+1))=((cl4 x).take k++[n])++ones ((scAt A t).length - (k+1)) by simp,List.take_left' hKl]
   split
   ·constructor
    ·intro h;injection h with h;subst h
     refine⟨_,rfl,hp _,by rw[hE];simp,by rw[hT]⟩
    ·rintro⟨cs,h,_,_,h2⟩;injection h with h;subst h
     rw[h2,hT]
   ·simp
 | false =>
  simp only[lft,Bool.false_eq_true,if_false,Nat.add_zero] at hk hk2 ⊢;have hlv:Qw (S.drop k) (((cl4 x).take S.length).drop k)=Qw (S.drop k) ((cl4 x).drop k):=by
   rw[List.drop_take,XG (by rw[List.length_drop];omega)]
  have ht:((cl4 x).take S.length).take k=(cl4 x).take k:=by rw[List.take_take,Nat.min_eq_left OM]
  rw[hlv,ht];have hkl:((cl4 x).take k).length=k:=by rw[List.length_take,Vq];omega
  have hE:=Yk (A:=A) (p:=t) (K:=(cl4 x).take k) OM h4';rw[hkl] at hE;have hT:((cl4 x).take k++ones ((scAt A t).length - k)).take k=(cl4 x).take k:=List.take_left' hkl;split
  ·constructor
   ·intro h;injection h with h;subst h
    exact⟨_,rfl,hp _,hE,by rw[hT]⟩
   ·rintro⟨cs,h,_,_,h2⟩;injection h with h;subst h
    rw[h2,hT]
  ·simp
def Qdp (hW:WF A) {x:Cf} (hr:Qr A x=true) (hm:MvOk A x.p.toNat m) (h:mayI A 0 x.p.toNat (cts A x) m=some cs):cts A (QG A m.to (cs.take (lft m)))=cs:=by
 have h4:=sc_4 hW (QS hr).2;have h4':=sc_4 hW hm.to;have hk:=hm.keep;have hk2:=hm.keep2;have l1:(arAt A x.p.toNat).length=(scAt A x.p.toNat).length:=(List.length_map ..).symm;have l2:(arAt A m.to).length=(scAt A m.to).length:=(List.length_map ..).symm;rw[l1] at hk;rw[l2] at hk2;have hcl:(cts A x).length=(scAt A x.p.toNat).length:=(Dr hW hr).1;obtain⟨t,k,ag⟩:=m;unfold mayI at h;dsimp only at h hk hk2 h4' ⊢;rw[in0,in0,Nat.sub_zero] at h;cases ag with
 | true =>
  simp only[lft,if_true] at h hk hk2 ⊢;have hkl:((cts A x).take k).length=k:=by rw[List.length_take];omega
  split at h
  ·cases h
  ·rename_i n _;split at h
   ·injection h with h;subst h
    have hKl:((cts A x).take k++[n]).length=k+1:=by rw[List.length_append,hkl];rfl
    have hE:=Yk (A:=A) (p:=t) (K:=(cts A x).take k++[n]) OM h4';rw[hKl] at hE;have hc:(cts A x).take k++n::ones ((scAt A t).length - (k+1))=((cts A x).take k++[n])++ones ((scAt A t).length - (k+1)):=by simp
    rw[hc,List.take_left' hKl,hE]
   ·cases h
 | false =>
  simp only[lft,Bool.false_eq_true,if_false,Nat.add_zero] at h hk hk2 ⊢;have hkl:((cts A x).take k).length=k:=by rw[List.length_take];omega
  split at h
  ·injection h with h;subst h
   have hE:=Yk (A:=A) (p:=t) (K:=(cts A x).take k) OM h4';rw[hkl] at hE;rw[List.take_left' hkl,hE]
  ·cases h
def QkV (hp:p < (plT t).sets.length):m∈mvAt (Qf t) p↔isE (p,m) (wk t 0 0 []).L:=by
 have e:(Qf t).moves[p]?=some (srtM (Q8 (wk t 0 0 []).L p)):=by
  show ((List.range (plT t).sets.length).map fun p=>srtM (Q8 (wk t 0 0 []).L p))[p]?=_;rw[List.getElem?_map,List.getElem?_range hp];rfl
 rw[mvAt,e,Option.getD_some,srtM,(List.mergeSort_perm _ _).mem_iff,Xd]
structure Rch (A:Au) (sc nx:Nat) (y:Nds) (E:Eg→Prop):Prop where
 na:nx < y.next→y.last≠[]
 rc:∀ (P:Nat→List Int→Prop),(∀ p∈y.first,P p (ones (inS A sc p).length))→(∀ p cs m cs',P p cs→okC (inS A sc p) cs→E (p,m)→mayI A sc p cs m=some cs'→P m.to cs')→∀ p cs,nx < p→p≤y.next→okC (inS A sc p) cs→P p cs
def tops (S:List (Int × Int)):List Int:=S.map topS
def QcU (h:∀ s∈S,scOk s):okC S (tops S)∧Qw S (tops S)=true:=by
 have hg:∀ i (hi:i < S.length),((tops S)[i]?).getD 0=topS S[i]:=fun i hi=>by rw[tops,List.getElem?_map,List.getElem?_eq_getElem hi];rfl
 have ht:∀ s,scOk s→1≤topS s∧s.1≤topS s:=fun s ⟨h1,_,h3⟩=>by
  unfold topS;rcases h3 with⟨h3,h4⟩|⟨h3,h4,h5⟩
  ·rw[if_pos OM];omega
  ·rw[if_neg OM];omega
 constructor
 ·refine⟨List.length_map ..,fun i hi=>?_⟩
  rw[hg i hi,List.getElem?_eq_getElem hi,Option.getD_some]
  exact⟨(ht _ (h _ (List.getElem_mem hi))).1,Int.le_refl _⟩
 ·simp only[Qw,decide_eq_true_eq];intro j hj;rw[hg j hj,low,List.getElem?_eq_getElem hj,Option.getD_some];exact (ht _ (h _ (List.getElem_mem hj))).2
def KG {y:Nds} {E:Eg→Prop} (h:y.next=nx):Rch A sc nx y E where
 na g:=by omega
 rc P _ _ p cs g1 g2:=by omega
def QeT {E:Eg→Prop} (h2:inS A sc (nx+1)=[]):Rch A sc nx ⟨[nx+1],[nx+1],false,nx+1,L⟩ E where
 na _:=by simp
 rc P h0 _ p cs g1 g2 g3:=by
  dsimp only at g2;obtain rfl:p=nx+1:=by omega
  have:=h0 (nx+1) SM
  rw[h2] at this g3;rw[List.length_eq_zero_iff.1 g3.1];exact this
def QhL {E F:Eg→Prop} (hT:∀ p,∀ s∈inS A sc p,scOk s) (hq:Reads A sc nx L q N E R) (hx:Reads A sc q.next q.L x M F T)
  (rq:Rch A sc nx q E) (rx:Rch A sc q.next x F) (hne:q.empty=false→q.last≠[]) (hxe:x.empty=false→x.last≠[]) :
  Rch A sc nx ⟨if q.empty then q.first++x.first else q.first,if x.empty then q.last++x.last else x.last,q.empty&&x.empty,x.next,lnk q.last x.first sc false x.L⟩ (fun e=>E e∨F e∨∃ a∈q.last,∃ b∈x.first,e=(a,⟨b,sc,false⟩)) where
 na g:=by
  dsimp only at g ⊢;split
  ·by_cases h:nx < q.next
   ·intro h2;exact rq.na h (List.append_eq_nil_iff.1 h2).1
   ·intro h2;exact rx.na OM (List.append_eq_nil_iff.1 h2).2
  ·exact hxe (by simpa using ‹¬ x.empty=true›)
 rc P h0 hc p cs g1 g2 g3:=by
  dsimp only at g2 h0;have hQ:∀ p cs,nx < p→p≤q.next→okC (inS A sc p) cs→P p cs:=rq.rc P (fun p hp=>h0 p (by
   split
   ·exact List.mem_append_left _ hp
   ·exact hp)) fun p cs m cs' a b c d=>hc p cs m cs' a b (.inl c) d
  by_cases hp:p≤q.next
  ·exact hQ p cs g1 hp g3
  ·refine rx.rc P (fun b hb=>?_) (fun p cs m cs' a b c d=>hc p cs m cs' a b (.inr (.inl c)) d) p cs OM g2 g3;cases he:q.empty with
   | true=>exact h0 b (by rw[if_pos he];exact List.mem_append_right _ hb)
   | false =>
    obtain⟨a,ha⟩:=List.exists_mem_of_ne_nil _ (hne he);have hr:=hq.lr a ha;obtain⟨t1,t2⟩:=QcU (hT a);exact hc a (tops (inS A sc a)) ⟨b,sc,false⟩ _ (hQ a _ hr.1 hr.2 t1) t1 (.inr (.inr ⟨a,ha,b,hb,rfl⟩)) (by rw[Yj,if_pos t2])
def Qix {E F:Eg→Prop} (rq:Rch A sc nx q E) (rx:Rch A sc q.next x F) :
  Rch A sc nx ⟨q.first++x.first,q.last++x.last,q.empty||x.empty,x.next,x.L⟩ (fun e=>E e∨F e) where
 na g:=by
  dsimp only at g ⊢;intro h2;by_cases h:nx < q.next
  ·exact rq.na h (List.append_eq_nil_iff.1 h2).1
  ·exact rx.na OM (List.append_eq_nil_iff.1 h2).2
 rc P h0 hc p cs g1 g2 g3:=by
  dsimp only at g2 h0;by_cases hp:p≤q.next
  ·exact rq.rc P (fun p hp=>h0 p (List.mem_append_left _ hp)) (fun p cs m cs' a b c d=>hc p cs m cs' a b (.inl c) d) p cs g1 hp g3
  ·exact rx.rc P (fun p hp=>h0 p (List.mem_append_right _ hp)) (fun p cs m cs' a b c d=>hc p cs m cs' a b (.inr c) d) p cs OM g2 g3
def Qae {E E':Eg→Prop} (rx:Rch A sc nx x E) (hE:∀ e,E e→E' e):Rch A sc nx ⟨x.first,x.last,z,x.next,L'⟩ E' where
 na:=rx.na
 rc P h0 hc:=rx.rc P h0 fun p cs m cs' a b c d=>hc p cs m cs' a b (hE _ c) d
def QhD {E:Eg→Prop} (hT:∀ p,∀ s∈inS A (sc+1) p,scOk s) (hx:Reads A (sc+1) nx L x M E R) (rx:Rch A (sc+1) nx x E) {hi:Int}
  (h2:(hi = -1∧1 < l)∨(1 < hi∧l≤hi)) (hS:∀ p,nx < p→p≤x.next→inS A sc p=(l,hi)::inS A (sc+1) p) :
  Rch A sc nx ⟨x.first,x.last,z,x.next,L'⟩ (fun e=>E e∨∃ a∈x.last,∃ b∈x.first,e=(a,⟨b,sc,true⟩)) where
 na:=rx.na
 rc P h0 hc p cs g1 g2 g3:=by
  dsimp only at g2 h0;have ht:topS (l,hi)=if hi < 0 then l else hi:=rfl
  have step:∀ c:Int,1≤c→c≤topS (l,hi)→(∀ b∈x.first,P b (c::ones (inS A (sc+1) b).length))→∀ p cs,nx < p→p≤x.next→okC (inS A (sc+1) p) cs→P p (c::cs):=fun c c1 c2 hb=>by
   refine fun p cs g1 g2 g3=>(rx.rc (fun p cs=>nx < p∧p≤x.next∧P p (c::cs)) (fun b hb'=>⟨(hx.fr b hb').1,(hx.fr b hb').2,hb b hb'⟩) (fun p cs m cs' a ok e d=>?_) p cs g1 g2 g3).2.2;have hr:=hx.er _ e;dsimp only at hr
   refine⟨hr.2.2.1,hr.2.2.2.1,hc p (c::cs) m (c::cs') a.2.2 ?_ (.inl e) ?_⟩
   ·rw[hS p a.1 a.2.1]
    refine⟨by rw[List.length_cons,List.length_cons,ok.1],fun i hi=>?_⟩
    cases i with
    | zero=>exact⟨by simpa using c1,by simpa using c2⟩
    | succ i=>simpa using ok.2 i (by simpa using hi)
   ·rw[VK (hS p a.1 a.2.1) (hS _ hr.2.2.1 hr.2.2.2.1) hr.2.2.2.2,d];rfl
  have all:∀ n:Nat,∀ c:Int,c=n+1→c≤topS (l,hi)→∀ p cs,nx < p→p≤x.next→okC (inS A (sc+1) p) cs→P p (c::cs):=fun n=>by
   induction n with
   | zero =>
    intro c hc1 hc2;refine step c OM hc2 fun b hb=>?_
    have:=h0 b hb
    rw[hS b (hx.fr b hb).1 (hx.fr b hb).2,List.length_cons,HT] at this;rw[show c=1 by omega];exact this
   | succ n ih =>
    intro c hc1 hc2;refine step c OM hc2 fun b hb=>?_;have hrb:=hx.fr b hb;obtain⟨a,ha⟩:=List.exists_mem_of_ne_nil _ (rx.na OM);have hr:=hx.lr a ha;obtain⟨t1,t2⟩:=QcU (hT a);have hP:=ih (c - 1) OM OM a (tops (inS A (sc+1) a)) hr.1 hr.2 t1;refine hc a ((c - 1)::tops (inS A (sc+1) a)) ⟨b,sc,true⟩ _ hP ?_ (.inr ⟨a,ha,b,hb,rfl⟩) ?_
    ·rw[hS a hr.1 hr.2]
     refine⟨by rw[List.length_cons,List.length_cons,t1.1],fun i hi=>?_⟩
     cases i with
     | zero=>exact⟨by simp;omega,by simp;omega⟩
     | succ i=>simpa using t1.2 i (by simpa using hi)
    ·rw[Wl (hS a hr.1 hr.2) (hS b hrb.1 hrb.2)];have hn:ZY (l,hi) (c - 1)=some c:=by
      rw[ht] at hc2;rcases h2 with⟨rfl,hl⟩|⟨hh,hl⟩
      ·have hc3:c≤l:=by simpa using hc2
       simp only[ZY,if_pos (show (-1:Int) < 0 by omega)];congr 1;split<;>omega
      ·have hc3:c≤hi:=by rw[if_neg OM] at hc2;exact hc2
       simp only[ZY,if_neg (show ¬ hi < 0 by omega),if_neg (show ¬ c - 1≥hi by omega)];congr 1;omega
     rw[hn];dsimp only;rw[if_pos t2]
  rw[hS p g1 g2] at g3;obtain⟨c,cs',rfl,c1,c2,g3⟩:=Kw g3;exact all (c - 1).toNat c OM c2 p cs' g1 g2 g3
mutual
theorem HU (A:Au) (hT:∀ sc p,∀ s∈inS A sc p,scOk s):∀ (n:Nd) (nx:Nat) (L:List (Eg × Int)) (ar:List Nat) (q:Pl),Qe n=true→Zs n→full n=true→q.sets.length=nx+1→q.around.length=nx+1→PlPre (Ql n ar q) (plA A) →
  ∃ E R,Reads A ar.length nx L (wk n ar.length nx L) (Mb n) E R∧Rch A ar.length nx (wk n ar.length nx L) E
 | .mk k s ps lo hi,nx,L,ar,q,hf0,hn,hfu,hq1,hq2,hA=>by
  have hf:=hf0;rw[Qe,Bool.and_eq_true] at hf;rw[Zs] at hn;have hpar:=Wh hfu;have hnl:∀ (ar':List Nat) (q':Pl),ps=[]→Qt ps ar' q'=q':=fun ar' q' h=>by subst h;rfl
  by_cases h1:k=1
  ·subst h1;have hps:ps=[]:=by
    have:=hf.1;simp [Qk] at this;exact this.2
   have hc:cnts 1 lo hi=false:=rfl;rw[Ql,hnl _ _ hps,hc] at hA;simp only[true_and,Bool.false_eq_true,if_false] at hA;rw[wk];simp only[if_true];have he:Qq s=false:=by have:=KW hfu;rw[QD,if_pos rfl] at this;exact this
   simp only[he,Bool.false_eq_true,if_false,if_true] at hA ⊢;rw[Zo,if_pos rfl];have e1:A.sets[nx+1]?=some s:=Zb hA.s (by rw[← hq1];simp);have e2:A.around[nx+1]?=some ar:=Zb hA.a (by rw[← hq2];simp);have e3:inS A ar.length (nx+1)=[]:=by rw[inS,scAt,arAt,e2];simp
   exact⟨_,_,Ki L (by rw[stAt,e1];rfl) e3,QeT e3⟩
  ·have hs:(k=1∧Qq s=false)=False:=by simp [h1]
   by_cases h2:k=2
   ·subst h2;have hc:cnts 2 lo hi=false:=rfl;rw[Ql,hc] at hA;simp only[h1,if_false,false_and,Bool.false_eq_true] at hA;rw[wk,Zo];simp only[h1,if_false,if_true,show ¬ (2:Int)=3 by omega]
    have:=Qdl A hT ps ar ⟨[],[],true,nx,L⟩ nx L q eps _ _ hf.2 hn.2 hpar hq1 hq2 hA (Jy A ar.length nx L) (KG rfl) SM
    rw[JS] at this;exact this
   ·by_cases h3:k=3
    ·subst h3;have hc:cnts 3 lo hi=false:=rfl;rw[Ql,hc] at hA;simp only[h1,if_false,false_and,Bool.false_eq_true] at hA;rw[wk,Zo];simp only[h1,h2,if_false,if_true]
     have:=Qdn A hT ps ar ⟨[],[],false,nx,L⟩ nx L q ZI _ _ hf.2 hn.2 hpar hq1 hq2 hA (KB A ar.length nx L) (KG rfl)
     rw[D9] at this;exact this
    ·by_cases h4:k=4
     ·subst h4;have hsh:=hf.1;simp [Qk] at hsh;obtain⟨⟨⟨⟨_,hl1⟩,hlo⟩,_⟩,hhi⟩:=hsh;obtain⟨p,rfl⟩:=List.length_eq_one_iff.1 hl1;have hfp:Qe p=true:=by have:=hf.2;rw[Qc,Qc] at this;simpa using this
      have hnp:Zs p:=hn.2.1;have hup:full p=true:=hpar p SM;obtain⟨hh0,hnl0⟩:=hn.1 rfl;rw[Yv] at hnl0;have hz:QU (.mk 4 s [p] lo hi)=true↔Lt (Mb p) lo hi []:=by
       rw[Qad hf0,Zo];simp only[h1,h2,h3,if_false,if_true,QH]
      have hM:Mb (.mk 4 s [p] lo hi)=Lt (Mb p) lo hi:=by
       rw[Zo];simp only[h1,h2,h3,if_false,if_true,QH]
      have h0:Mb p []→lo=0:=fun h=>hnl0 (Yu p hfp h);rw[hM,wk];simp only[h1,h2,h3,if_false,if_true,wkH];rw[Ql] at hA;simp only[h1,if_false,false_and,Qt] at hA;cases hc:cnts 4 lo hi with
      | false =>
       rw[hc] at hA;simp only[Bool.false_eq_true,if_false] at hA ⊢;obtain⟨E,R,ih,rh⟩:=HU A hT p nx L ar q hfp hnp hup hq1 hq2 hA;by_cases hh:hi=1
       ·subst hh;rw[if_pos rfl]
        exact⟨_,_,Vk ih hlo OM hz,Qae rh fun _ h=>h⟩
       ·rw[if_neg hh];have hc':¬ (1 < hi)∧(hi = -1→¬ 1 < low1 lo):=by
         simp [cnts] at hc
         exact⟨OM,fun h=>by have:=hc.2 h;omega⟩
        have hh1:hi = -1:=by omega
        subst hh1;have hl:lo≤1:=by
         have:=hc'.2 rfl;unfold low1 at this;split at this<;>omega
        exact⟨_,_,Kj ih hl hz,Qae rh fun _ h=>.inl h⟩
      | true =>
       rw[hc] at hA;simp only[if_true] at hA ⊢;have hok:=Xq p nx L (ar++[q.scopes.length]) { q with scopes:=q.scopes++[(low1 lo,hi)] } hfp hq1 hq2;obtain⟨E,R,ih,rh⟩:=HU A hT p nx L (ar++[q.scopes.length]) { q with scopes:=q.scopes++[(low1 lo,hi)] } hfp hnp hup hq1 hq2 hA;rw[List.length_append,List.length_cons,List.length_nil] at ih hok rh;have hc':(hi = -1∧1 < low1 lo)∨(1 < hi∧low1 lo≤hi):=by
        simp [cnts] at hc;have hl:low1 lo≤1∨low1 lo=lo:=by unfold low1;split<;>omega
        omega
       rw[if_neg OM];have hS:∀ i,nx < i→i≤(wk p (ar.length+(0+1)) nx L).next→inS A ar.length i=(low1 lo,hi)::inS A (ar.length+1) i:=fun i g1 g2=>by
        obtain⟨l,e1,t,rfl⟩:=hok.pre i g1 g2;have e2:A.around[i]?=some (ar++[q.scopes.length]++t):=Zb hA.a e1;have e3:A.scopes[q.scopes.length]?=some (low1 lo,hi):=Zb (Ya (Xm p _ _).c hA.c) SM;have e4:scAt A i=ar.map (scI A)++(low1 lo,hi)::t.map (scI A):=by
         rw[scAt,arAt,e2];simp [scI,e3]
        have hlen:(ar.map (scI A)).length=ar.length:=List.length_map ..;rw[inS,inS,e4,← hlen,List.drop_left,← List.drop_drop,List.drop_left];rfl
       exact⟨_,_,HM ih hlo hc' h0 hS hz,QhD (hT _) ih rh hc' hS⟩
     ·have h0:k=0:=by
       have:=hf.1;unfold Qk at this
       by_cases h0:k=0
       ·exact h0
       ·simp [h0,h1,h2,h3,h4] at this
      subst h0;rw[wk,Zo];simp only[h1,h2,h3,h4,if_false]
      exact⟨_,_,Jy A ar.length nx L,KG rfl⟩
theorem Qdl (A:Au) (hT:∀ sc p,∀ s∈inS A sc p,scOk s):∀ (ps:List Nd) (ar:List Nat) (y:Nds) (nx:Nat) (L:List (Eg × Int)) (q:Pl) (N:Lan) (E:Eg→Prop) (R:Nat→List Int→Lan),Qc ps=true→K4 ps→(∀ p∈ps,full p=true)→q.sets.length=y.next+1→q.around.length=y.next+1→PlPre (Qt ps ar q) (plA A) →
  Reads A ar.length nx L y N E R→Rch A ar.length nx y E→(y.empty=false→y.last≠[])→∃ E R,Reads A ar.length nx L (wkC ps ar.length y) (lcat N (Zt ps)) E R∧Rch A ar.length nx (wkC ps ar.length y) E
 | [],ar,y,nx,L,q,N,E,R,_,_,_,_,_,_,h,hr,_=>by rw[wkC,Zd,YI];exact⟨E,R,h,hr⟩
 | p::ps,ar,y,nx,L,q,N,E,R,hf,hn,hu,h1,h2,hA,h,hr,hy=>by
  rw[Qc,Bool.and_eq_true] at hf;rw[Qt] at hA;have hok:=Xq p y.next y.L ar q hf.1 h1 h2;obtain⟨F,T,ih,rh⟩:=HU A hT p y.next y.L ar q hf.1 hn.1 (hu p SM) h1 h2 ((ZQ ps ar _).tr hA);obtain⟨_,hre,hne⟩:=QeI p ar.length y.next y.L hf.1 (hu p SM);have hx:(wk p ar.length y.next y.L).empty=false→(wk p ar.length y.next y.L).last≠[]:=fun h=>(hne (by rw[← hre];exact h)).2;rw[wkC,QB,← Ja];refine Qdl A hT ps ar _ nx L _ _ _ _ hf.2 hn.2 (fun p hp=>hu p (by simp [hp])) hok.ls hok.la hA (HL h ih) (QhL (hT _) h ih hr rh hy hx) fun he=>?_;dsimp only at he ⊢;split
  ·rename_i hxe;rw[hxe,Bool.and_true] at he;intro h2;exact hy he (List.append_eq_nil_iff.1 h2).1
  ·rename_i hxe;exact hx (by simpa using hxe)
theorem Qdn (A:Au) (hT:∀ sc p,∀ s∈inS A sc p,scOk s):∀ (ps:List Nd) (ar:List Nat) (y:Nds) (nx:Nat) (L:List (Eg × Int)) (q:Pl) (N:Lan) (E:Eg→Prop) (R:Nat→List Int→Lan),Qc ps=true→K4 ps→(∀ p∈ps,full p=true)→q.sets.length=y.next+1→q.around.length=y.next+1→PlPre (Qt ps ar q) (plA A) →
  Reads A ar.length nx L y N E R→Rch A ar.length nx y E→∃ E R,Reads A ar.length nx L (wkA ps ar.length y) (lor N (Zj ps)) E R∧Rch A ar.length nx (wkA ps ar.length y) E
 | [],ar,y,nx,L,q,N,E,R,_,_,_,_,_,_,h,hr=>by rw[wkA,Ze,Xp];exact⟨E,R,h,hr⟩
 | p::ps,ar,y,nx,L,q,N,E,R,hf,hn,hu,h1,h2,hA,h,hr=>by
  rw[Qc,Bool.and_eq_true] at hf;rw[Qt] at hA;have hok:=Xq p y.next y.L ar q hf.1 h1 h2;obtain⟨F,T,ih,rh⟩:=HU A hT p y.next y.L ar q hf.1 hn.1 (hu p SM) h1 h2 ((ZQ ps ar _).tr hA);rw[wkA,Qx,← JB];exact Qdn A hT ps ar _ nx L _ _ _ _ hf.2 hn.2 (fun p hp=>hu p (by simp [hp])) hok.ls hok.la hA (HQ h ih) (Qix hr rh)
end
def Qhm (hW:WF A) (h1:at_ < A.moves.length) (h:m∈mvAt A at_):MvOk A at_ m:=mvOk hW (XR h1) h
def Qcj (hW:WF A) {x:Cf} (h:Qr A x=true):x.p.toNat < A.moves.length:=by
 have:=(QS h).2
 rw[hW.lm,← hW.la];exact this
def Qci (hW:WF A) {x:Cf} (hx:Qr A x=true) (hy:Qr A y=true) (hp:x.p.toNat=y.p.toNat) (hc:cts A x=cts A y):x=y:=by
 have h4:=sc_4 hW (QS hx).2;obtain⟨x1,_,x3⟩:=QL.1 hx;obtain⟨y1,_,y3⟩:=QL.1 hy;have hpp:x.p=y.p:=by omega
 have hall:∀ i,i < 4→x.c i=y.c i:=fun i hi=>by
  by_cases h:i < (scAt A x.p.toNat).length
  ·have:=congrArg (fun l=>l[i]?) hc
   simp only[cts] at this;rw[← hp,List.getElem?_take_of_lt h,List.getElem?_take_of_lt h,YC x hi,YC y hi] at this;exact Option.some.inj this
  ·have a:=x3 i hi;have b:=y3 i hi;rw[← hp] at b;rw[okAt,List.getElem?_eq_none OM] at a b;simp at a b;rw[a,b]
 obtain⟨p,a,b,c,d⟩:=x;obtain⟨p',a',b',c',d'⟩:=y;have e0:=hall 0 OM;have e1:=hall 1 OM;have e2:=hall 2 OM;have e3:=hall 3 OM;simp only[Cf.c] at e0 e1 e2 e3;dsimp only at hpp;subst hpp e0 e1 e2 e3;rfl
def Qm3 (hW:WF A) (h1:0 < p) (h2:p < A.around.length) (ok:okC (inS A 0 p) cs):∃ x,Qr A x=true∧x.p.toNat=p∧cts A x=cs:=by
 have h4:=sc_4 hW h2;have hp:(QG A p cs).p.toNat=p:=by show ((p:Int)).toNat=p;omega
 obtain⟨hl,hg⟩:=ok;rw[in0] at hl hg
 refine⟨QG A p cs,QL.2 ⟨by show (1:Int)≤(p:Int);omega,by show (p:Int) < _;omega,fun i hi=>?_⟩,hp,?_⟩
 ·rw[hp,okAt,show (QG A p cs).c i=entN (arAt A p).length cs i from X7 _ _ hi,entN];have hal:(arAt A p).length=(scAt A p).length:=(List.length_map ..).symm;by_cases h:i < (scAt A p).length
  ·have:=hg i h
   rw[List.getElem?_eq_getElem h] at this ⊢;rw[List.getElem?_eq_getElem OM] at this ⊢;simpa using this
  ·rw[List.getElem?_eq_none OM,List.getElem?_eq_none OM,if_neg OM];rfl
 ·rw[Yk OM h4,hl,Nat.sub_self];simp [ones]
def Qko (hW:WF A) (sc p:Nat):∀ s∈inS A sc p,scOk s:=fun s hs=>by
 have hs:=List.mem_of_mem_drop hs;rw[scAt] at hs;obtain⟨i,hi,rfl⟩:=List.mem_map.1 hs;by_cases hp:p < A.around.length
 ·exact Hk hW (Qbf hW hp hi)
 ·rw[arAt,List.getElem?_eq_none OM] at hi;cases hi
def QbI (hf:Qe t=true) (hn:Zs t) (hu:full t=true) (hW:WF (Qf t)) (S:Cf→Prop) (h0:∀ p∈(Qf t).first,S (QG (Qf t) p [])) (hc:∀ x m y,S x→Qr (Qf t) x=true→m∈mvAt (Qf t) x.p.toNat→mayF (Qf t) x m=some y→S y) :
  ∀ x,Qr (Qf t) x=true→S x:=by
 obtain⟨E,R,hR,hr⟩:=HU (Qf t) (Qko hW) t 0 [] [] ⟨[zSet],[],[[]]⟩ hf hn hu rfl rfl ⟨List.prefix_rfl,List.prefix_rfl,List.prefix_rfl⟩;rw[List.length_nil] at hR hr;have hok:=wk0 t hf;have hnx:(wk t 0 0 []).next+1=(plT t).sets.length:=hok.ls.symm;have hal:(Qf t).around.length=(plT t).sets.length:=hW.la;have hE0:∀ p m,E (p,m)→isE (p,m) (wk t 0 0 []).L:=fun p m h=>(hR.ed _).2 (.inr h);have main:=hr.rc (fun p cs=>∀ x,Qr (Qf t) x=true→x.p.toNat=p→cts (Qf t) x=cs→S x) (fun p hp x hx hxp hxc=>?_) (fun p cs m cs' hP ok hE hm y hy hyp hyc=>?_)
 ·intro x hx;have h1:=QS hx;exact main _ _ OM OM (Dr hW hx) x hx rfl rfl
 ·have hpf:p∈(Qf t).first:=(List.mergeSort_perm _ _).mem_iff.2 hp;have hb:=(hW.f p hpf).2
  have:x=QG (Qf t) p []:=Qci hW hx (Hi hW (hW.f p hpf).1 (by rw[hW.la];exact hb)) (by rw[hxp];show p=((p:Int)).toNat;omega) (by
   rw[hxc,Yk SM (sc_4 hW (by rw[hW.la];exact hb))];simp [in0])
  rw[this];exact h0 p hpf
 ·have hEm:=hE0 _ _ hE;have hrg:=hR.er _ hE;dsimp only at hrg;have hp3:p < (plT t).sets.length:=by omega
  obtain⟨x,hx,hxp,hxc⟩:=Qm3 hW (p:=p) OM OM ok;have hmv:m∈mvAt (Qf t) x.p.toNat:=by rw[hxp];exact (QkV hp3).2 hEm
  have hmo:=Qhm hW (Qcj hW hx) hmv;rw[← hxp,← hxc] at hm;have hmay:=(QkY hW hx hmo (QG (Qf t) m.to (cs'.take (lft m)))).2 ⟨cs',hm,by show ((m.to:Int)).toNat=m.to;omega,Qdp hW hx hmo hm,rfl⟩;have hyr:=(Ve hW hx hmo hmay).1
  have:y=QG (Qf t) m.to (cs'.take (lft m)):=Qci hW hy hyr (by rw[hyp];show m.to=((m.to:Int)).toNat;omega) (by rw[hyc,Qdp hW hx hmo hm])
  rw[this];exact hc x m _ (hP x hx hxp hxc) hx hmv hmay
def H0 (c:Cf) (hn:n < 4):c.setC n (c.c n)=c:=by
 match n,hn with
 | 0,_=>rfl
 | 1,_=>rfl
 | 2,_=>rfl
 | 3,_=>rfl
def Xr (c:Cf) (hn:n < 4) (u v:Int):(c.setC n u).setC n v=c.setC n v:=by
 match n,hn with
 | 0,_=>rfl
 | 1,_=>rfl
 | 2,_=>rfl
 | 3,_=>rfl
theorem Qf2 {A:Au} (hW:WF A) {at_ most:Nat} (hla:at_ < A.around.length):∀ (n:Nat) (out:List Cf),n≤(arAt A at_).length→allN A at_ most n=some out →
  out.Nodup∧∀ c:Cf,c.p=at_→(∀ j,j < n→1≤c.c j∧c.c j≤topS (scD A at_ j))→(∀ j,n≤j→j < 4→c.c j=0)→c∈out
 | 0,out,_,h=>by
  rw[allN] at h;cases h
  refine⟨SM,fun c h1 _ h3=>?_⟩
  rw[List.mem_singleton];obtain⟨p,a,b,c,d⟩:=c;have e0:=h3 0 OM OM;have e1:=h3 1 OM OM;have e2:=h3 2 OM OM;have e3:=h3 3 OM OM;simp only[Cf.c] at e0 e1 e2 e3;dsimp only at h1;rw[h1,e0,e1,e2,e3]
 | n+1,out,hn,h=>by
  have ha4:(arAt A at_).length≤4:=hW.a4 _ (WL hla);rw[allN] at h;cases hp:allN A at_ most n with
  | none=>rw[hp] at h;cases h
  | some prev =>
   rw[hp] at h;dsimp only at h;split at h
   ·cases h
   ·cases h;obtain⟨g1,g2⟩:=Qf2 hW hla n prev OM hp;have g3:=V2 hW hla n prev OM hp;have h0:∀ c∈prev,c.setC n 0=c:=fun c hc=>by
     have:=(g3 c hc).2.2 n OM OM
     have e:=H0 c (n:=n) OM;rw[this] at e;exact e
    constructor
    ·rw[List.nodup_iff_pairwise_ne,List.pairwise_flatMap];constructor
     ·intro c _;rw[rowF,List.pairwise_map];refine List.Pairwise.imp ?_ List.nodup_range;intro a b hab he
      have:=congrArg (fun x=>x.c n) he
      try dsimp only at this
      rw[WU _ _ _ _ OM,WU _ _ _ _ OM,if_pos rfl,if_pos rfl] at this;omega
     ·refine List.Pairwise.imp_of_mem ?_ (List.nodup_iff_pairwise_ne.1 g1);intro a b ha hb hab x hx y hy he;obtain⟨i,_,rfl⟩:=List.mem_map.1 hx;obtain⟨j,_,rfl⟩:=List.mem_map.1 hy
      have:=congrArg (fun x=>x.setC n 0) he
      try dsimp only at this
      rw[Xr _ OM,Xr _ OM,h0 a ha,h0 b hb] at this;exact hab this
    ·intro c c1 c2 c3;have hn4:n < 4:=by omega
     refine List.mem_flatMap.2 ⟨c.setC n 0,g2 _ (by rw[Qf0];exact c1) (fun j hj=>?_) (fun j hj hj4=>?_),?_⟩
     ·rw[WU _ _ _ _ OM,if_neg OM];exact c2 j OM
     ·rw[WU _ _ _ _ hj4];by_cases hjn:j=n
      ·rw[if_pos hjn]
      ·rw[if_neg hjn];exact c3 j OM hj4
     ·have hc:=c2 n OM;refine List.mem_map.2 ⟨(c.c n - 1).toNat,?_,?_⟩
      ·rw[List.mem_range]
       have:scD A at_ n=(scAt A at_)[n]?.getD (0,0):=rfl
       rw[this] at hc;omega
      ·rw[Xr _ hn4]
       have:(((c.c n - 1).toNat+1:Nat):Int)=c.c n:=by omega
       rw[this,H0 c hn4]
def QdU (hW:WF A) (h1:1≤at_) (hla:at_ < A.around.length) {l:List Cf} (h:allF A at_ most=some l):l.Nodup∧∀ c,c∈l↔Qr A c=true∧c.p=at_:=by
 obtain⟨g1,g2⟩:=Qf2 hW hla _ l (Nat.le_refl _) h
 refine⟨g1,fun c=>⟨QcV hW h1 hla h c,fun ⟨hr,hp⟩=>?_⟩⟩
 have hl:(scAt A at_).length=(arAt A at_).length:=by simp [scAt]
 have hpn:c.p.toNat=at_:=by rw[hp];rfl
 obtain⟨_,_,h3⟩:=QL.1 hr;rw[hpn] at h3;have h4:=ar_4 hW hla;refine g2 c hp (fun j hj=>?_) fun j hj hj4=>?_
 ·have:=h3 j OM
  rw[okAt,List.getElem?_eq_getElem OM] at this;rw[scD,List.getElem?_eq_getElem OM];simpa using this
 ·have:=h3 j hj4
  rw[okAt,List.getElem?_eq_none OM] at this;simpa using this
def totL (A:Au) (most:Nat):Nat→List Cf
 | 0=>[]
 | n+1=>totL A most n++(allF A (n+1) most).getD []
theorem QfB {A:Au} (hW:WF A) {most:Nat}:∀ n,n < A.around.length→(∀ i,1≤i→i≤n→(allF A i most).isSome=true)→(totL A most n).Nodup∧∀ c,c∈totL A most n↔Qr A c=true∧c.p.toNat≤n
 | 0,_,_=>⟨by simp [totL],fun c=>⟨fun h=>(by cases h),fun ⟨h1,h2⟩=>(by have:=(QS h1).1;omega)⟩⟩
 | n+1,hn,h=>by
  obtain⟨g1,g2⟩:=QfB hW n OM fun i a b=>h i a OM;obtain⟨l,hl⟩:=Option.isSome_iff_exists.1 (h (n+1) OM OM);obtain⟨k1,k2⟩:=QdU hW OM hn hl;rw[totL,hl,Option.getD_some]
  refine⟨List.nodup_append.2 ⟨g1,k1,fun a ha b hb he=>?_⟩,fun c=>?_⟩
  ·subst he
   have:=((g2 a).1 ha).2
   have:=((k2 a).1 hb).2
   omega
  ·rw[List.mem_append,g2,k2];constructor
   ·rintro (⟨a,b⟩|⟨a,b⟩)
    ·exact⟨a,OM⟩
    ·exact⟨a,OM⟩
   ·rintro⟨a,b⟩
    have:=(QS a).1
    by_cases hc:c.p.toNat≤n
    ·exact .inl ⟨a,hc⟩
    ·exact .inr ⟨a,OM⟩
def Qgp (hW:WF A) (hs:∀ i,1≤i→i < A.around.length→(allF A i most).isSome=true) (hB:B.Nodup) (hr:∀ c∈B,Qr A c=true) :
  B.length≤(totL A most (A.around.length - 1)).length∧((∀ c,Qr A c=true→c∈B)→B.length=(totL A most (A.around.length - 1)).length):=by
 have hl:0 < A.around.length:=by have:=hW.la;have:=hW.n0;omega
 obtain⟨g1,g2⟩:=QfB hW (most:=most) (A.around.length - 1) OM fun i a b=>hs i a OM;have h1:=JO B _ hB fun c hc=>(g2 c).2 ⟨hr c hc,by have:=(QS (hr c hc)).2;omega⟩
 refine⟨h1,fun h=>?_⟩
 have:=JO _ B g1 fun c hc=>h c ((g2 c).1 hc).1
 omega
mutual
theorem Dv:∀ (n:Nd) (ar:List Nat) (q:Pl),(∀ s∈q.sets.drop 1,Qq s=false)→1≤q.sets.length→(∀ s∈(Ql n ar q).sets.drop 1,Qq s=false)∧1≤(Ql n ar q).sets.length
 | .mk k s ps lo hi,ar,q,h,hl=>by
  rw[Ql];refine Hv ps _ _ ?_ ?_
  ·dsimp only;split
   ·rename_i hk;intro x hx;rw[List.drop_append_of_le_length hl] at hx;rcases List.mem_append.1 hx with hx|hx
    ·exact h x hx
    ·rw[List.mem_singleton.1 hx];exact hk.2
   ·exact h
  ·dsimp only;split
   ·rw[List.length_append];omega
   ·exact hl
theorem Hv:∀ (ps:List Nd) (ar:List Nat) (q:Pl),(∀ s∈q.sets.drop 1,Qq s=false)→1≤q.sets.length→(∀ s∈(Qt ps ar q).sets.drop 1,Qq s=false)∧1≤(Qt ps ar q).sets.length
 | [],_,_,h,hl=>⟨h,hl⟩
 | p::ps,ar,q,h,hl=>by
  rw[Qt];obtain⟨g1,g2⟩:=Dv p ar q h hl;exact Hv ps ar _ g1 g2
end
def QeW (hW:WF (Qf t)) (h1:0 < p) (h2:p < (Qf t).sets.length):∃ b,b < 256∧QA (stAt (Qf t) p) b=true:=by
 have hne:=(Dv t [] ⟨[zSet],[],[[]]⟩ SM SM).1;refine Qao (st_w hW h2) (hne _ ?_);obtain⟨q,rfl⟩:∃ q,p=1+q:=⟨p - 1,OM⟩;rw[stAt,List.getElem?_eq_getElem h2];have hq:q < ((Qf t).sets.drop 1).length:=by rw[List.length_drop];omega
 have:((Qf t).sets.drop 1)[q]=(Qf t).sets[1+q]:=List.getElem_drop ..
 exact this ▸ List.getElem_mem hq
def gdB (A:Au) (B:List Cf):Prop:=B.Nodup∧∀ c∈B,Qr A c=true
def gdB.add (h:gdB A B) (hy:y ∉ B) (hr:Qr A y=true):gdB A (B++[y]):=⟨List.nodup_append.2 ⟨h.1,SM,fun a ha b hb e=>by rw[List.mem_singleton.1 hb] at e;exact hy (e ▸ ha)⟩,fun c hc=>by
 rcases List.mem_append.1 hc with hc|hc
 ·exact h.2 c hc
 ·rw[List.mem_singleton.1 hc];exact hr⟩
end Go.Proofs.YtklbhcjmaeedhaaGreatDoor
