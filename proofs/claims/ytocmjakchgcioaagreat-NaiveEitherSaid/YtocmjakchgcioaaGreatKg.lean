import Derived.Test.YtocmjakchgcioaaGreatL5
import Derived.Test.YtocmjakchgcioaaGreatC7
import Derived.Test.YtocmjakchgcioaaGreatC12

namespace Go.Proofs.YtocmjakchgcioaaGreat
set_option linter.all false
variable {M N:Lan} {b sc nx p t:Nat} {w:List Nat} {A:Au} {s s':Int × Int} {cs:List Int} {L:List (Eg × Int)} {q x:Nds} {R T:Nat→List Int→Lan} {S:List (Int × Int)} {z:Bool} {m:Mv} {l:Int}
def Y1:lcat M N (b::w)↔(∃ x y,w=x++y∧M (b::x)∧N y)∨(M []∧N (b::w)):=by
 constructor
 ·rintro⟨x,y,h,hx,hy⟩
  cases x with
  | nil=>rw[List.nil_append] at h;subst h;exact .inr ⟨hx,hy⟩
  | cons c x =>
   rw[List.cons_append] at h;injection h with h1 h2;subst h1
   exact .inl ⟨x,y,h2,hx,hy⟩
 ·rintro (⟨x,y,rfl,hx,hy⟩|⟨hx,hy⟩)
  ·exact⟨b::x,y,rfl,hx,hy⟩
  ·exact⟨[],b::w,rfl,hx,hy⟩
def Jk:lcat M N []↔M []∧N []:=by
 constructor
 ·rintro⟨x,y,h,hx,hy⟩
  obtain⟨rfl,rfl⟩:=List.append_eq_nil_iff.1 h.symm
  exact⟨hx,hy⟩
 ·rintro⟨hx,hy⟩;exact⟨[],[],rfl,hx,hy⟩
theorem Jm {M:Lan}:∀ {m:Nat},Pw M m []↔m=0∨M []
 | 0=>⟨fun _=>.inl rfl,fun _=>rfl⟩
 | m+1=>by
  rw[Pw,Jk,Jm (m:=m)];constructor
  ·rintro⟨h,_⟩;exact .inr h
  ·rintro (h|h)
   ·cases h
   ·exact⟨h,.inr h⟩
theorem Qeb {M:Lan} {b:Nat} {w:List Nat}:∀ {m:Nat},Pw M m (b::w)→∃ k x y,k < m∧(k+1=m∨M [])∧w=x++y∧M (b::x)∧Pw M k y
 | 0,h=>by cases h
 | m+1,h=>by
  rw[Pw,Y1] at h;rcases h with⟨x,y,rfl,hx,hy⟩|⟨h0,h⟩
  ·exact⟨m,x,y,OM,.inl rfl,rfl,hx,hy⟩
  ·obtain⟨k,x,y,hk,_,h1,h2,h3⟩:=Qeb h
   exact⟨k,x,y,OM,.inr h0,h1,h2,h3⟩
def QkP {lo hi:Int} (h:hi = -1∨(lo≤hi∧0≤hi)):Lt M lo hi []↔lo≤0∨M []:=by
 constructor
 ·rintro⟨m,h1,h2,h3⟩
  rcases Jm.1 h3 with rfl|h3
  ·exact .inl (by simpa using h1)
  ·exact .inr h3
 ·rintro (h0|h0)
  ·exact⟨0,by simpa using h0,by rcases h with h|h;exact .inl h;exact .inr (by simpa using h.2),rfl⟩
  ·exact⟨lo.toNat,OM,by rcases h with h|h;exact .inl h;exact .inr OM,Jm.2 (.inr h0)⟩
def HC {lo hi:Int} (h0:M []→lo≤1):Lt M lo hi (b::w)↔∃ x y,w=x++y∧M (b::x)∧∃ k:Nat,lo - 1≤k∧(hi = -1∨(k:Int)≤hi - 1)∧Pw M k y:=by
 constructor
 ·rintro⟨m,h1,h2,h3⟩
  obtain⟨k,x,y,hk,hm,e,hx,hy⟩:=Qeb h3
  refine⟨x,y,e,hx,k,?_,OM,hy⟩
  rcases hm with hm|hm
  ·omega
  ·have:=h0 hm;omega
 ·rintro⟨x,y,rfl,hx,k,h1,h2,h3⟩
  exact⟨k+1,OM,OM,b::x,y,rfl,hx,h3⟩
def ones (n:Nat):List Int:=List.replicate n 1
def inS (A:Au) (sc p:Nat):List (Int × Int):=(scAt A p).drop sc
def mayI (A:Au) (sc p:Nat) (cs:List Int) (m:Mv):Option (List Int) :=
 let S:=inS A sc p
 let k:=m.keep - sc
 if m.again then match Z8 ((S[k]?).getD (0,0)) ((cs[k]?).getD 0) with
  | none=>none
  | some n=>if Qu (S.drop (k+1)) (cs.drop (k+1)) then some (cs.take k++n::ones ((inS A sc m.to).length - (k+1))) else none
 else if Qu (S.drop k) (cs.drop k) then some (cs.take k++ones ((inS A sc m.to).length - k)) else none
def okC (S:List (Int × Int)) (cs:List Int):Prop:=cs.length=S.length∧∀ i,i < S.length→1≤(cs[i]?).getD 0∧(cs[i]?).getD 0≤topS ((S[i]?).getD (0,0))
structure Reads (A:Au) (sc nx:Nat) (L:List (Eg × Int)) (y:Nds) (N:Lan) (E:Eg→Prop) (R:Nat→List Int→Lan):Prop where
 le:nx≤y.next
 ed:∀ x,isE x y.L↔isE x L∨E x
 er:∀ x,E x→nx < x.1∧x.1≤y.next∧nx < x.2.to∧x.2.to≤y.next∧sc≤x.2.keep
 fr:∀ p∈y.first,nx < p∧p≤y.next
 lr:∀ p∈y.last,nx < p∧p≤y.next
 nl:y.empty=true↔N []
 en:∀ b w,b < 256→(N (b::w)↔∃ p∈y.first,Q2 (stAt A p) b=true∧R p (ones (inS A sc p).length) w)
 ex:∀ p cs,nx < p→p≤y.next→okC (inS A sc p) cs→(R p cs []↔p∈y.last∧Qu (inS A sc p) cs=true)
 st:∀ p cs b w,nx < p→p≤y.next→okC (inS A sc p) cs→b < 256→(R p cs (b::w)↔∃ m,E (p,m)∧Q2 (stAt A m.to) b=true∧∃ cs',mayI A sc p cs m=some cs'∧R m.to cs' w)
def Vl (A:Au) (sc nx:Nat) (L:List (Eg × Int)):Reads A sc nx L ⟨[],[],true,nx,L⟩ eps (fun _=>False) (fun _ _=>ZN) where
 le:=Nat.le_refl _
 ed x:=by simp
 er x h:=h.elim
 fr p h:=by cases h
 lr p h:=by cases h
 nl:=by simp [eps]
 en b w _:=by simp [eps]
 ex p cs h1 h2:=by dsimp only at h2;omega
 st p cs b w h1 h2:=by dsimp only at h2;omega
def Qae (A:Au) (sc nx:Nat) (L:List (Eg × Int)):Reads A sc nx L ⟨[],[],false,nx,L⟩ ZN (fun _=>False) (fun _ _=>ZN) where
 le:=Nat.le_refl _
 ed x:=by simp
 er x h:=h.elim
 fr p h:=by cases h
 lr p h:=by cases h
 nl:=by simp [ZN]
 en b w _:=by simp [ZN]
 ex p cs h1 h2:=by dsimp only at h2;omega
 st p cs b w h1 h2:=by dsimp only at h2;omega
def Qa2 {s:Nat→Nat} (L:List (Eg × Int)) (h1:stAt A (nx+1)=s) (h2:inS A sc (nx+1)=[]) :
  Reads A sc nx L ⟨[nx+1],[nx+1],false,nx+1,L⟩ (fun u=>∃ b,b < 256∧u=[b]∧Q2 s b=true) (fun _=>False) (fun _ _=>eps) where
 le:=Nat.le_succ _
 ed x:=by simp
 er x h:=h.elim
 fr p h:=by rw[List.mem_singleton.1 h];dsimp only;omega
 lr p h:=by rw[List.mem_singleton.1 h];dsimp only;omega
 nl:=by simp
 en b w hb:=by
  constructor
  ·rintro⟨c,_,hc,hs⟩
   injection hc with e1 e2;subst e1;subst e2
   exact⟨nx+1,List.mem_singleton.2 rfl,by rw[h1];exact hs,rfl⟩
  ·rintro⟨p,hp,hs,hw⟩
   rw[List.mem_singleton.1 hp,h1] at hs
   exact⟨b,hb,by rw[show w=[] from hw],hs⟩
 ex p cs g1 g2 g3:=by
  dsimp only at g2;obtain rfl:p=nx+1:=by omega
  simp [eps,Qu,h2]
 st p cs b w g1 g2 g3 _:=by simp [eps]
def Ji:mayI A sc p cs ⟨t,sc,false⟩=if Qu (inS A sc p) cs then some (ones (inS A sc t).length) else none:=by
 simp [mayI]
def QbU {E F:Eg→Prop} (hq:Reads A sc nx L q N E R) (hx:Reads A sc q.next q.L x M F T) :
  Reads A sc nx L ⟨if q.empty then q.first++x.first else q.first,if x.empty then q.last++x.last else x.last,q.empty&&x.empty,x.next,lnk q.last x.first sc false x.L⟩ (lcat N M)
   (fun e=>E e∨F e∨∃ a∈q.last,∃ b∈x.first,e=(a,⟨b,sc,false⟩)) (fun p cs=>if p≤q.next then lcat (R p cs) M else T p cs) where
 le:=Nat.le_trans hq.le hx.le
 ed e:=by
  rw[Yf,hx.ed,hq.ed];constructor
  ·rintro (h|(h|h)|h)
   ·exact .inr (.inr (.inr h))
   ·exact .inl h
   ·exact .inr (.inl h)
   ·exact .inr (.inr (.inl h))
  ·rintro (h|h|h|h)
   ·exact .inr (.inl (.inl h))
   ·exact .inr (.inl (.inr h))
   ·exact .inr (.inr h)
   ·exact .inl h
 er e h:=by
  have:=hq.le;have:=hx.le
  rcases h with h|h|⟨a,ha,b,hb,rfl⟩
  ·have:=hq.er e h;dsimp only;omega
  ·have:=hx.er e h;dsimp only;omega
  ·have:=hq.lr a ha;have:=hx.fr b hb;dsimp only;omega
 fr p h:=by
  have:=hq.le;have:=hx.le
  dsimp only at h ⊢;split at h
  ·rcases List.mem_append.1 h with h|h
   ·have:=hq.fr p h;omega
   ·have:=hx.fr p h;omega
  ·have:=hq.fr p h;omega
 lr p h:=by
  have:=hq.le;have:=hx.le
  dsimp only at h ⊢;split at h
  ·rcases List.mem_append.1 h with h|h
   ·have:=hq.lr p h;omega
   ·have:=hx.lr p h;omega
  ·have:=hx.lr p h;omega
 nl:=by rw[Jk,Bool.and_eq_true,hq.nl,hx.nl]
 en b w hb:=by
  rw[Y1,hx.en b w hb];constructor
  ·rintro (⟨u,v,rfl,h1,h2⟩|⟨h1,p,hp,h2,h3⟩)
   ·obtain⟨p,hp,h3,h4⟩:=(hq.en b u hb).1 h1
    refine⟨p,?_,h3,?_⟩
    ·dsimp only;split
     ·exact List.mem_append_left _ hp
     ·exact hp
    ·rw[if_pos (hq.fr p hp).2];exact⟨u,v,rfl,h4,h2⟩
   ·refine⟨p,?_,h2,?_⟩
    ·dsimp only;rw[if_pos (hq.nl.2 h1)];exact List.mem_append_right _ hp
    ·have:=hx.fr p hp
     rw[if_neg OM];exact h3
  ·rintro⟨p,hp,h1,h2⟩
   have key:p∈q.first∨(q.empty=true∧p∈x.first):=by
    dsimp only at hp;split at hp
    ·rcases List.mem_append.1 hp with h|h
     ·exact .inl h
     ·exact .inr ⟨by assumption,h⟩
    ·exact .inl hp
   rcases key with h|⟨h,h'⟩
   ·rw[if_pos (hq.fr p h).2] at h2;obtain⟨u,v,rfl,h3,h4⟩:=h2;exact .inl ⟨u,v,rfl,(hq.en b u hb).2 ⟨p,h,h1,h3⟩,h4⟩
   ·have:=hx.fr p h'
    rw[if_neg OM] at h2;exact .inr ⟨hq.nl.1 h,p,h',h1,h2⟩
 ex p cs g1 g2 g3:=by
  dsimp only at g2 ⊢;by_cases hp:p≤q.next
  ·rw[if_pos hp,Jk,hq.ex p cs g1 hp g3,← hx.nl];constructor
   ·rintro⟨⟨h1,h2⟩,h3⟩;rw[if_pos h3];exact⟨List.mem_append_left _ h1,h2⟩
   ·rintro⟨h1,h2⟩
    split at h1
    ·rcases List.mem_append.1 h1 with h|h
     ·exact⟨⟨h,h2⟩,by assumption⟩
     ·have:=hx.lr p h;omega
    ·have:=hx.lr p h1;omega
  ·rw[if_neg hp,hx.ex p cs OM g2 g3];constructor
   ·rintro⟨h1,h2⟩
    refine⟨?_,h2⟩
    split
    ·exact List.mem_append_right _ h1
    ·exact h1
   ·rintro⟨h1,h2⟩
    refine⟨?_,h2⟩
    split at h1
    ·rcases List.mem_append.1 h1 with h|h
     ·have:=hq.lr p h;omega
     ·exact h
    ·exact h1
 st p cs b w g1 g2 g3 hb:=by
  dsimp only at g2 ⊢;by_cases hp:p≤q.next
  ·rw[if_pos hp,Y1,hq.ex p cs g1 hp g3,hx.en b w hb];constructor
   ·rintro (⟨u,v,rfl,h1,h2⟩|⟨⟨h1,h2⟩,t,ht,h3,h4⟩)
    ·obtain⟨m,hm,h3,cs',h4,h5⟩:=(hq.st p cs b u g1 hp g3 hb).1 h1
     refine⟨m,.inl hm,h3,cs',h4,?_⟩
     rw[if_pos (hq.er _ hm).2.2.2.1];exact⟨u,v,rfl,h5,h2⟩
    ·refine⟨⟨t,sc,false⟩,.inr (.inr ⟨p,h1,t,ht,rfl⟩),h3,_,by rw[Ji,if_pos h2],?_⟩
     have:=hx.fr t ht
     rw[if_neg (by dsimp only;omega)];exact h4
   ·rintro⟨m,hm|hm|⟨a,ha,t,ht,e⟩,h3,cs',h4,h5⟩
    ·rw[if_pos (hq.er _ hm).2.2.2.1] at h5;obtain⟨u,v,rfl,h6,h7⟩:=h5;exact .inl ⟨u,v,rfl,(hq.st p cs b u g1 hp g3 hb).2 ⟨m,hm,h3,cs',h4,h6⟩,h7⟩
    ·have:=hx.er _ hm;dsimp only at this;omega
    ·injection e with e1 e2;subst e1;subst e2
     rw[Ji] at h4
     have:=hx.fr t ht
     rw[if_neg (by dsimp only;omega)] at h5;split at h4
     ·injection h4 with h4;subst h4
      exact .inr ⟨⟨ha,by assumption⟩,t,ht,h3,h5⟩
     ·cases h4
  ·rw[if_neg hp,hx.st p cs b w OM g2 g3 hb];constructor
   ·rintro⟨m,hm,h3,cs',h4,h5⟩
    have:=hx.er _ hm;dsimp only at this
    exact⟨m,.inr (.inl hm),h3,cs',h4,by rw[if_neg OM];exact h5⟩
   ·rintro⟨m,hm|hm|⟨a,ha,t,ht,e⟩,h3,cs',h4,h5⟩
    ·have:=hq.er _ hm;dsimp only at this;omega
    ·have:=hx.er _ hm;dsimp only at this
     rw[if_neg OM] at h5
     exact⟨m,hm,h3,cs',h4,h5⟩
    ·injection e with e1 e2;subst e1
     have:=hq.lr p ha;omega
def Qdi {E F:Eg→Prop} (hq:Reads A sc nx L q N E R) (hx:Reads A sc q.next q.L x M F T) :
  Reads A sc nx L ⟨q.first++x.first,q.last++x.last,q.empty||x.empty,x.next,x.L⟩ (lor N M) (fun e=>E e∨F e) (fun p cs=>if p≤q.next then R p cs else T p cs) where
 le:=Nat.le_trans hq.le hx.le
 ed e:=by rw[hx.ed,hq.ed,or_assoc]
 er e h:=by
  have:=hq.le;have:=hx.le
  rcases h with h|h
  ·have:=hq.er e h;dsimp only;omega
  ·have:=hx.er e h;dsimp only;omega
 fr p h:=by
  have:=hq.le;have:=hx.le
  dsimp only;rcases List.mem_append.1 h with h|h
  ·have:=hq.fr p h;omega
  ·have:=hx.fr p h;omega
 lr p h:=by
  have:=hq.le;have:=hx.le
  dsimp only;rcases List.mem_append.1 h with h|h
  ·have:=hq.lr p h;omega
  ·have:=hx.lr p h;omega
 nl:=by rw[Bool.or_eq_true,hq.nl,hx.nl];rfl
 en b w hb:=by
  show N (b::w)∨M (b::w)↔_;rw[hq.en b w hb,hx.en b w hb];constructor
  ·rintro (⟨p,hp,h1,h2⟩|⟨p,hp,h1,h2⟩)
   ·exact⟨p,List.mem_append_left _ hp,h1,by rw[if_pos (hq.fr p hp).2];exact h2⟩
   ·have:=hx.fr p hp
    exact⟨p,List.mem_append_right _ hp,h1,by rw[if_neg OM];exact h2⟩
  ·rintro⟨p,hp,h1,h2⟩
   rcases List.mem_append.1 hp with h|h
   ·rw[if_pos (hq.fr p h).2] at h2;exact .inl ⟨p,h,h1,h2⟩
   ·have:=hx.fr p h
    rw[if_neg OM] at h2;exact .inr ⟨p,h,h1,h2⟩
 ex p cs g1 g2 g3:=by
  dsimp only at g2 ⊢;rw[List.mem_append];by_cases hp:p≤q.next
  ·rw[if_pos hp,hq.ex p cs g1 hp g3];constructor
   ·rintro⟨h1,h2⟩;exact⟨.inl h1,h2⟩
   ·rintro⟨h|h,h2⟩
    ·exact⟨h,h2⟩
    ·have:=hx.lr p h;omega
  ·rw[if_neg hp,hx.ex p cs OM g2 g3];constructor
   ·rintro⟨h1,h2⟩;exact⟨.inr h1,h2⟩
   ·rintro⟨h|h,h2⟩
    ·have:=hq.lr p h;omega
    ·exact⟨h,h2⟩
 st p cs b w g1 g2 g3 hb:=by
  dsimp only at g2 ⊢;by_cases hp:p≤q.next
  ·rw[if_pos hp,hq.st p cs b w g1 hp g3 hb];constructor
   ·rintro⟨m,hm,h3,cs',h4,h5⟩
    exact⟨m,.inl hm,h3,cs',h4,by rw[if_pos (hq.er _ hm).2.2.2.1];exact h5⟩
   ·rintro⟨m,hm|hm,h3,cs',h4,h5⟩
    ·rw[if_pos (hq.er _ hm).2.2.2.1] at h5;exact⟨m,hm,h3,cs',h4,h5⟩
    ·have:=hx.er _ hm;dsimp only at this;omega
  ·rw[if_neg hp,hx.st p cs b w OM g2 g3 hb];constructor
   ·rintro⟨m,hm,h3,cs',h4,h5⟩
    have:=hx.er _ hm;dsimp only at this
    exact⟨m,.inr hm,h3,cs',h4,by rw[if_neg OM];exact h5⟩
   ·rintro⟨m,hm|hm,h3,cs',h4,h5⟩
    ·have:=hq.er _ hm;dsimp only at this;omega
    ·have:=hx.er _ hm;dsimp only at this
     rw[if_neg OM] at h5;exact⟨m,hm,h3,cs',h4,h5⟩
def Dw {c:Int}:Qu (s::S) (c::cs)=true↔s.1≤c∧Qu S cs=true:=by
 simp only[Qu,decide_eq_true_eq,List.length_cons];constructor
 ·intro h
  refine⟨by simpa [low] using h 0 OM,fun j hj=>?_⟩
  simpa [low] using h (j+1) OM
 ·rintro⟨h1,h2⟩ j hj
  cases j with
  | zero=>simpa [low] using h1
  | succ j=>simpa [low] using h2 j OM
def QaM (h:okC (s::S) cs):∃ c cs',cs=c::cs'∧1≤c∧c≤topS s∧okC S cs':=by
 obtain⟨h1,h2⟩:=h;cases cs with
 | nil=>cases h1
 | cons c cs =>
  have h0:=h2 0 SM
  refine⟨c,cs,rfl,by simpa using h0.1,by simpa using h0.2,by simpa using h1,fun i hi=>?_⟩
  simpa using h2 (i+1) (by simpa using hi)
def QbQ (n:Nat):ones (n+1)=1::ones n:=rfl
def Qd6 {E:Eg→Prop} (hx:Reads A sc nx L x M E R) {lo:Int} (h0:0≤lo) (h1:lo≤1) (hz:z=true↔Lt M lo 1 []) :
  Reads A sc nx L ⟨x.first,x.last,z,x.next,x.L⟩ (Lt M lo 1) E R where
 le:=hx.le
 ed:=hx.ed
 er:=hx.er
 fr:=hx.fr
 lr:=hx.lr
 nl:=hz
 en b w hb:=by
  rw[← hx.en b w hb,HC fun _=>h1];constructor
  ·rintro⟨u,v,rfl,h2,k,_,h3,h4⟩
   have hk:k=0:=by omega
   subst hk;rw[show v=[] from h4,List.append_nil];exact h2
  ·intro h
   exact⟨w,[],SM,h,0,OM,OM,rfl⟩
 ex:=hx.ex
 st:=hx.st
def QlU (M:Lan):Lt M 0 (-1) []:=⟨0,OM,.inl rfl,rfl⟩
def QcQ {lo:Int} (h1:lo≤1):Lt M lo (-1) (b::w)↔∃ x y,w=x++y∧M (b::x)∧Lt M 0 (-1) y:=by
 rw[HC fun _=>h1];constructor
 ·rintro⟨x,y,h2,h3,k,_,_,h4⟩;exact⟨x,y,h2,h3,k,OM,.inl rfl,h4⟩
 ·rintro⟨x,y,h2,h3,k,_,_,h4⟩;exact⟨x,y,h2,h3,k,OM,.inl rfl,h4⟩
def Qa8 {E:Eg→Prop} (hx:Reads A sc nx L x M E R) {lo:Int} (h1:lo≤1) (hz:z=true↔Lt M lo (-1) []) :
  Reads A sc nx L ⟨x.first,x.last,z,x.next,lnk x.last x.first sc false x.L⟩ (Lt M lo (-1)) (fun e=>E e∨∃ a∈x.last,∃ b∈x.first,e=(a,⟨b,sc,false⟩)) (fun p cs=>lcat (R p cs) (Lt M 0 (-1))) where
 le:=hx.le
 ed e:=by
  rw[Yf,hx.ed];constructor
  ·rintro (h|h|h)
   ·exact .inr (.inr h)
   ·exact .inl h
   ·exact .inr (.inl h)
  ·rintro (h|h|h)
   ·exact .inr (.inl h)
   ·exact .inr (.inr h)
   ·exact .inl h
 er e h:=by
  rcases h with h|⟨a,ha,b,hb,rfl⟩
  ·exact hx.er e h
  ·have:=hx.lr a ha;have:=hx.fr b hb;dsimp only;omega
 fr:=hx.fr
 lr:=hx.lr
 nl:=hz
 en b w hb:=by
  rw[QcQ h1];constructor
  ·rintro⟨u,v,rfl,h2,h3⟩
   obtain⟨p,hp,h4,h5⟩:=(hx.en b u hb).1 h2
   exact⟨p,hp,h4,u,v,rfl,h5,h3⟩
  ·rintro⟨p,hp,h4,u,v,rfl,h5,h3⟩
   exact⟨u,v,rfl,(hx.en b u hb).2 ⟨p,hp,h4,h5⟩,h3⟩
 ex p cs g1 g2 g3:=by
  rw[Jk,hx.ex p cs g1 g2 g3]
  exact⟨fun h=>h.1,fun h=>⟨h,QlU M⟩⟩
 st p cs b w g1 g2 g3 hb:=by
  rw[Y1,hx.ex p cs g1 g2 g3,QcQ OM];constructor
  ·rintro (⟨u,v,rfl,h2,h3⟩|⟨⟨h2,h3⟩,u,v,rfl,h4,h5⟩)
   ·obtain⟨m,hm,h4,cs',h5,h6⟩:=(hx.st p cs b u g1 g2 g3 hb).1 h2
    exact⟨m,.inl hm,h4,cs',h5,u,v,rfl,h6,h3⟩
   ·obtain⟨t,ht,h6,h7⟩:=(hx.en b u hb).1 h4
    exact⟨⟨t,sc,false⟩,.inr ⟨p,h2,t,ht,rfl⟩,h6,_,by rw[Ji,if_pos h3],u,v,rfl,h7,h5⟩
  ·rintro⟨m,hm|⟨a,ha,t,ht,e⟩,h4,cs',h5,u,v,rfl,h6,h3⟩
   ·exact .inl ⟨u,v,rfl,(hx.st p cs b u g1 g2 g3 hb).2 ⟨m,hm,h4,cs',h5,h6⟩,h3⟩
   ·injection e with e1 e2;subst e1;subst e2
    rw[Ji] at h5;split at h5
    ·injection h5 with h5;subst h5
     exact .inr ⟨⟨ha,by assumption⟩,u,v,rfl,(hx.en b u hb).2 ⟨t,ht,h4,h6⟩,h3⟩
    ·cases h5
def Qd3 {c:Int} (hp:inS A sc p=s::inS A (sc+1) p) (ht:inS A sc m.to=s'::inS A (sc+1) m.to) (hk:sc+1≤m.keep):mayI A sc p (c::cs) m=(mayI A (sc+1) p cs m).map (c::·):=by
 obtain⟨t,k,ag⟩:=m;dsimp only at hk ht;obtain⟨j,rfl⟩:∃ j,k=sc+1+j:=⟨k - (sc+1),OM⟩;unfold mayI;dsimp only;rw[hp,ht,show sc+1+j - sc=j+1 by omega,show sc+1+j - (sc+1)=j by omega];simp only[List.getElem?_cons_succ,List.drop_succ_cons,List.take_succ_cons,List.length_cons,List.cons_append];rw[show (inS A (sc+1) t).length+1 - (j+1)=(inS A (sc+1) t).length - j by omega,show (inS A (sc+1) t).length+1 - (j+1+1)=(inS A (sc+1) t).length - (j+1) by omega];cases ag with
 | true =>
  simp only[if_true];cases Z8 ((inS A (sc+1) p)[j]?.getD (0,0)) (cs[j]?.getD 0) with
  | none=>rfl
  | some n=>dsimp only;split<;>rfl
 | false =>
  simp only[Bool.false_eq_true,if_false];split<;>rfl
def KQ {c:Int} (hp:inS A sc p=s::inS A (sc+1) p) (ht:inS A sc t=s'::inS A (sc+1) t) :
  mayI A sc p (c::cs) ⟨t,sc,true⟩=match Z8 s c with|none=>none|some n=>if Qu (inS A (sc+1) p) cs then some (n::ones (inS A (sc+1) t).length) else none:=by
 unfold mayI;dsimp only;rw[hp,ht,Nat.sub_self];simp only[if_true,List.getElem?_cons_zero,Option.getD_some,Nat.zero_add,List.drop_succ_cons,List.drop_zero,List.take_zero,List.nil_append,List.length_cons,Nat.add_sub_cancel];all_goals rfl
def rst (M:Lan) (l hi c:Int):Lan:=Lt M (l - c) (if hi = -1 then -1 else hi - c)
def rcn (R:Nat→List Int→Lan) (M:Lan) (l hi:Int) (p:Nat):List Int→Lan
 | []=>ZN
 | c::cs=>lcat (R p cs) (rst M l hi c)
def Qi4 {hi c:Int} (h1:1≤c) (h2:(hi = -1∧1 < l)∨(1 < hi∧l≤hi)) (h3:c≤topS (l,hi)) (h4:M []→l=1):rst M l hi c []↔l≤c:=by
 have ht:topS (l,hi)=if hi < 0 then l else hi:=rfl
 rw[ht] at h3;rw[rst,QkP]
 ·constructor
  ·rintro (h|h)
   ·omega
   ·have:=h4 h;omega
  ·intro h;exact .inl OM
 ·rcases h2 with⟨rfl,_⟩|h2
  ·exact .inl SM
  ·rw[if_neg OM] at h3;rw[if_neg OM];exact .inr OM
def QfF {hi c:Int} (h1:1≤c) (h2:(hi = -1∧1 < l)∨(1 < hi∧l≤hi)) (h3:c≤topS (l,hi)) (h4:M []→l=1) :
  rst M l hi c (b::w)↔∃ n,Z8 (l,hi) c=some n∧∃ x y,w=x++y∧M (b::x)∧rst M l hi n y:=by
 have ht:topS (l,hi)=if hi < 0 then l else hi:=rfl
 rw[ht] at h3;rw[rst,HC fun h=>by have:=h4 h;omega];rcases h2 with⟨rfl,hl⟩|⟨hh,hl⟩
 ·have hn:Z8 (l,-1) c=some ((if c < l - 1 then c else l - 1)+1):=by simp [Z8]
  rw[hn];have key:∀ k:Nat,l - c - 1≤(k:Int)↔l - ((if c < l - 1 then c else l - 1)+1)≤(k:Int):=fun k=>by split<;>omega
  generalize (if c < l - 1 then c else l - 1)+1=n at key;constructor
  ·rintro⟨x,y,e,hx,k,g1,g2,g3⟩
   exact⟨n,rfl,x,y,e,hx,k,(key k).1 g1,.inl SM,g3⟩
  ·rintro⟨m,e0,x,y,e,hx,k,g1,g2,g3⟩
   injection e0 with e0;subst e0
   exact⟨x,y,e,hx,k,(key k).2 g1,.inl SM,g3⟩
 ·rw[if_neg OM] at h3 ⊢;by_cases hc:c≥hi
  ·have hn:Z8 (l,hi) c=none:=by unfold Z8;rw[if_neg (by dsimp only;omega),if_pos hc]
   rw[hn];constructor
   ·rintro⟨x,y,e,hx,k,g1,g2,g3⟩;omega
   ·rintro⟨n,h,_⟩;cases h
  ·have hn:Z8 (l,hi) c=some (c+1):=by unfold Z8;rw[if_neg (by dsimp only;omega),if_neg hc]
   rw[hn];constructor
   ·rintro⟨x,y,e,hx,k,g1,g2,g3⟩
    exact⟨c+1,rfl,x,y,e,hx,k,OM,by rw[if_neg OM];omega,g3⟩
   ·rintro⟨n,h,x,y,e,hx,k,g1,g2,g3⟩
    injection h with h;subst h
    rw[if_neg OM] at g2
    exact⟨x,y,e,hx,k,OM,OM,g3⟩
def Qh0 {lo hi:Int} (h0:0≤lo) (h2:(hi = -1∧1 < low1 lo)∨(1 < hi∧low1 lo≤hi)) (h4:M []→lo=0) :
  Lt M lo hi (b::w)↔∃ x y,w=x++y∧M (b::x)∧rst M (low1 lo) hi 1 y:=by
 rw[HC fun h=>by have:=h4 h;omega];have hl:∀ k:Nat,lo - 1≤(k:Int)↔low1 lo - 1≤(k:Int):=fun k=>by unfold low1;split<;>omega
 constructor
 ·rintro⟨x,y,e,hx,k,g1,g2,g3⟩
  refine⟨x,y,e,hx,k,(hl k).1 g1,?_,g3⟩
  split<;>omega
 ·rintro⟨x,y,e,hx,k,g1,g2,g3⟩
  refine⟨x,y,e,hx,k,(hl k).2 g1,?_,g3⟩
  split at g2<;>omega
def QcD {E:Eg→Prop} (hx:Reads A (sc+1) nx L x M E R) {lo hi:Int} (h0:0≤lo) (h2:(hi = -1∧1 < low1 lo)∨(1 < hi∧low1 lo≤hi)) (h4:M []→lo=0)
  (hS:∀ p,nx < p→p≤x.next→inS A sc p=(low1 lo,hi)::inS A (sc+1) p) (hz:z=true↔Lt M lo hi []) :
  Reads A sc nx L ⟨x.first,x.last,z,x.next,lnk x.last x.first sc true x.L⟩ (Lt M lo hi) (fun e=>E e∨∃ a∈x.last,∃ b∈x.first,e=(a,⟨b,sc,true⟩)) (rcn R M (low1 lo) hi):=by
 have h4':M []→low1 lo=1:=fun h=>by rw[h4 h];rfl
 have hon:∀ p,nx < p→p≤x.next→ones (inS A sc p).length=1::ones (inS A (sc+1) p).length:=fun p g1 g2=>by rw[hS p g1 g2,List.length_cons,QbQ]
 refine⟨hx.le,fun e=>?_,fun e h=>?_,hx.fr,hx.lr,hz,fun b w hb=>?_,fun p cs g1 g2 g3=>?_,fun p cs b w g1 g2 g3 hb=>?_⟩
 ·rw[Yf,hx.ed];constructor
  ·rintro (h|h|h)
   ·exact .inr (.inr h)
   ·exact .inl h
   ·exact .inr (.inl h)
  ·rintro (h|h|h)
   ·exact .inr (.inl h)
   ·exact .inr (.inr h)
   ·exact .inl h
 ·rcases h with h|⟨a,ha,b,hb,rfl⟩
  ·have:=hx.er e h;dsimp only;omega
  ·have:=hx.lr a ha;have:=hx.fr b hb;dsimp only;omega
 ·rw[Qh0 h0 h2 h4];constructor
  ·rintro⟨u,v,rfl,h5,h6⟩
   obtain⟨p,hp,h7,h8⟩:=(hx.en b u hb).1 h5
   have:=hx.fr p hp
   exact⟨p,hp,h7,by rw[hon p this.1 this.2];exact⟨u,v,rfl,h8,h6⟩⟩
  ·rintro⟨p,hp,h7,h8⟩
   have:=hx.fr p hp
   rw[hon p this.1 this.2] at h8;obtain⟨u,v,rfl,h9,h6⟩:=h8
   exact⟨u,v,rfl,(hx.en b u hb).2 ⟨p,hp,h7,h9⟩,h6⟩
 ·dsimp only at g2 ⊢;rw[hS p g1 g2] at g3 ⊢;obtain⟨c,cs,rfl,c1,c2,g3⟩:=QaM g3;rw[rcn,Jk,hx.ex p cs g1 g2 g3,Qi4 c1 h2 c2 h4',Dw]
  exact⟨fun h=>⟨h.1.1,h.2,h.1.2⟩,fun h=>⟨⟨h.1,h.2.2⟩,h.2.1⟩⟩
 ·dsimp only at g2;have hSp:=hS p g1 g2;rw[hSp] at g3;obtain⟨c,cs,rfl,c1,c2,g3⟩:=QaM g3;rw[rcn,Y1,hx.ex p cs g1 g2 g3,QfF c1 h2 c2 h4'];constructor
  ·rintro (⟨u,v,rfl,h5,h6⟩|⟨⟨h5,h6⟩,n,hn,u,v,rfl,h7,h8⟩)
   ·obtain⟨m,hm,h7,cs',h8,h9⟩:=(hx.st p cs b u g1 g2 g3 hb).1 h5;have hr:=hx.er _ hm;dsimp only at hr
    exact⟨m,.inl hm,h7,c::cs',by rw[Qd3 hSp (hS _ hr.2.2.1 hr.2.2.2.1) hr.2.2.2.2,h8];rfl,u,v,rfl,h9,h6⟩
   ·obtain⟨t,ht,h9,h10⟩:=(hx.en b u hb).1 h7;have hr:=hx.fr t ht
    refine⟨⟨t,sc,true⟩,.inr ⟨p,h5,t,ht,rfl⟩,h9,n::ones (inS A (sc+1) t).length,?_,u,v,rfl,h10,h8⟩
    rw[KQ hSp (hS t hr.1 hr.2),hn];dsimp only;rw[if_pos h6]
  ·rintro⟨m,hm|⟨a,ha,t,ht,e⟩,h7,cs',h8,h9⟩
   ·have hr:=hx.er _ hm;dsimp only at hr;rw[Qd3 hSp (hS _ hr.2.2.1 hr.2.2.2.1) hr.2.2.2.2] at h8;obtain⟨ds,h10,rfl⟩:=Option.map_eq_some_iff.1 h8;obtain⟨u,v,rfl,h11,h12⟩:=h9;exact .inl ⟨u,v,rfl,(hx.st p cs b u g1 g2 g3 hb).2 ⟨m,hm,h7,ds,h10,h11⟩,h12⟩
   ·injection e with e1 e2;subst e1;subst e2
    have hr:=hx.fr t ht;rw[KQ hSp (hS t hr.1 hr.2)] at h8;cases hn:Z8 (low1 lo,hi) c with
    | none=>rw[hn] at h8;cases h8
    | some n =>
     rw[hn] at h8;dsimp only at h8;split at h8
     ·injection h8 with h8;subst h8
      obtain⟨u,v,rfl,h11,h12⟩:=h9;exact .inr ⟨⟨ha,by assumption⟩,n,rfl,u,v,rfl,(hx.en b u hb).2 ⟨t,ht,h7,h11⟩,h12⟩
     ·cases h8
mutual
def ZE:Nd→Prop
 | .mk k _ ps lo hi=>(k=4→hi≠0∧(YQ ps=true→lo=0))∧V4 ps
def V4:List Nd→Prop
 | []=>True
 | p::ps=>ZE p∧V4 ps
end
theorem Xy:∀ (ps:List Nd),V4 ps↔∀ p∈ps,ZE p
 | []=>by simp [V4]
 | p::ps=>by simp [V4,Xy ps]
mutual
theorem YY:∀ (n:Nd),Qg n=true→Mb n []→Q0 n=true
 | .mk k s ps lo hi,hf,h=>by
  rw[Qg,Bool.and_eq_true] at hf;rw[ZO] at h;rw[Q0];by_cases h1:k=1
  ·rw[if_pos h1] at h;obtain⟨b,_,hb,_⟩:=h;cases hb
  ·rw[if_neg h1] at h ⊢;by_cases h3:k=3
   ·subst h3;simp only[if_true] at h;rw[if_neg OM,if_pos rfl];exact Qaq ps hf.2 h
   ·rw[if_neg h3] at h;by_cases h2:k=2
    ·rw[if_pos h2] at h ⊢;exact DY ps hf.2 h
    ·rw[if_neg h2] at h ⊢;rw[if_neg h3];by_cases h4:k=4
     ·rw[if_pos h4] at h ⊢;obtain⟨m,g1,g2,g3⟩:=h;rcases Jm.1 g3 with rfl|g3
      ·have hl:0≤lo:=by
        have:=hf.1;subst h4;simp [Qh] at this;exact this.1.1.2
       rw[Bool.or_eq_true];left;rw[beq_iff_eq];simp at g1;omega
      ·rw[Qcd ps hf.2 (by
        have:=hf.1;subst h4;simp [Qh] at this;exact this.1.1.1.2) g3,Bool.or_true]
     ·rw[if_neg h4]
theorem Qaq:∀ (ps:List Nd),Qc ps=true→Zm ps []→Zz ps=true
 | [],_,h=>by rw[Ze] at h;exact h.elim
 | p::ps,hf,h=>by
  rw[Qc,Bool.and_eq_true] at hf;rw[Qv] at h;rw[Zz,Bool.or_eq_true];rcases h with h|h
  ·exact .inl (YY p hf.1 h)
  ·exact .inr (Qaq ps hf.2 h)
theorem DY:∀ (ps:List Nd),Qc ps=true→ZI ps []→ZK ps=true
 | [],_,_=>rfl
 | p::ps,hf,h=>by
  rw[Qc,Bool.and_eq_true] at hf;rw[QD,Jk] at h;rw[ZK,Bool.and_eq_true]
  exact⟨YY p hf.1 h.1,DY ps hf.2 h.2⟩
theorem Qcd:∀ (ps:List Nd),Qc ps=true→ps.length=1→Jq ps []→YQ ps=true
 | [],_,h,_=>by cases h
 | p::ps,hf,_,h=>by
  rw[Qc,Bool.and_eq_true] at hf;rw[QR] at h;rw[YQ];exact YY p hf.1 h
end
def QfK {n:Nd} (hf:Qg n=true):Q0 n=true↔Mb n []:=⟨Xq n hf,YY n hf⟩
structure PlPre (q q':Pl):Prop where
 s:q.sets <+: q'.sets
 a:q.around <+: q'.around
 c:q.scopes <+: q'.scopes
def PlPre.tr {a b c:Pl} (h1:PlPre a b) (h2:PlPre b c):PlPre a c:=⟨YN h1.s h2.s,YN h1.a h2.a,YN h1.c h2.c⟩
mutual
theorem H5:∀ (n:Nd) (ar:List Nat) (q:Pl),PlPre q (Qm n ar q)
 | .mk k s ps lo hi,ar,q=>by
  rw[Qm];refine PlPre.tr ?_ (Jg ps _ _);constructor
  ·dsimp only;split
   ·exact List.prefix_append _ _
   ·exact List.prefix_rfl
  ·dsimp only;split
   ·exact List.prefix_append _ _
   ·exact List.prefix_rfl
  ·dsimp only;split
   ·exact List.prefix_append _ _
   ·exact List.prefix_rfl
theorem Jg:∀ (ps:List Nd) (ar:List Nat) (q:Pl),PlPre q (QC ps ar q)
 | [],_,_=>⟨List.prefix_rfl,List.prefix_rfl,List.prefix_rfl⟩
 | p::ps,ar,q=>by
  rw[QC];exact (H5 p ar q).tr (Jg ps ar _)
end
def plA (A:Au):Pl:=⟨A.sets,A.scopes,A.around⟩
mutual
theorem JJ (A:Au):∀ (n:Nd) (nx:Nat) (L:List (Eg × Int)) (ar:List Nat) (q:Pl),Qg n=true→ZE n→q.sets.length=nx+1→q.around.length=nx+1→PlPre (Qm n ar q) (plA A) →
  ∃ E R,Reads A ar.length nx L (wk n ar.length nx L) (Mb n) E R
 | .mk k s ps lo hi,nx,L,ar,q,hf0,hn,hq1,hq2,hA=>by
  have hf:=hf0;rw[Qg,Bool.and_eq_true] at hf;rw[ZE] at hn;have hnl:∀ (ar':List Nat) (q':Pl),ps=[]→QC ps ar' q'=q':=fun ar' q' h=>by subst h;rfl
  by_cases h1:k=1
  ·subst h1;have hps:ps=[]:=by
    have:=hf.1;simp [Qh] at this;exact this.2
   have hc:cnts 1 lo hi=false:=rfl;rw[Qm,hnl _ _ hps,hc] at hA;simp only[true_and,Bool.false_eq_true,if_false] at hA;rw[wk];simp only[if_true];cases he:Qt s with
   | true =>
    have hv:Mb (.mk 1 s ps lo hi)=ZN:=YA _ (by rw[QG,if_pos rfl];exact he);rw[hv];simp only[if_true]
    exact⟨_,_,Qae A _ nx L⟩
   | false =>
    simp only[he,Bool.false_eq_true,if_false,if_true] at hA ⊢;rw[ZO,if_pos rfl];have e1:A.sets[nx+1]?=some s:=Yz hA.s (by rw[← hq1];simp);have e2:A.around[nx+1]?=some ar:=Yz hA.a (by rw[← hq2];simp)
    exact⟨_,_,Qa2 L (by rw[stAt,e1];rfl) (by rw[inS,scAt,arAt,e2];simp)⟩
  ·have hs:(k=1∧Qt s=false)=False:=by simp [h1]
   by_cases h2:k=2
   ·subst h2;have hc:cnts 2 lo hi=false:=rfl;rw[Qm,hc] at hA;simp only[h1,if_false,false_and,Bool.false_eq_true] at hA;rw[wk,ZO];simp only[h1,if_false,if_true,show ¬ (2:Int)=3 by omega]
    have:=Vi A ps ar ⟨[],[],true,nx,L⟩ nx L q eps _ _ hf.2 hn.2 hq1 hq2 hA (Vl A ar.length nx L)
    rw[WR] at this;exact this
   ·by_cases h3:k=3
    ·subst h3;have hc:cnts 3 lo hi=false:=rfl;rw[Qm,hc] at hA;simp only[h1,if_false,false_and,Bool.false_eq_true] at hA;rw[wk,ZO];simp only[h1,h2,if_false,if_true]
     have:=Ve A ps ar ⟨[],[],false,nx,L⟩ nx L q ZN _ _ hf.2 hn.2 hq1 hq2 hA (Qae A ar.length nx L)
     rw[Qdp] at this;exact this
    ·by_cases h4:k=4
     ·subst h4;have hsh:=hf.1;simp [Qh] at hsh;obtain⟨⟨⟨⟨_,hl1⟩,hlo⟩,_⟩,hhi⟩:=hsh;obtain⟨p,rfl⟩:=List.length_eq_one_iff.1 hl1;have hfp:Qg p=true:=by have:=hf.2;rw[Qc,Qc] at this;simpa using this
      have hnp:ZE p:=hn.2.1;obtain⟨hh0,hnl0⟩:=hn.1 rfl;rw[YQ] at hnl0;have hz:Q0 (.mk 4 s [p] lo hi)=true↔Lt (Mb p) lo hi []:=by
       rw[QfK hf0,ZO];simp only[h1,h2,h3,if_false,if_true,QR]
      have hM:Mb (.mk 4 s [p] lo hi)=Lt (Mb p) lo hi:=by
       rw[ZO];simp only[h1,h2,h3,if_false,if_true,QR]
      have h0:Mb p []→lo=0:=fun h=>hnl0 (YY p hfp h);rw[hM,wk];simp only[h1,h2,h3,if_false,if_true,wkH];rw[Qm] at hA;simp only[h1,if_false,false_and,QC] at hA;cases hc:cnts 4 lo hi with
      | false =>
       rw[hc] at hA;simp only[Bool.false_eq_true,if_false] at hA ⊢;obtain⟨E,R,ih⟩:=JJ A p nx L ar q hfp hnp hq1 hq2 hA;by_cases hh:hi=1
       ·subst hh;rw[if_pos rfl]
        exact⟨_,_,Qd6 ih hlo OM hz⟩
       ·rw[if_neg hh];have hc':¬ (1 < hi)∧(hi = -1→¬ 1 < low1 lo):=by
         simp [cnts] at hc
         exact⟨OM,fun h=>by have:=hc.2 h;omega⟩
        have hh1:hi = -1:=by omega
        subst hh1;have hl:lo≤1:=by
         have:=hc'.2 rfl;unfold low1 at this;split at this<;>omega
        exact⟨_,_,Qa8 ih hl hz⟩
      | true =>
       rw[hc] at hA;simp only[if_true] at hA ⊢;have hok:=HI p nx L (ar++[q.scopes.length]) { q with scopes:=q.scopes++[(low1 lo,hi)] } hfp hq1 hq2;obtain⟨E,R,ih⟩:=JJ A p nx L (ar++[q.scopes.length]) { q with scopes:=q.scopes++[(low1 lo,hi)] } hfp hnp hq1 hq2 hA;rw[List.length_append,List.length_cons,List.length_nil] at ih hok;have hc':(hi = -1∧1 < low1 lo)∨(1 < hi∧low1 lo≤hi):=by
        simp [cnts] at hc;have hl:low1 lo≤1∨low1 lo=lo:=by unfold low1;split<;>omega
        omega
       rw[if_neg OM]
       refine⟨_,_,QcD ih hlo hc' h0 (fun i g1 g2=>?_) hz⟩
       obtain⟨l,e1,t,rfl⟩:=hok.pre i g1 g2;have e2:A.around[i]?=some (ar++[q.scopes.length]++t):=Yz hA.a e1;have e3:A.scopes[q.scopes.length]?=some (low1 lo,hi):=Yz (YN (H5 p _ _).c hA.c) SM;have e4:scAt A i=ar.map (scI A)++(low1 lo,hi)::t.map (scI A):=by
        rw[scAt,arAt,e2];simp [scI,e3]
       have hlen:(ar.map (scI A)).length=ar.length:=List.length_map ..;rw[inS,inS,e4,← hlen,List.drop_left,← List.drop_drop,List.drop_left];rfl
     ·have h0:k=0:=by
       have:=hf.1;unfold Qh at this
       by_cases h0:k=0
       ·exact h0
       ·simp [h0,h1,h2,h3,h4] at this
      subst h0;rw[wk,ZO];simp only[h1,h2,h3,h4,if_false]
      exact⟨_,_,Vl A ar.length nx L⟩
theorem Vi (A:Au):∀ (ps:List Nd) (ar:List Nat) (y:Nds) (nx:Nat) (L:List (Eg × Int)) (q:Pl) (N:Lan) (E:Eg→Prop) (R:Nat→List Int→Lan),Qc ps=true→V4 ps→q.sets.length=y.next+1→q.around.length=y.next+1→PlPre (QC ps ar q) (plA A) →
  Reads A ar.length nx L y N E R→∃ E R,Reads A ar.length nx L (wkC ps ar.length y) (lcat N (ZI ps)) E R
 | [],ar,y,nx,L,q,N,E,R,_,_,_,_,_,h=>by rw[wkC,Zn,Jl];exact⟨E,R,h⟩
 | p::ps,ar,y,nx,L,q,N,E,R,hf,hn,h1,h2,hA,h=>by
  rw[Qc,Bool.and_eq_true] at hf;rw[QC] at hA;have hok:=HI p y.next y.L ar q hf.1 h1 h2;obtain⟨F,T,ih⟩:=JJ A p y.next y.L ar q hf.1 hn.1 h1 h2 ((Jg ps ar _).tr hA);rw[wkC,QD,← Ws];exact Vi A ps ar _ nx L _ _ _ _ hf.2 hn.2 hok.ls hok.la hA (QbU h ih)
theorem Ve (A:Au):∀ (ps:List Nd) (ar:List Nat) (y:Nds) (nx:Nat) (L:List (Eg × Int)) (q:Pl) (N:Lan) (E:Eg→Prop) (R:Nat→List Int→Lan),Qc ps=true→V4 ps→q.sets.length=y.next+1→q.around.length=y.next+1→PlPre (QC ps ar q) (plA A) →
  Reads A ar.length nx L y N E R→∃ E R,Reads A ar.length nx L (wkA ps ar.length y) (lor N (Zm ps)) E R
 | [],ar,y,nx,L,q,N,E,R,_,_,_,_,_,h=>by rw[wkA,Ze,Xl];exact⟨E,R,h⟩
 | p::ps,ar,y,nx,L,q,N,E,R,hf,hn,h1,h2,hA,h=>by
  rw[Qc,Bool.and_eq_true] at hf;rw[QC] at hA;have hok:=HI p y.next y.L ar q hf.1 h1 h2;obtain⟨F,T,ih⟩:=JJ A p y.next y.L ar q hf.1 hn.1 h1 h2 ((Jg ps ar _).tr hA);rw[wkA,Qv,← XN];exact Ve A ps ar _ nx L _ _ _ _ hf.2 hn.2 hok.ls hok.la hA (Qdi h ih)
end
mutual
theorem Qds (k:Int):∀ (l:List Nd) (p:Nd),ZE p→(∀ q∈l,ZE q)→∀ q∈put1 k l p,ZE q
 | l,.mk k2 s ps lo hi,hp,hl=>by
  rw[put1];split
  ·rw[ZE] at hp;exact XH k l ps ((Xy ps).1 hp.2) hl
  ·split
   ·exact hl
   ·split
    ·exact hl
    ·intro q hq;rcases List.mem_append.1 hq with h|h
     ·exact hl q h
     ·simp at h;rw[h];exact hp
theorem XH (k:Int):∀ (l ps:List Nd),(∀ p∈ps,ZE p)→(∀ q∈l,ZE q)→∀ q∈putL k l ps,ZE q
 | l,[],_,hl=>by rw[putL];exact hl
 | l,p::ps,hp,hl=>by
  rw[putL];exact XH k _ ps (fun q hq=>hp q (by simp [hq])) (Qds k l p (hp p SM) hl)
end
def Wd:ZE noN:=by rw[noN,ZE];exact⟨fun h=>absurd h LM,trivial⟩
def Qbm {p:Nd} (hp:ZE p) (lo hi:Int):ZE (Yu p lo hi):=by
 have hm:hi≠0→ZE (.mk 4 zSet [p] (bif Q0 p then 0 else lo) hi):=fun h=>by
  rw[ZE]
  refine⟨fun _=>⟨h,fun hn=>?_⟩,hp,trivial⟩
  rw[YQ] at hn;rw[hn];rfl
 unfold Yu;by_cases h0:hi=0
 ·rw[h0];exact Wd
 ·rw[show (hi==0)=false by simpa using h0,cond_false];cases (p.kind==0) with
  | true=>exact Wd
  | false =>
   rw[cond_false];cases QG p with
   | true=>exact Wd
   | false =>
    rw[cond_false];cases (lo==1) with
    | false=>exact hm h0
    | true =>
     rw[cond_true];cases (hi==1) with
     | true=>exact hp
     | false=>exact hm h0
mutual
theorem JC:∀ (n:Nd),Qg n=true→ZE (Qb n)
 | .mk k s ps lo hi,hf=>by
  rw[Qg,Bool.and_eq_true] at hf;rw[Qb];split
  ·rw[ZE];exact⟨fun h=>by omega,trivial⟩
  ·split
   ·have hall:=XH k [] (Qd ps) (WK ps hf.2) SM;generalize putL k [] (Qd ps)=M at hall
    match M,hall with
    | [],_=>exact Wd
    | [p],hall=>exact hall p SM
    | p::q::M,hall =>
     show ZE (.mk k zSet (p::q::M) 0 0);rw[ZE]
     exact⟨fun h=>by omega,(Xy _).2 hall⟩
   ·split
    ·exact Qbm (H8 ps hf.2) lo hi
    ·rename_i h2 h4;have hk:k=0∨k=1:=by
      have:=hf.1;unfold Qh at this
      by_cases h0:k=0
      ·exact .inl h0
      ·by_cases h1:k=1
       ·exact .inr h1
       ·simp [h0,h1,h2,h4] at this
     have hps:ps=[]:=by
      have:=hf.1
      rcases hk with rfl|rfl
      ·simp [Qh] at this;exact this.2
      ·simp [Qh] at this;exact this.2
     rw[hps,ZE]
     exact⟨fun h=>by omega,trivial⟩
theorem WK:∀ (ps:List Nd),Qc ps=true→∀ q∈Qd ps,ZE q
 | [],_,q,hq=>by cases hq
 | p::ps,hf,q,hq=>by
  rw[Qc,Bool.and_eq_true] at hf;rw[Qd] at hq;rcases List.mem_cons.1 hq with hq|hq
  ·rw[hq];exact JC p hf.1
  ·exact WK ps hf.2 q hq
theorem H8:∀ (ps:List Nd),Qc ps=true→ZE (Y8 ps)
 | [],_=>Wd
 | p::ps,hf=>by
  rw[Qc,Bool.and_eq_true] at hf;rw[Y8];exact JC p hf.1
end
def cts (A:Au) (x:Cf):List Int:=(cl4 x).take (scAt A x.p.toNat).length
def Dq (x:Cf):(cl4 x).length=4:=rfl
def in0 (A:Au) (p:Nat):inS A 0 p=scAt A p:=rfl
def sc_4 (hW:WF A) (h:p < A.around.length):(scAt A p).length≤4:=by rw[scAt,List.length_map];exact ar_4 hW h
def We {x:Cf} (h:QA A x=true):1≤x.p.toNat∧x.p.toNat < A.around.length:=by
 obtain⟨h1,h2,_⟩:=QM.1 h;omega
def WY (hW:WF A) {x:Cf} (h:QA A x=true):okC (scAt A x.p.toNat) (cts A x):=by
 have h4:=sc_4 hW (We h).2;obtain⟨_,_,h3⟩:=QM.1 h
 refine⟨by rw[cts,List.length_take,Dq];omega,fun i hi=>?_⟩
 have:=h3 i OM
 rw[cts,List.getElem?_take_of_lt hi,JA x OM,List.getElem?_eq_getElem hi];rw[okAt,List.getElem?_eq_getElem hi] at this;simpa using this
def YF {l:List (Int × Int)} {n:Nat} (h:l.length≤n):Qu l (cs.take n)=Qu l cs:=by
 unfold Qu;congr 1;refine propext ⟨fun g j hj=>?_,fun g j hj=>?_⟩
 ·have:=g j hj;rwa [List.getElem?_take_of_lt OM] at this
 ·have:=g j hj;rwa [List.getElem?_take_of_lt OM]
def Y5 {K:List Int} (h1:K.length≤(scAt A p).length) (h4:(scAt A p).length≤4):cts A (QP A p K)=K++ones ((scAt A p).length - K.length):=by
 have hp:(QP A p K).p.toNat=p:=by show ((p:Int)).toNat=p;omega
 refine List.ext_getElem? fun i=>?_;rw[cts,hp];by_cases hi:i < (scAt A p).length
 ·rw[List.getElem?_take_of_lt hi,JA _ OM,show (QP A p K).c i=entN (arAt A p).length K i from KB _ _ OM,entN];by_cases hk:i < K.length
  ·rw[List.getElem?_append_left hk,List.getElem?_eq_getElem hk]
  ·rw[List.getElem?_append_right OM,List.getElem?_eq_none OM]
   have:i < (arAt A p).length:=by rw[scAt,List.length_map] at hi;exact hi
   rw[if_pos this,ones,List.getElem?_replicate,if_pos OM]
 ·rw[List.getElem?_eq_none (by rw[List.length_take];omega),List.getElem?_eq_none (by rw[List.length_append,ones,List.length_replicate];omega)]
def Qc7 (hW:WF A) {x:Cf} (hr:QA A x=true) (hm:MvOk A x.p.toNat m) (y:Cf) :
  mayF A x m=some y↔∃ cs,mayI A 0 x.p.toNat (cts A x) m=some cs∧y.p.toNat=m.to∧cts A y=cs∧y=QP A m.to (cs.take (lft m)):=by
 have h4:=sc_4 hW (We hr).2;have h4':=sc_4 hW hm.to;have hk:=hm.keep;have hk2:=hm.keep2;have l1:(arAt A x.p.toNat).length=(scAt A x.p.toNat).length:=(List.length_map ..).symm;have l2:(arAt A m.to).length=(scAt A m.to).length:=(List.length_map ..).symm;rw[l1] at hk;rw[l2] at hk2;have hp:∀ K,(QP A m.to K).p.toNat=m.to:=fun K=>by show ((m.to:Int)).toNat=m.to;omega
 obtain⟨t,k,ag⟩:=m;unfold mayF mayI;dsimp only at hk hk2 h4' hp ⊢;rw[in0,in0,Nat.sub_zero];generalize hS:scAt A x.p.toNat=S at h4 hk;have hc:cts A x=(cl4 x).take S.length:=by rw[cts,hS]
 rw[hc];cases ag with
 | true =>
  simp only[lft,if_true] at hk hk2 ⊢;have hlv:Qu (S.drop (k+1)) (((cl4 x).take S.length).drop (k+1))=Qu (S.drop (k+1)) ((cl4 x).drop (k+1)):=by
   rw[List.drop_take,YF (by rw[List.length_drop];omega)]
  have hg:(((cl4 x).take S.length)[k]?).getD 0=x.c k:=by rw[List.getElem?_take_of_lt OM,JA x OM];rfl
  have ht:((cl4 x).take S.length).take k=(cl4 x).take k:=by rw[List.take_take,Nat.min_eq_left OM]
  rw[hlv,hg,ht];have hkl:((cl4 x).take k).length=k:=by rw[List.length_take,Dq];omega
  cases Z8 ((S[k]?).getD (0,0)) (x.c k) with
  | none=>simp
  | some n =>
   dsimp only;have hKl:((cl4 x).take k++[n]).length=k+1:=by rw[List.length_append,hkl];rfl
   have hE:=Y5 (A:=A) (p:=t) (K:=(cl4 x).take k++[n]) OM h4';rw[hKl] at hE;have hT:((cl4 x).take k++n::ones ((scAt A t).length - (k+1))).take (k+1)=(cl4 x).take k++[n]:=by
    rw[show (cl4 x).take k++n::ones ((scAt A t).length - (k+1))=((cl4 x).take k++[n])++ones ((scAt A t).length - (k+1)) by simp,List.take_left' hKl]
   split
   ·constructor
    ·intro h;injection h with h;subst h
     refine⟨_,rfl,hp _,by rw[hE];simp,by rw[hT]⟩
    ·rintro⟨cs,h,_,_,h2⟩;injection h with h;subst h
     rw[h2,hT]
   ·simp
 | false =>
  simp only[lft,Bool.false_eq_true,if_false,Nat.add_zero] at hk hk2 ⊢;have hlv:Qu (S.drop k) (((cl4 x).take S.length).drop k)=Qu (S.drop k) ((cl4 x).drop k):=by
   rw[List.drop_take,YF (by rw[List.length_drop];omega)]
  have ht:((cl4 x).take S.length).take k=(cl4 x).take k:=by rw[List.take_take,Nat.min_eq_left OM]
  rw[hlv,ht];have hkl:((cl4 x).take k).length=k:=by rw[List.length_take,Dq];omega
  have hE:=Y5 (A:=A) (p:=t) (K:=(cl4 x).take k) OM h4';rw[hkl] at hE;have hT:((cl4 x).take k++ones ((scAt A t).length - k)).take k=(cl4 x).take k:=List.take_left' hkl;split
  ·constructor
   ·intro h;injection h with h;subst h
    exact⟨_,rfl,hp _,hE,by rw[hT]⟩
   ·rintro⟨cs,h,_,_,h2⟩;injection h with h;subst h
    rw[h2,hT]
  ·simp
def Qix (hW:WF A) {x:Cf} (hr:QA A x=true) (hm:MvOk A x.p.toNat m) (h:mayI A 0 x.p.toNat (cts A x) m=some cs):cts A (QP A m.to (cs.take (lft m)))=cs:=by
 have h4:=sc_4 hW (We hr).2;have h4':=sc_4 hW hm.to;have hk:=hm.keep;have hk2:=hm.keep2;have l1:(arAt A x.p.toNat).length=(scAt A x.p.toNat).length:=(List.length_map ..).symm;have l2:(arAt A m.to).length=(scAt A m.to).length:=(List.length_map ..).symm;rw[l1] at hk;rw[l2] at hk2;have hcl:(cts A x).length=(scAt A x.p.toNat).length:=(WY hW hr).1;obtain⟨t,k,ag⟩:=m;unfold mayI at h;dsimp only at h hk hk2 h4' ⊢;rw[in0,in0,Nat.sub_zero] at h;cases ag with
 | true =>
  simp only[lft,if_true] at h hk hk2 ⊢;have hkl:((cts A x).take k).length=k:=by rw[List.length_take];omega
  split at h
  ·cases h
  ·rename_i n _;split at h
   ·injection h with h;subst h
    have hKl:((cts A x).take k++[n]).length=k+1:=by rw[List.length_append,hkl];rfl
    have hE:=Y5 (A:=A) (p:=t) (K:=(cts A x).take k++[n]) OM h4';rw[hKl] at hE;have hc:(cts A x).take k++n::ones ((scAt A t).length - (k+1))=((cts A x).take k++[n])++ones ((scAt A t).length - (k+1)):=by simp
    rw[hc,List.take_left' hKl,hE]
   ·cases h
 | false =>
  simp only[lft,Bool.false_eq_true,if_false,Nat.add_zero] at h hk hk2 ⊢;have hkl:((cts A x).take k).length=k:=by rw[List.length_take];omega
  split at h
  ·injection h with h;subst h
   have hE:=Y5 (A:=A) (p:=t) (K:=(cts A x).take k) OM h4';rw[hkl] at hE;rw[List.take_left' hkl,hE]
  ·cases h
def Qge {t:Nd} (hp:p < (plT t).sets.length):m∈mvAt (Qr t) p↔isE (p,m) (wk t 0 0 []).L:=by
 have e:(Qr t).moves[p]?=some (srtM (Za (wk t 0 0 []).L p)):=by
  show ((List.range (plT t).sets.length).map fun p=>srtM (Za (wk t 0 0 []).L p))[p]?=_;rw[List.getElem?_map,List.getElem?_range hp];rfl
 rw[mvAt,e,Option.getD_some,srtM,(List.mergeSort_perm _ _).mem_iff,XF]
def Qab {t:Nd} (hp:p < (plT t).sets.length):((Qr t).last[p]?).getD false=true↔p∈(wk t 0 0 []).last:=by
 have e:(Qr t).last[p]?=some ((wk t 0 0 []).last.contains p):=by
  show ((List.range (plT t).sets.length).map fun p=>(wk t 0 0 []).last.contains p)[p]?=_;rw[List.getElem?_map,List.getElem?_range hp];rfl
 rw[e,Option.getD_some,List.contains_iff_mem]
end Go.Proofs.YtocmjakchgcioaaGreat
