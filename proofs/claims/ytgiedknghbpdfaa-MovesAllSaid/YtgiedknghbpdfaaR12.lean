import Derived.Test.YtgiedknghbpdfaaR10

namespace Go.Proofs.Ytgiedknghbpdfaa
set_option linter.all false
def crossE (f t:Nat→Bool) (keep:Nat) (again:Bool):List Eg :=
 (List.range 200).flatMap fun a=>(List.range 200).flatMap fun b=>if f a&&t b then [(a,⟨b,keep,again⟩)] else []
def ptsL:List Nd→Nat→List (Es × Bool)
 | [],_=>[]
 | p::ps,b=>(enN p b,nullB p)::ptsL ps (b+lcN p)
def crR (l:Nat→Bool) (sc:Nat):List (Es × Bool)→List Eg
 | []=>[]
 | x::r=>crossE l x.1.f sc false++if x.2 then crR l sc r else []
def crA (sc:Nat):List (Es × Bool)→List Eg
 | []=>[]
 | x::r=>crR x.1.l sc r++crA sc r
def crH (sc:Nat) (ag:Bool):List (Es × Bool)→List Eg
 | []=>[]
 | x::_=>crossE x.1.l x.1.f sc ag
mutual
def edN:Nd→Nat→Nat→List Eg
 | .mk k _ ps lo hi,b,sc=>edL ps b (if cnts k lo hi then sc+1 else sc)++(if k=4∧hi≠1 then crH sc (cnts k lo hi) (ptsL ps b) else if k=2 then crA sc (ptsL ps b) else [])
def edL:List Nd→Nat→Nat→List Eg
 | [],_,_=>[]
 | p::ps,b,sc=>edN p b sc++edL ps (b+lcN p) sc
end
theorem mem_crossE {f t:Nat→Bool} {keep:Nat} {again:Bool} {x:Eg}:x∈crossE f t keep again↔(x.1 < 200∧f x.1=true)∧(x.2.to < 200∧t x.2.to=true)∧x.2.keep=keep∧x.2.again=again:=by
 simp only[crossE,List.mem_flatMap,List.mem_range];constructor
 ·rintro⟨a,ha,b,hb,h⟩
  split at h
  ·rename_i h1;rw[Bool.and_eq_true] at h1;rw[List.mem_singleton] at h;subst h
   exact⟨⟨ha,h1.1⟩,⟨hb,h1.2⟩,rfl,rfl⟩
  ·cases h
 ·rintro⟨⟨h1,h2⟩,⟨h3,h4⟩,h5,h6⟩
  obtain⟨a,b,k,g⟩:=x;dsimp only at *;subst h5 h6
  exact⟨a,h1,b,h3,by rw[h2,h4];simp⟩
def tg (sc:Nat) (m:Mv):List (Es × Bool)→Prop
 | []=>False
 | x::r=>((m.to < 200∧x.1.f m.to=true)∧m.keep=sc∧m.again=false)∨(x.2=true∧tg sc m r)
theorem mem_crR {l:Nat→Bool} {sc:Nat} {x:Eg}:∀ {r:List (Es × Bool)},x∈crR l sc r↔(x.1 < 200∧l x.1=true)∧tg sc x.2 r
 | []=>by simp [crR,tg]
 | y::r=>by
  have ih:=mem_crR (l:=l) (sc:=sc) (x:=x) (r:=r);rw[crR,List.mem_append,mem_crossE,tg];cases hy:y.2
  ·simp
  ·simp only[if_true,ih,true_and]
   grind
mutual
theorem en_rg:∀ (n:Nd) (b j:Nat),((enN n b).f j=true→b < j∧j≤b+lcN n)∧((enN n b).l j=true→b < j∧j≤b+lcN n)
 | .mk k s ps lo hi,b,j=>by
  rw[enN,lcN];split
  ·split
   ·exact⟨fun h=>by simp [es0] at h,fun h=>by simp [es0] at h⟩
   ·refine⟨fun h=>?_,fun h=>?_⟩<;>· simp at h;omega
  ·have:=enL_rg k ps b es0 j (fun h=>by simp [es0] at h) (fun h=>by simp [es0] at h)
   simpa [es0] using this
theorem enL_rg (k:Int):∀ (ps:List Nd) (b:Nat) (q:Es) (j:Nat),(q.f j=true→b < j∧j≤b+q.c)→(q.l j=true→b < j∧j≤b+q.c) →
  ((enL k ps b q).f j=true→b < j∧j≤b+(q.c+lcL ps))∧((enL k ps b q).l j=true→b < j∧j≤b+(q.c+lcL ps))
 | [],b,q,j,h1,h2=>by rw[enL,lcL];exact⟨h1,h2⟩
 | p::ps,b,q,j,h1,h2=>by
  rw[enL,lcL];have hp:=en_rg p (b+q.c) j;have hc:=enN_c p (b+q.c)
  have:=enL_rg k ps b (esStep k (nullB p) (enN p (b+q.c)) q) j ?_ ?_
  ·simp only[esStep,hc] at this ⊢;rw[Nat.add_assoc] at this;exact this
  ·intro h;simp only[esStep,Bool.or_eq_true,Bool.and_eq_true] at h;simp only[esStep,hc];rcases h with h|h
   ·have:=h1 h;omega
   ·have:=hp.1 h.2;omega
  ·intro h;simp only[esStep,Bool.or_eq_true,Bool.and_eq_true] at h;simp only[esStep,hc];rcases h with h|h
   ·have:=h2 h.2;omega
   ·have:=hp.2 h;omega
end
mutual
theorem wk_ed:∀ (n:Nd) (sc b:Nat) (L:List (Eg × Int)) (x:Eg),formed n=true→b+lcN n < 200→(isE x (wk n sc b L).L↔isE x L∨x∈edN n b sc)
 | .mk k s ps lo hi,sc,b,L,x,h,hb=>by
  have hL:∀ p∈ps,formed p=true:=by
   rw[formed,Bool.and_eq_true,formedL_all] at h;exact List.all_eq_true.1 h.2
  have hsh:shapedB k s ps.length lo hi=true:=by
   rw[formed,Bool.and_eq_true] at h;exact h.1
  rw[wk,edN];rw[lcN] at hb;by_cases h1:k=1
  ·subst h1;have hp:ps=[]:=by
    simp [shapedB] at hsh;exact hsh.2
   subst hp;rw[if_pos rfl,edL,if_neg (show ¬ ((1:Int)=4∧hi≠1) by omega),if_neg (show ¬ (1:Int)=2 by omega)];split<;>simp
  rw[if_neg h1];rw[if_neg h1] at hb;by_cases h2:k=2
  ·subst h2;have hc:cnts 2 lo hi=false:=rfl;rw[if_pos rfl,if_neg (show ¬ ((2:Int)=4∧hi≠1) by omega),if_pos rfl,hc]
   have:=wkC_ed ps sc ⟨[],[],true,b,L⟩ x hL (by simp) hb
   rw[this];simp
  rw[if_neg h2];by_cases h3:k=3
  ·subst h3;have hc:cnts 3 lo hi=false:=rfl;rw[if_pos rfl,if_neg (show ¬ ((3:Int)=4∧hi≠1) by omega),if_neg (show ¬ (3:Int)=2 by omega),hc]
   have:=wkA_ed ps sc ⟨[],[],false,b,L⟩ x hL hb
   rw[this];simp
  rw[if_neg h3];by_cases h4:k=4
  ·subst h4;obtain⟨p,rfl⟩:=List.length_eq_one_iff.1 (shape4 hsh).1;rw[lcL,lcL] at hb;have hfp:=hL p (by simp);have ih:=wk_ed p (if cnts 4 lo hi then sc+1 else sc) b L x hfp (by omega);have hen:=(wk_en p (if cnts 4 lo hi then sc+1 else sc) b L hfp).1;have hrg:=fun j=>en_rg p b j;rw[if_pos rfl,wkH,edL,edL,ptsL,crH];dsimp only;by_cases hh:hi=1
   ·rw[if_pos hh,if_neg (show ¬ ((4:Int)=4∧hi≠1) by omega),if_neg (show ¬ (4:Int)=2 by omega),ih];simp
   ·rw[if_neg hh,if_pos (show (4:Int)=4∧hi≠1 from ⟨rfl,hh⟩),isE_lnk,ih,List.append_nil,List.mem_append,mem_crossE];have e1:∀ j,j∈(wk p (if cnts 4 lo hi then sc+1 else sc) b L).first↔(enN p b).f j=true:=fun j=>by rw[← hen.f j,List.contains_iff_mem]
    have e2:∀ j,j∈(wk p (if cnts 4 lo hi then sc+1 else sc) b L).last↔(enN p b).l j=true:=fun j=>by rw[← hen.l j,List.contains_iff_mem]
    have e3:(∃ a∈(wk p (if cnts 4 lo hi then sc+1 else sc) b L).last,∃ c∈(wk p (if cnts 4 lo hi then sc+1 else sc) b L).first,x=(a,⟨c,sc,cnts 4 lo hi⟩))↔(x.1 < 200∧(enN p b).l x.1=true)∧(x.2.to < 200∧(enN p b).f x.2.to=true)∧x.2.keep=sc∧x.2.again=cnts 4 lo hi:=by
     constructor
     ·rintro⟨a,ha,c,hc,rfl⟩
      rw[e2] at ha;rw[e1] at hc
      have:=(hrg a).2 ha
      have:=(hrg c).1 hc
      exact⟨⟨by dsimp only;omega,ha⟩,⟨by dsimp only;omega,hc⟩,rfl,rfl⟩
     ·rintro⟨⟨_,g1⟩,⟨_,g2⟩,g3,g4⟩
      obtain⟨a,c,kk,g⟩:=x;dsimp only at *;subst g3 g4
      exact⟨a,(e2 a).2 g1,c,(e1 c).2 g2,rfl⟩
    rw[e3]
    grind
  rw[if_neg h4,if_neg (show ¬ (k=4∧hi≠1) from fun h=>h4 h.1),if_neg h2];have h0:k=0:=by
   unfold shapedB at hsh;by_cases h0:k=0
   ·exact h0
   ·rw[if_neg h0,if_neg h1,if_neg (by omega),if_neg h4] at hsh;cases hsh
  subst h0;have hp:ps=[]:=by
   simp [shapedB] at hsh;simp_all
  subst hp;rw[edL];simp
theorem wkC_ed:∀ (ps:List Nd) (sc:Nat) (q:Nds) (x:Eg),(∀ p∈ps,formed p=true)→(∀ j∈q.last,j < 200)→q.next+lcL ps < 200 →
  (isE x (wkC ps sc q).L↔isE x q.L∨x∈edL ps q.next sc∨(x.1∈q.last∧tg sc x.2 (ptsL ps q.next))∨x∈crA sc (ptsL ps q.next))
 | [],sc,q,x,_,_,_=>by rw[wkC,edL,ptsL,tg,crA];simp
 | p::ps,sc,q,x,hf,hl,hb=>by
  rw[wkC,edL,ptsL,tg,crA];rw[lcL] at hb;have hfp:=hf p (by simp);have ih:=wk_ed p sc q.next q.L x hfp (by omega);have hen:=wk_en p sc q.next q.L hfp;have hrg:=fun j=>en_rg p q.next j;have hnx:=hen.1.c;rw[enN_c] at hnx;have e1:∀ j,j∈(wk p sc q.next q.L).first↔(enN p q.next).f j=true:=fun j=>by rw[← hen.1.f j,List.contains_iff_mem]
  have e2:∀ j,j∈(wk p sc q.next q.L).last↔(enN p q.next).l j=true:=fun j=>by rw[← hen.1.l j,List.contains_iff_mem]
  have hem:=hen.2;dsimp only;generalize wk p sc q.next q.L=y at ih hnx e1 e2 hem;have hyl:∀ j∈y.last,j < 200:=fun j hj=>by
   have:=(hrg j).2 ((e2 j).1 hj);omega
  have IH:=wkC_ed ps sc ⟨if q.empty then q.first++y.first else q.first,if y.empty then q.last++y.last else y.last,q.empty&&y.empty,y.next,lnk q.last y.first sc false y.L⟩ x (fun z hz=>hf z (by simp [hz])) (by
   dsimp only;split
   ·intro j hj;rcases List.mem_append.1 hj with h|h
    ·exact hl j h
    ·exact hyl j h
   ·exact hyl) (by dsimp only;omega)
  dsimp only at IH;rw[IH,hnx,isE_lnk,ih,List.mem_append,List.mem_append,mem_crR];have e3:(∃ a∈q.last,∃ c∈y.first,x=(a,⟨c,sc,false⟩))↔x.1∈q.last∧(x.2.to < 200∧(enN p q.next).f x.2.to=true)∧x.2.keep=sc∧x.2.again=false:=by
   constructor
   ·rintro⟨a,ha,c,hc,rfl⟩
    rw[e1] at hc
    have:=(hrg c).1 hc
    exact⟨ha,⟨by dsimp only;omega,hc⟩,rfl,rfl⟩
   ·rintro⟨g1,⟨_,g2⟩,g3,g4⟩
    obtain⟨a,c,kk,g⟩:=x;dsimp only at *;subst g3 g4
    exact⟨a,g1,c,(e1 c).2 g2,rfl⟩
  have e4:x.1∈(if y.empty=true then q.last++y.last else y.last)↔(nullB p=true∧x.1∈q.last)∨(x.1 < 200∧(enN p q.next).l x.1=true):=by
   have:(x.1 < 200∧(enN p q.next).l x.1=true)↔x.1∈y.last:=by
    rw[e2]
    exact⟨fun h=>h.2,fun h=>⟨hyl _ ((e2 _).2 h),h⟩⟩
   rw[this,hem];cases nullB p<;>simp
  rw[e3,e4];generalize (tg sc x.2 (ptsL ps (q.next+lcN p)))=T1;generalize (x∈crA sc (ptsL ps (q.next+lcN p)))=T2;generalize (isE x q.L)=T3;generalize (x∈edN p q.next sc)=T4;generalize (x∈edL ps (q.next+lcN p) sc)=T5;generalize ((x.2.to < 200∧(enN p q.next).f x.2.to=true)∧x.2.keep=sc∧x.2.again=false)=T6;generalize (x.1 < 200∧(enN p q.next).l x.1=true)=T7;generalize (x.1∈q.last)=T8;generalize (nullB p=true)=T9
  grind
theorem wkA_ed:∀ (ps:List Nd) (sc:Nat) (q:Nds) (x:Eg),(∀ p∈ps,formed p=true)→q.next+lcL ps < 200 →
  (isE x (wkA ps sc q).L↔isE x q.L∨x∈edL ps q.next sc)
 | [],sc,q,x,_,_=>by rw[wkA,edL];simp
 | p::ps,sc,q,x,hf,hb=>by
  rw[wkA,edL];rw[lcL] at hb;have hfp:=hf p (by simp);have ih:=wk_ed p sc q.next q.L x hfp (by omega);have hnx:=(wk_en p sc q.next q.L hfp).1.c;rw[enN_c] at hnx;generalize wk p sc q.next q.L=y at ih hnx;have IH:=wkA_ed ps sc ⟨q.first++y.first,q.last++y.last,q.empty||y.empty,y.next,y.L⟩ x (fun z hz=>hf z (by simp [hz])) (by dsimp only;omega);dsimp only at IH;rw[IH,hnx,ih,List.mem_append]
  grind
end
theorem incE_nd (k:Eg):∀ (L:List (Eg × Int)),(L.map Prod.fst).Nodup→((incE k L).map Prod.fst).Nodup
 | [],_=>by simp [incE]
 | (k',n)::L,h=>by
  simp only[incE];split
  ·exact h
  ·rename_i hne;rw[List.map_cons,List.nodup_cons] at h ⊢
   refine⟨fun hm=>?_,incE_nd k L h.2⟩
   obtain⟨⟨a,b⟩,hab,he⟩:=List.mem_map.1 hm;dsimp only at he;subst he;rcases mem_incE hab with h1|⟨m,h1⟩
   ·exact hne h1.symm
   ·exact h.1 (List.mem_map.2 ⟨_,h1,rfl⟩)
theorem lnk1_nd (a keep:Nat) (again:Bool):∀ (to:List Nat) (L:List (Eg × Int)),(L.map Prod.fst).Nodup→((lnk1 a to keep again L).map Prod.fst).Nodup
 | [],L,h=>h
 | b::to,L,h=>by
  have:=lnk1_nd a keep again to _ (incE_nd (a,⟨b,keep,again⟩) L h)
  exact this
theorem lnk_nd (keep:Nat) (again:Bool) (to:List Nat):∀ (fr:List Nat) (L:List (Eg × Int)),(L.map Prod.fst).Nodup→((lnk fr to keep again L).map Prod.fst).Nodup
 | [],L,h=>h
 | a::fr,L,h=>lnk_nd keep again to fr _ (lnk1_nd a keep again to L h)
mutual
theorem wk_nd:∀ (n:Nd) (sc nx:Nat) (L:List (Eg × Int)),(L.map Prod.fst).Nodup→((wk n sc nx L).L.map Prod.fst).Nodup
 | .mk k s ps lo hi,sc,nx,L,h=>by
  rw[wk];split
  ·split<;>exact h
  ·split
   ·exact wkC_nd ps sc _ h
   ·split
    ·exact wkA_nd ps sc _ h
    ·split
     ·have h1:=wkH_nd ps (if cnts k lo hi then sc+1 else sc) nx L h;dsimp only;split
      ·exact h1
      ·exact lnk_nd _ _ _ _ _ h1
     ·exact h
theorem wkC_nd:∀ (ps:List Nd) (sc:Nat) (y:Nds),(y.L.map Prod.fst).Nodup→((wkC ps sc y).L.map Prod.fst).Nodup
 | [],sc,y,h=>by rw[wkC];exact h
 | p::ps,sc,y,h=>by
  rw[wkC];exact wkC_nd ps sc _ (lnk_nd _ _ _ _ _ (wk_nd p sc y.next y.L h))
theorem wkA_nd:∀ (ps:List Nd) (sc:Nat) (y:Nds),(y.L.map Prod.fst).Nodup→((wkA ps sc y).L.map Prod.fst).Nodup
 | [],sc,y,h=>by rw[wkA];exact h
 | p::ps,sc,y,h=>by
  rw[wkA];exact wkA_nd ps sc _ (wk_nd p sc y.next y.L h)
theorem wkH_nd:∀ (ps:List Nd) (sc nx:Nat) (L:List (Eg × Int)),(L.map Prod.fst).Nodup→((wkH ps sc nx L).L.map Prod.fst).Nodup
 | [],sc,nx,L,h=>by rw[wkH];exact h
 | p::ps,sc,nx,L,h=>by rw[wkH];exact wk_nd p sc nx L h
end
theorem movesOf_nd {L:List (Eg × Int)} (h:(L.map Prod.fst).Nodup) (p:Nat):(movesOf L p).Nodup:=by
 rw[movesOf];induction L with
 | nil=>simp
 | cons x L ih =>
  rw[List.map_cons,List.nodup_cons] at h;rw[List.filter_cons];split
  ·rename_i hx;rw[List.map_cons,List.nodup_cons]
   refine⟨fun hm=>h.1 ?_,ih h.2⟩
   obtain⟨y,hy,he⟩:=List.mem_map.1 hm;rw[List.mem_filter] at hy;refine List.mem_map.2 ⟨y,hy.1,?_⟩;have h1:x.1.1=p:=by simpa using hx
   have h2:y.1.1=p:=by simpa using hy.2
   exact Prod.ext (h2.trans h1.symm) he
  ·exact ih h.2
end Go.Proofs.Ytgiedknghbpdfaa
