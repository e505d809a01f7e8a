import Derived.Test.YtocmjakchgcioaaGreatKk

namespace Go.Proofs.YtocmjakchgcioaaGreat
set_option linter.all false
variable {k:Int} {α:Type} {a:Nat} {b:Bool} {s:Nat→Nat} {ps:List Nd} {fr:List Nat}
structure Au where
 tree:Nd
 sets:List (Nat→Nat)
 scopes:List (Int × Int)
 around:List (List Nat)
 first:List Nat
 moves:List (List Mv)
 last:List Bool
 empty:Bool
def scC (s:Int × Int):List V:=[.i .i64 s.1,.i .i64 s.2]
def inC (n:Nat):List V:=[.i .i64 n]
def boC (b:Bool):List V:=[.bo b]
def lsC (l:List Nat):List V:=[.sl (l.map inC)]
def mlC (l:List Mv):List V:=[.sl (l.map mvC)]
def mpC (t:Nd) (sets:List (Nat→Nat)) (scopes:List (Int × Int)) (around:List (List Nat)):List V:=cel t++[.sl (sets.map u4),.sl (scopes.map scC),.sl (around.map lsC)]
def auC (a:Au):List V:=mpC a.tree a.sets a.scopes a.around++[.sl (a.first.map inC),.sl (a.moves.map mlC),.sl (a.last.map boC),.bo a.empty]
def noA:Au:=⟨noN,[],[],[],[],[],[],false⟩
def low1 (lo:Int):Int:=if 1 < lo then lo else 1
def cnts (k lo hi:Int):Bool:=k==4&&(decide (hi > 1)||(hi == -1&&decide (low1 lo > 1)))
structure Pl where
 sets:List (Nat→Nat)
 scopes:List (Int × Int)
 around:List (List Nat)
mutual
def Qm:Nd→List Nat→Pl→Pl
 | .mk k s ps lo hi,ar,q =>
  QC ps (if cnts k lo hi then ar++[q.scopes.length] else ar)
   { sets:=if k=1∧Qt s=false then q.sets++[s] else q.sets,
     around:=if k=1∧Qt s=false then q.around++[ar] else q.around,
     scopes:=if cnts k lo hi then q.scopes++[(low1 lo,hi)] else q.scopes }
def QC:List Nd→List Nat→Pl→Pl
 | [],_,q=>q
 | p::ps,ar,q=>QC ps ar (Qm p ar q)
end
def plT (t:Nd):Pl:=Qm t [] ⟨[zSet],[],[[]]⟩
def plOk (q:Pl):Bool:=decide (q.sets.length≤41)&&!(q.around.any fun l=>decide (l.length > 4))
abbrev Eg:=Nat × Mv
variable {L:List (Eg × Int)}
def egV (x:Eg):V:=.ag (.i .i64 x.1::mvC x.2)
def incE (k:Eg) (L:List (Eg × Int)):List (Eg × Int) :=
 match L with
 | []=>[(k,1)]
 | (k',n)::l=>if k=k' then (k',IntKind.i64.wrap (n+1))::l else (k',n)::incE k l
def lnk1 (a:Nat) (to:List Nat) (keep:Nat) (again:Bool) (L:List (Eg × Int)):List (Eg × Int):=to.foldl (fun L b=>incE (a,⟨b,keep,again⟩) L) L
def lnk (fr to:List Nat) (keep:Nat) (again:Bool) (L:List (Eg × Int)):List (Eg × Int):=fr.foldl (fun L a=>lnk1 a to keep again L) L
structure Nds where
 first:List Nat
 last:List Nat
 empty:Bool
 next:Nat
 L:List (Eg × Int)
mutual
def wk:Nd→Nat→Nat→List (Eg × Int)→Nds
 | .mk k s ps lo hi,sc,nx,L =>
  if k=1 then (if Qt s then ⟨[],[],false,nx,L⟩ else ⟨[nx+1],[nx+1],false,nx+1,L⟩)
  else if k=2 then wkC ps sc ⟨[],[],true,nx,L⟩
  else if k=3 then wkA ps sc ⟨[],[],false,nx,L⟩
  else if k=4 then
   let x:=wkH ps (if cnts k lo hi then sc+1 else sc) nx L
   ⟨x.first,x.last,Q0 (.mk k s ps lo hi),x.next,if hi=1 then x.L else lnk x.last x.first sc (cnts k lo hi) x.L⟩
  else ⟨[],[],true,nx,L⟩
def wkC:List Nd→Nat→Nds→Nds
 | [],_,q=>q
 | p::ps,sc,q =>
  let x:=wk p sc q.next q.L
  wkC ps sc ⟨if q.empty then q.first++x.first else q.first,if x.empty then q.last++x.last else x.last,q.empty&&x.empty,x.next,lnk q.last x.first sc false x.L⟩
def wkA:List Nd→Nat→Nds→Nds
 | [],_,q=>q
 | p::ps,sc,q =>
  let x:=wk p sc q.next q.L
  wkA ps sc ⟨q.first++x.first,q.last++x.last,q.empty||x.empty,x.next,x.L⟩
def wkH:List Nd→Nat→Nat→List (Eg × Int)→Nds
 | [],_,nx,L=>⟨[],[],true,nx,L⟩
 | p::_,sc,nx,L=>wk p sc nx L
end
def Za (L:List (Eg × Int)) (p:Nat):List Mv:=(L.filter fun x=>x.1.1==p).map fun x=>x.1.2
def srtN (l:List Nat):List Nat:=l.mergeSort fun x y=>decide (x≤y)
def srtM (l:List Mv):List Mv:=l.mergeSort fun x y=>!(decide (ZY y x < 0))
def Qr (t:Nd):Au :=
 { tree:=t,sets:=(plT t).sets,scopes:=(plT t).scopes,around:=(plT t).around,first:=srtN (wk t 0 0 []).first,moves:=(List.range (plT t).sets.length).map fun p=>srtM (Za (wk t 0 0 []).L p),
   last:=(List.range (plT t).sets.length).map fun p=>(wk t 0 0 []).last.contains p,empty:=(wk t 0 0 []).empty }
theorem Qag {k x:Eg} {n:Int}:∀ {L:List (Eg × Int)},(x,n)∈incE k L→x=k∨∃ m,(x,m)∈L
 | [],h=>by simp [incE] at h;exact .inl h.1
 | (k',m)::L,h=>by
  simp only[incE] at h;split at h
  ·rename_i hk;rcases List.mem_cons.1 h with h|h
   ·cases h;exact .inr ⟨m,SM⟩
   ·exact .inr ⟨n,by simp [h]⟩
  ·rcases List.mem_cons.1 h with h|h
   ·cases h;exact .inr ⟨n,SM⟩
   ·rcases Qag h with h|⟨m',h⟩
    ·exact .inl h
    ·exact .inr ⟨m',by simp [h]⟩
theorem QaR (k:Eg):∀ (L:List (Eg × Int)),∃ n,(k,n)∈incE k L
 | []=>⟨1,by simp [incE]⟩
 | (k',m)::L=>by
  simp only[incE];split
  ·rename_i hk;exact⟨IntKind.i64.wrap (m+1),by rw[hk];simp⟩
  ·obtain⟨n,h⟩:=QaR k L;exact⟨n,by simp [h]⟩
theorem H6 {k x:Eg} {m:Int}:∀ {L:List (Eg × Int)},(x,m)∈L→∃ n,(x,n)∈incE k L
 | (k',m')::L,h=>by
  simp only[incE];split
  ·rcases List.mem_cons.1 h with h|h
   ·cases h;exact⟨_,List.mem_cons_self⟩
   ·exact⟨m,by simp [h]⟩
  ·rcases List.mem_cons.1 h with h|h
   ·cases h;exact⟨_,List.mem_cons_self⟩
   ·obtain⟨n,h⟩:=H6 (k:=k) h;exact⟨n,by simp [h]⟩
def isE (x:Eg) (L:List (Eg × Int)):Prop:=∃ n,(x,n)∈L
def Qib {k x:Eg}:isE x (incE k L)↔x=k∨isE x L :=
 ⟨fun ⟨_,h⟩=>Qag h,fun h=>by
  rcases h with rfl|⟨m,h⟩
  ·exact QaR x L
  ·exact H6 h⟩
theorem Qay {a:Nat} {keep:Nat} {again:Bool} {x:Eg}:∀ {to:List Nat} {L:List (Eg × Int)},isE x (lnk1 a to keep again L)↔(∃ b∈to,x=(a,⟨b,keep,again⟩))∨isE x L
 | [],L=>by simp [lnk1]
 | b::to,L=>by
  rw[lnk1,List.foldl_cons]
  have:=Qay (a:=a) (keep:=keep) (again:=again) (x:=x) (to:=to) (L:=incE (a,⟨b,keep,again⟩) L)
  rw[lnk1] at this;rw[this,Qib];simp only[List.mem_cons,exists_eq_or_imp];constructor
  ·rintro (h|h|h)
   ·exact .inl (.inr h)
   ·exact .inl (.inl h)
   ·exact .inr h
  ·rintro ((h|h)|h)
   ·exact .inr (.inl h)
   ·exact .inl h
   ·exact .inr (.inr h)
theorem Yf {keep:Nat} {again:Bool} {x:Eg} {to:List Nat}:∀ {fr:List Nat} {L:List (Eg × Int)},isE x (lnk fr to keep again L)↔(∃ a∈fr,∃ b∈to,x=(a,⟨b,keep,again⟩))∨isE x L
 | [],L=>by simp [lnk]
 | a::fr,L=>by
  rw[lnk,List.foldl_cons]
  have:=Yf (keep:=keep) (again:=again) (x:=x) (to:=to) (fr:=fr) (L:=lnk1 a to keep again L)
  rw[lnk] at this;rw[this,Qay];simp only[List.mem_cons,exists_eq_or_imp];constructor
  ·rintro (h|h|h)
   ·exact .inl (.inr h)
   ·exact .inl (.inl h)
   ·exact .inr h
  ·rintro ((h|h)|h)
   ·exact .inr (.inl h)
   ·exact .inl h
   ·exact .inr (.inr h)
def edOk (lo hi:Nat) (around:List (List Nat)) (x:Eg):Prop :=
 lo < x.1∧x.1≤hi∧lo < x.2.to∧x.2.to≤hi∧∃ l l' pre,around[x.1]?=some l∧around[x.2.to]?=some l'∧pre <+: l∧pre <+: l'∧pre.length=x.2.keep+(if x.2.again then 1 else 0)
structure WkOk (nx:Nat) (L:List (Eg × Int)) (ar:List Nat) (q:Pl) (x:Nds) (q':Pl):Prop where
 ls:q'.sets.length=x.next+1
 la:q'.around.length=x.next+1
 le:nx≤x.next
 ss:q.sets <+: q'.sets
 sa:q.around <+: q'.around
 sc:q.scopes <+: q'.scopes
 pre:∀ i,nx < i→i≤x.next→∃ l,q'.around[i]?=some l∧ar <+: l
 f:∀ p∈x.first,nx < p∧p≤x.next
 l:∀ p∈x.last,nx < p∧p≤x.next
 e:∀ g,isE g x.L→isE g L∨edOk nx x.next q'.around g
theorem edOk.up {lo hi lo' hi':Nat} {ar ar':List (List Nat)} {x:Eg} (h:edOk lo hi ar x) (h1:lo'≤lo) (h2:hi≤hi') (h3:ar <+: ar'):edOk lo' hi' ar' x:=by
 obtain⟨a,b,c,d,l,l',p,e,f,g⟩:=h;have up:∀ {i:Nat} {l:List Nat},ar[i]?=some l→ar'[i]?=some l:=fun {i l} hh=>by
  obtain⟨t,rfl⟩:=h3;rw[List.getElem?_append_left (List.getElem?_eq_some_iff.1 hh).1];exact hh
 exact⟨OM,OM,OM,OM,l,l',p,up e,up f,g⟩
def Yz {l l':List α} (h:l <+: l') {i:Nat} {x:α} (hh:l[i]?=some x):l'[i]?=some x:=by
 obtain⟨t,rfl⟩:=h;rw[List.getElem?_append_left (List.getElem?_eq_some_iff.1 hh).1];exact hh
def VL {lo hi:Nat} {ar:List (List Nat)} {b keep:Nat} {again:Bool} {p:List Nat} (ha:lo < a∧a≤hi) (hb:lo < b∧b≤hi) (h:∀ i,lo < i→i≤hi→∃ l,ar[i]?=some l∧p <+: l) (hp:p.length=keep+(if again then 1 else 0)):edOk lo hi ar (a,⟨b,keep,again⟩):=by
 obtain⟨l,h1,h2⟩:=h a ha.1 ha.2;obtain⟨l',h3,h4⟩:=h b hb.1 hb.2
 exact⟨ha.1,ha.2,hb.1,hb.2,l,l',p,h1,h3,h2,h4,hp⟩
def YN {a b c:List α} (h1:a <+: b) (h2:b <+: c):a <+: c:=List.IsPrefix.trans h1 h2
mutual
theorem HI:∀ (n:Nd) (nx:Nat) (L:List (Eg × Int)) (ar:List Nat) (q:Pl),Qg n=true→q.sets.length=nx+1→q.around.length=nx+1 →
  WkOk nx L ar q (wk n ar.length nx L) (Qm n ar q)
 | .mk k s ps lo hi,nx,L,ar,q,hf,hq1,hq2=>by
  rw[Qg,Bool.and_eq_true] at hf;have hnl:∀ (ar':List Nat) (q':Pl),ps=[]→QC ps ar' q'=q':=fun ar' q' h=>by subst h;rfl
  by_cases h1:k=1
  ·subst h1;have hps:ps=[]:=by
    have:=hf.1;simp [Qh] at this;exact this.2
   have hc:cnts 1 lo hi=false:=rfl;rw[wk,Qm,hnl _ _ hps,hc];simp only[if_true,true_and,Bool.false_eq_true,if_false];cases he:Qt s with
   | true =>
    simp only[if_true,Bool.true_eq_false,if_false]
    exact⟨hq1,hq2,Nat.le_refl _,List.prefix_rfl,List.prefix_rfl,List.prefix_rfl,fun i (h1:nx < i) (h2:i≤nx)=>by omega,SM,SM,fun g h=>.inl h⟩
   | false =>
    simp only[Bool.false_eq_true,if_false,if_true]
    refine⟨by simp [hq1],by simp [hq2],Nat.le_succ _,List.prefix_append _ _,List.prefix_append _ _,List.prefix_rfl,fun i (h1:nx < i) (h2:i≤nx+1)=>⟨ar,?_,List.prefix_rfl⟩,SM,SM,fun g h=>.inl h⟩
    have:i=q.around.length:=by omega
    rw[this];simp
  ·have hs:(k=1∧Qt s=false)=False:=by simp [h1]
   by_cases h2:k=2
   ·subst h2;have hc:cnts 2 lo hi=false:=rfl;rw[wk,Qm,hc];simp only[h1,if_false,if_true,false_and,Bool.false_eq_true];exact Qgp ps ar ⟨[],[],true,nx,L⟩ q nx L q hf.2 hq1 hq2 ⟨hq1,hq2,Nat.le_refl _,List.prefix_rfl,List.prefix_rfl,List.prefix_rfl,fun i (h1:nx < i) (h2:i≤nx)=>by omega,SM,SM,fun g h=>.inl h⟩
   ·by_cases h3:k=3
    ·subst h3;have hc:cnts 3 lo hi=false:=rfl;rw[wk,Qm,hc];simp only[h1,h2,if_false,if_true,false_and,Bool.false_eq_true];exact Qf7 ps ar ⟨[],[],false,nx,L⟩ q nx L q hf.2 hq1 hq2 ⟨hq1,hq2,Nat.le_refl _,List.prefix_rfl,List.prefix_rfl,List.prefix_rfl,fun i (h1:nx < i) (h2:i≤nx)=>by omega,SM,SM,fun g h=>.inl h⟩
    ·by_cases h4:k=4
     ·subst h4;have hl1:ps.length=1:=by
       have:=hf.1;simp [Qh] at this;exact this.1.1.1.2
      obtain⟨p,rfl⟩:=List.length_eq_one_iff.1 hl1;have hfp:Qg p=true:=by have:=hf.2;rw[Qc,Qc] at this;simpa using this
      rw[wk,Qm];simp only[h1,h2,h3,if_false,if_true,false_and,wkH,QC];cases hc:cnts 4 lo hi with
      | false =>
       simp only[Bool.false_eq_true,if_false];have ih:=HI p nx L ar q hfp hq1 hq2
       refine⟨ih.ls,ih.la,ih.le,ih.ss,ih.sa,ih.sc,ih.pre,ih.f,ih.l,fun g hg=>?_⟩
       split at hg
       ·exact ih.e g hg
       ·rcases Yf.1 hg with⟨a,ha,b,hb,rfl⟩|hg
        ·exact .inr (VL (ih.l a ha) (ih.f b hb) ih.pre SM)
        ·exact ih.e g hg
      | true =>
       simp only[if_true];have ih:=HI p nx L (ar++[q.scopes.length]) { q with scopes:=q.scopes++[(low1 lo,hi)] } hfp hq1 hq2;rw[List.length_append,List.length_cons,List.length_nil] at ih
       refine⟨ih.ls,ih.la,ih.le,ih.ss,ih.sa,YN (List.prefix_append _ _) ih.sc,fun i h1 h2=>?_,ih.f,ih.l,fun g hg=>?_⟩
       ·obtain⟨l,e1,e2⟩:=ih.pre i h1 h2
        exact⟨l,e1,YN (List.prefix_append _ _) e2⟩
       ·split at hg
        ·exact ih.e g hg
        ·rcases Yf.1 hg with⟨a,ha,b,hb,rfl⟩|hg
         ·exact .inr (VL (ih.l a ha) (ih.f b hb) ih.pre SM)
         ·exact ih.e g hg
     ·have h0:k=0:=by
       have:=hf.1;unfold Qh at this
       by_cases h0:k=0
       ·exact h0
       ·simp [h0,h1,h2,h3,h4] at this
      subst h0;have hps:ps=[]:=by
       have:=hf.1;simp [Qh] at this;exact this.2
      have hc:cnts 0 lo hi=false:=rfl;rw[wk,Qm,hnl _ _ hps,hc];simp only[h1,h2,h3,h4,if_false,false_and,Bool.false_eq_true]
      exact⟨hq1,hq2,Nat.le_refl _,List.prefix_rfl,List.prefix_rfl,List.prefix_rfl,fun i (h1:nx < i) (h2:i≤nx)=>by omega,SM,SM,fun g h=>.inl h⟩
theorem Qgp:∀ (ps:List Nd) (ar:List Nat) (y:Nds) (q0:Pl) (nx:Nat) (L:List (Eg × Int)) (q:Pl),Qc ps=true→q0.sets.length=nx+1→q0.around.length=nx+1→WkOk nx L ar q0 y q →
  WkOk nx L ar q0 (wkC ps ar.length y) (QC ps ar q)
 | [],ar,y,q0,nx,L,q,_,_,_,h=>by rw[wkC,QC];exact h
 | p::ps,ar,y,q0,nx,L,q,hf,h1,h2,h=>by
  rw[Qc,Bool.and_eq_true] at hf;rw[wkC,QC];have ih:=HI p y.next y.L ar q hf.1 h.ls h.la;refine Qgp ps ar _ q0 nx L _ hf.2 h1 h2 ?_;have hpre:∀ i,nx < i→i≤(wk p ar.length y.next y.L).next→∃ l,(Qm p ar q).around[i]?=some l∧ar <+: l:=fun i a b=>by
   by_cases hi:i≤y.next
   ·obtain⟨l,e1,e2⟩:=h.pre i a hi
    exact⟨l,Yz ih.sa e1,e2⟩
   ·exact ih.pre i OM b
  have hle:=h.le;have hle2:=ih.le;have hxf:∀ p'∈(wk p ar.length y.next y.L).first,nx < p'∧p'≤(wk p ar.length y.next y.L).next:=fun p' hp=>by have:=ih.f p' hp;omega
  have hxl:∀ p'∈(wk p ar.length y.next y.L).last,nx < p'∧p'≤(wk p ar.length y.next y.L).next:=fun p' hp=>by have:=ih.l p' hp;omega
  have hyf:∀ p'∈y.first,nx < p'∧p'≤(wk p ar.length y.next y.L).next:=fun p' hp=>by have:=h.f p' hp;omega
  have hyl:∀ p'∈y.last,nx < p'∧p'≤(wk p ar.length y.next y.L).next:=fun p' hp=>by have:=h.l p' hp;omega
  refine⟨ih.ls,ih.la,by dsimp only;omega,YN h.ss ih.ss,YN h.sa ih.sa,YN h.sc ih.sc,hpre,?_,?_,fun g hg=>?_⟩
  ·dsimp only;split
   ·intro p' hp;rcases List.mem_append.1 hp with hp|hp
    ·exact hyf p' hp
    ·exact hxf p' hp
   ·exact hyf
  ·dsimp only;split
   ·intro p' hp;rcases List.mem_append.1 hp with hp|hp
    ·exact hyl p' hp
    ·exact hxl p' hp
   ·exact hxl
  ·rcases Yf.1 hg with⟨a,ha,b,hb,rfl⟩|hg
   ·exact .inr (VL (hyl a ha) (hxf b hb) hpre SM)
   ·rcases ih.e g hg with hg|hg
    ·rcases h.e g hg with hg|hg
     ·exact .inl hg
     ·exact .inr (hg.up (Nat.le_refl _) hle2 ih.sa)
    ·exact .inr (hg.up hle (Nat.le_refl _) List.prefix_rfl)
theorem Qf7:∀ (ps:List Nd) (ar:List Nat) (y:Nds) (q0:Pl) (nx:Nat) (L:List (Eg × Int)) (q:Pl),Qc ps=true→q0.sets.length=nx+1→q0.around.length=nx+1→WkOk nx L ar q0 y q →
  WkOk nx L ar q0 (wkA ps ar.length y) (QC ps ar q)
 | [],ar,y,q0,nx,L,q,_,_,_,h=>by rw[wkA,QC];exact h
 | p::ps,ar,y,q0,nx,L,q,hf,h1,h2,h=>by
  rw[Qc,Bool.and_eq_true] at hf;rw[wkA,QC];have ih:=HI p y.next y.L ar q hf.1 h.ls h.la;refine Qf7 ps ar _ q0 nx L _ hf.2 h1 h2 ?_;have hpre:∀ i,nx < i→i≤(wk p ar.length y.next y.L).next→∃ l,(Qm p ar q).around[i]?=some l∧ar <+: l:=fun i a b=>by
   by_cases hi:i≤y.next
   ·obtain⟨l,e1,e2⟩:=h.pre i a hi
    exact⟨l,Yz ih.sa e1,e2⟩
   ·exact ih.pre i OM b
  have hle:=h.le;have hle2:=ih.le
  refine⟨ih.ls,ih.la,by dsimp only;omega,YN h.ss ih.ss,YN h.sa ih.sa,YN h.sc ih.sc,hpre,fun p' hp=>?_,fun p' hp=>?_,fun g hg=>?_⟩
  ·rcases List.mem_append.1 hp with hp|hp
   ·have:=h.f p' hp;dsimp only;omega
   ·have:=ih.f p' hp;dsimp only;omega
  ·rcases List.mem_append.1 hp with hp|hp
   ·have:=h.l p' hp;dsimp only;omega
   ·have:=ih.l p' hp;dsimp only;omega
  ·rcases ih.e g hg with hg|hg
   ·rcases h.e g hg with hg|hg
    ·exact .inl hg
    ·exact .inr (hg.up (Nat.le_refl _) hle2 ih.sa)
   ·exact .inr (hg.up hle (Nat.le_refl _) List.prefix_rfl)
end
def scOk (s:Int × Int):Prop:=1≤s.1∧s.1≤2147483647∧((s.2 = -1∧1 < s.1)∨(1 < s.2∧s.2≤2147483647∧s.1≤s.2))
structure PlOk (q:Pl):Prop where
 sc:∀ s∈q.scopes,scOk s
 ar:∀ l∈q.around,∀ i∈l,i < q.scopes.length
 w:∀ s∈q.sets,W64 s
def QhU {n:Nat} {lo hi:Int} (h:Qh 4 s n lo hi=true) (hc:cnts 4 lo hi=true):scOk (low1 lo,hi):=by
 simp [Qh] at h;simp [cnts] at hc;unfold scOk low1 at *;dsimp only;split<;>split at hc<;>omega
mutual
theorem Qad:∀ (n:Nd) (ar:List Nat) (q:Pl),Qg n=true→Zd n→PlOk q→(∀ i∈ar,i < q.scopes.length)→PlOk (Qm n ar q)∧q.scopes.length≤(Qm n ar q).scopes.length
 | .mk k s ps lo hi,ar,q,hf,hs,hq,har=>by
  rw[Qg,Bool.and_eq_true] at hf;rw[Qm];have hsl:q.scopes.length≤(if cnts k lo hi then q.scopes++[(low1 lo,hi)] else q.scopes).length:=by split<;>simp
  have h:=Vo ps (if cnts k lo hi then ar++[q.scopes.length] else ar)
   { sets:=if k=1∧Qt s=false then q.sets++[s] else q.sets,
     around:=if k=1∧Qt s=false then q.around++[ar] else q.around,
     scopes:=if cnts k lo hi then q.scopes++[(low1 lo,hi)] else q.scopes } hf.2 ((QZ ps).1 hs.2.2) ⟨fun x hx=>?_,fun l hl i hi=>?_,fun x hx=>?_⟩ (fun i hi=>?_)
  ·exact⟨h.1,by have:=h.2;dsimp only at this;omega⟩
  ·dsimp only at hx;split at hx
   ·rename_i hc;rcases List.mem_append.1 hx with hx|hx
    ·exact hq.sc x hx
    ·simp at hx;rw[hx];have hk:k=4:=by simp [cnts] at hc;exact hc.1
     subst hk;exact QhU hf.1 hc
   ·exact hq.sc x hx
  ·dsimp only at hl ⊢;split at hl
   ·rcases List.mem_append.1 hl with hl|hl
    ·have:=hq.ar l hl i hi;omega
    ·simp at hl;subst hl;have:=har i hi;omega
   ·have:=hq.ar l hl i hi;omega
  ·dsimp only at hx;split at hx
   ·rcases List.mem_append.1 hx with hx|hx
    ·exact hq.w x hx
    ·simp at hx;rw[hx];exact hs.1
   ·exact hq.w x hx
  ·dsimp only;split at hi
   ·rename_i hc;rw[if_pos hc,List.length_append,List.length_cons,List.length_nil];rcases List.mem_append.1 hi with hi|hi
    ·have:=har i hi;omega
    ·simp at hi;omega
   ·rename_i hc;rw[if_neg hc];exact har i hi
theorem Vo:∀ (ps:List Nd) (ar:List Nat) (q:Pl),Qc ps=true→(∀ p∈ps,Zd p)→PlOk q→(∀ i∈ar,i < q.scopes.length)→PlOk (QC ps ar q)∧q.scopes.length≤(QC ps ar q).scopes.length
 | [],ar,q,_,_,hq,_=>by rw[QC];exact⟨hq,Nat.le_refl _⟩
 | p::ps,ar,q,hf,hs,hq,har=>by
  rw[Qc,Bool.and_eq_true] at hf;rw[QC];have h1:=Qad p ar q hf.1 (hs p SM) hq har;have h2:=Vo ps ar (Qm p ar q) hf.2 (fun p' hp=>hs p' (by simp [hp])) h1.1 fun i hi=>Nat.lt_of_lt_of_le (har i hi) h1.2
  exact⟨h2.1,OM⟩
end
structure WF (a:Au):Prop where
 n:a.sets.length≤41
 n0:1≤a.sets.length
 la:a.around.length=a.sets.length
 lm:a.moves.length=a.sets.length
 ll:a.last.length=a.sets.length
 a0:a.around[0]?=some []
 a4:∀ l∈a.around,l.length≤4
 ai:∀ l∈a.around,∀ i∈l,i < a.scopes.length
 sc:∀ s∈a.scopes,scOk s
 f:∀ p∈a.first,0 < p∧p < a.sets.length
 mv:∀ p l,a.moves[p]?=some l→∀ m∈l,edOk 0 (a.sets.length - 1) a.around (p,m)
 w:∀ s∈a.sets,W64 s
def XF {p:Nat} {m:Mv}:m∈Za L p↔isE (p,m) L:=by
 simp only[Za,List.mem_map,List.mem_filter,beq_iff_eq,isE];constructor
 ·rintro⟨⟨⟨a,b⟩,n⟩,⟨h1,rfl⟩,rfl⟩;exact⟨n,h1⟩
 ·rintro⟨n,h⟩;exact⟨((p,m),n),⟨h,rfl⟩,rfl⟩
def wk0 (t:Nd) (hf:Qg t=true):WkOk 0 [] [] ⟨[zSet],[],[[]]⟩ (wk t 0 0 []) (plT t):=HI t 0 [] [] ⟨[zSet],[],[[]]⟩ hf rfl rfl
def D3 (t:Nd) (hf:Qg t=true) (hs:Zd t) (hok:plOk (plT t)=true):WF (Qr t):=by
 have h:=wk0 t hf;have hp:=(Qad t [] ⟨[zSet],[],[[]]⟩ hf hs ⟨SM,SM,fun s hs=>by simp at hs;subst hs;exact fun j _=>(by decide:(0:Nat) < 18446744073709551616)⟩ SM).1;simp only[plOk,Bool.and_eq_true,decide_eq_true_eq,Bool.not_eq_true',List.any_eq_false,Nat.not_lt] at hok;have hl:=h.ls;have hla:=h.la
 refine⟨hok.1,by show 1≤(plT t).sets.length;omega,by show (plT t).around.length=(plT t).sets.length;omega,by simp [Qr],by simp [Qr],Yz h.sa rfl,fun l hl=>by have:=hok.2 l hl;omega,hp.ar,hp.sc,fun p hpm=>?_,fun p l hpl m hm=>?_,hp.w⟩
 ·have hm:p∈(wk t 0 0 []).first:=by simpa [Qr,srtN] using hpm
  have:=h.f p hm
  show 0 < p∧p < (plT t).sets.length;omega
 ·simp only[Qr,List.getElem?_map] at hpl;obtain⟨q,h1,rfl⟩:=Option.map_eq_some_iff.1 hpl;have hq:q=p:=by
   have:=(List.getElem?_eq_some_iff.1 h1).2
   simpa using this.symm
  subst hq;have hm2:m∈Za (wk t 0 0 []).L q:=by simpa [srtM] using hm
  rcases h.e _ (XF.1 hm2) with⟨n,hh⟩|hh
  ·cases hh
  ·have e1:(Qr t).sets.length - 1=(wk t 0 0 []).next:=by show (plT t).sets.length - 1=_;omega
   rw[e1];exact hh
mutual
def Zw:Nd→Bool
 | .mk k _ ps _ _=>YP ps||k==4
def YP:List Nd→Bool
 | []=>false
 | p::ps=>Zw p||YP ps
end
def Kr (ps:List Nd):YP ps=ps.any Zw:=by
 induction ps with
 | nil=>rfl
 | cons p ps ih=>simp [YP,ih]
mutual
theorem QhZ (k:Int):∀ (l:List Nd) (p:Nd),Zw p=false→(∀ q∈l,Zw q=false)→∀ q∈put1 k l p,Zw q=false
 | l,.mk k2 s ps lo hi,hp,hl=>by
  rw[put1];split
  ·rw[Zw,Bool.or_eq_false_iff] at hp;exact Dk k l ps (fun q hq=>by have:=hp.1;rw[Kr,List.any_eq_false] at this;simpa using this q hq) hl
  ·split
   ·exact hl
   ·split
    ·exact hl
    ·intro q hq;rcases List.mem_append.1 hq with h|h
     ·exact hl q h
     ·simp at h;rw[h];exact hp
theorem Dk (k:Int):∀ (l ps:List Nd),(∀ p∈ps,Zw p=false)→(∀ q∈l,Zw q=false)→∀ q∈putL k l ps,Zw q=false
 | l,[],_,hl=>by rw[putL];exact hl
 | l,p::ps,hp,hl=>by
  rw[putL];exact Dk k _ ps (fun q hq=>hp q (by simp [hq])) (QhZ k l p (hp p SM) hl)
end
mutual
theorem Qdj:∀ (n:Nd),Zw n=false→Zw (Qb n)=false
 | .mk k s ps lo hi,h=>by
  have h0:=h;rw[Zw,Bool.or_eq_false_iff] at h;rw[Qb];split
  ·rfl
  ·split
   ·have hk:(k==4)=false:=h.2;have hall:=Dk k [] (Qd ps) (KK ps h.1) SM;generalize putL k [] (Qd ps)=M at hall
    match M,hall with
    | [],_=>rfl
    | [p],hall=>exact hall p SM
    | p::q::M,hall =>
     show Zw (.mk k zSet (p::q::M) 0 0)=false;rw[Zw,hk,Bool.or_false,Kr,List.any_eq_false];intro x hx;rw[hall x hx];simp
   ·rw[if_neg (by intro hk;rw[hk] at h;simp at h)];exact h0
theorem KK:∀ (ps:List Nd),YP ps=false→∀ q∈Qd ps,Zw q=false
 | [],_,q,hq=>by cases hq
 | p::ps,h,q,hq=>by
  rw[YP,Bool.or_eq_false_iff] at h;rw[Qd] at hq;rcases List.mem_cons.1 hq with hq|hq
  ·rw[hq];exact Qdj p h.1
  ·exact KK ps h.2 q hq
end
def onE (nx sc:Nat) (g:Eg):Prop:=nx < g.1∧g.1 < g.2.to∧g.2.keep=sc∧g.2.again=false
structure WkPl (nx sc:Nat) (L:List (Eg × Int)) (x:Nds):Prop where
 le:nx≤x.next
 f:∀ p∈x.first,nx < p∧p≤x.next
 l:∀ p∈x.last,nx < p∧p≤x.next
 e:∀ g,isE g x.L→isE g L∨onE nx sc g
mutual
theorem Qj7:∀ (n:Nd) (sc nx:Nat) (L:List (Eg × Int)),Zw n=false→WkPl nx sc L (wk n sc nx L)
 | .mk k s ps lo hi,sc,nx,L,h=>by
  rw[Zw,Bool.or_eq_false_iff] at h;have h4:k≠4:=by simpa using h.2
  rw[wk];simp only[if_neg h4];split
  ·split
   ·exact⟨Nat.le_refl _,SM,SM,fun g h=>.inl h⟩
   ·exact⟨Nat.le_succ _,SM,SM,fun g h=>.inl h⟩
  ·split
   ·exact Qf6 ps sc _ nx L h.1 ⟨Nat.le_refl _,SM,SM,fun g h=>.inl h⟩
   ·split
    ·exact QgI ps sc _ nx L h.1 ⟨Nat.le_refl _,SM,SM,fun g h=>.inl h⟩
    ·first|(rw[if_neg h4];exact⟨Nat.le_refl _,SM,SM,fun g h=>.inl h⟩)|exact⟨Nat.le_refl _,SM,SM,fun g h=>.inl h⟩
theorem Qf6:∀ (ps:List Nd) (sc:Nat) (y:Nds) (nx:Nat) (L:List (Eg × Int)),YP ps=false→WkPl nx sc L y→WkPl nx sc L (wkC ps sc y)
 | [],sc,y,nx,L,_,h=>by rw[wkC];exact h
 | p::ps,sc,y,nx,L,ht,h=>by
  rw[YP,Bool.or_eq_false_iff] at ht;rw[wkC];have ih:=Qj7 p sc y.next y.L ht.1;have h1:=h.le;have h2:=ih.le;refine Qf6 ps sc _ nx L ht.2 ⟨by dsimp only;omega,?_,?_,fun g hg=>?_⟩
  ·dsimp only;split
   ·intro q hq;rcases List.mem_append.1 hq with hq|hq
    ·have:=h.f q hq;omega
    ·have:=ih.f q hq;omega
   ·intro q hq;have:=h.f q hq;omega
  ·dsimp only;split
   ·intro q hq;rcases List.mem_append.1 hq with hq|hq
    ·have:=h.l q hq;omega
    ·have:=ih.l q hq;omega
   ·intro q hq;have:=ih.l q hq;omega
  ·rcases Yf.1 hg with⟨a,ha,b,hb,rfl⟩|hg
   ·have e1:=h.l a ha;have e2:=ih.f b hb;exact .inr ⟨e1.1,show a < b by omega,rfl,rfl⟩
   ·rcases ih.e g hg with hg|⟨e1,e2,e3,e4⟩
    ·exact h.e g hg
    ·exact .inr ⟨OM,e2,e3,e4⟩
theorem QgI:∀ (ps:List Nd) (sc:Nat) (y:Nds) (nx:Nat) (L:List (Eg × Int)),YP ps=false→WkPl nx sc L y→WkPl nx sc L (wkA ps sc y)
 | [],sc,y,nx,L,_,h=>by rw[wkA];exact h
 | p::ps,sc,y,nx,L,ht,h=>by
  rw[YP,Bool.or_eq_false_iff] at ht;rw[wkA];have ih:=Qj7 p sc y.next y.L ht.1;have h1:=h.le;have h2:=ih.le;refine QgI ps sc _ nx L ht.2 ⟨by dsimp only;omega,fun q hq=>?_,fun q hq=>?_,fun g hg=>?_⟩
  ·rcases List.mem_append.1 hq with hq|hq
   ·have:=h.f q hq;dsimp only;omega
   ·have:=ih.f q hq;dsimp only;omega
  ·rcases List.mem_append.1 hq with hq|hq
   ·have:=h.l q hq;dsimp only;omega
   ·have:=ih.l q hq;dsimp only;omega
  ·rcases ih.e g hg with hg|⟨e1,e2,e3,e4⟩
   ·exact h.e g hg
   ·exact .inr ⟨OM,e2,e3,e4⟩
end
mutual
theorem QfE:∀ (n:Nd) (ar:List Nat) (q:Pl),Zw n=false→(Qm n ar q).scopes=q.scopes
 | .mk k s ps lo hi,ar,q,h=>by
  rw[Zw,Bool.or_eq_false_iff] at h;have hc:cnts k lo hi=false:=by simp [cnts,h.2]
  rw[Qm,Vk ps _ _ h.1,hc];rfl
theorem Vk:∀ (ps:List Nd) (ar:List Nat) (q:Pl),YP ps=false→(QC ps ar q).scopes=q.scopes
 | [],_,_,_=>by rw[QC]
 | p::ps,ar,q,h=>by
  rw[YP,Bool.or_eq_false_iff] at h;rw[QC,Vk ps _ _ h.2,QfE p _ _ h.1]
end
mutual
def full:Nd→Bool
 | .mk k s ps lo hi=>!QG (.mk k s ps lo hi)&&Qfq ps
def Qfq:List Nd→Bool
 | []=>true
 | p::ps=>full p&&Qfq ps
end
def H0 (ps:List Nd):Qfq ps=ps.all full:=by
 induction ps with
 | nil=>rfl
 | cons p ps ih=>simp [Qfq,ih]
def V2 {p:Nd} (h:full p=true):QG p=false:=by
 cases p;rw[full,Bool.and_eq_true] at h;simpa using h.1
def Ki {lo hi:Int} (h:full (.mk k s ps lo hi)=true):∀ p∈ps,full p=true:=by
 rw[full,Bool.and_eq_true,H0] at h;exact List.all_eq_true.1 h.2
def Dm {lo hi:Int} (hv:QG (.mk k s ps lo hi)=false) (h:∀ p∈ps,full p=true):full (.mk k s ps lo hi)=true:=by
 rw[full,hv,H0,List.all_eq_true.2 h];rfl
def HM (h:∀ p∈ps,full p=true):Z7 ps=false:=by
 induction ps with
 | nil=>rfl
 | cons p ps ih=>rw[Z7,V2 (h p SM),ih fun q hq=>h q (by simp [hq])];rfl
def okp (p:Nd):Prop:=full p=true∨p=.mk 1 zSet [] 0 0
mutual
theorem Qd4 (k:Int) (hk:k=2∨k=3):∀ (l:List Nd) (p:Nd),(if k=3 then okp p else full p=true)→(∀ q∈l,full q=true)→∀ q∈put1 k l p,full q=true
 | l,.mk k2 s ps lo hi,hp,hl=>by
  have hp3:okp (.mk k2 s ps lo hi):=by split at hp;exact hp;exact .inl hp
  rw[put1];split
  ·rename_i h2;have hf:full (.mk k2 s ps lo hi)=true:=by
    rcases hp3 with h|h
    ·exact h
    ·exfalso;injection h with h1;rw[h1] at h2;omega
   refine Xw k hk l ps (fun q hq=>?_) hl
   have:=Ki hf q hq
   split
   ·exact .inl this
   ·exact this
  ·split
   ·exact hl
   ·split
    ·exact hl
    ·rename_i h3;intro q hq;rcases List.mem_append.1 hq with h|h
     ·exact hl q h
     ·simp at h;rw[h];by_cases hk3:k=3
      ·rcases hp3 with h|h
       ·exact h
       ·exfalso;apply h3;refine⟨hk3,?_⟩;rw[h];rfl
      ·rw[if_neg hk3] at hp;exact hp
theorem Xw (k:Int) (hk:k=2∨k=3):∀ (l ps:List Nd),(∀ p∈ps,if k=3 then okp p else full p=true)→(∀ q∈l,full q=true)→∀ q∈putL k l ps,full q=true
 | l,[],_,hl=>by rw[putL];exact hl
 | l,p::ps,hp,hl=>by
  rw[putL];exact Xw k hk _ ps (fun q hq=>hp q (by simp [hq])) (Qd4 k hk l p (hp p SM) hl)
end
def QbJ (hk:k=2∨k=3) {M:List Nd} (h:∀ q∈M,full q=true):full (oneN k M)=true:=by
 match M,h with
 | [],_=>rfl
 | [p],h=>exact h p SM
 | p::q::M,h =>
  refine Dm (k:=k) (ps:=p::q::M) ?_ h;rcases hk with rfl|rfl
  ·rw[QG];simp only[show ¬ ((2:Int)=1) by decide,if_false,if_true];exact HM h
  ·rw[QG];simp only[show ¬ ((3:Int)=1) by decide,show ¬ ((3:Int)=2) by decide,if_false,if_true];rw[Ym,V2 (h p SM)];rfl
mutual
theorem V6:∀ (n:Nd),Qg n=true→QG n=false→full (Qb n)=true
 | .mk k s ps lo hi,hf,hv=>by
  rw[Qg,Bool.and_eq_true] at hf;rw[Qb,if_neg (by rw[hv];simp)];split
  ·rename_i hk;refine QbJ hk (Xw k hk [] (Qd ps) (fun q hq=>?_) SM);obtain⟨p,hp,rfl⟩:=WM ps q hq
   have:=Jb ps hf.2 p hp
   split
   ·rcases hvp:QG p with _|_
    ·exact .inl (this hvp)
    ·right;cases p;rw[Qb,if_pos hvp]
   ·rename_i h3;have hk2:k=2:=by omega
    subst hk2;refine this ?_;rw[QG] at hv;simp only[show ¬ ((2:Int)=1) by decide,if_false,if_true] at hv;rw[Jx,List.any_eq_false] at hv;simpa using hv p hp
  ·split
   ·rename_i h4;subst h4;have hl1:ps.length=1:=by
     have:=hf.1;simp [Qh] at this;exact this.1.1.1.2
    obtain⟨p,rfl⟩:=List.length_eq_one_iff.1 hl1;have ih:=Jb [p] hf.2 p SM;rw[Y8,Yu];cases h1:(hi==0)<;>simp only[cond_true,cond_false]
    ·cases h2:((Qb p).kind==0)<;>simp only[cond_true,cond_false]
     ·cases h3:QG (Qb p)<;>simp only[cond_true,cond_false]
      ·have hnp:QG p=false:=by
        rcases hvp:QG p with _|_
        ·rfl
        ·exfalso
         have:Qb p=.mk 1 zSet [] 0 0:=by cases p;rw[Qb,if_pos hvp]
         rw[this] at h3;cases h3
       have hfp:=ih hnp;have hm:∀ lo':Int,full (.mk 4 zSet [Qb p] lo' hi)=true:=fun lo'=>Dm (by
        rw[QG];simp only[show ¬ ((4:Int)=1) by decide,show ¬ ((4:Int)=2) by decide,show ¬ ((4:Int)=3) by decide,if_false,if_true,J8,h3,Bool.and_false]) (by simpa using hfp)
       cases (lo==1)<;>simp only[cond_true,cond_false]
       ·exact hm _
       ·cases (hi==1)<;>simp only[cond_true,cond_false]
        ·exact hm _
        ·exact hfp
      ·rfl
     ·rfl
    ·rfl
   ·rename_i h23 h4;refine Dm hv fun p hp=>?_
    have:ps=[]:=by
     have h:=hf.1;unfold Qh at h;by_cases h0:k=0
     ·simp [h0] at h;exact h.2
     ·by_cases h1:k=1
      ·simp [h1] at h;exact h.2
      ·simp [h0,h1,h23,h4] at h
    rw[this] at hp;cases hp
theorem Jb:∀ (ps:List Nd),Qc ps=true→∀ p∈ps,QG p=false→full (Qb p)=true
 | [],_,p,hp,_=>by cases hp
 | q::ps,hf,p,hp,hv=>by
  rw[Qc,Bool.and_eq_true] at hf;rcases List.mem_cons.1 hp with hp|hp
  ·rw[hp] at hv ⊢;exact V6 q hf.1 hv
  ·exact Jb ps hf.2 p hp hv
theorem WM:∀ (ps:List Nd),∀ q∈Qd ps,∃ p∈ps,q=Qb p
 | [],q,hq=>by cases hq
 | p::ps,q,hq=>by
  rw[Qd] at hq;rcases List.mem_cons.1 hq with hq|hq
  ·exact⟨p,SM,hq⟩
  ·obtain⟨p',h1,h2⟩:=WM ps q hq
   exact⟨p',by simp [h1],h2⟩
end
structure WkRe (nx:Nat) (L:List (Eg × Int)) (x:Nds):Prop where
 le:nx≤x.next
 keep:∀ g,isE g L→isE g x.L
 inn:∀ p,nx < p→p≤x.next→p∈x.first∨∃ a k b,isE (a,⟨p,k,b⟩) x.L
 out:∀ p,nx < p→p≤x.next→p∈x.last∨∃ m,isE (p,m) x.L
def XU {to:List Nat} {k:Nat} {c:Nat} (ha:a∈fr) (hc:c∈to):isE (a,⟨c,k,b⟩) (lnk fr to k b L):=Yf.2 (.inl ⟨a,ha,c,hc,rfl⟩)
def QV {to:List Nat} {k:Nat} {g:Eg} (h:isE g L):isE g (lnk fr to k b L):=Yf.2 (.inr h)
mutual
theorem QiP:∀ (n:Nd) (sc nx:Nat) (L:List (Eg × Int)),Qg n=true→full n=true→WkRe nx L (wk n sc nx L)∧(wk n sc nx L).empty=Q0 n∧(Q0 n=false→(wk n sc nx L).first≠[]∧(wk n sc nx L).last≠[])
 | .mk k s ps lo hi,sc,nx,L,hf,hfu=>by
  have hv:=V2 hfu;have hpar:=Ki hfu;rw[Qg,Bool.and_eq_true] at hf;rw[wk,Q0];by_cases h1:k=1
  ·subst h1;simp only[if_true];have he:Qt s=false:=by rw[QG] at hv;simpa using hv
   rw[he];simp only[Bool.false_eq_true,if_false]
   exact⟨⟨Nat.le_succ _,fun g h=>h,fun p (h1:nx < p) (h2:p≤nx+1)=>.inl (by simp;omega),fun p (h1:nx < p) (h2:p≤nx+1)=>.inl (by simp;omega)⟩,by trivial,fun _=>by simp⟩
  ·by_cases h2:k=2
   ·subst h2;simp only[h1,if_false,if_true];have h:=Qgq ps sc ⟨[],[],true,nx,L⟩ nx L hf.2 hpar ⟨Nat.le_refl _,fun g h=>h,fun p (h1:nx < p) (h2:p≤nx)=>by omega,fun p (h1:nx < p) (h2:p≤nx)=>by omega⟩ (fun h=>by cases h)
    refine⟨h.1,by rw[h.2.1];simp,fun hn=>h.2.2 (by simpa using hn)⟩
   ·by_cases h3:k=3
    ·subst h3;simp only[h1,h2,if_false,if_true];have h:=QfS ps sc ⟨[],[],false,nx,L⟩ nx L hf.2 hpar ⟨Nat.le_refl _,fun g h=>h,fun p (h1:nx < p) (h2:p≤nx)=>by omega,fun p (h1:nx < p) (h2:p≤nx)=>by omega⟩
     refine⟨h.1,by rw[h.2.1];simp,fun hn=>h.2.2 (by simpa using hn) (.inl ?_)⟩
     intro h0;have:=hf.1;simp [Qh,h0] at this
    ·by_cases h4:k=4
     ·subst h4;have hl1:ps.length=1:=by
       have:=hf.1;simp [Qh] at this;exact this.1.1.1.2
      obtain⟨p,rfl⟩:=List.length_eq_one_iff.1 hl1;have hfp:Qg p=true:=by have:=hf.2;rw[Qc,Qc] at this;simpa using this
      simp only[h1,h2,h3,if_false,if_true,wkH,YQ];obtain⟨g1,g2,g3⟩:=QiP p (if cnts 4 lo hi then sc+1 else sc) nx L hfp (hpar p SM);generalize wk p (if cnts 4 lo hi then sc+1 else sc) nx L=x at g1 g2 g3
      refine⟨⟨g1.le,fun g h=>?_,fun q a b=>?_,fun q a b=>?_⟩,?_,fun hn=>?_⟩
      ·dsimp only;split
       ·exact g1.keep g h
       ·exact QV (g1.keep g h)
      ·rcases g1.inn q a b with h|⟨a',k',b',h⟩
       ·exact .inl h
       ·right;refine⟨a',k',b',?_⟩;dsimp only;split
        ·exact h
        ·exact QV h
      ·rcases g1.out q a b with h|⟨m,h⟩
       ·exact .inl h
       ·right;refine⟨m,?_⟩;dsimp only;split
        ·exact h
        ·exact QV h
      ·first|rfl|trivial|(rw[Q0];simp only[h1,h2,h3,if_false,if_true,YQ])
      ·rw[Bool.or_eq_false_iff] at hn;exact g3 hn.2
     ·simp only[h1,h2,h3,h4,if_false]
      exact⟨⟨Nat.le_refl _,fun g h=>h,fun p (h1:nx < p) (h2:p≤nx)=>by omega,fun p (h1:nx < p) (h2:p≤nx)=>by omega⟩,by trivial,fun h=>by cases h⟩
theorem Qgq:∀ (ps:List Nd) (sc:Nat) (y:Nds) (nx:Nat) (L:List (Eg × Int)),Qc ps=true→(∀ p∈ps,full p=true)→WkRe nx L y→(y.empty=false→y.first≠[]∧y.last≠[]) →
  WkRe nx L (wkC ps sc y)∧(wkC ps sc y).empty=(y.empty&&ZK ps)∧((y.empty&&ZK ps)=false→(wkC ps sc y).first≠[]∧(wkC ps sc y).last≠[])
 | [],sc,y,nx,L,_,_,h,hne=>by rw[wkC,ZK,Bool.and_true];exact⟨h,rfl,hne⟩
 | p::ps,sc,y,nx,L,hf,hfu,h,hne=>by
  rw[Qc,Bool.and_eq_true] at hf;obtain⟨g1,g2,g3⟩:=QiP p sc y.next y.L hf.1 (hfu p SM);rw[wkC];generalize wk p sc y.next y.L=x at g1 g2 g3;have hle:=h.le;have hle2:=g1.le;have hxe:x.empty=false→x.first≠[]∧x.last≠[]:=fun hh=>g3 (by rw[← g2];exact hh);have ih:=Qgq ps sc ⟨if y.empty then y.first++x.first else y.first,if x.empty then y.last++x.last else x.last,y.empty&&x.empty,x.next,lnk y.last x.first sc false x.L⟩ nx L hf.2 (fun q hq=>hfu q (by simp [hq])) ⟨by dsimp only;omega,fun g hg=>QV (g1.keep g (h.keep g hg)),fun q a b=>?_,fun q a b=>?_⟩ (fun hh=>?_)
  ·rw[ZK]
   refine⟨ih.1,by rw[ih.2.1,g2];simp [Bool.and_assoc],fun hh=>ih.2.2 ?_⟩
   dsimp only;rw[g2,Bool.and_assoc];exact hh
  ·dsimp only at b ⊢;by_cases hq:q≤y.next
   ·rcases h.inn q a hq with hi|⟨a',k',b',hi⟩
    ·left;split
     ·exact List.mem_append_left _ hi
     ·exact hi
    ·exact .inr ⟨a',k',b',QV (g1.keep _ hi)⟩
   ·rcases g1.inn q OM b with hi|⟨a',k',b',hi⟩
    ·cases hye:y.empty with
     | true=>left;simp only[if_true];exact List.mem_append_right _ hi
     | false =>
      obtain⟨a',ha'⟩:=List.exists_mem_of_ne_nil _ (hne hye).2;exact .inr ⟨a',sc,false,XU ha' hi⟩
    ·exact .inr ⟨a',k',b',QV hi⟩
  ·dsimp only at b ⊢;by_cases hq:q≤y.next
   ·rcases h.out q a hq with hi|⟨m,hi⟩
    ·cases hxe2:x.empty with
     | true=>left;simp only[if_true];exact List.mem_append_left _ hi
     | false =>
      obtain⟨c,hc⟩:=List.exists_mem_of_ne_nil _ (hxe hxe2).1;exact .inr ⟨⟨c,sc,false⟩,XU hi hc⟩
    ·exact .inr ⟨m,QV (g1.keep _ hi)⟩
   ·rcases g1.out q OM b with hi|⟨m,hi⟩
    ·left;split
     ·exact List.mem_append_right _ hi
     ·exact hi
    ·exact .inr ⟨m,QV hi⟩
  ·dsimp only at hh ⊢;cases hye:y.empty with
   | false =>
    have:=hne hye
    refine⟨by simpa using this.1,?_⟩
    cases hxe2:x.empty with
    | true=>simp [this.2]
    | false=>simpa using (hxe hxe2).2
   | true =>
    rw[hye,Bool.true_and] at hh
    have:=hxe hh
    refine⟨by simp [this.1],by rw[hh];simpa using this.2⟩
theorem QfS:∀ (ps:List Nd) (sc:Nat) (y:Nds) (nx:Nat) (L:List (Eg × Int)),Qc ps=true→(∀ p∈ps,full p=true)→WkRe nx L y →
  WkRe nx L (wkA ps sc y)∧(wkA ps sc y).empty=(y.empty||Zz ps)∧((y.empty||Zz ps)=false→(ps≠[]∨(y.first≠[]∧y.last≠[]))→(wkA ps sc y).first≠[]∧(wkA ps sc y).last≠[])
 | [],sc,y,nx,L,_,_,h=>by
  rw[wkA,Zz,Bool.or_false]
  refine⟨h,rfl,fun _ hh=>?_⟩
  rcases hh with hh|hh
  ·exact absurd rfl hh
  ·exact hh
 | p::ps,sc,y,nx,L,hf,hfu,h=>by
  rw[Qc,Bool.and_eq_true] at hf;obtain⟨g1,g2,g3⟩:=QiP p sc y.next y.L hf.1 (hfu p SM);rw[wkA];generalize wk p sc y.next y.L=x at g1 g2 g3;have hle:=h.le;have hle2:=g1.le;have ih:=QfS ps sc ⟨y.first++x.first,y.last++x.last,y.empty||x.empty,x.next,x.L⟩ nx L hf.2 (fun q hq=>hfu q (by simp [hq])) ⟨by dsimp only;omega,fun g hg=>g1.keep g (h.keep g hg),fun q a b=>?_,fun q a b=>?_⟩
  ·rw[Zz]
   refine⟨ih.1,by rw[ih.2.1,g2];simp [Bool.or_assoc],fun hh _=>ih.2.2 (by dsimp only;rw[g2,Bool.or_assoc];exact hh) (.inr ?_)⟩
   simp only[Bool.or_eq_false_iff] at hh
   have:=g3 hh.2.1
   exact⟨by simp [this.1],by simp [this.2]⟩
  ·dsimp only at b ⊢;by_cases hq:q≤y.next
   ·rcases h.inn q a hq with hi|⟨a',k',b',hi⟩
    ·exact .inl (List.mem_append_left _ hi)
    ·exact .inr ⟨a',k',b',g1.keep _ hi⟩
   ·rcases g1.inn q OM b with hi|hi
    ·exact .inl (List.mem_append_right _ hi)
    ·exact .inr hi
  ·dsimp only at b ⊢;by_cases hq:q≤y.next
   ·rcases h.out q a hq with hi|⟨m,hi⟩
    ·exact .inl (List.mem_append_left _ hi)
    ·exact .inr ⟨m,g1.keep _ hi⟩
   ·rcases g1.out q OM b with hi|hi
    ·exact .inl (List.mem_append_right _ hi)
    ·exact .inr hi
end
end Go.Proofs.YtocmjakchgcioaaGreat
