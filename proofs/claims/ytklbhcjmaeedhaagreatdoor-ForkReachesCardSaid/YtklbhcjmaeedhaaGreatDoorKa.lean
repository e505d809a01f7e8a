import Derived.Test.YtklbhcjmaeedhaaGreatDoorKk

namespace Go.Proofs.YtklbhcjmaeedhaaGreatDoor
set_option linter.all false
variable {k:Int} {α:Type} {a:Nat} {b:Bool} {s:Nat→Nat} {ps:List Nd} {fr:List Nat}
structure Au where
 tree:Nd
 sets:List (Nat→Nat)
 scopes:List (Int × Int)
 around:List (List Nat)
 first:List Nat
 moves:List (List Mv)
 last:List Bool
 empty:Bool
def scC (s:Int × Int):List V:=[.i .i64 s.1,.i .i64 s.2]
def inC (n:Nat):List V:=[.i .i64 n]
def boC (b:Bool):List V:=[.bo b]
def lsC (l:List Nat):List V:=[.sl (l.map inC)]
def mlC (l:List Mv):List V:=[.sl (l.map mvC)]
def mpC (t:Nd) (sets:List (Nat→Nat)) (scopes:List (Int × Int)) (around:List (List Nat)):List V:=cel t++[.sl (sets.map u4),.sl (scopes.map scC),.sl (around.map lsC)]
def auC (a:Au):List V:=mpC a.tree a.sets a.scopes a.around++[.sl (a.first.map inC),.sl (a.moves.map mlC),.sl (a.last.map boC),.bo a.empty]
def noA:Au:=⟨noN,[],[],[],[],[],[],false⟩
def low1 (lo:Int):Int:=if 1 < lo then lo else 1
def cnts (k lo hi:Int):Bool:=k==4&&(decide (hi > 1)||(hi == -1&&decide (low1 lo > 1)))
structure Pl where
 sets:List (Nat→Nat)
 scopes:List (Int × Int)
 around:List (List Nat)
mutual
def Ql:Nd→List Nat→Pl→Pl
 | .mk k s ps lo hi,ar,q =>
  Qt ps (if cnts k lo hi then ar++[q.scopes.length] else ar)
   { sets:=if k=1∧Qq s=false then q.sets++[s] else q.sets,
     around:=if k=1∧Qq s=false then q.around++[ar] else q.around,
     scopes:=if cnts k lo hi then q.scopes++[(low1 lo,hi)] else q.scopes }
def Qt:List Nd→List Nat→Pl→Pl
 | [],_,q=>q
 | p::ps,ar,q=>Qt ps ar (Ql p ar q)
end
def plT (t:Nd):Pl:=Ql t [] ⟨[zSet],[],[[]]⟩
def plOk (q:Pl):Bool:=decide (q.sets.length≤41)&&!(q.around.any fun l=>decide (l.length > 4))
abbrev Eg:=Nat × Mv
variable {L:List (Eg × Int)}
def egV (x:Eg):V:=.ag (.i .i64 x.1::mvC x.2)
def incE (k:Eg) (L:List (Eg × Int)):List (Eg × Int) :=
 match L with
 | []=>[(k,1)]
 | (k',n)::l=>if k=k' then (k',IntKind.i64.wrap (n+1))::l else (k',n)::incE k l
def lnk1 (a:Nat) (to:List Nat) (keep:Nat) (again:Bool) (L:List (Eg × Int)):List (Eg × Int):=to.foldl (fun L b=>incE (a,⟨b,keep,again⟩) L) L
def lnk (fr to:List Nat) (keep:Nat) (again:Bool) (L:List (Eg × Int)):List (Eg × Int):=fr.foldl (fun L a=>lnk1 a to keep again L) L
structure Nds where
 first:List Nat
 last:List Nat
 empty:Bool
 next:Nat
 L:List (Eg × Int)
mutual
def wk:Nd→Nat→Nat→List (Eg × Int)→Nds
 | .mk k s ps lo hi,sc,nx,L =>
  if k=1 then (if Qq s then ⟨[],[],false,nx,L⟩ else ⟨[nx+1],[nx+1],false,nx+1,L⟩)
  else if k=2 then wkC ps sc ⟨[],[],true,nx,L⟩
  else if k=3 then wkA ps sc ⟨[],[],false,nx,L⟩
  else if k=4 then
   let x:=wkH ps (if cnts k lo hi then sc+1 else sc) nx L
   ⟨x.first,x.last,QU (.mk k s ps lo hi),x.next,if hi=1 then x.L else lnk x.last x.first sc (cnts k lo hi) x.L⟩
  else ⟨[],[],true,nx,L⟩
def wkC:List Nd→Nat→Nds→Nds
 | [],_,q=>q
 | p::ps,sc,q =>
  let x:=wk p sc q.next q.L
  wkC ps sc ⟨if q.empty then q.first++x.first else q.first,if x.empty then q.last++x.last else x.last,q.empty&&x.empty,x.next,lnk q.last x.first sc false x.L⟩
def wkA:List Nd→Nat→Nds→Nds
 | [],_,q=>q
 | p::ps,sc,q =>
  let x:=wk p sc q.next q.L
  wkA ps sc ⟨q.first++x.first,q.last++x.last,q.empty||x.empty,x.next,x.L⟩
def wkH:List Nd→Nat→Nat→List (Eg × Int)→Nds
 | [],_,nx,L=>⟨[],[],true,nx,L⟩
 | p::_,sc,nx,L=>wk p sc nx L
end
def Q8 (L:List (Eg × Int)) (p:Nat):List Mv:=(L.filter fun x=>x.1.1==p).map fun x=>x.1.2
def srtN (l:List Nat):List Nat:=l.mergeSort fun x y=>decide (x≤y)
def srtM (l:List Mv):List Mv:=l.mergeSort fun x y=>!(decide (ZL y x < 0))
def Qf (t:Nd):Au :=
 { tree:=t,sets:=(plT t).sets,scopes:=(plT t).scopes,around:=(plT t).around,first:=srtN (wk t 0 0 []).first,moves:=(List.range (plT t).sets.length).map fun p=>srtM (Q8 (wk t 0 0 []).L p),
   last:=(List.range (plT t).sets.length).map fun p=>(wk t 0 0 []).last.contains p,empty:=(wk t 0 0 []).empty }
theorem QaK {k x:Eg} {n:Int}:∀ {L:List (Eg × Int)},(x,n)∈incE k L→x=k∨∃ m,(x,m)∈L
 | [],h=>by simp [incE] at h;exact .inl h.1
 | (k',m)::L,h=>by
  simp only[incE] at h;split at h
  ·rename_i hk;rcases List.mem_cons.1 h with h|h
   ·cases h;exact .inr ⟨m,SM⟩
   ·exact .inr ⟨n,by simp [h]⟩
  ·rcases List.mem_cons.1 h with h|h
   ·cases h;exact .inr ⟨n,SM⟩
   ·rcases QaK h with h|⟨m',h⟩
    ·exact .inl h
    ·exact .inr ⟨m',by simp [h]⟩
theorem Qag (k:Eg):∀ (L:List (Eg × Int)),∃ n,(k,n)∈incE k L
 | []=>⟨1,by simp [incE]⟩
 | (k',m)::L=>by
  simp only[incE];split
  ·rename_i hk;exact⟨IntKind.i64.wrap (m+1),by rw[hk];simp⟩
  ·obtain⟨n,h⟩:=Qag k L;exact⟨n,by simp [h]⟩
theorem Vc {k x:Eg} {m:Int}:∀ {L:List (Eg × Int)},(x,m)∈L→∃ n,(x,n)∈incE k L
 | (k',m')::L,h=>by
  simp only[incE];split
  ·rcases List.mem_cons.1 h with h|h
   ·cases h;exact⟨_,List.mem_cons_self⟩
   ·exact⟨m,by simp [h]⟩
  ·rcases List.mem_cons.1 h with h|h
   ·cases h;exact⟨_,List.mem_cons_self⟩
   ·obtain⟨n,h⟩:=Vc (k:=k) h;exact⟨n,by simp [h]⟩
def isE (x:Eg) (L:List (Eg × Int)):Prop:=∃ n,(x,n)∈L
def QhC {k x:Eg}:isE x (incE k L)↔x=k∨isE x L :=
 ⟨fun ⟨_,h⟩=>QaK h,fun h=>by
  rcases h with rfl|⟨m,h⟩
  ·exact Qag x L
  ·exact Vc h⟩
theorem DX {a:Nat} {keep:Nat} {again:Bool} {x:Eg}:∀ {to:List Nat} {L:List (Eg × Int)},isE x (lnk1 a to keep again L)↔(∃ b∈to,x=(a,⟨b,keep,again⟩))∨isE x L
 | [],L=>by simp [lnk1]
 | b::to,L=>by
  rw[lnk1,List.foldl_cons]
  have:=DX (a:=a) (keep:=keep) (again:=again) (x:=x) (to:=to) (L:=incE (a,⟨b,keep,again⟩) L)
  rw[lnk1] at this;rw[this,QhC];simp only[List.mem_cons,exists_eq_or_imp];constructor
  ·rintro (h|h|h)
   ·exact .inl (.inr h)
   ·exact .inl (.inl h)
   ·exact .inr h
  ·rintro ((h|h)|h)
   ·exact .inr (.inl h)
   ·exact .inl h
   ·exact .inr (.inr h)
theorem Yc {keep:Nat} {again:Bool} {x:Eg} {to:List Nat}:∀ {fr:List Nat} {L:List (Eg × Int)},isE x (lnk fr to keep again L)↔(∃ a∈fr,∃ b∈to,x=(a,⟨b,keep,again⟩))∨isE x L
 | [],L=>by simp [lnk]
 | a::fr,L=>by
  rw[lnk,List.foldl_cons]
  have:=Yc (keep:=keep) (again:=again) (x:=x) (to:=to) (fr:=fr) (L:=lnk1 a to keep again L)
  rw[lnk] at this;rw[this,DX];simp only[List.mem_cons,exists_eq_or_imp];constructor
  ·rintro (h|h|h)
   ·exact .inl (.inr h)
   ·exact .inl (.inl h)
   ·exact .inr h
  ·rintro ((h|h)|h)
   ·exact .inr (.inl h)
   ·exact .inl h
   ·exact .inr (.inr h)
def edOk (lo hi:Nat) (around:List (List Nat)) (x:Eg):Prop :=
 lo < x.1∧x.1≤hi∧lo < x.2.to∧x.2.to≤hi∧∃ l l' pre,around[x.1]?=some l∧around[x.2.to]?=some l'∧pre <+: l∧pre <+: l'∧pre.length=x.2.keep+(if x.2.again then 1 else 0)
structure WkOk (nx:Nat) (L:List (Eg × Int)) (ar:List Nat) (q:Pl) (x:Nds) (q':Pl):Prop where
 ls:q'.sets.length=x.next+1
 la:q'.around.length=x.next+1
 le:nx≤x.next
 ss:q.sets <+: q'.sets
 sa:q.around <+: q'.around
 sc:q.scopes <+: q'.scopes
 pre:∀ i,nx < i→i≤x.next→∃ l,q'.around[i]?=some l∧ar <+: l
 f:∀ p∈x.first,nx < p∧p≤x.next
 l:∀ p∈x.last,nx < p∧p≤x.next
 e:∀ g,isE g x.L→isE g L∨edOk nx x.next q'.around g
theorem edOk.up {lo hi lo' hi':Nat} {ar ar':List (List Nat)} {x:Eg} (h:edOk lo hi ar x) (h1:lo'≤lo) (h2:hi≤hi') (h3:ar <+: ar'):edOk lo' hi' ar' x:=by
 obtain⟨a,b,c,d,l,l',p,e,f,g⟩:=h;have up:∀ {i:Nat} {l:List Nat},ar[i]?=some l→ar'[i]?=some l:=fun {i l} hh=>by
  obtain⟨t,rfl⟩:=h3;rw[List.getElem?_append_left (List.getElem?_eq_some_iff.1 hh).1];exact hh
 exact⟨OM,OM,OM,OM,l,l',p,up e,up f,g⟩
def Zb {l l':List α} (h:l <+: l') {i:Nat} {x:α} (hh:l[i]?=some x):l'[i]?=some x:=by
 obtain⟨t,rfl⟩:=h;rw[List.getElem?_append_left (List.getElem?_eq_some_iff.1 hh).1];exact hh
def V6 {lo hi:Nat} {ar:List (List Nat)} {b keep:Nat} {again:Bool} {p:List Nat} (ha:lo < a∧a≤hi) (hb:lo < b∧b≤hi) (h:∀ i,lo < i→i≤hi→∃ l,ar[i]?=some l∧p <+: l) (hp:p.length=keep+(if again then 1 else 0)):edOk lo hi ar (a,⟨b,keep,again⟩):=by
 obtain⟨l,h1,h2⟩:=h a ha.1 ha.2;obtain⟨l',h3,h4⟩:=h b hb.1 hb.2
 exact⟨ha.1,ha.2,hb.1,hb.2,l,l',p,h1,h3,h2,h4,hp⟩
def Ya {a b c:List α} (h1:a <+: b) (h2:b <+: c):a <+: c:=List.IsPrefix.trans h1 h2
mutual
theorem Xq:∀ (n:Nd) (nx:Nat) (L:List (Eg × Int)) (ar:List Nat) (q:Pl),Qe n=true→q.sets.length=nx+1→q.around.length=nx+1 →
  WkOk nx L ar q (wk n ar.length nx L) (Ql n ar q)
 | .mk k s ps lo hi,nx,L,ar,q,hf,hq1,hq2=>by
  rw[Qe,Bool.and_eq_true] at hf;have hnl:∀ (ar':List Nat) (q':Pl),ps=[]→Qt ps ar' q'=q':=fun ar' q' h=>by subst h;rfl
  by_cases h1:k=1
  ·subst h1;have hps:ps=[]:=by
    have:=hf.1;simp [Qk] at this;exact this.2
   have hc:cnts 1 lo hi=false:=rfl;rw[wk,Ql,hnl _ _ hps,hc];simp only[if_true,true_and,Bool.false_eq_true,if_false];cases he:Qq s with
   | true =>
    simp only[if_true,Bool.true_eq_false,if_false]
    exact⟨hq1,hq2,Nat.le_refl _,List.prefix_rfl,List.prefix_rfl,List.prefix_rfl,fun i (h1:nx < i) (h2:i≤nx)=>by omega,SM,SM,fun g h=>.inl h⟩
   | false =>
    simp only[Bool.false_eq_true,if_false,if_true]
    refine⟨by simp [hq1],by simp [hq2],Nat.le_succ _,List.prefix_append _ _,List.prefix_append _ _,List.prefix_rfl,fun i (h1:nx < i) (h2:i≤nx+1)=>⟨ar,?_,List.prefix_rfl⟩,SM,SM,fun g h=>.inl h⟩
    have:i=q.around.length:=by omega
    rw[this];simp
  ·have hs:(k=1∧Qq s=false)=False:=by simp [h1]
   by_cases h2:k=2
   ·subst h2;have hc:cnts 2 lo hi=false:=rfl;rw[wk,Ql,hc];simp only[h1,if_false,if_true,false_and,Bool.false_eq_true];exact Qf5 ps ar ⟨[],[],true,nx,L⟩ q nx L q hf.2 hq1 hq2 ⟨hq1,hq2,Nat.le_refl _,List.prefix_rfl,List.prefix_rfl,List.prefix_rfl,fun i (h1:nx < i) (h2:i≤nx)=>by omega,SM,SM,fun g h=>.inl h⟩
   ·by_cases h3:k=3
    ·subst h3;have hc:cnts 3 lo hi=false:=rfl;rw[wk,Ql,hc];simp only[h1,h2,if_false,if_true,false_and,Bool.false_eq_true];exact QfR ps ar ⟨[],[],false,nx,L⟩ q nx L q hf.2 hq1 hq2 ⟨hq1,hq2,Nat.le_refl _,List.prefix_rfl,List.prefix_rfl,List.prefix_rfl,fun i (h1:nx < i) (h2:i≤nx)=>by omega,SM,SM,fun g h=>.inl h⟩
    ·by_cases h4:k=4
     ·subst h4;have hl1:ps.length=1:=by
       have:=hf.1;simp [Qk] at this;exact this.1.1.1.2
      obtain⟨p,rfl⟩:=List.length_eq_one_iff.1 hl1;have hfp:Qe p=true:=by have:=hf.2;rw[Qc,Qc] at this;simpa using this
      rw[wk,Ql];simp only[h1,h2,h3,if_false,if_true,false_and,wkH,Qt];cases hc:cnts 4 lo hi with
      | false =>
       simp only[Bool.false_eq_true,if_false];have ih:=Xq p nx L ar q hfp hq1 hq2
       refine⟨ih.ls,ih.la,ih.le,ih.ss,ih.sa,ih.sc,ih.pre,ih.f,ih.l,fun g hg=>?_⟩
       split at hg
       ·exact ih.e g hg
       ·rcases Yc.1 hg with⟨a,ha,b,hb,rfl⟩|hg
        ·exact .inr (V6 (ih.l a ha) (ih.f b hb) ih.pre SM)
        ·exact ih.e g hg
      | true =>
       simp only[if_true];have ih:=Xq p nx L (ar++[q.scopes.length]) { q with scopes:=q.scopes++[(low1 lo,hi)] } hfp hq1 hq2;rw[List.length_append,List.length_cons,List.length_nil] at ih
       refine⟨ih.ls,ih.la,ih.le,ih.ss,ih.sa,Ya (List.prefix_append _ _) ih.sc,fun i h1 h2=>?_,ih.f,ih.l,fun g hg=>?_⟩
       ·obtain⟨l,e1,e2⟩:=ih.pre i h1 h2
        exact⟨l,e1,Ya (List.prefix_append _ _) e2⟩
       ·split at hg
        ·exact ih.e g hg
        ·rcases Yc.1 hg with⟨a,ha,b,hb,rfl⟩|hg
         ·exact .inr (V6 (ih.l a ha) (ih.f b hb) ih.pre SM)
         ·exact ih.e g hg
     ·have h0:k=0:=by
       have:=hf.1;unfold Qk at this
       by_cases h0:k=0
       ·exact h0
       ·simp [h0,h1,h2,h3,h4] at this
      subst h0;have hps:ps=[]:=by
       have:=hf.1;simp [Qk] at this;exact this.2
      have hc:cnts 0 lo hi=false:=rfl;rw[wk,Ql,hnl _ _ hps,hc];simp only[h1,h2,h3,h4,if_false,false_and,Bool.false_eq_true]
      exact⟨hq1,hq2,Nat.le_refl _,List.prefix_rfl,List.prefix_rfl,List.prefix_rfl,fun i (h1:nx < i) (h2:i≤nx)=>by omega,SM,SM,fun g h=>.inl h⟩
theorem Qf5:∀ (ps:List Nd) (ar:List Nat) (y:Nds) (q0:Pl) (nx:Nat) (L:List (Eg × Int)) (q:Pl),Qc ps=true→q0.sets.length=nx+1→q0.around.length=nx+1→WkOk nx L ar q0 y q →
  WkOk nx L ar q0 (wkC ps ar.length y) (Qt ps ar q)
 | [],ar,y,q0,nx,L,q,_,_,_,h=>by rw[wkC,Qt];exact h
 | p::ps,ar,y,q0,nx,L,q,hf,h1,h2,h=>by
  rw[Qc,Bool.and_eq_true] at hf;rw[wkC,Qt];have ih:=Xq p y.next y.L ar q hf.1 h.ls h.la;refine Qf5 ps ar _ q0 nx L _ hf.2 h1 h2 ?_;have hpre:∀ i,nx < i→i≤(wk p ar.length y.next y.L).next→∃ l,(Ql p ar q).around[i]?=some l∧ar <+: l:=fun i a b=>by
   by_cases hi:i≤y.next
   ·obtain⟨l,e1,e2⟩:=h.pre i a hi
    exact⟨l,Zb ih.sa e1,e2⟩
   ·exact ih.pre i OM b
  have hle:=h.le;have hle2:=ih.le;have hxf:∀ p'∈(wk p ar.length y.next y.L).first,nx < p'∧p'≤(wk p ar.length y.next y.L).next:=fun p' hp=>by have:=ih.f p' hp;omega
  have hxl:∀ p'∈(wk p ar.length y.next y.L).last,nx < p'∧p'≤(wk p ar.length y.next y.L).next:=fun p' hp=>by have:=ih.l p' hp;omega
  have hyf:∀ p'∈y.first,nx < p'∧p'≤(wk p ar.length y.next y.L).next:=fun p' hp=>by have:=h.f p' hp;omega
  have hyl:∀ p'∈y.last,nx < p'∧p'≤(wk p ar.length y.next y.L).next:=fun p' hp=>by have:=h.l p' hp;omega
  refine⟨ih.ls,ih.la,by dsimp only;omega,Ya h.ss ih.ss,Ya h.sa ih.sa,Ya h.sc ih.sc,hpre,?_,?_,fun g hg=>?_⟩
  ·dsimp only;split
   ·intro p' hp;rcases List.mem_append.1 hp with hp|hp
    ·exact hyf p' hp
    ·exact hxf p' hp
   ·exact hyf
  ·dsimp only;split
   ·intro p' hp;rcases List.mem_append.1 hp with hp|hp
    ·exact hyl p' hp
    ·exact hxl p' hp
   ·exact hxl
  ·rcases Yc.1 hg with⟨a,ha,b,hb,rfl⟩|hg
   ·exact .inr (V6 (hyl a ha) (hxf b hb) hpre SM)
   ·rcases ih.e g hg with hg|hg
    ·rcases h.e g hg with hg|hg
     ·exact .inl hg
     ·exact .inr (hg.up (Nat.le_refl _) hle2 ih.sa)
    ·exact .inr (hg.up hle (Nat.le_refl _) List.prefix_rfl)
theorem QfR:∀ (ps:List Nd) (ar:List Nat) (y:Nds) (q0:Pl) (nx:Nat) (L:List (Eg × Int)) (q:Pl),Qc ps=true→q0.sets.length=nx+1→q0.around.length=nx+1→WkOk nx L ar q0 y q →
  WkOk nx L ar q0 (wkA ps ar.length y) (Qt ps ar q)
 | [],ar,y,q0,nx,L,q,_,_,_,h=>by rw[wkA,Qt];exact h
 | p::ps,ar,y,q0,nx,L,q,hf,h1,h2,h=>by
  rw[Qc,Bool.and_eq_true] at hf;rw[wkA,Qt];have ih:=Xq p y.next y.L ar q hf.1 h.ls h.la;refine QfR ps ar _ q0 nx L _ hf.2 h1 h2 ?_;have hpre:∀ i,nx < i→i≤(wk p ar.length y.next y.L).next→∃ l,(Ql p ar q).around[i]?=some l∧ar <+: l:=fun i a b=>by
   by_cases hi:i≤y.next
   ·obtain⟨l,e1,e2⟩:=h.pre i a hi
    exact⟨l,Zb ih.sa e1,e2⟩
   ·exact ih.pre i OM b
  have hle:=h.le;have hle2:=ih.le
  refine⟨ih.ls,ih.la,by dsimp only;omega,Ya h.ss ih.ss,Ya h.sa ih.sa,Ya h.sc ih.sc,hpre,fun p' hp=>?_,fun p' hp=>?_,fun g hg=>?_⟩
  ·rcases List.mem_append.1 hp with hp|hp
   ·have:=h.f p' hp;dsimp only;omega
   ·have:=ih.f p' hp;dsimp only;omega
  ·rcases List.mem_append.1 hp with hp|hp
   ·have:=h.l p' hp;dsimp only;omega
   ·have:=ih.l p' hp;dsimp only;omega
  ·rcases ih.e g hg with hg|hg
   ·rcases h.e g hg with hg|hg
    ·exact .inl hg
    ·exact .inr (hg.up (Nat.le_refl _) hle2 ih.sa)
   ·exact .inr (hg.up hle (Nat.le_refl _) List.prefix_rfl)
end
def scOk (s:Int × Int):Prop:=1≤s.1∧s.1≤2147483647∧((s.2 = -1∧1 < s.1)∨(1 < s.2∧s.2≤2147483647∧s.1≤s.2))
structure PlOk (q:Pl):Prop where
 sc:∀ s∈q.scopes,scOk s
 ar:∀ l∈q.around,∀ i∈l,i < q.scopes.length
 w:∀ s∈q.sets,W64 s
def Qhq {n:Nat} {lo hi:Int} (h:Qk 4 s n lo hi=true) (hc:cnts 4 lo hi=true):scOk (low1 lo,hi):=by
 simp [Qk] at h;simp [cnts] at hc;unfold scOk low1 at *;dsimp only;split<;>split at hc<;>omega
mutual
theorem Qas:∀ (n:Nd) (ar:List Nat) (q:Pl),Qe n=true→Zv n→PlOk q→(∀ i∈ar,i < q.scopes.length)→PlOk (Ql n ar q)∧q.scopes.length≤(Ql n ar q).scopes.length
 | .mk k s ps lo hi,ar,q,hf,hs,hq,har=>by
  rw[Qe,Bool.and_eq_true] at hf;rw[Ql];have hsl:q.scopes.length≤(if cnts k lo hi then q.scopes++[(low1 lo,hi)] else q.scopes).length:=by split<;>simp
  have h:=H6 ps (if cnts k lo hi then ar++[q.scopes.length] else ar)
   { sets:=if k=1∧Qq s=false then q.sets++[s] else q.sets,
     around:=if k=1∧Qq s=false then q.around++[ar] else q.around,
     scopes:=if cnts k lo hi then q.scopes++[(low1 lo,hi)] else q.scopes } hf.2 ((QX ps).1 hs.2.2) ⟨fun x hx=>?_,fun l hl i hi=>?_,fun x hx=>?_⟩ (fun i hi=>?_)
  ·exact⟨h.1,by have:=h.2;dsimp only at this;omega⟩
  ·dsimp only at hx;split at hx
   ·rename_i hc;rcases List.mem_append.1 hx with hx|hx
    ·exact hq.sc x hx
    ·simp at hx;rw[hx];have hk:k=4:=by simp [cnts] at hc;exact hc.1
     subst hk;exact Qhq hf.1 hc
   ·exact hq.sc x hx
  ·dsimp only at hl ⊢;split at hl
   ·rcases List.mem_append.1 hl with hl|hl
    ·have:=hq.ar l hl i hi;omega
    ·simp at hl;subst hl;have:=har i hi;omega
   ·have:=hq.ar l hl i hi;omega
  ·dsimp only at hx;split at hx
   ·rcases List.mem_append.1 hx with hx|hx
    ·exact hq.w x hx
    ·simp at hx;rw[hx];exact hs.1
   ·exact hq.w x hx
  ·dsimp only;split at hi
   ·rename_i hc;rw[if_pos hc,List.length_append,List.length_cons,List.length_nil];rcases List.mem_append.1 hi with hi|hi
    ·have:=har i hi;omega
    ·simp at hi;omega
   ·rename_i hc;rw[if_neg hc];exact har i hi
theorem H6:∀ (ps:List Nd) (ar:List Nat) (q:Pl),Qc ps=true→(∀ p∈ps,Zv p)→PlOk q→(∀ i∈ar,i < q.scopes.length)→PlOk (Qt ps ar q)∧q.scopes.length≤(Qt ps ar q).scopes.length
 | [],ar,q,_,_,hq,_=>by rw[Qt];exact⟨hq,Nat.le_refl _⟩
 | p::ps,ar,q,hf,hs,hq,har=>by
  rw[Qc,Bool.and_eq_true] at hf;rw[Qt];have h1:=Qas p ar q hf.1 (hs p SM) hq har;have h2:=H6 ps ar (Ql p ar q) hf.2 (fun p' hp=>hs p' (by simp [hp])) h1.1 fun i hi=>Nat.lt_of_lt_of_le (har i hi) h1.2
  exact⟨h2.1,OM⟩
end
structure WF (a:Au):Prop where
 n:a.sets.length≤41
 n0:1≤a.sets.length
 la:a.around.length=a.sets.length
 lm:a.moves.length=a.sets.length
 ll:a.last.length=a.sets.length
 a0:a.around[0]?=some []
 a4:∀ l∈a.around,l.length≤4
 ai:∀ l∈a.around,∀ i∈l,i < a.scopes.length
 sc:∀ s∈a.scopes,scOk s
 f:∀ p∈a.first,0 < p∧p < a.sets.length
 mv:∀ p l,a.moves[p]?=some l→∀ m∈l,edOk 0 (a.sets.length - 1) a.around (p,m)
 w:∀ s∈a.sets,W64 s
def Xd {p:Nat} {m:Mv}:m∈Q8 L p↔isE (p,m) L:=by
 simp only[Q8,List.mem_map,List.mem_filter,beq_iff_eq,isE];constructor
 ·rintro⟨⟨⟨a,b⟩,n⟩,⟨h1,rfl⟩,rfl⟩;exact⟨n,h1⟩
 ·rintro⟨n,h⟩;exact⟨((p,m),n),⟨h,rfl⟩,rfl⟩
def wk0 (t:Nd) (hf:Qe t=true):WkOk 0 [] [] ⟨[zSet],[],[[]]⟩ (wk t 0 0 []) (plT t):=Xq t 0 [] [] ⟨[zSet],[],[[]]⟩ hf rfl rfl
def Qam (t:Nd) (hf:Qe t=true) (hs:Zv t) (hok:plOk (plT t)=true):WF (Qf t):=by
 have h:=wk0 t hf;have hp:=(Qas t [] ⟨[zSet],[],[[]]⟩ hf hs ⟨SM,SM,fun s hs=>by simp at hs;subst hs;exact fun j _=>(by decide:(0:Nat) < 18446744073709551616)⟩ SM).1;simp only[plOk,Bool.and_eq_true,decide_eq_true_eq,Bool.not_eq_true',List.any_eq_false,Nat.not_lt] at hok;have hl:=h.ls;have hla:=h.la
 refine⟨hok.1,by show 1≤(plT t).sets.length;omega,by show (plT t).around.length=(plT t).sets.length;omega,by simp [Qf],by simp [Qf],Zb h.sa rfl,fun l hl=>by have:=hok.2 l hl;omega,hp.ar,hp.sc,fun p hpm=>?_,fun p l hpl m hm=>?_,hp.w⟩
 ·have hm:p∈(wk t 0 0 []).first:=by simpa [Qf,srtN] using hpm
  have:=h.f p hm
  show 0 < p∧p < (plT t).sets.length;omega
 ·simp only[Qf,List.getElem?_map] at hpl;obtain⟨q,h1,rfl⟩:=Option.map_eq_some_iff.1 hpl;have hq:q=p:=by
   have:=(List.getElem?_eq_some_iff.1 h1).2
   simpa using this.symm
  subst hq;have hm2:m∈Q8 (wk t 0 0 []).L q:=by simpa [srtM] using hm
  rcases h.e _ (Xd.1 hm2) with⟨n,hh⟩|hh
  ·cases hh
  ·have e1:(Qf t).sets.length - 1=(wk t 0 0 []).next:=by show (plT t).sets.length - 1=_;omega
   rw[e1];exact hh
mutual
def Zq:Nd→Bool
 | .mk k _ ps _ _=>YM ps||k==4
def YM:List Nd→Bool
 | []=>false
 | p::ps=>Zq p||YM ps
end
def X6 (ps:List Nd):YM ps=ps.any Zq:=by
 induction ps with
 | nil=>rfl
 | cons p ps ih=>simp [YM,ih]
mutual
theorem Qh4 (k:Int):∀ (l:List Nd) (p:Nd),Zq p=false→(∀ q∈l,Zq q=false)→∀ q∈put1 k l p,Zq q=false
 | l,.mk k2 s ps lo hi,hp,hl=>by
  rw[put1];split
  ·rw[Zq,Bool.or_eq_false_iff] at hp;exact VJ k l ps (fun q hq=>by have:=hp.1;rw[X6,List.any_eq_false] at this;simpa using this q hq) hl
  ·split
   ·exact hl
   ·split
    ·exact hl
    ·intro q hq;rcases List.mem_append.1 hq with h|h
     ·exact hl q h
     ·simp at h;rw[h];exact hp
theorem VJ (k:Int):∀ (l ps:List Nd),(∀ p∈ps,Zq p=false)→(∀ q∈l,Zq q=false)→∀ q∈putL k l ps,Zq q=false
 | l,[],_,hl=>by rw[putL];exact hl
 | l,p::ps,hp,hl=>by
  rw[putL];exact VJ k _ ps (fun q hq=>hp q (by simp [hq])) (Qh4 k l p (hp p SM) hl)
end
mutual
theorem QcL:∀ (n:Nd),Zq n=false→Zq (Qb n)=false
 | .mk k s ps lo hi,h=>by
  have h0:=h;rw[Zq,Bool.or_eq_false_iff] at h;rw[Qb];split
  ·rfl
  ·split
   ·have hk:(k==4)=false:=h.2;have hall:=VJ k [] (Qd ps) (Kg ps h.1) SM;generalize putL k [] (Qd ps)=M at hall
    match M,hall with
    | [],_=>rfl
    | [p],hall=>exact hall p SM
    | p::q::M,hall =>
     show Zq (.mk k zSet (p::q::M) 0 0)=false;rw[Zq,hk,Bool.or_false,X6,List.any_eq_false];intro x hx;rw[hall x hx];simp
   ·rw[if_neg (by intro hk;rw[hk] at h;simp at h)];exact h0
theorem Kg:∀ (ps:List Nd),YM ps=false→∀ q∈Qd ps,Zq q=false
 | [],_,q,hq=>by cases hq
 | p::ps,h,q,hq=>by
  rw[YM,Bool.or_eq_false_iff] at h;rw[Qd] at hq;rcases List.mem_cons.1 hq with hq|hq
  ·rw[hq];exact QcL p h.1
  ·exact Kg ps h.2 q hq
end
def onE (nx sc:Nat) (g:Eg):Prop:=nx < g.1∧g.1 < g.2.to∧g.2.keep=sc∧g.2.again=false
structure WkPl (nx sc:Nat) (L:List (Eg × Int)) (x:Nds):Prop where
 le:nx≤x.next
 f:∀ p∈x.first,nx < p∧p≤x.next
 l:∀ p∈x.last,nx < p∧p≤x.next
 e:∀ g,isE g x.L→isE g L∨onE nx sc g
mutual
theorem Qjm:∀ (n:Nd) (sc nx:Nat) (L:List (Eg × Int)),Zq n=false→WkPl nx sc L (wk n sc nx L)
 | .mk k s ps lo hi,sc,nx,L,h=>by
  rw[Zq,Bool.or_eq_false_iff] at h;have h4:k≠4:=by simpa using h.2
  rw[wk];simp only[if_neg h4];split
  ·split
   ·exact⟨Nat.le_refl _,SM,SM,fun g h=>.inl h⟩
   ·exact⟨Nat.le_succ _,SM,SM,fun g h=>.inl h⟩
  ·split
   ·exact QfY ps sc _ nx L h.1 ⟨Nat.le_refl _,SM,SM,fun g h=>.inl h⟩
   ·split
    ·exact QfV ps sc _ nx L h.1 ⟨Nat.le_refl _,SM,SM,fun g h=>.inl h⟩
    ·first|(rw[if_neg h4];exact⟨Nat.le_refl _,SM,SM,fun g h=>.inl h⟩)|exact⟨Nat.le_refl _,SM,SM,fun g h=>.inl h⟩
theorem QfY:∀ (ps:List Nd) (sc:Nat) (y:Nds) (nx:Nat) (L:List (Eg × Int)),YM ps=false→WkPl nx sc L y→WkPl nx sc L (wkC ps sc y)
 | [],sc,y,nx,L,_,h=>by rw[wkC];exact h
 | p::ps,sc,y,nx,L,ht,h=>by
  rw[YM,Bool.or_eq_false_iff] at ht;rw[wkC];have ih:=Qjm p sc y.next y.L ht.1;have h1:=h.le;have h2:=ih.le;refine QfY ps sc _ nx L ht.2 ⟨by dsimp only;omega,?_,?_,fun g hg=>?_⟩
  ·dsimp only;split
   ·intro q hq;rcases List.mem_append.1 hq with hq|hq
    ·have:=h.f q hq;omega
    ·have:=ih.f q hq;omega
   ·intro q hq;have:=h.f q hq;omega
  ·dsimp only;split
   ·intro q hq;rcases List.mem_append.1 hq with hq|hq
    ·have:=h.l q hq;omega
    ·have:=ih.l q hq;omega
   ·intro q hq;have:=ih.l q hq;omega
  ·rcases Yc.1 hg with⟨a,ha,b,hb,rfl⟩|hg
   ·have e1:=h.l a ha;have e2:=ih.f b hb;exact .inr ⟨e1.1,show a < b by omega,rfl,rfl⟩
   ·rcases ih.e g hg with hg|⟨e1,e2,e3,e4⟩
    ·exact h.e g hg
    ·exact .inr ⟨OM,e2,e3,e4⟩
theorem QfV:∀ (ps:List Nd) (sc:Nat) (y:Nds) (nx:Nat) (L:List (Eg × Int)),YM ps=false→WkPl nx sc L y→WkPl nx sc L (wkA ps sc y)
 | [],sc,y,nx,L,_,h=>by rw[wkA];exact h
 | p::ps,sc,y,nx,L,ht,h=>by
  rw[YM,Bool.or_eq_false_iff] at ht;rw[wkA];have ih:=Qjm p sc y.next y.L ht.1;have h1:=h.le;have h2:=ih.le;refine QfV ps sc _ nx L ht.2 ⟨by dsimp only;omega,fun q hq=>?_,fun q hq=>?_,fun g hg=>?_⟩
  ·rcases List.mem_append.1 hq with hq|hq
   ·have:=h.f q hq;dsimp only;omega
   ·have:=ih.f q hq;dsimp only;omega
  ·rcases List.mem_append.1 hq with hq|hq
   ·have:=h.l q hq;dsimp only;omega
   ·have:=ih.l q hq;dsimp only;omega
  ·rcases ih.e g hg with hg|⟨e1,e2,e3,e4⟩
   ·exact h.e g hg
   ·exact .inr ⟨OM,e2,e3,e4⟩
end
mutual
theorem Qea:∀ (n:Nd) (ar:List Nat) (q:Pl),Zq n=false→(Ql n ar q).scopes=q.scopes
 | .mk k s ps lo hi,ar,q,h=>by
  rw[Zq,Bool.or_eq_false_iff] at h;have hc:cnts k lo hi=false:=by simp [cnts,h.2]
  rw[Ql,HC ps _ _ h.1,hc];rfl
theorem HC:∀ (ps:List Nd) (ar:List Nat) (q:Pl),YM ps=false→(Qt ps ar q).scopes=q.scopes
 | [],_,_,_=>by rw[Qt]
 | p::ps,ar,q,h=>by
  rw[YM,Bool.or_eq_false_iff] at h;rw[Qt,HC ps _ _ h.2,Qea p _ _ h.1]
end
mutual
def full:Nd→Bool
 | .mk k s ps lo hi=>!QD (.mk k s ps lo hi)&&Qfb ps
def Qfb:List Nd→Bool
 | []=>true
 | p::ps=>full p&&Qfb ps
end
def Ht (ps:List Nd):Qfb ps=ps.all full:=by
 induction ps with
 | nil=>rfl
 | cons p ps ih=>simp [Qfb,ih]
def KW {p:Nd} (h:full p=true):QD p=false:=by
 cases p;rw[full,Bool.and_eq_true] at h;simpa using h.1
def Wh {lo hi:Int} (h:full (.mk k s ps lo hi)=true):∀ p∈ps,full p=true:=by
 rw[full,Bool.and_eq_true,Ht] at h;exact List.all_eq_true.1 h.2
def VS {lo hi:Int} (hv:QD (.mk k s ps lo hi)=false) (h:∀ p∈ps,full p=true):full (.mk k s ps lo hi)=true:=by
 rw[full,hv,Ht,List.all_eq_true.2 h];rfl
def Vn (h:∀ p∈ps,full p=true):ZU ps=false:=by
 induction ps with
 | nil=>rfl
 | cons p ps ih=>rw[ZU,KW (h p SM),ih fun q hq=>h q (by simp [hq])];rfl
def okp (p:Nd):Prop:=full p=true∨p=.mk 1 zSet [] 0 0
mutual
theorem QbO (k:Int) (hk:k=2∨k=3):∀ (l:List Nd) (p:Nd),(if k=3 then okp p else full p=true)→(∀ q∈l,full q=true)→∀ q∈put1 k l p,full q=true
 | l,.mk k2 s ps lo hi,hp,hl=>by
  have hp3:okp (.mk k2 s ps lo hi):=by split at hp;exact hp;exact .inl hp
  rw[put1];split
  ·rename_i h2;have hf:full (.mk k2 s ps lo hi)=true:=by
    rcases hp3 with h|h
    ·exact h
    ·exfalso;injection h with h1;rw[h1] at h2;omega
   refine Xy k hk l ps (fun q hq=>?_) hl
   have:=Wh hf q hq
   split
   ·exact .inl this
   ·exact this
  ·split
   ·exact hl
   ·split
    ·exact hl
    ·rename_i h3;intro q hq;rcases List.mem_append.1 hq with h|h
     ·exact hl q h
     ·simp at h;rw[h];by_cases hk3:k=3
      ·rcases hp3 with h|h
       ·exact h
       ·exfalso;apply h3;refine⟨hk3,?_⟩;rw[h];rfl
      ·rw[if_neg hk3] at hp;exact hp
theorem Xy (k:Int) (hk:k=2∨k=3):∀ (l ps:List Nd),(∀ p∈ps,if k=3 then okp p else full p=true)→(∀ q∈l,full q=true)→∀ q∈putL k l ps,full q=true
 | l,[],_,hl=>by rw[putL];exact hl
 | l,p::ps,hp,hl=>by
  rw[putL];exact Xy k hk _ ps (fun q hq=>hp q (by simp [hq])) (QbO k hk l p (hp p SM) hl)
end
def QcB (hk:k=2∨k=3) {M:List Nd} (h:∀ q∈M,full q=true):full (oneN k M)=true:=by
 match M,h with
 | [],_=>rfl
 | [p],h=>exact h p SM
 | p::q::M,h =>
  refine VS (k:=k) (ps:=p::q::M) ?_ h;rcases hk with rfl|rfl
  ·rw[QD];simp only[show ¬ ((2:Int)=1) by decide,if_false,if_true];exact Vn h
  ·rw[QD];simp only[show ¬ ((3:Int)=1) by decide,show ¬ ((3:Int)=2) by decide,if_false,if_true];rw[Ye,KW (h p SM)];rfl
mutual
theorem Xn:∀ (n:Nd),Qe n=true→QD n=false→full (Qb n)=true
 | .mk k s ps lo hi,hf,hv=>by
  rw[Qe,Bool.and_eq_true] at hf;rw[Qb,if_neg (by rw[hv];simp)];split
  ·rename_i hk;refine QcB hk (Xy k hk [] (Qd ps) (fun q hq=>?_) SM);obtain⟨p,hp,rfl⟩:=Wv ps q hq
   have:=Y6 ps hf.2 p hp
   split
   ·rcases hvp:QD p with _|_
    ·exact .inl (this hvp)
    ·right;cases p;rw[Qb,if_pos hvp]
   ·rename_i h3;have hk2:k=2:=by omega
    subst hk2;refine this ?_;rw[QD] at hv;simp only[show ¬ ((2:Int)=1) by decide,if_false,if_true] at hv;rw[Jq,List.any_eq_false] at hv;simpa using hv p hp
  ·split
   ·rename_i h4;subst h4;have hl1:ps.length=1:=by
     have:=hf.1;simp [Qk] at this;exact this.1.1.1.2
    obtain⟨p,rfl⟩:=List.length_eq_one_iff.1 hl1;have ih:=Y6 [p] hf.2 p SM;rw[YU,Yn];cases h1:(hi==0)<;>simp only[cond_true,cond_false]
    ·cases h2:((Qb p).kind==0)<;>simp only[cond_true,cond_false]
     ·cases h3:QD (Qb p)<;>simp only[cond_true,cond_false]
      ·have hnp:QD p=false:=by
        rcases hvp:QD p with _|_
        ·rfl
        ·exfalso
         have:Qb p=.mk 1 zSet [] 0 0:=by cases p;rw[Qb,if_pos hvp]
         rw[this] at h3;cases h3
       have hfp:=ih hnp;have hm:∀ lo':Int,full (.mk 4 zSet [Qb p] lo' hi)=true:=fun lo'=>VS (by
        rw[QD];simp only[show ¬ ((4:Int)=1) by decide,show ¬ ((4:Int)=2) by decide,show ¬ ((4:Int)=3) by decide,if_false,if_true,JG,h3,Bool.and_false]) (by simpa using hfp)
       cases (lo==1)<;>simp only[cond_true,cond_false]
       ·exact hm _
       ·cases (hi==1)<;>simp only[cond_true,cond_false]
        ·exact hm _
        ·exact hfp
      ·rfl
     ·rfl
    ·rfl
   ·rename_i h23 h4;refine VS hv fun p hp=>?_
    have:ps=[]:=by
     have h:=hf.1;unfold Qk at h;by_cases h0:k=0
     ·simp [h0] at h;exact h.2
     ·by_cases h1:k=1
      ·simp [h1] at h;exact h.2
      ·simp [h0,h1,h23,h4] at h
    rw[this] at hp;cases hp
theorem Y6:∀ (ps:List Nd),Qc ps=true→∀ p∈ps,QD p=false→full (Qb p)=true
 | [],_,p,hp,_=>by cases hp
 | q::ps,hf,p,hp,hv=>by
  rw[Qc,Bool.and_eq_true] at hf;rcases List.mem_cons.1 hp with hp|hp
  ·rw[hp] at hv ⊢;exact Xn q hf.1 hv
  ·exact Y6 ps hf.2 p hp hv
theorem Wv:∀ (ps:List Nd),∀ q∈Qd ps,∃ p∈ps,q=Qb p
 | [],q,hq=>by cases hq
 | p::ps,q,hq=>by
  rw[Qd] at hq;rcases List.mem_cons.1 hq with hq|hq
  ·exact⟨p,SM,hq⟩
  ·obtain⟨p',h1,h2⟩:=Wv ps q hq
   exact⟨p',by simp [h1],h2⟩
end
structure WkRe (nx:Nat) (L:List (Eg × Int)) (x:Nds):Prop where
 le:nx≤x.next
 keep:∀ g,isE g L→isE g x.L
 inn:∀ p,nx < p→p≤x.next→p∈x.first∨∃ a k b,isE (a,⟨p,k,b⟩) x.L
 out:∀ p,nx < p→p≤x.next→p∈x.last∨∃ m,isE (p,m) x.L
def XI {to:List Nat} {k:Nat} {c:Nat} (ha:a∈fr) (hc:c∈to):isE (a,⟨c,k,b⟩) (lnk fr to k b L):=Yc.2 (.inl ⟨a,ha,c,hc,rfl⟩)
def QR {to:List Nat} {k:Nat} {g:Eg} (h:isE g L):isE g (lnk fr to k b L):=Yc.2 (.inr h)
mutual
theorem QeI:∀ (n:Nd) (sc nx:Nat) (L:List (Eg × Int)),Qe n=true→full n=true→WkRe nx L (wk n sc nx L)∧(wk n sc nx L).empty=QU n∧(QU n=false→(wk n sc nx L).first≠[]∧(wk n sc nx L).last≠[])
 | .mk k s ps lo hi,sc,nx,L,hf,hfu=>by
  have hv:=KW hfu;have hpar:=Wh hfu;rw[Qe,Bool.and_eq_true] at hf;rw[wk,QU];by_cases h1:k=1
  ·subst h1;simp only[if_true];have he:Qq s=false:=by rw[QD] at hv;simpa using hv
   rw[he];simp only[Bool.false_eq_true,if_false]
   exact⟨⟨Nat.le_succ _,fun g h=>h,fun p (h1:nx < p) (h2:p≤nx+1)=>.inl (by simp;omega),fun p (h1:nx < p) (h2:p≤nx+1)=>.inl (by simp;omega)⟩,by trivial,fun _=>by simp⟩
  ·by_cases h2:k=2
   ·subst h2;simp only[h1,if_false,if_true];have h:=Qfv ps sc ⟨[],[],true,nx,L⟩ nx L hf.2 hpar ⟨Nat.le_refl _,fun g h=>h,fun p (h1:nx < p) (h2:p≤nx)=>by omega,fun p (h1:nx < p) (h2:p≤nx)=>by omega⟩ (fun h=>by cases h)
    refine⟨h.1,by rw[h.2.1];simp,fun hn=>h.2.2 (by simpa using hn)⟩
   ·by_cases h3:k=3
    ·subst h3;simp only[h1,h2,if_false,if_true];have h:=QfS ps sc ⟨[],[],false,nx,L⟩ nx L hf.2 hpar ⟨Nat.le_refl _,fun g h=>h,fun p (h1:nx < p) (h2:p≤nx)=>by omega,fun p (h1:nx < p) (h2:p≤nx)=>by omega⟩
     refine⟨h.1,by rw[h.2.1];simp,fun hn=>h.2.2 (by simpa using hn) (.inl ?_)⟩
     intro h0;have:=hf.1;simp [Qk,h0] at this
    ·by_cases h4:k=4
     ·subst h4;have hl1:ps.length=1:=by
       have:=hf.1;simp [Qk] at this;exact this.1.1.1.2
      obtain⟨p,rfl⟩:=List.length_eq_one_iff.1 hl1;have hfp:Qe p=true:=by have:=hf.2;rw[Qc,Qc] at this;simpa using this
      simp only[h1,h2,h3,if_false,if_true,wkH,Yv];obtain⟨g1,g2,g3⟩:=QeI p (if cnts 4 lo hi then sc+1 else sc) nx L hfp (hpar p SM);generalize wk p (if cnts 4 lo hi then sc+1 else sc) nx L=x at g1 g2 g3
      refine⟨⟨g1.le,fun g h=>?_,fun q a b=>?_,fun q a b=>?_⟩,?_,fun hn=>?_⟩
      ·dsimp only;split
       ·exact g1.keep g h
       ·exact QR (g1.keep g h)
      ·rcases g1.inn q a b with h|⟨a',k',b',h⟩
       ·exact .inl h
       ·right;refine⟨a',k',b',?_⟩;dsimp only;split
        ·exact h
        ·exact QR h
      ·rcases g1.out q a b with h|⟨m,h⟩
       ·exact .inl h
       ·right;refine⟨m,?_⟩;dsimp only;split
        ·exact h
        ·exact QR h
      ·first|rfl|trivial|(rw[QU];simp only[h1,h2,h3,if_false,if_true,Yv])
      ·rw[Bool.or_eq_false_iff] at hn;exact g3 hn.2
     ·simp only[h1,h2,h3,h4,if_false]
      exact⟨⟨Nat.le_refl _,fun g h=>h,fun p (h1:nx < p) (h2:p≤nx)=>by omega,fun p (h1:nx < p) (h2:p≤nx)=>by omega⟩,by trivial,fun h=>by cases h⟩
theorem Qfv:∀ (ps:List Nd) (sc:Nat) (y:Nds) (nx:Nat) (L:List (Eg × Int)),Qc ps=true→(∀ p∈ps,full p=true)→WkRe nx L y→(y.empty=false→y.first≠[]∧y.last≠[]) →
  WkRe nx L (wkC ps sc y)∧(wkC ps sc y).empty=(y.empty&&ZJ ps)∧((y.empty&&ZJ ps)=false→(wkC ps sc y).first≠[]∧(wkC ps sc y).last≠[])
 | [],sc,y,nx,L,_,_,h,hne=>by rw[wkC,ZJ,Bool.and_true];exact⟨h,rfl,hne⟩
 | p::ps,sc,y,nx,L,hf,hfu,h,hne=>by
  rw[Qc,Bool.and_eq_true] at hf;obtain⟨g1,g2,g3⟩:=QeI p sc y.next y.L hf.1 (hfu p SM);rw[wkC];generalize wk p sc y.next y.L=x at g1 g2 g3;have hle:=h.le;have hle2:=g1.le;have hxe:x.empty=false→x.first≠[]∧x.last≠[]:=fun hh=>g3 (by rw[← g2];exact hh);have ih:=Qfv ps sc ⟨if y.empty then y.first++x.first else y.first,if x.empty then y.last++x.last else x.last,y.empty&&x.empty,x.next,lnk y.last x.first sc false x.L⟩ nx L hf.2 (fun q hq=>hfu q (by simp [hq])) ⟨by dsimp only;omega,fun g hg=>QR (g1.keep g (h.keep g hg)),fun q a b=>?_,fun q a b=>?_⟩ (fun hh=>?_)
  ·rw[ZJ]
   refine⟨ih.1,by rw[ih.2.1,g2];simp [Bool.and_assoc],fun hh=>ih.2.2 ?_⟩
   dsimp only;rw[g2,Bool.and_assoc];exact hh
  ·dsimp only at b ⊢;by_cases hq:q≤y.next
   ·rcases h.inn q a hq with hi|⟨a',k',b',hi⟩
    ·left;split
     ·exact List.mem_append_left _ hi
     ·exact hi
    ·exact .inr ⟨a',k',b',QR (g1.keep _ hi)⟩
   ·rcases g1.inn q OM b with hi|⟨a',k',b',hi⟩
    ·cases hye:y.empty with
     | true=>left;simp only[if_true];exact List.mem_append_right _ hi
     | false =>
      obtain⟨a',ha'⟩:=List.exists_mem_of_ne_nil _ (hne hye).2;exact .inr ⟨a',sc,false,XI ha' hi⟩
    ·exact .inr ⟨a',k',b',QR hi⟩
  ·dsimp only at b ⊢;by_cases hq:q≤y.next
   ·rcases h.out q a hq with hi|⟨m,hi⟩
    ·cases hxe2:x.empty with
     | true=>left;simp only[if_true];exact List.mem_append_left _ hi
     | false =>
      obtain⟨c,hc⟩:=List.exists_mem_of_ne_nil _ (hxe hxe2).1;exact .inr ⟨⟨c,sc,false⟩,XI hi hc⟩
    ·exact .inr ⟨m,QR (g1.keep _ hi)⟩
   ·rcases g1.out q OM b with hi|⟨m,hi⟩
    ·left;split
     ·exact List.mem_append_right _ hi
     ·exact hi
    ·exact .inr ⟨m,QR hi⟩
  ·dsimp only at hh ⊢;cases hye:y.empty with
   | false =>
    have:=hne hye
    refine⟨by simpa using this.1,?_⟩
    cases hxe2:x.empty with
    | true=>simp [this.2]
    | false=>simpa using (hxe hxe2).2
   | true =>
    rw[hye,Bool.true_and] at hh
    have:=hxe hh
    refine⟨by simp [this.1],by rw[hh];simpa using this.2⟩
theorem QfS:∀ (ps:List Nd) (sc:Nat) (y:Nds) (nx:Nat) (L:List (Eg × Int)),Qc ps=true→(∀ p∈ps,full p=true)→WkRe nx L y →
  WkRe nx L (wkA ps sc y)∧(wkA ps sc y).empty=(y.empty||Zy ps)∧((y.empty||Zy ps)=false→(ps≠[]∨(y.first≠[]∧y.last≠[]))→(wkA ps sc y).first≠[]∧(wkA ps sc y).last≠[])
 | [],sc,y,nx,L,_,_,h=>by
  rw[wkA,Zy,Bool.or_false]
  refine⟨h,rfl,fun _ hh=>?_⟩
  rcases hh with hh|hh
  ·exact absurd rfl hh
  ·exact hh
 | p::ps,sc,y,nx,L,hf,hfu,h=>by
  rw[Qc,Bool.and_eq_true] at hf;obtain⟨g1,g2,g3⟩:=QeI p sc y.next y.L hf.1 (hfu p SM);rw[wkA];generalize wk p sc y.next y.L=x at g1 g2 g3;have hle:=h.le;have hle2:=g1.le;have ih:=QfS ps sc ⟨y.first++x.first,y.last++x.last,y.empty||x.empty,x.next,x.L⟩ nx L hf.2 (fun q hq=>hfu q (by simp [hq])) ⟨by dsimp only;omega,fun g hg=>g1.keep g (h.keep g hg),fun q a b=>?_,fun q a b=>?_⟩
  ·rw[Zy]
   refine⟨ih.1,by rw[ih.2.1,g2];simp [Bool.or_assoc],fun hh _=>ih.2.2 (by dsimp only;rw[g2,Bool.or_assoc];exact hh) (.inr ?_)⟩
   simp only[Bool.or_eq_false_iff] at hh
   have:=g3 hh.2.1
   exact⟨by simp [this.1],by simp [this.2]⟩
  ·dsimp only at b ⊢;by_cases hq:q≤y.next
   ·rcases h.inn q a hq with hi|⟨a',k',b',hi⟩
    ·exact .inl (List.mem_append_left _ hi)
    ·exact .inr ⟨a',k',b',g1.keep _ hi⟩
   ·rcases g1.inn q OM b with hi|hi
    ·exact .inl (List.mem_append_right _ hi)
    ·exact .inr hi
  ·dsimp only at b ⊢;by_cases hq:q≤y.next
   ·rcases h.out q a hq with hi|⟨m,hi⟩
    ·exact .inl (List.mem_append_left _ hi)
    ·exact .inr ⟨m,g1.keep _ hi⟩
   ·rcases g1.out q OM b with hi|hi
    ·exact .inl (List.mem_append_right _ hi)
    ·exact .inr hi
end
end Go.Proofs.YtklbhcjmaeedhaaGreatDoor
