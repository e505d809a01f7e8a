import Derived.Test.YtklbhcjmaeedhaaGreatDoorM9
import Derived.Test.YtklbhcjmaeedhaaGreatDoorKa

namespace Go.Proofs.YtklbhcjmaeedhaaGreatDoor
set_option linter.all false
variable {o:O} {s sz d:Nat} {L:List (List V)} {e:E} {ods:List Od} {l:List Stp} {K:E→O→Prop}
attribute [-go_sem] Qy Qj rfOb V.cells
structure Own (o:O) (s sz:Nat) (L:List (List V)):Prop where
 c:L.all Zc=true
 h:L≠[]→o s=some (.row sz L)
def Own.up {t:Nat} {x:Option Ob} (hn:(s==t)=false) (h:Own o s sz L):Own (upd o t x) s sz L:=⟨h.c,fun hl=>by
 have hn:s≠t:=by simpa using hn
 show (if s=t then x else o s)=_;rw[if_neg hn];exact h.h hl⟩
def Own.sw (hn:(s==d)=false) (h:Own o s sz L):Own (swpO d o) s sz L:=⟨h.c,fun hl=>by
 simp only[swpO,hn,Bool.false_eq_true,if_false,h.h hl,Option.bind_some,Qy,Q4 d h.c]⟩
def Own.to (hc:L.all Zc=true):Own (upd o s (some (.row sz L))) s sz L:=⟨hc,fun _=>by simp [upd]⟩
theorem Own.swN {o:O} {s sz:Nat} {L:List (List V)}:∀ {D:List Nat},(D.contains s)=false→Own o s sz L→Own (ZH D o) s sz L
 | [],_,h=>h
 | d::D,hn,h=>by
  simp only[List.contains_cons,Bool.or_eq_false_iff] at hn;exact Own.swN (o:=swpO d o) hn.2 (h.sw hn.1)
def Own.at {o1:O} (h:Own o s sz L) (he:o1 s=o s):Own o1 s sz L:=⟨h.c,fun hl=>by rw[he];exact h.h hl⟩
def QdA {A':List (Nat × Ob)} {N':List Nat} {f':Nat→Nat} (h0:(domA A').Nodup) (h1:∀ s∈domA A',s∈N') (h2:(N'.map f').Nodup):(A'.map fun p=>f' p.1).Nodup:=by
 induction A' with
 | nil=>exact List.nodup_nil
 | cons q A' ih =>
  simp only[domA,List.map_cons,List.nodup_cons] at h0 ⊢
  refine⟨fun hh=>?_,ih h0.2 fun s hs=>h1 s (by simp only[domA,List.map_cons];exact List.mem_cons_of_mem _ hs)⟩
  obtain⟨p,hp,hpe⟩:=List.mem_map.1 hh;have e1:p.1∈domA A':=List.mem_map.2 ⟨p,hp,rfl⟩
  have:=Y9 h2 (h1 p.1 (by simp only[domA,List.map_cons];exact List.mem_cons_of_mem _ e1)) (h1 q.1 (by simp [domA])) hpe
  exact h0.1 (by rw[← this];exact e1)
def Qhh {cl:Qg} {d:Option Nat} {g:Nat} {vs:List V} {base:List (Nat × Ob)} {owns:List Ow} {r:V} {base':List (Nat × Ob)} {owns':List Ow} {bs:List Nat} {os:List Ow} (f f':Nat→Nat) (D:List Nat) {st:List I} (hgen:GenO cl g vs base owns r base' owns' bs os) (hargs:ods.map (Od.ev e)=renL f vs)
  (hA:∀ p∈base,o (f p.1)=some (Qj f p.2)) (hO:∀ q∈owns,q.2.2≠[]→o (f q.1)=some (.row q.2.1 q.2.2)) (hG:GenK vs (domA (obs base owns)) (obs base owns) r (domA (obs base' owns')) (obs base' owns') (stOf bs os) f f' D) (hc:∀ q∈owns,QQ q.2.2=true) (hc':∀ q∈owns',QQ q.2.2=true)
  (h:∀ o1,(∀ p∈base',o1 (f' p.1)=some (Qj f' p.2))→(∀ q∈owns',q.2.2≠[]→o1 (f' q.1)=some (.row q.2.1 q.2.2))→(∀ t,(∀ s∈domA base'++owns'.map (·.1),f' s≠t)→o1 t=ZH D o t)→stbU d e o (put (Zx D e) d (ren f' r)) o1 st∧wpRU cl l K (put (Zx D e) d (ren f' r)) o1):wpRU cl (⟨d,none,.nc g ods,st⟩::l) K e o:=by
 have hinj:((obs base' owns').map fun p=>f' p.1).Nodup:=QdA hG.ad0 hG.ai' hG.an';have key:=h (putA f' (obs base' owns') (ZH D o)) ?_ ?_ ?_
 ·exact QfP f f' D hgen hargs (fun p hp=>by
   rcases List.mem_append.1 hp with hp|hp
   ·exact hA p hp
   ·obtain⟨q,g1,g2,rfl⟩:=ZE hp;rw[Q2 (hc q g1)];exact hO q g1 g2) hG key.1 key.2
 ·exact fun p hp=>VM hinj (List.mem_append_left _ hp) _
 ·intro q hq hL
  have:=VM hinj (List.mem_append_right base' (Yw hq hL)) (ZH D o)
  rw[Q2 (hc' q hq)] at this;exact this
 ·exact fun t ht=>QaA (fun p hp=>ht p.1 ((Z7 base' owns').subset (List.mem_map.2 ⟨p,hp,rfl⟩))) _
def Qce (a b:Nat) {l0:List Nat} {st:List I} (h1:l0.length≤1000) (hab:(a==b)=false) (hb:b < 1000000) (hargs:ods.map (Od.ev e)=[ownV a 1 (l0.map inC)]) (f1:Own o a 1 (l0.map inC))
  (h:∀ o1,Own o1 a 1 (l0.map inC)→Own o1 b 1 (l0.map inC)→(∀ t,t≠a→t≠b→o1 t=ZH [b] o t)→stbU (some d) e o (upd (Zx [b] e) d (ownV b 1 (l0.map inC))) o1 st∧wpRU (Call F) l K (upd (Zx [b] e) d (ownV b 1 (l0.map inC))) o1):wpRU (Call F) (⟨some d,none,.nc 60 ods,st⟩::l) K e o:=by
 have hab:a≠b:=by simpa using hab
 have hcl:(l0.map inC).all Zc=true:=f1.c;refine Qhh (fun s=>if s=1000000 then a else s) (fun s=>if s=1000000 then a else if s=1 then b else s) [b] (Qch l0 h1) ?_ SM ?_ ?_ (by simp [Qs]) (by simp [Qs]) fun o1 g1 g2 g3=>?_
 ·rw[hargs];simp only[renL,QY,if_true]
 ·intro q hq;rw[List.mem_singleton.1 hq];exact f1.h
 ·refine Q1 (by simp [domA]) (by simp [domA,hab]) (by simp [domA]) ?_ SM (Zm SM) SM (by simp [Qs]) (by simp [Qs]) SM ?_ (by simp [domA]) ?_ (by simp [domA]) ?_
  ·simp only[rfL,Bool.and_true];exact Zm SM
  ·intro q hq;rw[List.mem_singleton.1 hq]
   exact⟨SM,SM,SM,by simpa using hab⟩
  ·simp
  ·simp [hb]
 ·rw[show ren (fun s=>if s=1000000 then a else if s=1 then b else s) (ownV 1 1 (l0.map inC))=ownV b 1 (l0.map inC) from by rw[QY];rfl];refine h o1 ⟨hcl,g2 (1000000,1,l0.map inC) SM⟩ ⟨hcl,g2 (1,1,l0.map inC) SM⟩ fun t k1 k2=>g3 t fun s hs=>?_;simp [domA] at hs;rcases hs with rfl|rfl
  ·simp [Ne.symm k1]
  ·simp [Ne.symm k2]
def arC:Nat→List (List Nat)→List (List V)
 | _,[]=>[]
 | n,x::l=>[ownV (5000+n) 1 (x.map inC)]::arC (n+1) l
def arO:Nat→List (List Nat)→List Ow
 | _,[]=>[]
 | n,x::l=>(5000+n,1,x.map inC)::arO (n+1) l
theorem Qdk:∀ (l:List (List Nat)) (n:Nat) (x:List Nat),arC n (l++[x])=arC n l++[[ownV (5000+(n+l.length)) 1 (x.map inC)]]
 | [],n,x=>by simp [arC]
 | y::l,n,x=>by simp only[List.cons_append,arC,Qdk l (n+1) x,List.length_cons];rw[show n+1+l.length=n+(l.length+1) from by omega]
theorem Qc4:∀ (l:List (List Nat)) (n:Nat),(arC n l).length=l.length
 | [],n=>rfl
 | y::l,n=>by simp [arC,Qc4 l (n+1)]
theorem W2 (d:Nat):∀ (l:List (List Nat)) (n:Nat),(d < 5000+n∨5000+(n+l.length)≤d)→swpR d (arC n l)=arC n l
 | [],n,_=>rfl
 | y::l,n,h=>by
  have:=W2 d l (n+1) (by simp only[List.length_cons] at h;omega)
  simp only[swpR] at this;have hd:((5000+n)==d)=false:=by simp only[List.length_cons] at h;simp;omega
  simp only[arC,swpR,List.map_cons,this,swpL,Xe _ _ _ _ hd]
theorem Hb (f:Nat→Nat) (hf:∀ i,i≤1000→f (5000+i)=5000+i):∀ (l:List (List Nat)) (n:Nat),n+l.length≤1000→(arC n l).map (renL f)=arC n l
 | [],n,_=>rfl
 | y::l,n,h=>by
  simp only[List.length_cons] at h;simp only[arC,List.map_cons,Hb f hf l (n+1) OM,renL,QY,hf n OM]
theorem QfO (b:List (Nat × Ob)) (w:List Ow):∀ (l:List (List Nat)) (n:Nat),(∀ x∈arO n l,x∈w)→(arC n l).all (rfL (domA (obs b w)))=true
 | [],n,_=>rfl
 | y::l,n,h=>by
  simp only[arC,List.all_cons,Bool.and_eq_true]
  refine⟨?_,QfO b w l (n+1) fun x hx=>h x (by simp [arO,hx])⟩
  simp only[rfL,Bool.and_true];exact Zm (h _ (by simp [arO]))
theorem Xh:∀ (l:List (List Nat)) (n:Nat),(arO n l).map (fun w=>w.1)=List.range' (5000+n) l.length
 | [],n=>rfl
 | y::l,n=>by simp only[arO,List.map_cons,Xh l (n+1),List.length_cons,List.range'_succ];rfl
theorem Qdo:∀ (l:List (List Nat)) (n:Nat),∀ w∈arO n l,QQ w.2.2=true
 | [],n=>by simp [arO]
 | y::l,n=>by
  intro w hw;rcases List.mem_cons.1 hw with rfl|hw
  ·exact Qs _
  ·exact Qdo l (n+1) w hw
theorem Y1:∀ (l:List (List Nat)) (n:Nat) (w:Ow),w∈arO n l↔∃ i x,l[i]?=some x∧w=(5000+(n+i),1,x.map inC)
 | [],n,w=>by simp [arO]
 | y::l,n,w=>by
  simp only[arO,List.mem_cons,Y1 l (n+1) w];constructor
  ·rintro (rfl|⟨i,x,h1,rfl⟩)
   ·exact⟨0,y,SM,rfl⟩
   ·exact⟨i+1,x,by simpa using h1,by rw[show n+1+i=n+(i+1) from by omega]⟩
  ·rintro⟨i,x,h1,rfl⟩
   cases i with
   | zero=>left;simp at h1;subst h1;rfl
   | succ i=>right;exact⟨i,x,by simpa using h1,by rw[show n+1+i=n+(i+1) from by omega]⟩
def Zk {α:Type} {enc:α→List V} (h:∀ x,Zc (enc x)=true) (l:List α):(l.map enc).all Zc=true:=by
 rw[List.all_eq_true];intro c hc;obtain⟨x,_,rfl⟩:=List.mem_map.1 hc;exact h x
def Qc0 (l:List (Nat→Nat)):QQ (l.map u4)=true:=QP (fun _=>rfl) l
def QdI (l:List (Int × Int)):QQ (l.map scC)=true:=QP (fun _=>rfl) l
def AO (o:O) (l:List (List Nat)):Prop:=∀ i x,l[i]?=some x→Own o (5000+i) 1 (x.map inC)
theorem AO.up {o:O} {t:Nat} {l:List (List Nat)} {x:Option Ob} (hn:t < 5000∨5000+l.length≤t) (h:AO o l):AO (upd o t x) l:=fun i y hy=>(h i y hy).up (by
 have:=(List.getElem?_eq_some_iff.1 hy).1
 simp;omega)
theorem AO.sw {o:O} {d:Nat} {l:List (List Nat)} (hn:d < 5000∨5000+l.length≤d) (h:AO o l):AO (swpO d o) l:=fun i y hy=>(h i y hy).sw (by
 have:=(List.getElem?_eq_some_iff.1 hy).1
 simp;omega)
theorem AO.at {o o1:O} {l:List (List Nat)} (h:AO o l) (he:∀ i,i < l.length→o1 (5000+i)=o (5000+i)):AO o1 l:=fun i y hy=>(h i y hy).at (he i (List.getElem?_eq_some_iff.1 hy).1)
def AO.snoc {l:List (List Nat)} {x:List Nat} (h:AO o l) (hx:Own o (5000+l.length) 1 (x.map inC)):AO o (l++[x]):=fun i y hy=>by
 rw[List.getElem?_append] at hy;split at hy
 ·exact h i y hy
 ·rename_i hi;have hlt:=(List.getElem?_eq_some_iff.1 hy).1;simp at hlt
  have:i=l.length:=by omega
  subst this;simp at hy;subst hy;exact hx
def plR:Nd→Pl→Ob
 | .mk k s ps lo hi,q=>.row 11 [[.i .i64 k,.i .u64 (s 0),.i .u64 (s 1),.i .u64 (s 2),.i .u64 (s 3),.sl (ps.map cel),.i .i64 lo,.i .i64 hi,ownV 3001 4 (q.sets.map u4),ownV 3002 2 (q.scopes.map scC),ownV 3003 1 (arC 0 q.around)]]
def plB (t:Nd) (q:Pl):List (Nat × Ob):=[(1000000,plR t q),(3003,.row 1 (arC 0 q.around))]
def plO (q:Pl) (ar:List Nat):List Ow:=(1000002,1,ar.map inC)::(3001,4,q.sets.map u4)::(3002,2,q.scopes.map scC)::arO 0 q.around
mutual
theorem Yq:∀ (n:Nd) (ar:List Nat) (q:Pl),(Ql n ar q).sets.length≤q.sets.length+cntN n∧(Ql n ar q).scopes.length≤q.scopes.length+cntN n∧(Ql n ar q).around.length≤q.around.length+cntN n∧q.around.length≤(Ql n ar q).around.length
 | .mk k s ps lo hi,ar,q=>by
  have:=X5 ps (if cnts k lo hi then ar++[q.scopes.length] else ar) { sets:=if k=1∧Qq s=false then q.sets++[s] else q.sets,around:=if k=1∧Qq s=false then q.around++[ar] else q.around,scopes:=if cnts k lo hi then q.scopes++[(low1 lo,hi)] else q.scopes }
  rw[Ql,cntN]
  refine⟨Nat.le_trans this.1 ?_,Nat.le_trans this.2.1 ?_,Nat.le_trans this.2.2.1 ?_,Nat.le_trans ?_ this.2.2.2⟩
  all_goals (dsimp only;split<;>(try simp only[List.length_append,List.length_cons,List.length_nil])<;>omega)
theorem X5:∀ (ps:List Nd) (ar:List Nat) (q:Pl),(Qt ps ar q).sets.length≤q.sets.length+cntL ps∧(Qt ps ar q).scopes.length≤q.scopes.length+cntL ps∧(Qt ps ar q).around.length≤q.around.length+cntL ps∧q.around.length≤(Qt ps ar q).around.length
 | [],ar,q=>by simp [Qt]
 | p::ps,ar,q=>by
  have h1:=Yq p ar q;have h2:=X5 ps ar (Ql p ar q);rw[Qt,cntL];omega
end
def GPw (p:Nd):Prop:=∀ (ar:List Nat) (t:Nd) (q:Pl),q.sets.length+cntN p≤1000→q.scopes.length+cntN p≤1000→q.around.length+cntN p≤1000→ar.length+cntN p≤1000→q.around≠[] →
 GenO (Call F) 40 [.pt 1000000 0 0,.ag (cel p),ownV 1000002 1 (ar.map inC)] (plB t q) (plO q ar) (.tp []) (plB t (Ql p ar q)) (plO (Ql p ar q) ar) [1000000] [(1000002,1,ar.map inC)]
def V0 (f:Nat→Nat) (h1:f 3001=3001) (h2:f 3002=3002) (h3:f 3003=3003) (t:Nd) (q:Pl):Qj f (plR t q)=plR t q:=by
 cases t;simp only[plR,Qj,List.map_cons,List.map_nil,renL,ren,QY,h1,h2,h3]
def HB (t:Nd) (q:Pl) (ar:List Nat):((plB t q).all fun p=>rfOb (domA (obs (plB t q) (plO q ar))) p.2)=true:=by
 have h3:rfI (domA (obs (plB t q) (plO q ar))) (ownV 3003 1 (arC 0 q.around))=true:=Qha _ _ _ _ (JA (by simp [plB,domA]));have h1:rfOb (domA (obs (plB t q) (plO q ar))) (plR t q)=true:=by
  cases t;simp only[plR,rfOb,List.all_cons,List.all_nil,rfL,rfI,Bool.true_and,Bool.and_true,Bool.and_eq_true]
  exact⟨Zm (by simp [plO]),Zm (by simp [plO]),h3⟩
 have h2:rfOb (domA (obs (plB t q) (plO q ar))) (.row 1 (arC 0 q.around))=true:=by
  simp only[rfOb];exact QfO _ _ _ _ fun x hx=>by simp [plO,hx]
 generalize domA (obs (plB t q) (plO q ar))=D at h1 h2;simp only[plB,List.all_cons,List.all_nil,Bool.and_true,h1,h2]
def YG (q:Pl) (ar:List Nat):∀ w∈plO q ar,QQ w.2.2=true:=by
 intro w hw;simp only[plO,List.mem_cons] at hw;rcases hw with rfl|rfl|rfl|hw
 ·exact Qs _
 ·exact Qc0 _
 ·exact QdI _
 ·exact Qdo _ _ w hw
def Yo (f:Nat→Nat) (A:Nat) (hA:A=1000002∨A=4000) (h0:f 1000000=1000000) (h1:f 3001=3001) (h2:f 3002=3002) (h3:f 3003=3003) (h4:f 1000002=A) (h5:∀ i,i≤1000→f (5000+i)=5000+i) (t:Nd) (q:Pl) (ar:List Nat) (hl:q.around.length≤1000):((domA (plB t q)++(plO q ar).map (fun w=>w.1)).map f).Nodup:=by
 have e:(domA (plB t q)++(plO q ar).map (fun w=>w.1)).map f=[1000000,3003,A,3001,3002]++List.range' 5000 q.around.length:=by
  simp only[plB,plO,domA,List.map_cons,List.map_nil,List.cons_append,List.nil_append,Xh,h0,h1,h2,h3,h4];congr 5;conv=>rhs;rw[← List.map_id (List.range' 5000 q.around.length)]
  refine List.map_congr_left fun x hx=>?_;obtain⟨i,hi,rfl⟩:=List.mem_range'.1 hx;rw[Nat.one_mul];exact h5 i OM
 rw[e];refine List.nodup_append.2 ⟨by simp;omega,List.nodup_range',fun a ha b hb=>?_⟩;obtain⟨i,hi,rfl⟩:=List.mem_range'.1 hb;simp only[List.mem_cons,List.not_mem_nil,or_false] at ha;omega
end Go.Proofs.YtklbhcjmaeedhaaGreatDoor
