import Derived.Test.YtklbhcjmaeedhaaGreatDoorM4
import Derived.Test.YtklbhcjmaeedhaaGreatDoorKa

namespace Go.Proofs.YtklbhcjmaeedhaaGreatDoor
set_option linter.all false
variable {o:O} {s t d nx:Nat} {l:List Nat} {K:E→O→Prop} {e:E} {q:Nds} {ods:List Od} {L:List (Eg × Int)}
def Ow1 (o:O) (s:Nat) (l:List Nat):Prop:=l.map inC≠[]→o s=some (.row 1 (l.map inC))
def Ow1.up {x:Option Ob} (hn:(s==t)=false) (h:Ow1 o s l):Ow1 (upd o t x) s l:=fun hl=>by
 have hn:s≠t:=by simpa using hn
 show (if s=t then x else o s)=_;rw[if_neg hn];exact h hl
def Ow1.sw (hn:(s==d)=false) (h:Ow1 o s l):Ow1 (swpO d o) s l:=fun hl=>by
 simp only[swpO,hn,Bool.false_eq_true,if_false,h hl,Option.bind_some,Qy];rw[Yh]
def Ow1.to:Ow1 (upd o s (some (.row 1 (l.map inC)))) s l:=fun _=>by simp [upd]
theorem Ow1.swN {o:O} {s:Nat} {l:List Nat}:∀ {D:List Nat},(D.contains s)=false→Ow1 o s l→Ow1 (ZH D o) s l
 | [],_,h=>h
 | d::D,hn,h=>by
  simp only[List.contains_cons,Bool.or_eq_false_iff] at hn;exact Ow1.swN (o:=swpO d o) hn.2 (h.sw hn.1)
def Ow1.at {o1:O} (h:Ow1 o s l) (he:o1 s=o s):Ow1 o1 s l:=fun hl=>by rw[he];exact h hl
def Qdw (f:Nat→Nat) (l:List Nat):Qj f (.row 1 (l.map inC))=.row 1 (l.map inC):=Q2 (Qs l)
def Ow1.ren1 (h:Ow1 o s l) (hn:(s==t)=false):Ow1 (renO s t o) t l:=fun hl=>by
 simp only[renO,beq_self_eq_true,if_true];rw[h.sw hn hl];simp only[Option.map_some,Qdw]
def Ow1.ren2 {u:Nat} (h:Ow1 o u l) (hn:(u==t)=false) (hm:(u==s)=false):Ow1 (renO s t o) u l:=fun hl=>by
 simp only[renO,hn,hm,Bool.false_eq_true,if_false];rw[h.sw hn hl];simp only[Option.map_some,Qdw]
def X3 {F:En} {gh:Bool} {a:C} {K:X→E→O→Prop} (P:E→O→Prop) (h:wpU gh (Call F) a (fun x e o=>x=.nx∧P e o) e o) (h2:∀ e o,P e o→K .nx e o):wpU gh (Call F) a K e o :=
 Ke (Qa F) (fun x e o hx=>by obtain⟨rfl,hp⟩:=hx;exact h2 e o hp) h
def rcM (n:Nat):Ob:=.row 2 [[.i .i64 (n:Int),.mp 1000001]]
mutual
theorem JT:∀ (n:Nd) (sc nx:Nat) (L:List (Eg × Int)),nx≤(wk n sc nx L).next∧(wk n sc nx L).next≤nx+cntN n∧(wk n sc nx L).first.length+nx≤(wk n sc nx L).next∧(wk n sc nx L).last.length+nx≤(wk n sc nx L).next
 | .mk k s ps lo hi,sc,nx,L=>by
  simp only[wk,cntN];split
  ·split<;>simp<;>omega
  ·split
   ·have:=QbD ps sc ⟨[],[],true,nx,L⟩ nx SM SM SM
    simp only at this;omega
   ·split
    ·have:=QbV ps sc ⟨[],[],false,nx,L⟩ nx SM SM SM
     simp only at this;omega
    ·split
     ·have:=Qcn ps (if cnts k lo hi then sc+1 else sc) nx L
      simp only;omega
     ·simp
theorem QbD:∀ (ps:List Nd) (sc:Nat) (y:Nds) (n0:Nat),n0≤y.next→y.first.length+n0≤y.next→y.last.length+n0≤y.next→y.next≤(wkC ps sc y).next∧(wkC ps sc y).next≤y.next+cntL ps∧(wkC ps sc y).first.length+n0≤(wkC ps sc y).next∧(wkC ps sc y).last.length+n0≤(wkC ps sc y).next
 | [],sc,y,n0,h0,h1,h2=>by simp [wkC,cntL];omega
 | p::ps,sc,y,n0,h0,h1,h2=>by
  obtain⟨a,b,c,d⟩:=JT p sc y.next y.L
  have:=QbD ps sc ⟨if y.empty then y.first++(wk p sc y.next y.L).first else y.first,if (wk p sc y.next y.L).empty then y.last++(wk p sc y.next y.L).last else (wk p sc y.next y.L).last,y.empty&&(wk p sc y.next y.L).empty,(wk p sc y.next y.L).next,lnk y.last (wk p sc y.next y.L).first sc false (wk p sc y.next y.L).L⟩ n0 (by show n0≤(wk p sc y.next y.L).next;omega) (by dsimp only;split<;>(try simp)<;>omega) (by dsimp only;split<;>(try simp)<;>omega)
  simp only[wkC,cntL] at this ⊢;omega
theorem QbV:∀ (ps:List Nd) (sc:Nat) (y:Nds) (n0:Nat),n0≤y.next→y.first.length+n0≤y.next→y.last.length+n0≤y.next→y.next≤(wkA ps sc y).next∧(wkA ps sc y).next≤y.next+cntL ps∧(wkA ps sc y).first.length+n0≤(wkA ps sc y).next∧(wkA ps sc y).last.length+n0≤(wkA ps sc y).next
 | [],sc,y,n0,h0,h1,h2=>by simp [wkA,cntL];omega
 | p::ps,sc,y,n0,h0,h1,h2=>by
  obtain⟨a,b,c,d⟩:=JT p sc y.next y.L
  have:=QbV ps sc ⟨y.first++(wk p sc y.next y.L).first,y.last++(wk p sc y.next y.L).last,y.empty||(wk p sc y.next y.L).empty,(wk p sc y.next y.L).next,(wk p sc y.next y.L).L⟩ n0 (by show n0≤(wk p sc y.next y.L).next;omega) (by simp;omega) (by simp;omega)
  simp only[wkA,cntL] at this ⊢;omega
theorem Qcn:∀ (ps:List Nd) (sc nx:Nat) (L:List (Eg × Int)),nx≤(wkH ps sc nx L).next∧(wkH ps sc nx L).next≤nx+cntL ps∧(wkH ps sc nx L).first.length+nx≤(wkH ps sc nx L).next∧(wkH ps sc nx L).last.length+nx≤(wkH ps sc nx L).next
 | [],sc,nx,L=>by simp [wkH]
 | p::ps,sc,nx,L=>by
  have:=JT p sc nx L
  simp only[wkH,cntL];omega
end
def GWk (g:Nat) (a:V) (sc nx:Nat) (L:List (Eg × Int)) (q:Nds):Prop :=
 GenO (Call F) g [.pt 1000000 0 0,a,.i .i64 (sc:Int)] [(1000000,rcM nx),(1000001,egM L)] [] (.ag [ownV 20 1 (q.first.map inC),ownV 21 1 (q.last.map inC),.bo q.empty])
  [(1000000,rcM q.next),(1000001,egM q.L)] [(20,1,q.first.map inC),(21,1,q.last.map inC)] [1000000,1000001] []
def WG (p:Nd):Prop:=∀ (sc nx:Nat) (L:List (Eg × Int)),sc+cntN p≤1000→nx+cntN p≤1000→GWk 24 (.ag (cel p)) sc nx L (wk p sc nx L)
def Vx {p:Nd} {ps:List Nd} (h:p∈ps):cntN p≤cntL ps:=by
 induction ps with
 | nil=>cases h
 | cons q ps ih =>
  simp only[cntL];rcases List.mem_cons.1 h with rfl|h
  ·omega
  ·have:=ih h;omega
def Qf6 (q:Nds) (base:List (Nat × Ob)):rfI (domA (obs base [(20,1,q.first.map inC),(21,1,q.last.map inC)])) (.ag [ownV 20 1 (q.first.map inC),ownV 21 1 (q.last.map inC),.bo q.empty])=true:=by
 simp only[rfI,rfL,Zm (base:=base) (owns:=[(20,1,q.first.map inC),(21,1,q.last.map inC)]) (s:=20) (sz:=1) (L:=q.first.map inC) SM,Zm (base:=base) (owns:=[(20,1,q.first.map inC),(21,1,q.last.map inC)]) (s:=21) (sz:=1) (L:=q.last.map inC) SM,Bool.and_true]
def W1 (n:Nat) (L:List (Eg × Int)) (owns:List Ow):(([(1000000,rcM n),(1000001,egM L)]:List (Nat × Ob)).all fun p=>rfOb (domA (obs [(1000000,rcM n),(1000001,egM L)] owns)) p.2)=true:=by
 rw[List.all_cons,List.all_cons,QbW,List.all_nil,Bool.and_true,Bool.and_true];simp only[rcM,rfOb,rfL,rfI,List.all_cons,List.all_nil,Bool.true_and,Bool.and_true];exact JA (base:=[(1000000,rcM n),(1000001,egM L)]) (s:=1000001) (by simp [domA])
def Jl {nx:Nat} {v:V} (hst:s≠t) (hs:s < 1000000) (ht:t < 1000000) (hv:v=.ag [ownV s 1 (q.first.map inC),ownV t 1 (q.last.map inC),.bo q.empty]) (m0:o 1000000=some (rcM q.next)) (m1:o 1000001=some (egM q.L)) (h1:Ow1 o s q.first) (h2:Ow1 o t q.last) :
  GenE (domA (obs [(1000000,rcM q.next),(1000001,egM q.L)] [(20,1,q.first.map inC),(21,1,q.last.map inC)])) (obs [(1000000,rcM q.next),(1000001,egM q.L)] [(20,1,q.first.map inC),(21,1,q.last.map inC)]) (.ag [ownV 20 1 (q.first.map inC),ownV 21 1 (q.last.map inC),.bo q.empty]) (stOf [1000000,1000001] []) v o:=by
 subst hv;have e0:(1000000==s)=false:=by simp;omega
 have e1:(1000000==t)=false:=by simp;omega
 have e2:(1000001==s)=false:=by simp;omega
 have e3:(1000001==t)=false:=by simp;omega
 refine Zg [(1000000,rcM q.next),(1000001,egM q.L)] [(s,1,q.first.map inC),(t,1,q.last.map inC)] (fun x=>if x==s then 20 else if x==t then 21 else x) ?_ ?_ ?_ ?_ ?_ ?_ ?_ ?_ ?_ ?_
 ·have:(t==s)=false:=by simp;omega
  simp only[ren,renL,QY,beq_self_eq_true,if_true,this,Bool.false_eq_true,if_false]
 ·simp only[List.map_cons,List.map_nil,e0,e1,e2,e3,Jt,Bool.false_eq_true,if_false];simp only[rcM,Qj,List.map_cons,List.map_nil,renL,ren,e2,e3,Bool.false_eq_true,if_false]
 ·have:(t==s)=false:=by simp;omega
  simp only[List.map_cons,List.map_nil,beq_self_eq_true,if_true,this,Bool.false_eq_true,if_false]
 ·simp [Qs]
 ·simp [m0,m1]
 ·intro p hp;rcases List.mem_cons.1 hp with rfl|hp
  ·exact h1
  ·rw[List.mem_singleton.1 hp];exact h2
 ·simp only[rfI,rfL,Bool.and_true,Bool.and_eq_true]
  exact⟨Zm SM,Zm SM⟩
 ·exact W1 _ _ _
 ·intro x hx;rcases List.mem_cons.1 hx with rfl|hx
  ·exact⟨by simp [domA],by simp [e0,e1]⟩
  ·rw[List.mem_singleton.1 hx];exact⟨by simp [domA],by simp [e2,e3]⟩
 ·simp
attribute [-go_sem] Qy Qj rfOb
def Qc7 (s sz:Nat) (L:List (List V)):(ownV s sz L).cells=[ownV s sz L]:=by unfold ownV;split<;>rfl
def Xf (s t:Nat) (o:O) (x:Nat):renO s t o x=if x==t then (swpO t o s).map (Qj (tof s t)) else if x==s then none else (swpO t o x).map (Qj (tof s t)):=rfl
def QeM (cs:List V):(V.ag cs).cells=cs:=rfl
def QeX (a b c d:Nat):(V.rw a b c d).cells=[V.rw a b c d]:=rfl
def Qhg (k:IntKind) (n:Int):(V.i k n).cells=[V.i k n]:=rfl
def Qd3 (b:Bool):(V.bo b).cells=[V.bo b]:=rfl
def Qbp:V.nil.cells=[V.nil]:=rfl
def Qfn (es:List (List V)):(V.sl es).cells=[V.sl es]:=rfl
def Qe9 (s:Nat):(V.mp s).cells=[V.mp s]:=rfl
def QeY (a b c:Nat):(V.pt a b c).cells=[V.pt a b c]:=rfl
attribute [go_sem] Qc7 QeM QeX Qhg Qd3 Qbp Qfn Qe9 QeY
def X9 {g:Nat} {a:V} {sc:Nat} {l:List Stp} (hW:GWk g a sc nx L q) (hargs:ods.map (Od.ev e)=[.pt 1000000 0 0,a,.i .i64 sc]) (ha:cld a=true) (m0:o 1000000=some (rcM nx)) (m1:o 1000001=some (egM L))
  (h:∀ o1,o1 1000000=some (.row 2 [[.i .i64 (q.next:Int),.mp 1000001]])→o1 1000001=some (egM q.L)→Ow1 o1 2000 q.first→Ow1 o1 2001 q.last→(∀ t,t≠1000000→t≠1000001→t≠2000→t≠2001→o1 t=ZH [2000,2001] o t)→wpRU (Call F) l K (upd (Zx [2000,2001] e) d (.ag [ownV 2000 1 (q.first.map inC),ownV 2001 1 (q.last.map inC),.bo q.empty])) o1):wpRU (Call F) (⟨some d,none,.nc g ods,[]⟩::l) K e o:=by
 have hra:∀ D,rfI D a=true:=fun D=>XF D a ha;refine Yp (fun s=>s) (fun s=>if s=20 then 2000 else if s=21 then 2001 else s) [2000,2001] hW (by rw[hargs,Wm]) ?_ SM ?_ SM (by simp [Qs]) fun o1 g1 g2 g3=>?_
 ·simp [WM,m0,m1]
 ·refine Q1 (by simp [domA]) (by simp [domA]) (by simp [domA]) ?_ (W1 _ _ _) (Qf6 _ _) (W1 _ _ _) SM (by simp [Qs]) ?_ SM ?_ SM ?_ ?_
  ·simp only[rfL,rfI,hra,Bool.and_true];exact JA (base:=[(1000000,rcM nx),(1000001,egM L)]) (s:=1000000) (by simp [domA])
  ·simp [domA]
  ·simp [domA]
  ·simp [domA]
  ·simp
 ·refine (?_:wpRU (Call F) l K (upd (Zx [2000,2001] e) d (ren _ _)) o1);rw[show ren (fun s=>if s=20 then 2000 else if s=21 then 2001 else s) (.ag [ownV 20 1 (q.first.map inC),ownV 21 1 (q.last.map inC),.bo q.empty])=.ag [ownV 2000 1 (q.first.map inC),ownV 2001 1 (q.last.map inC),.bo q.empty] from by simp only[ren,renL,QY];rfl];refine h o1 ?_ ?_ (g2 (20,1,q.first.map inC) SM) (g2 (21,1,q.last.map inC) SM) fun t h1 h2 h3 h4=>g3 t ?_
  ·have:=g1 _ (List.mem_cons_self ..)
   simpa [rcM,Qj,renL,ren] using this
  ·have:=g1 (1000001,egM q.L) SM
   simpa [Jt] using this
  ·intro s hs;simp [domA] at hs;rcases hs with rfl|rfl|rfl|rfl<;>simp [Ne.symm h1,Ne.symm h2,Ne.symm h3,Ne.symm h4]
def Qgj (a b:Nat) {next keep:Nat} {again:Bool} {fr to:List Nat} {l:List Stp} (h1:fr.length≤1000) (h2:to.length≤1000) (hab:a≠b) (ha:a < 1000000) (hb:b < 1000000) (hargs:ods.map (Od.ev e)=[.pt 1000000 0 0,ownV a 1 (fr.map inC),ownV b 1 (to.map inC),.i .i64 keep,.bo again])
  (m0:o 1000000=some (.row 2 [[.i .i64 (next:Int),.mp 1000001]])) (m1:o 1000001=some (egM L)) (f1:Ow1 o a fr) (f2:Ow1 o b to)
  (h:∀ o1,o1 1000000=some (.row 2 [[.i .i64 (next:Int),.mp 1000001]])→o1 1000001=some (egM (lnk fr to keep again L))→Ow1 o1 a fr→Ow1 o1 b to→(∀ t,t≠1000000→t≠1000001→t≠a→t≠b→o1 t=o t)→wpRU (Call F) l K (upd e d (.tp [])) o1):wpRU (Call F) (⟨some d,none,.nc 63 ods,[]⟩::l) K e o:=by
 refine Yp (fun s=>if s=1000002 then a else if s=1000003 then b else s) (fun s=>if s=1000002 then a else if s=1000003 then b else s) [] (Qfa next fr to keep again L h1 h2) ?_ ?_ ?_ ?_ (by simp [Qs]) (by simp [Qs]) fun o1 g1 g2 g3=>?_
 ·rw[hargs];simp only[renL,ren,QY];rfl
 ·intro p hp;rcases List.mem_cons.1 hp with rfl|hp
  ·simpa [Qj,renL,ren] using m0
  ·rw[List.mem_singleton.1 hp];simpa [Jt] using m1
 ·intro q hq;rcases List.mem_cons.1 hq with rfl|hq
  ·exact f1
  ·rw[List.mem_singleton.1 hq];exact f2
 ·have hn:((domA ([(1000000,rcM next),(1000001,egM L)]:List (Nat × Ob))++([(1000002,1,fr.map inC),(1000003,1,to.map inC)]:List Ow).map (·.1)).map fun s=>if s=1000002 then a else if s=1000003 then b else s).Nodup:=by
   simp [domA];omega
  refine Q1 hn hn (by simp [domA]) ?_ (W1 _ _ _) (by simp [rfI,rfL]) (W1 _ _ _) (by simp [Qs]) (by simp [Qs]) ?_ ?_ ?_ ?_ ?_ ?_
  ·simp only[rfL,rfI,Bool.and_true,Bool.and_eq_true]
   exact⟨JA (base:=[(1000000,rcM next),(1000001,egM L)]) (s:=1000000) (by simp [domA]),Zm SM,Zm SM⟩
  ·simp [domA]
  ·simp
  ·simp [domA]
  ·simp
  ·simp [domA]
  ·simp
 ·refine h o1 ?_ ?_ (g2 (1000002,1,fr.map inC) SM) (g2 (1000003,1,to.map inC) SM) fun t k1 k2 k3 k4=>g3 t fun s hs=>?_
  ·have:=g1 _ (List.mem_cons_self ..)
   simpa [Qj,renL,ren] using this
  ·have:=g1 (1000001,egM (lnk fr to keep again L)) SM
   simpa [Jt] using this
  ·simp [domA] at hs;rcases hs with rfl|rfl|rfl|rfl<;>simp [Ne.symm k1,Ne.symm k2,Ne.symm k3,Ne.symm k4]
def U_cc (c a b:Nat) {l1 l2:List Nat} {l:List Stp} (h1:l1.length≤1000) (h2:l2.length≤1000) (hn:c≠a∧c≠b∧a≠b) (ha:a < 1000000) (hargs:ods.map (Od.ev e)=[.rw c 1 0 2])
  (m0:o c=some (.row 1 [[ownV a 1 (l1.map inC)],[ownV b 1 (l2.map inC)]])) (f1:Ow1 o a l1) (f2:Ow1 o b l2)
  (h:∀ o1,Ow1 o1 a (l1++l2)→(∀ t,t≠a→o1 t=ZH [c,a,b] o t)→wpRU (Call F) l K (upd (Zx [c,a,b] e) d (ownV a 1 ((l1++l2).map inC))) o1):wpRU (Call F) (⟨some d,none,.nc 64 ods,[]⟩::l) K e o:=by
 refine Yp (fun s=>if s=1000000 then c else if s=1000001 then a else if s=1000002 then b else s) (fun s=>if s=1 then a else s) [c,a,b] (Qa9 l1 l2 h1 h2) ?_ ?_ ?_ ?_ (by simp [Qs]) (fun q hq=>by rw[List.mem_singleton.1 hq];exact Qs _) fun o1 g1 g2 g3=>?_
 ·rw[hargs];simp only[renL,ren,if_true]
 ·intro p hp;rw[List.mem_singleton.1 hp];simpa [Qj,renL,ren,QY] using m0
 ·intro q hq;rcases List.mem_cons.1 hq with rfl|hq
  ·exact f1
  ·rw[List.mem_singleton.1 hq];exact f2
 ·refine Q1 (by simp [domA];omega) (by simp [domA]) (by simp [domA]) ?_ ?_ (Zm SM) SM (by simp [Qs]) (fun q hq=>by rw[List.mem_singleton.1 hq];exact Qs _) SM SM ?_ ?_ (by simp [domA]) ?_
  ·simp only[rfL,rfI,Bool.and_true];exact JA (base:=[(1000000,_)]) (s:=1000000) (by simp [domA])
  ·simp only[List.all_cons,List.all_nil,Bool.and_true,rfOb,rfL,Bool.and_eq_true]
   exact⟨Zm SM,Zm SM⟩
  ·simp [domA]
  ·simp
  ·simp [ha]
 ·rw[show ren (fun s=>if s=1 then a else s) (ownV 1 1 ((l1++l2).map inC))=ownV a 1 ((l1++l2).map inC) from by rw[QY];rfl];refine h o1 (g2 _ (List.mem_singleton.2 rfl)) fun t k1=>g3 t fun s hs=>?_;simp [domA] at hs;subst hs;simp [Ne.symm k1]
end Go.Proofs.YtklbhcjmaeedhaaGreatDoor
