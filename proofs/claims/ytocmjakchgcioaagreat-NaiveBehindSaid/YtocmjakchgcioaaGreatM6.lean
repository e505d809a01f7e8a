import Derived.Test.YtocmjakchgcioaaGreatM5

namespace Go.Proofs.YtocmjakchgcioaaGreat
set_option linter.all false
variable {e:E} {o:O} {d:Nat} {ods:List Od} {L:List (Eg × Int)} {l:List Stp} {K:E→O→Prop}
attribute [-go_sem] Qp Qb rfOb
def Qdk (s sz:Nat) (L:List (List V)):(ownV s sz L).cells=[ownV s sz L]:=by unfold ownV;split<;>rfl
def WK (s t:Nat) (o:O) (x:Nat):renO s t o x=if x==t then (swpO t o s).map (Qb (tof s t)) else if x==s then none else (swpO t o x).map (Qb (tof s t)):=rfl
def QdP (cs:List V):(V.ag cs).cells=cs:=rfl
def Qed (a b c d:Nat):(V.rw a b c d).cells=[V.rw a b c d]:=rfl
def QhJ (k:IntKind) (n:Int):(V.i k n).cells=[V.i k n]:=rfl
def Qeb (b:Bool):(V.bo b).cells=[V.bo b]:=rfl
def QbN:V.nil.cells=[V.nil]:=rfl
def QdR (es:List (List V)):(V.sl es).cells=[V.sl es]:=rfl
def Qd0 (s:Nat):(V.mp s).cells=[V.mp s]:=rfl
def QeK (a b c:Nat):(V.pt a b c).cells=[V.pt a b c]:=rfl
attribute [go_sem] Qdk QdP Qed QhJ Qeb QbN QdR Qd0 QeK
def X5 {g:Nat} {a:V} {sc nx:Nat} {q:Nds} (hW:GWk g a sc nx L q) (hargs:ods.map (Od.ev e)=[.pt 1000000 0 0,a,.i .i64 sc]) (ha:cld a=true) (m0:o 1000000=some (rcM nx)) (m1:o 1000001=some (egM L))
  (h:∀ o1,o1 1000000=some (.row 2 [[.i .i64 (q.next:Int),.mp 1000001]])→o1 1000001=some (egM q.L)→Ow1 o1 2000 q.first→Ow1 o1 2001 q.last→(∀ t,t≠1000000→t≠1000001→t≠2000→t≠2001→o1 t=Zk [2000,2001] o t)→wpRU (Call F) l K (upd (Ze [2000,2001] e) d (.ag [ownV 2000 1 (q.first.map inC),ownV 2001 1 (q.last.map inC),.bo q.empty])) o1):wpRU (Call F) (⟨some d,none,.nc g ods,[]⟩::l) K e o:=by
 have hra:∀ D,rfI D a=true:=fun D=>Yx D a ha;refine ZF (fun s=>s) (fun s=>if s=20 then 2000 else if s=21 then 2001 else s) [2000,2001] hW (by rw[hargs,JV]) ?_ SM ?_ SM (by simp [Qn]) fun o1 g1 g2 g3=>?_
 ·simp [ZG,m0,m1]
 ·refine Qr (by simp [domA]) (by simp [domA]) (by simp [domA]) ?_ (Xg _ _ _) (Qfm _ _) (Xg _ _ _) SM (by simp [Qn]) ?_ SM ?_ SM ?_ ?_
  ·simp only[rfL,rfI,hra,Bool.and_true];exact QQ (base:=[(1000000,rcM nx),(1000001,egM L)]) (s:=1000000) (by simp [domA])
  ·simp [domA]
  ·simp [domA]
  ·simp [domA]
  ·simp
 ·refine (?_:wpRU (Call F) l K (upd (Ze [2000,2001] e) d (ren _ _)) o1);rw[show ren (fun s=>if s=20 then 2000 else if s=21 then 2001 else s) (.ag [ownV 20 1 (q.first.map inC),ownV 21 1 (q.last.map inC),.bo q.empty])=.ag [ownV 2000 1 (q.first.map inC),ownV 2001 1 (q.last.map inC),.bo q.empty] from by simp only[ren,renL,QN];rfl];refine h o1 ?_ ?_ (g2 (20,1,q.first.map inC) SM) (g2 (21,1,q.last.map inC) SM) fun t h1 h2 h3 h4=>g3 t ?_
  ·have:=g1 _ (List.mem_cons_self ..)
   simpa [rcM,Qb,renL,ren] using this
  ·have:=g1 (1000001,egM q.L) SM
   simpa [Jh] using this
  ·intro s hs;simp [domA] at hs;rcases hs with rfl|rfl|rfl|rfl<;>simp [Ne.symm h1,Ne.symm h2,Ne.symm h3,Ne.symm h4]
def Qfx (a b:Nat) {next keep:Nat} {again:Bool} {fr to:List Nat} (h1:fr.length≤1000) (h2:to.length≤1000) (hab:a≠b) (ha:a < 1000000) (hb:b < 1000000) (hargs:ods.map (Od.ev e)=[.pt 1000000 0 0,ownV a 1 (fr.map inC),ownV b 1 (to.map inC),.i .i64 keep,.bo again])
  (m0:o 1000000=some (.row 2 [[.i .i64 (next:Int),.mp 1000001]])) (m1:o 1000001=some (egM L)) (f1:Ow1 o a fr) (f2:Ow1 o b to)
  (h:∀ o1,o1 1000000=some (.row 2 [[.i .i64 (next:Int),.mp 1000001]])→o1 1000001=some (egM (lnk fr to keep again L))→Ow1 o1 a fr→Ow1 o1 b to→(∀ t,t≠1000000→t≠1000001→t≠a→t≠b→o1 t=o t)→wpRU (Call F) l K (upd e d (.tp [])) o1):wpRU (Call F) (⟨some d,none,.nc 79 ods,[]⟩::l) K e o:=by
 refine ZF (fun s=>if s=1000002 then a else if s=1000003 then b else s) (fun s=>if s=1000002 then a else if s=1000003 then b else s) [] (QeH next fr to keep again L h1 h2) ?_ ?_ ?_ ?_ (by simp [Qn]) (by simp [Qn]) fun o1 g1 g2 g3=>?_
 ·rw[hargs];simp only[renL,ren,QN];rfl
 ·intro p hp;rcases List.mem_cons.1 hp with rfl|hp
  ·simpa [Qb,renL,ren] using m0
  ·rw[List.mem_singleton.1 hp];simpa [Jh] using m1
 ·intro q hq;rcases List.mem_cons.1 hq with rfl|hq
  ·exact f1
  ·rw[List.mem_singleton.1 hq];exact f2
 ·have hn:((domA ([(1000000,rcM next),(1000001,egM L)]:List (Nat × Ob))++([(1000002,1,fr.map inC),(1000003,1,to.map inC)]:List Ow).map (·.1)).map fun s=>if s=1000002 then a else if s=1000003 then b else s).Nodup:=by
   simp [domA];omega
  refine Qr hn hn (by simp [domA]) ?_ (Xg _ _ _) (by simp [rfI,rfL]) (Xg _ _ _) (by simp [Qn]) (by simp [Qn]) ?_ ?_ ?_ ?_ ?_ ?_
  ·simp only[rfL,rfI,Bool.and_true,Bool.and_eq_true]
   exact⟨QQ (base:=[(1000000,rcM next),(1000001,egM L)]) (s:=1000000) (by simp [domA]),Q7 SM,Q7 SM⟩
  ·simp [domA]
  ·simp
  ·simp [domA]
  ·simp
  ·simp [domA]
  ·simp
 ·refine h o1 ?_ ?_ (g2 (1000002,1,fr.map inC) SM) (g2 (1000003,1,to.map inC) SM) fun t k1 k2 k3 k4=>g3 t fun s hs=>?_
  ·have:=g1 _ (List.mem_cons_self ..)
   simpa [Qb,renL,ren] using this
  ·have:=g1 (1000001,egM (lnk fr to keep again L)) SM
   simpa [Jh] using this
  ·simp [domA] at hs;rcases hs with rfl|rfl|rfl|rfl<;>simp [Ne.symm k1,Ne.symm k2,Ne.symm k3,Ne.symm k4]
def U_cc (c a b:Nat) {l1 l2:List Nat} (h1:l1.length≤1000) (h2:l2.length≤1000) (hn:c≠a∧c≠b∧a≠b) (ha:a < 1000000) (hargs:ods.map (Od.ev e)=[.rw c 1 0 2])
  (m0:o c=some (.row 1 [[ownV a 1 (l1.map inC)],[ownV b 1 (l2.map inC)]])) (f1:Ow1 o a l1) (f2:Ow1 o b l2)
  (h:∀ o1,Ow1 o1 a (l1++l2)→(∀ t,t≠a→o1 t=Zk [c,a,b] o t)→wpRU (Call F) l K (upd (Ze [c,a,b] e) d (ownV a 1 ((l1++l2).map inC))) o1):wpRU (Call F) (⟨some d,none,.nc 80 ods,[]⟩::l) K e o:=by
 refine ZF (fun s=>if s=1000000 then c else if s=1000001 then a else if s=1000002 then b else s) (fun s=>if s=1 then a else s) [c,a,b] (Qaw l1 l2 h1 h2) ?_ ?_ ?_ ?_ (by simp [Qn]) (fun q hq=>by rw[List.mem_singleton.1 hq];exact Qn _) fun o1 g1 g2 g3=>?_
 ·rw[hargs];simp only[renL,ren,if_true]
 ·intro p hp;rw[List.mem_singleton.1 hp];simpa [Qb,renL,ren,QN] using m0
 ·intro q hq;rcases List.mem_cons.1 hq with rfl|hq
  ·exact f1
  ·rw[List.mem_singleton.1 hq];exact f2
 ·refine Qr (by simp [domA];omega) (by simp [domA]) (by simp [domA]) ?_ ?_ (Q7 SM) SM (by simp [Qn]) (fun q hq=>by rw[List.mem_singleton.1 hq];exact Qn _) SM SM ?_ ?_ (by simp [domA]) ?_
  ·simp only[rfL,rfI,Bool.and_true];exact QQ (base:=[(1000000,_)]) (s:=1000000) (by simp [domA])
  ·simp only[List.all_cons,List.all_nil,Bool.and_true,rfOb,rfL,Bool.and_eq_true]
   exact⟨Q7 SM,Q7 SM⟩
  ·simp [domA]
  ·simp
  ·simp [ha]
 ·rw[show ren (fun s=>if s=1 then a else s) (ownV 1 1 ((l1++l2).map inC))=ownV a 1 ((l1++l2).map inC) from by rw[QN];rfl];refine h o1 (g2 _ (List.mem_singleton.2 rfl)) fun t k1=>g3 t fun s hs=>?_;simp [domA] at hs;subst hs;simp [Ne.symm k1]
end Go.Proofs.YtocmjakchgcioaaGreat
