import Derived.Test.YtocmjakchgcioaaGreatM4
import Derived.Test.YtocmjakchgcioaaGreatKa

namespace Go.Proofs.YtocmjakchgcioaaGreat
set_option linter.all false
variable {o:O} {s t:Nat} {l:List Nat}
def Ow1 (o:O) (s:Nat) (l:List Nat):Prop:=l.map inC≠[]→o s=some (.row 1 (l.map inC))
def Ow1.up {x:Option Ob} (hn:(s==t)=false) (h:Ow1 o s l):Ow1 (upd o t x) s l:=fun hl=>by
 have hn:s≠t:=by simpa using hn
 show (if s=t then x else o s)=_;rw[if_neg hn];exact h hl
def Ow1.sw {d:Nat} (hn:(s==d)=false) (h:Ow1 o s l):Ow1 (swpO d o) s l:=fun hl=>by
 simp only[swpO,hn,Bool.false_eq_true,if_false,h hl,Option.bind_some,Qp];rw[Z8]
def Ow1.to:Ow1 (upd o s (some (.row 1 (l.map inC)))) s l:=fun _=>by simp [upd]
theorem Ow1.swN {o:O} {s:Nat} {l:List Nat}:∀ {D:List Nat},(D.contains s)=false→Ow1 o s l→Ow1 (Zk D o) s l
 | [],_,h=>h
 | d::D,hn,h=>by
  simp only[List.contains_cons,Bool.or_eq_false_iff] at hn;exact Ow1.swN (o:=swpO d o) hn.2 (h.sw hn.1)
def Ow1.at {o1:O} (h:Ow1 o s l) (he:o1 s=o s):Ow1 o1 s l:=fun hl=>by rw[he];exact h hl
def QcU (f:Nat→Nat) (l:List Nat):Qb f (.row 1 (l.map inC))=.row 1 (l.map inC):=QF (Qn l)
def Ow1.ren1 (h:Ow1 o s l) (hn:(s==t)=false):Ow1 (renO s t o) t l:=fun hl=>by
 simp only[renO,beq_self_eq_true,if_true];rw[h.sw hn hl];simp only[Option.map_some,QcU]
def Ow1.ren2 {u:Nat} (h:Ow1 o u l) (hn:(u==t)=false) (hm:(u==s)=false):Ow1 (renO s t o) u l:=fun hl=>by
 simp only[renO,hn,hm,Bool.false_eq_true,if_false];rw[h.sw hn hl];simp only[Option.map_some,QcU]
def XY {F:En} {gh:Bool} {a:C} {K:X→E→O→Prop} {e:E} (P:E→O→Prop) (h:wpU gh (Call F) a (fun x e o=>x=.nx∧P e o) e o) (h2:∀ e o,P e o→K .nx e o):wpU gh (Call F) a K e o :=
 DM (Qa F) (fun x e o hx=>by obtain⟨rfl,hp⟩:=hx;exact h2 e o hp) h
def rcM (n:Nat):Ob:=.row 2 [[.i .i64 (n:Int),.mp 1000001]]
mutual
theorem Jp:∀ (n:Nd) (sc nx:Nat) (L:List (Eg × Int)),nx≤(wk n sc nx L).next∧(wk n sc nx L).next≤nx+cntN n∧(wk n sc nx L).first.length+nx≤(wk n sc nx L).next∧(wk n sc nx L).last.length+nx≤(wk n sc nx L).next
 | .mk k s ps lo hi,sc,nx,L=>by
  simp only[wk,cntN];split
  ·split<;>simp<;>omega
  ·split
   ·have:=Qbr ps sc ⟨[],[],true,nx,L⟩ nx SM SM SM
    simp only at this;omega
   ·split
    ·have:=Qdc ps sc ⟨[],[],false,nx,L⟩ nx SM SM SM
     simp only at this;omega
    ·split
     ·have:=Qc4 ps (if cnts k lo hi then sc+1 else sc) nx L
      simp only;omega
     ·simp
theorem Qbr:∀ (ps:List Nd) (sc:Nat) (y:Nds) (n0:Nat),n0≤y.next→y.first.length+n0≤y.next→y.last.length+n0≤y.next→y.next≤(wkC ps sc y).next∧(wkC ps sc y).next≤y.next+cntL ps∧(wkC ps sc y).first.length+n0≤(wkC ps sc y).next∧(wkC ps sc y).last.length+n0≤(wkC ps sc y).next
 | [],sc,y,n0,h0,h1,h2=>by simp [wkC,cntL];omega
 | p::ps,sc,y,n0,h0,h1,h2=>by
  obtain⟨a,b,c,d⟩:=Jp p sc y.next y.L
  have:=Qbr ps sc ⟨if y.empty then y.first++(wk p sc y.next y.L).first else y.first,if (wk p sc y.next y.L).empty then y.last++(wk p sc y.next y.L).last else (wk p sc y.next y.L).last,y.empty&&(wk p sc y.next y.L).empty,(wk p sc y.next y.L).next,lnk y.last (wk p sc y.next y.L).first sc false (wk p sc y.next y.L).L⟩ n0 (by show n0≤(wk p sc y.next y.L).next;omega) (by dsimp only;split<;>(try simp)<;>omega) (by dsimp only;split<;>(try simp)<;>omega)
  simp only[wkC,cntL] at this ⊢;omega
theorem Qdc:∀ (ps:List Nd) (sc:Nat) (y:Nds) (n0:Nat),n0≤y.next→y.first.length+n0≤y.next→y.last.length+n0≤y.next→y.next≤(wkA ps sc y).next∧(wkA ps sc y).next≤y.next+cntL ps∧(wkA ps sc y).first.length+n0≤(wkA ps sc y).next∧(wkA ps sc y).last.length+n0≤(wkA ps sc y).next
 | [],sc,y,n0,h0,h1,h2=>by simp [wkA,cntL];omega
 | p::ps,sc,y,n0,h0,h1,h2=>by
  obtain⟨a,b,c,d⟩:=Jp p sc y.next y.L
  have:=Qdc ps sc ⟨y.first++(wk p sc y.next y.L).first,y.last++(wk p sc y.next y.L).last,y.empty||(wk p sc y.next y.L).empty,(wk p sc y.next y.L).next,(wk p sc y.next y.L).L⟩ n0 (by show n0≤(wk p sc y.next y.L).next;omega) (by simp;omega) (by simp;omega)
  simp only[wkA,cntL] at this ⊢;omega
theorem Qc4:∀ (ps:List Nd) (sc nx:Nat) (L:List (Eg × Int)),nx≤(wkH ps sc nx L).next∧(wkH ps sc nx L).next≤nx+cntL ps∧(wkH ps sc nx L).first.length+nx≤(wkH ps sc nx L).next∧(wkH ps sc nx L).last.length+nx≤(wkH ps sc nx L).next
 | [],sc,nx,L=>by simp [wkH]
 | p::ps,sc,nx,L=>by
  have:=Jp p sc nx L
  simp only[wkH,cntL];omega
end
def GWk (g:Nat) (a:V) (sc nx:Nat) (L:List (Eg × Int)) (q:Nds):Prop :=
 GenO (Call F) g [.pt 1000000 0 0,a,.i .i64 (sc:Int)] [(1000000,rcM nx),(1000001,egM L)] [] (.ag [ownV 20 1 (q.first.map inC),ownV 21 1 (q.last.map inC),.bo q.empty])
  [(1000000,rcM q.next),(1000001,egM q.L)] [(20,1,q.first.map inC),(21,1,q.last.map inC)] [1000000,1000001] []
def WG (p:Nd):Prop:=∀ (sc nx:Nat) (L:List (Eg × Int)),sc+cntN p≤1000→nx+cntN p≤1000→GWk 35 (.ag (cel p)) sc nx L (wk p sc nx L)
def Vp {p:Nd} {ps:List Nd} (h:p∈ps):cntN p≤cntL ps:=by
 induction ps with
 | nil=>cases h
 | cons q ps ih =>
  simp only[cntL];rcases List.mem_cons.1 h with rfl|h
  ·omega
  ·have:=ih h;omega
def Qfm (q:Nds) (base:List (Nat × Ob)):rfI (domA (obs base [(20,1,q.first.map inC),(21,1,q.last.map inC)])) (.ag [ownV 20 1 (q.first.map inC),ownV 21 1 (q.last.map inC),.bo q.empty])=true:=by
 simp only[rfI,rfL,Q7 (base:=base) (owns:=[(20,1,q.first.map inC),(21,1,q.last.map inC)]) (s:=20) (sz:=1) (L:=q.first.map inC) SM,Q7 (base:=base) (owns:=[(20,1,q.first.map inC),(21,1,q.last.map inC)]) (s:=21) (sz:=1) (L:=q.last.map inC) SM,Bool.and_true]
def Xg (n:Nat) (L:List (Eg × Int)) (owns:List Ow):(([(1000000,rcM n),(1000001,egM L)]:List (Nat × Ob)).all fun p=>rfOb (domA (obs [(1000000,rcM n),(1000001,egM L)] owns)) p.2)=true:=by
 rw[List.all_cons,List.all_cons,QbT,List.all_nil,Bool.and_true,Bool.and_true];simp only[rcM,rfOb,rfL,rfI,List.all_cons,List.all_nil,Bool.true_and,Bool.and_true];exact QQ (base:=[(1000000,rcM n),(1000001,egM L)]) (s:=1000001) (by simp [domA])
def Y5 {q:Nds} {nx:Nat} {v:V} (hst:s≠t) (hs:s < 1000000) (ht:t < 1000000) (hv:v=.ag [ownV s 1 (q.first.map inC),ownV t 1 (q.last.map inC),.bo q.empty]) (m0:o 1000000=some (rcM q.next)) (m1:o 1000001=some (egM q.L)) (h1:Ow1 o s q.first) (h2:Ow1 o t q.last) :
  GenE (domA (obs [(1000000,rcM q.next),(1000001,egM q.L)] [(20,1,q.first.map inC),(21,1,q.last.map inC)])) (obs [(1000000,rcM q.next),(1000001,egM q.L)] [(20,1,q.first.map inC),(21,1,q.last.map inC)]) (.ag [ownV 20 1 (q.first.map inC),ownV 21 1 (q.last.map inC),.bo q.empty]) (stOf [1000000,1000001] []) v o:=by
 subst hv;have e0:(1000000==s)=false:=by simp;omega
 have e1:(1000000==t)=false:=by simp;omega
 have e2:(1000001==s)=false:=by simp;omega
 have e3:(1000001==t)=false:=by simp;omega
 refine Qw [(1000000,rcM q.next),(1000001,egM q.L)] [(s,1,q.first.map inC),(t,1,q.last.map inC)] (fun x=>if x==s then 20 else if x==t then 21 else x) ?_ ?_ ?_ ?_ ?_ ?_ ?_ ?_ ?_ ?_
 ·have:(t==s)=false:=by simp;omega
  simp only[ren,renL,QN,beq_self_eq_true,if_true,this,Bool.false_eq_true,if_false]
 ·simp only[List.map_cons,List.map_nil,e0,e1,e2,e3,Jh,Bool.false_eq_true,if_false];simp only[rcM,Qb,List.map_cons,List.map_nil,renL,ren,e2,e3,Bool.false_eq_true,if_false]
 ·have:(t==s)=false:=by simp;omega
  simp only[List.map_cons,List.map_nil,beq_self_eq_true,if_true,this,Bool.false_eq_true,if_false]
 ·simp [Qn]
 ·simp [m0,m1]
 ·intro p hp;rcases List.mem_cons.1 hp with rfl|hp
  ·exact h1
  ·rw[List.mem_singleton.1 hp];exact h2
 ·simp only[rfI,rfL,Bool.and_true,Bool.and_eq_true]
  exact⟨Q7 SM,Q7 SM⟩
 ·exact Xg _ _ _
 ·intro x hx;rcases List.mem_cons.1 hx with rfl|hx
  ·exact⟨by simp [domA],by simp [e0,e1]⟩
  ·rw[List.mem_singleton.1 hx];exact⟨by simp [domA],by simp [e2,e3]⟩
 ·simp
end Go.Proofs.YtocmjakchgcioaaGreat
