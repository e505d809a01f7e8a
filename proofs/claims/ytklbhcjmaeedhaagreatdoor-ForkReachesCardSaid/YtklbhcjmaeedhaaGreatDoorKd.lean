import Derived.Test.YtklbhcjmaeedhaaGreatDoorM12

namespace Go.Proofs.YtklbhcjmaeedhaaGreatDoor
set_option linter.all false
variable {o:O}
attribute [-go_sem] Qy Qj rfOb V.cells
def YT {s sz:Nat} {L:List (List V)} (h:Own o s sz L) (ha:∀ c∈L,∀ v∈c,∀ n,frzU (n+1) o v=some v) (n:Nat):frzU (n+2) o (ownV s sz L)=some (.sl L):=by
 unfold ownV;split
 ·rename_i hL;subst hL;rfl
 ·rename_i hL;have hs:src o (.rw s sz 0 L.length)=some L:=by
   simp only[src,h.h hL];rw[if_pos SM];simp
  have hm:(L.mapM fun c:List V=>c.mapM (frzU (n+1) o))=some L:=ZR fun c hc v hv=>ha c hc v hv n;simp only[frzU,hs,hm];rfl
def Qfz (l:List Nat):∀ c∈l.map inC,∀ v∈c,∀ n,frzU (n+1) o v=some v:=by
 intro c hc v hv n;obtain⟨x,_,rfl⟩:=List.mem_map.1 hc;simp [inC] at hv;subst hv;rfl
def QfE (l:List (Int × Int)):∀ c∈l.map scC,∀ v∈c,∀ n,frzU (n+1) o v=some v:=by
 intro c hc v hv n;obtain⟨x,_,rfl⟩:=List.mem_map.1 hc;simp [scC] at hv;rcases hv with rfl|rfl<;>rfl
def QlQ (l:List (Nat→Nat)):∀ c∈l.map u4,∀ v∈c,∀ n,frzU (n+1) o v=some v:=by
 intro c hc v hv n;obtain⟨x,_,rfl⟩:=List.mem_map.1 hc;simp [u4] at hv;rcases hv with rfl|rfl|rfl|rfl<;>rfl
theorem Qbj {o:O} (n:Nat):∀ (l:List (List Nat)) (k:Nat),(∀ i x,l[i]?=some x→Own o (5000+(k+i)) 1 (x.map inC))→((arC k l).mapM fun c:List V=>c.mapM (frzU (n+2) o))=some (l.map lsC)
 | [],k,_=>rfl
 | y::l,k,h=>by
  have h1:=Qbj n l (k+1) fun i x hi=>by
   have:=h (i+1) x (by simpa using hi)
   rw[show k+1+i=k+(i+1) from by omega];exact this
  have h0:frzU (n+2) o (ownV (5000+k) 1 (y.map inC))=some (.sl (y.map inC)):=YT (h 0 y SM) (Qfz y) n;rw[arC,List.mapM_cons,List.mapM_cons,h0,h1];rfl
def Qft {l:List (List Nat)} (h3:o 3003=some (.row 1 (arC 0 l))) (h:AO o l) (n:Nat):frzU (n+3) o (ownV 3003 1 (arC 0 l))=some (.sl (l.map lsC)):=by
 unfold ownV;split
 ·rename_i hL;cases l with
  | nil=>rfl
  | cons a l=>simp [arC] at hL
 ·have hs:src o (.rw 3003 1 0 (arC 0 l).length)=some (arC 0 l):=by
   simp only[src,h3];rw[if_pos SM];simp
  simp only[frzU,hs,Qbj n l 0 fun i x hi=>by rw[Nat.zero_add];exact h i x hi];rfl
def Qc8 (n:Nd) (h:Zv n) (hf:Qe n=false):Pu F 39 [.ag (cel n)] (.tp [.ag (cel noN),.i .i64 1]):=by
 have hf':Pu F 58 [.ag (cel n)] (.bo (Qe n)):=JC n h emp _ (fun _=>rfl);rw[hf] at hf';refine Qh e39 rfl rfl (by simp only[go_sem,Bool.and_true]) ?_;dsimp only[fn39,c39];(repeat' (first|refine RSN trivial ?_|((with_reducible refine PCN trivial (r:=.bo false) ?h ?_);case h=>exact (hf'))|with_reducible refine GBN trivial (fun _=>?_) (fun _=>?_)|with_reducible refine GDN trivial (fun _=>?_) (fun _=>?_)));rfl
def mpR (t:Nd) (q:Pl):V:=.ag (mpC t q.sets q.scopes q.around)
def noP:V:=.ag (mpC noN [] [] [])
def QlZ (n:Nd) (h:Zv n) (hf:Qe n=false):Pu F 23 [.ag (cel n)] (.tp [noP,.i .i64 1]):=by
 have hs:=Qc8 n h hf;refine Qh e23 rfl rfl (by simp only[go_sem,Bool.and_true]) ?_;dsimp only[fn23,c23];(repeat' (first|refine RSN trivial ?_|((with_reducible refine PCN trivial (r:=.tp [.ag (cel noN),.i .i64 1]) ?h ?_);case h=>exact hs)|with_reducible refine GBN trivial (fun _=>?_) (fun _=>?_)|with_reducible refine GDN trivial (fun _=>?_) (fun _=>?_)));rfl
def okD2 (d:Nat):Prop:=okD d∨d=17∨d=18
def QlX {e:E} {d:Nat} {ods:List Od} {t:Nd} {q0:Pl} {l:List Stp} {K:E→O→Prop} (hW:GPw t) (b1:1+cntN t≤1000) (hq0:q0=⟨[zSet],[],[[]]⟩) (hargs:ods.map (Od.ev e)=[.pt 20 0 0,.ag (cel t),.nil])
  (m0:o 20=some (Qj (fun s=>if s=1000000 then 20 else if s=3001 then 17 else if s=3003 then 18 else s) (plR t q0))) (m3:o 18=some (.row 1 [[.nil]])) (f1:o 17=some (.row 4 [u4 zSet]))
  (h:∀ e1 o1,o1 20=some (plR t (Ql t [] q0))→o1 3003=some (.row 1 (arC 0 (Ql t [] q0).around))→Own o1 3001 4 ((Ql t [] q0).sets.map u4)→Own o1 3002 2 ((Ql t [] q0).scopes.map scC)→AO o1 (Ql t [] q0).around→(∀ t,(∀ d,okD2 d→swp d (e t)=e t)→e1 t=e t)→(∀ t x,o t=some x→t≠20→¬ okD2 t→t≠1000002→(∀ d,okD2 d→Qy d x=some x)→o1 t=some x) →
   wpRU (Call F) l K (upd e1 d (.tp [])) o1):wpRU (Call F) (⟨some d,none,.nc 40 ods,[]⟩::l) K e o:=by
 obtain⟨w1,w2,w3,w4⟩:=Yq t [] q0;have hne:q0.around≠[]:=by rw[hq0];simp
 have l1:q0.sets.length=1:=by rw[hq0];rfl
 have l2:q0.scopes.length=0:=by rw[hq0];rfl
 have l3:q0.around.length=1:=by rw[hq0];rfl
 generalize hf:(fun s=>if s=1000000 then 20 else if s=3001 then 17 else if s=3003 then 18 else s)=f at m0;generalize hf':(fun s=>if s=1000000 then 20 else s)=f';have a0:f 1000000=20:=by rw[← hf];rfl
 have a1:f 3001=17:=by rw[← hf];rfl
 have a2:f 3002=3002:=by rw[← hf];rfl
 have a3:f 3003=18:=by rw[← hf];rfl
 have a4:f 1000002=1000002:=by rw[← hf];rfl
 have a5:f 5000=5000:=by rw[← hf];rfl
 have e0:f' 1000000=20:=by rw[← hf'];rfl
 have e1:f' 3001=3001:=by rw[← hf'];rfl
 have e2:f' 3002=3002:=by rw[← hf'];rfl
 have e3:f' 3003=3003:=by rw[← hf'];rfl
 have e4:f' 1000002=1000002:=by rw[← hf'];rfl
 have e5:∀ i,i≤1000→f' (5000+i)=5000+i:=fun i hi=>by rw[← hf'];show (if 5000+i=1000000 then 20 else 5000+i)=_;rw[if_neg OM]
 have hD:∀ d∈17::18::Dn (Ql t [] q0).around.length,okD2 d:=by
  intro d hd;rcases List.mem_cons.1 hd with rfl|hd
  ·exact .inr (.inl rfl)
  rcases List.mem_cons.1 hd with rfl|hd
  ·exact .inr (.inr rfl)
  ·exact .inl (QkX OM d hd)
 have hm:∀ w∈plO (Ql t [] q0) [],w∈[((1000002:Nat),(1:Nat),([]:List Nat).map inC)]∨(f' w.1∈17::18::Dn (Ql t [] q0).around.length∧f' w.1 < 1000000):=fun w hw=>by
  simp only[plO,List.mem_cons] at hw;rcases hw with rfl|rfl|rfl|hw
  ·left;simp
  ·right;rw[e1];exact⟨by simp [Dn],OM⟩
  ·right;rw[e2];exact⟨by simp [Dn],OM⟩
  ·right
   obtain⟨i,x,hi,rfl⟩:=(Y1 _ _ _).1 hw
   have:=(List.getElem?_eq_some_iff.1 hi).1
   dsimp only;rw[Nat.zero_add,e5 i OM]
   refine⟨?_,OM⟩
   simp only[Dn,List.mem_cons];right;right;right;right;right
   exact List.mem_range'.2 ⟨i,OM,OM⟩
 refine Yp f f' (17::18::Dn (Ql t [] q0).around.length) (hW [] t q0 OM OM OM (by simp;omega) hne) ?_ ?_ ?_ ?_ (YG _ _) (YG _ _) fun o1 g1 g2 g3=>?_
 ·have hc:ren f (.ag (cel t))=.ag (cel t):=Kr _ _ (by simp only[go_sem]);rw[hargs];simp only[renL];rw[hc,QY,a4,ren,a0];rfl
 ·intro x hx;simp only[plB,List.mem_cons,List.not_mem_nil,or_false] at hx;rcases hx with rfl|rfl
  ·dsimp only;rw[a0];exact m0
  ·dsimp only;rw[hq0,a3,m3];rfl
 ·intro w hw;rw[hq0] at hw;simp only[plO,arO,List.map_nil,List.map_cons,List.mem_cons,List.not_mem_nil,or_false] at hw;rcases hw with rfl|rfl|rfl|rfl
  ·intro hh;exact absurd rfl hh
  ·dsimp only;rw[a1];exact fun _=>f1
  ·intro hh;exact absurd rfl hh
  ·intro hh;exact absurd rfl hh
 ·refine Q1 ?_ ?_ ?_ ?_ (HB _ _ _) (by simp [rfI,rfL]) (HB _ _ _) (YG _ _) (YG _ _) ?_ ?_ ?_ ?_ ?_ ?_
  ·subst hq0;simp only[plB,plO,arO,domA,List.map_cons,List.map_nil,List.cons_append,List.nil_append,a0,a1,a2,a3,a4];rw[show (5000+0)=5000 from rfl,a5];simp
  ·have e:(domA (plB t (Ql t [] q0))++(plO (Ql t [] q0) []).map (fun w=>w.1)).map f'=[20,3003,1000002,3001,3002]++List.range' 5000 (Ql t [] q0).around.length:=by
    simp only[plB,plO,domA,List.map_cons,List.map_nil,List.cons_append,List.nil_append,Xh,e0,e1,e2,e3,e4];congr 5;conv=>rhs;rw[← List.map_id (List.range' 5000 (Ql t [] q0).around.length)]
    refine List.map_congr_left fun x hx=>?_;obtain⟨i,hi,rfl⟩:=List.mem_range'.1 hx;rw[Nat.one_mul];exact e5 i OM
   rw[e];refine List.nodup_append.2 ⟨SM,List.nodup_range',fun a ha b hb=>?_⟩;obtain⟨i,hi,rfl⟩:=List.mem_range'.1 hb;simp only[List.mem_cons,List.not_mem_nil,or_false] at ha;omega
  ·have:=Yo (fun s=>s) 1000002 (.inl rfl) rfl rfl rfl rfl rfl (fun _ _=>rfl) t (Ql t [] q0) [] OM
   rw[List.map_id'] at this;exact this
  ·have hc:∀ D,rfI D (.ag (cel t))=true:=fun D=>XF D _ (by simp only[go_sem]);simp only[rfL,hc,Bool.and_true,Bool.true_and,Bool.and_eq_true]
   refine⟨?_,Zm (by simp [plO])⟩
   rw[rfI];exact JA (base:=plB t q0) (s:=1000000) (by simp [domA,plB])
  ·intro s hs;rw[List.mem_singleton.1 hs]
   exact⟨by simp [plB,domA],by simp [plB,domA],by rw[a0,e0],fun hh=>by
    have:=hD _ hh;rw[a0] at this
    rcases this with h1|h1|h1
    ·exact absurd h1.1 OM
    ·omega
    ·omega⟩
  ·intro w hw;rw[List.mem_singleton.1 hw]
   exact⟨by simp [plO],by simp [plO],by dsimp only;rw[a4,e4],fun hh=>by
    have:=hD _ hh;dsimp only at this;rw[a4] at this
    rcases this with h1|h1|h1
    ·exact absurd h1.2.1 OM
    ·omega
    ·omega⟩
  ·intro s hs;simp only[plB,domA,List.map_cons,List.map_nil,List.mem_cons,List.not_mem_nil,or_false] at hs;rcases hs with rfl|rfl
   ·left;simp
   ·right;rw[a3];simp
  ·intro w hw;rw[hq0] at hw;simp only[plO,arO,List.map_nil,List.map_cons,List.mem_cons,List.not_mem_nil,or_false] at hw;rcases hw with rfl|rfl|rfl|rfl
   ·left;simp
   ·right;dsimp only;rw[a1];simp
   ·right;dsimp only;rw[a2];simp [Dn]
   ·right;dsimp only;rw[a5]
    simp only[Dn,List.mem_cons];right;right;right;right;right
    exact List.mem_range'.2 ⟨0,OM,OM⟩
  ·intro s hs;simp only[plB,domA,List.map_cons,List.map_nil,List.mem_cons,List.not_mem_nil,or_false] at hs;rcases hs with rfl|rfl
   ·left;simp
   ·right;rw[e3];exact⟨by simp [Dn],OM⟩
  ·exact hm
 ·refine h (Zx (17::18::Dn (Ql t [] q0).around.length) e) o1 ?_ ?_ ⟨Zk (fun _=>rfl) _,?_⟩ ⟨Zk (fun _=>rfl) _,?_⟩ (fun i x hi=>⟨Zk (fun _=>rfl) _,?_⟩) (fun t ht=>J2 fun d hd=>ht d (hD d hd)) fun u x hu k1 k2 k3 k4=>?_
  ·have:=g1 (1000000,plR t (Ql t [] q0)) (by simp [plB])
   dsimp only at this;rw[V0 _ e1 e2 e3,e0] at this;exact this
  ·have:=g1 (3003,.row 1 (arC 0 (Ql t [] q0).around)) (by simp [plB])
   dsimp only at this;rw[Y8,Hb f' e5 _ 0 OM,e3] at this;exact this
  ·have:=g2 (3001,4,(Ql t [] q0).sets.map u4) (by simp [plO])
   dsimp only at this;rw[e1] at this;exact this
  ·have:=g2 (3002,2,(Ql t [] q0).scopes.map scC) (by simp [plO])
   dsimp only at this;rw[e2] at this;exact this
  ·have hlt:=(List.getElem?_eq_some_iff.1 hi).1
   have:=g2 (5000+i,1,x.map inC) (by simp only[plO,List.mem_cons];right;right;right;exact (Y1 _ _ _).2 ⟨i,x,hi,by rw[Nat.zero_add]⟩)
   dsimp only at this;rw[e5 i OM] at this;exact this
  ·rw[g3 u fun s hs=>?_]
   ·exact Wg hu (fun hh=>k2 (hD _ hh)) fun d hd=>k4 d (hD d hd)
   ·intro hh;rcases List.mem_append.1 hs with hs|hs
    ·simp only[plB,domA,List.map_cons,List.map_nil,List.mem_cons,List.not_mem_nil,or_false] at hs;rcases hs with rfl|rfl
     ·rw[e0] at hh;exact k1 hh.symm
     ·rw[e3] at hh;exact k2 (by rw[← hh];exact .inl ⟨OM,OM,OM⟩)
    ·obtain⟨w,hw,rfl⟩:=List.mem_map.1 hs;rcases hm w hw with h1|h1
     ·rw[List.mem_singleton.1 h1] at hh;dsimp only at hh;rw[e4] at hh;exact k3 hh.symm
     ·rw[hh] at h1;exact k2 (hD _ h1.1)
def DS {cs ws:List V} {k:IntKind} {n:Int} (h:cs.mapM (frzU 22 o)=some ws):fzU o (.tp [.ag cs,.i k n])=some (.tp [.ag ws,.i k n]):=by
 have h1:frzU 23 o (.ag cs)=some (.ag ws):=by
  show (cs.mapM (frzU 22 o)).map V.ag=_;rw[h];rfl
 show ([V.ag cs,.i k n].mapM (frzU 23 o)).map V.tp=_;rw[List.mapM_cons,h1];rfl
def Qj8 (n:Nd) (h:okN n) (hc:cntN n≤900):Pu F 23 [.ag (cel n)] (if plOk (plT (Qb n)) then .tp [mpR (Qb n) (plT (Qb n)),.i .i64 0] else .tp [noP,.i .i64 3]):=by
 have hs:=Qdz n h hc;obtain⟨hso,hcn⟩:=Ys n h OM;generalize Qb n=t at hs hso hcn ⊢;have hW:=Hy t;obtain⟨w1,w2,w3,w4⟩:=Yq t [] ⟨[zSet],[],[[]]⟩;have hwt:Ql t [] ⟨[zSet],[],[[]]⟩=plT t:=rfl;rw[hwt] at w1 w2 w3;simp only[List.length_cons,List.length_nil] at w1 w2 w3;have h1:∀ l:List Nat,Pu F 42 [.sl (l.map inC)] (.bo (decide (l.length > 4))):=Qk1;have hcf:=QeC (plT t).around OM 42 (fun l=>decide (l.length > 4)) (fun x _=>h1 x);obtain⟨tk,ts,tp,tl,th⟩:=t;rw[QZ] at hs;simp only[nd8] at hs;have hzu:u4 zSet=[.i .u64 0,.i .u64 0,.i .u64 0,.i .u64 0]:=rfl;refine Qh e23 rfl rfl (by simp only[go_sem,Bool.and_true]) ?_;dsimp only[fn23,c23];(repeat' (first|refine RSN trivial ?_|((with_reducible refine PCN trivial (r:=.tp [.ag [.i .i64 tk,.i .u64 (ts 0),.i .u64 (ts 1),.i .u64 (ts 2),.i .u64 (ts 3),.sl (tp.map cel),.i .i64 tl,.i .i64 th],.i .i64 0]) ?h ?_);case h=>exact hs)|with_reducible refine GBN trivial (fun _=>?_) (fun _=>?_)|with_reducible refine GDN trivial (fun _=>?_) (fun _=>?_)));refine Qfo (n:=1) (c:=1) (Zr0) (Zr0) OM ⟨OM,OM⟩ ?_;refine RN trivial ?_;refine Qfo (n:=1) (c:=1) (Zr0) (Zr0) OM ⟨OM,OM⟩ ?_;refine RN trivial ?_;refine QlX (q0:=⟨[zSet],[],[[]]⟩) hW OM rfl (by rw[QZ];simp only[nd8];simp only[go_sem]) ?_ (Z0) (Z1 hzu) fun e1 o1 g0 g1 g2 g3 g4 k1 k2=>?_
 ·simp only[plR,List.map_nil,List.map_cons,Q5,arC,Y8,renL,ren,QY];simp only[go_sem];rfl
 rw[hwt] at g0 g1 g2 g3 g4;have hz2:∀ d,okD2 d→((20:Nat)==d)=false∧((2:Nat)==d)=false:=fun d hd=>by
  have:3≤d∧d≠20:=by
   rcases hd with hd|hd|hd
   ·have:=hd.1;omega
   ·omega
   ·omega
  simp;omega
 have t6:e1 6=.pt 20 0 0:=by
  rw[k1 6 fun d hd=>by simp only[(hz2 d hd).1,go_sem]];simp only[go_sem]
 have t2:e1 2=.pt 2 0 0:=by
  rw[k1 2 fun d hd=>by simp only[(hz2 d hd).2,go_sem]];simp only[go_sem]
 have t3:e1 3=.i .i64 0:=by
  rw[k1 3 fun d hd=>by simp only[go_sem]];simp only[go_sem]
 have o2:o1 2=some (.row 11 [[.i .i64 0,.i .u64 0,.i .u64 0,.i .u64 0,.i .u64 0,.nil,.i .i64 0,.i .i64 0,.nil,.nil,.nil]]):=by
  refine k2 2 _ ?_ OM (fun hh=>?_) OM fun d hd=>rfl
  ·simp only[go_sem]
  ·rcases hh with hh|hh|hh
   ·exact absurd hh.1 OM
   ·omega
   ·omega
 clear k1 k2 hs;simp only[plR] at g0;have s1:=ZC 3001 4 ((plT (.mk tk ts tp tl th)).sets.map u4);rw[List.length_map] at s1;simp only[JZ] at s1;have hza:=Qft g1 g4;have hfa:fzU o1 (ownV 3003 1 (arC 0 (plT (.mk tk ts tp tl th)).around))=some (.sl ((plT (.mk tk ts tp tl th)).around.map lsC)):=hza 21;by_cases hL:(plT (.mk tk ts tp tl th)).sets.length > 41
 ·have cL:decide ((((plT (.mk tk ts tp tl th)).sets.length:Nat):Int) > 41)=true:=by simp;omega
  have hp:plOk (plT (.mk tk ts tp tl th))=false:=by simp [plOk];intro h2;omega
  rw[hp];refine RN (Ad2 t6 (Ad5 t2 g0 o2 s1 cL)) ?_;rfl
 ·have cL:decide ((((plT (.mk tk ts tp tl th)).sets.length:Nat):Int) > 41)=false:=by simp;omega
  have hL2:decide ((plT (.mk tk ts tp tl th)).sets.length≤41)=true:=by simp;omega
  refine RN (Ad2 t6 (Ad5 t2 g0 o2 s1 cL)) ?_;refine U_pc (vs:=[ownV 3003 1 (arC 0 (plT (.mk tk ts tp tl th)).around),.fn 42 []]) (ws:=[.sl ((plT (.mk tk ts tp tl th)).around.map lsC),.fn 42 []]) (r:=.bo ((plT (.mk tk ts tp tl th)).around.any fun l=>decide (l.length > 4))) (Z0) (by simp only[fzsU,List.mapM_cons,List.mapM_nil,hfa];rfl) (Bool.or_eq_true_iff.2 (.inr rfl)) rfl hcf ?_;generalize hany:((plT (.mk tk ts tp tl th)).around.any fun l=>decide (l.length > 4))=bad;cases bad with
  | true =>
   have hp:plOk (plT (.mk tk ts tp tl th))=false:=by simp only[plOk,hany,Bool.not_true,Bool.and_false]
   rw[hp];refine RN (Ad2 t6 (Ad5 t2 g0 o2 s1 cL)) ?_;rfl
  | false =>
   have hp:plOk (plT (.mk tk ts tp tl th))=true:=by simp only[plOk,hany,hL2,Bool.not_false,Bool.and_true]
   rw[hp];refine RN (Ad2 t6 (Ad5 t2 g0 o2 s1 cL)) ?_;rw[if_pos rfl];generalize hrow:some (Ob.row 11 _)=row;have z1:frzU 22 (upd o1 2 row) (ownV 3001 4 ((plT (.mk tk ts tp tl th)).sets.map u4))=_:=YT (g2.up RM) (QlQ _) 20;have z2:frzU 22 (upd o1 2 row) (ownV 3002 2 ((plT (.mk tk ts tp tl th)).scopes.map scC))=_:=YT (g3.up RM) (QfE _) 20;have z3:frzU 22 (upd o1 2 row) (ownV 3003 1 (arC 0 (plT (.mk tk ts tp tl th)).around))=_:=Qft (Z1 g1) (g4.up OM) 19;refine DS ?_;simp only[List.mapM_cons,z1,z2,z3];simp only[mpC,QZ,nd8];rfl
end Go.Proofs.YtklbhcjmaeedhaaGreatDoor
