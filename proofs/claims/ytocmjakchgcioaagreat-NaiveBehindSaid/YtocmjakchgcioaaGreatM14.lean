import Derived.Test.YtocmjakchgcioaaGreatM13

namespace Go.Proofs.YtocmjakchgcioaaGreat
set_option linter.all false
attribute [-go_sem] Qp Qb rfOb V.cells
def okD2 (d:Nat):Prop:=okD d∨d=17∨d=18
def Ql1 {e:E} {o:O} {d:Nat} {ods:List Od} {t:Nd} {q0:Pl} {l:List Stp} {K:E→O→Prop} (hW:GPw t) (b1:1+cntN t≤1000) (hq0:q0=⟨[zSet],[],[[]]⟩) (hargs:ods.map (Od.ev e)=[.pt 20 0 0,.ag (cel t),.nil])
  (m0:o 20=some (Qb (fun s=>if s=1000000 then 20 else if s=3001 then 17 else if s=3003 then 18 else s) (plR t q0))) (m3:o 18=some (.row 1 [[.nil]])) (f1:o 17=some (.row 4 [u4 zSet]))
  (h:∀ e1 o1,o1 20=some (plR t (Qq t [] q0))→o1 3003=some (.row 1 (arC 0 (Qq t [] q0).around))→Own o1 3001 4 ((Qq t [] q0).sets.map u4)→Own o1 3002 2 ((Qq t [] q0).scopes.map scC)→AO o1 (Qq t [] q0).around→(∀ t,(∀ d,okD2 d→swp d (e t)=e t)→e1 t=e t)→(∀ t x,o t=some x→t≠20→¬ okD2 t→t≠1000002→(∀ d,okD2 d→Qp d x=some x)→o1 t=some x) →
   wpRU (Call F) l K (upd e1 d (.tp [])) o1):wpRU (Call F) (⟨some d,none,.nc 54 ods,[]⟩::l) K e o:=by
 obtain⟨w1,w2,w3,w4⟩:=Yg t [] q0;have hne:q0.around≠[]:=by rw[hq0];simp
 have l1:q0.sets.length=1:=by rw[hq0];rfl
 have l2:q0.scopes.length=0:=by rw[hq0];rfl
 have l3:q0.around.length=1:=by rw[hq0];rfl
 generalize hf:(fun s=>if s=1000000 then 20 else if s=3001 then 17 else if s=3003 then 18 else s)=f at m0;generalize hf':(fun s=>if s=1000000 then 20 else s)=f';have a0:f 1000000=20:=by rw[← hf];rfl
 have a1:f 3001=17:=by rw[← hf];rfl
 have a2:f 3002=3002:=by rw[← hf];rfl
 have a3:f 3003=18:=by rw[← hf];rfl
 have a4:f 1000002=1000002:=by rw[← hf];rfl
 have a5:f 5000=5000:=by rw[← hf];rfl
 have e0:f' 1000000=20:=by rw[← hf'];rfl
 have e1:f' 3001=3001:=by rw[← hf'];rfl
 have e2:f' 3002=3002:=by rw[← hf'];rfl
 have e3:f' 3003=3003:=by rw[← hf'];rfl
 have e4:f' 1000002=1000002:=by rw[← hf'];rfl
 have e5:∀ i,i≤1000→f' (5000+i)=5000+i:=fun i hi=>by rw[← hf'];show (if 5000+i=1000000 then 20 else 5000+i)=_;rw[if_neg OM]
 have hD:∀ d∈17::18::Dn (Qq t [] q0).around.length,okD2 d:=by
  intro d hd;rcases List.mem_cons.1 hd with rfl|hd
  ·exact .inr (.inl rfl)
  rcases List.mem_cons.1 hd with rfl|hd
  ·exact .inr (.inr rfl)
  ·exact .inl (Qiv OM d hd)
 have hm:∀ w∈plO (Qq t [] q0) [],w∈[((1000002:Nat),(1:Nat),([]:List Nat).map inC)]∨(f' w.1∈17::18::Dn (Qq t [] q0).around.length∧f' w.1 < 1000000):=fun w hw=>by
  simp only[plO,List.mem_cons] at hw;rcases hw with rfl|rfl|rfl|hw
  ·left;simp
  ·right;rw[e1];exact⟨by simp [Dn],OM⟩
  ·right;rw[e2];exact⟨by simp [Dn],OM⟩
  ·right
   obtain⟨i,x,hi,rfl⟩:=(YU _ _ _).1 hw
   have:=(List.getElem?_eq_some_iff.1 hi).1
   dsimp only;rw[Nat.zero_add,e5 i OM]
   refine⟨?_,OM⟩
   simp only[Dn,List.mem_cons];right;right;right;right;right
   exact List.mem_range'.2 ⟨i,OM,OM⟩
 refine ZF f f' (17::18::Dn (Qq t [] q0).around.length) (hW [] t q0 OM OM OM (by simp;omega) hne) ?_ ?_ ?_ ?_ (Yy _ _) (Yy _ _) fun o1 g1 g2 g3=>?_
 ·have hc:ren f (.ag (cel t))=.ag (cel t):=YP _ _ (by simp only[go_sem]);rw[hargs];simp only[renL];rw[hc,QN,a4,ren,a0];rfl
 ·intro x hx;simp only[plB,List.mem_cons,List.not_mem_nil,or_false] at hx;rcases hx with rfl|rfl
  ·dsimp only;rw[a0];exact m0
  ·dsimp only;rw[hq0,a3,m3];rfl
 ·intro w hw;rw[hq0] at hw;simp only[plO,arO,List.map_nil,List.map_cons,List.mem_cons,List.not_mem_nil,or_false] at hw;rcases hw with rfl|rfl|rfl|rfl
  ·intro hh;exact absurd rfl hh
  ·dsimp only;rw[a1];exact fun _=>f1
  ·intro hh;exact absurd rfl hh
  ·intro hh;exact absurd rfl hh
 ·refine Qr ?_ ?_ ?_ ?_ (Ha _ _ _) (by simp [rfI,rfL]) (Ha _ _ _) (Yy _ _) (Yy _ _) ?_ ?_ ?_ ?_ ?_ ?_
  ·subst hq0;simp only[plB,plO,arO,domA,List.map_cons,List.map_nil,List.cons_append,List.nil_append,a0,a1,a2,a3,a4];rw[show (5000+0)=5000 from rfl,a5];simp
  ·have e:(domA (plB t (Qq t [] q0))++(plO (Qq t [] q0) []).map (fun w=>w.1)).map f'=[20,3003,1000002,3001,3002]++List.range' 5000 (Qq t [] q0).around.length:=by
    simp only[plB,plO,domA,List.map_cons,List.map_nil,List.cons_append,List.nil_append,WD,e0,e1,e2,e3,e4];congr 5;conv=>rhs;rw[← List.map_id (List.range' 5000 (Qq t [] q0).around.length)]
    refine List.map_congr_left fun x hx=>?_;obtain⟨i,hi,rfl⟩:=List.mem_range'.1 hx;rw[Nat.one_mul];exact e5 i OM
   rw[e];refine List.nodup_append.2 ⟨SM,List.nodup_range',fun a ha b hb=>?_⟩;obtain⟨i,hi,rfl⟩:=List.mem_range'.1 hb;simp only[List.mem_cons,List.not_mem_nil,or_false] at ha;omega
  ·have:=Yo (fun s=>s) 1000002 (.inl rfl) rfl rfl rfl rfl rfl (fun _ _=>rfl) t (Qq t [] q0) [] OM
   rw[List.map_id'] at this;exact this
  ·have hc:∀ D,rfI D (.ag (cel t))=true:=fun D=>Yx D _ (by simp only[go_sem]);simp only[rfL,hc,Bool.and_true,Bool.true_and,Bool.and_eq_true]
   refine⟨?_,Q7 (by simp [plO])⟩
   rw[rfI];exact QQ (base:=plB t q0) (s:=1000000) (by simp [domA,plB])
  ·intro s hs;rw[List.mem_singleton.1 hs]
   exact⟨by simp [plB,domA],by simp [plB,domA],by rw[a0,e0],fun hh=>by
    have:=hD _ hh;rw[a0] at this
    rcases this with h1|h1|h1
    ·exact absurd h1.1 OM
    ·omega
    ·omega⟩
  ·intro w hw;rw[List.mem_singleton.1 hw]
   exact⟨by simp [plO],by simp [plO],by dsimp only;rw[a4,e4],fun hh=>by
    have:=hD _ hh;dsimp only at this;rw[a4] at this
    rcases this with h1|h1|h1
    ·exact absurd h1.2.1 OM
    ·omega
    ·omega⟩
  ·intro s hs;simp only[plB,domA,List.map_cons,List.map_nil,List.mem_cons,List.not_mem_nil,or_false] at hs;rcases hs with rfl|rfl
   ·left;simp
   ·right;rw[a3];simp
  ·intro w hw;rw[hq0] at hw;simp only[plO,arO,List.map_nil,List.map_cons,List.mem_cons,List.not_mem_nil,or_false] at hw;rcases hw with rfl|rfl|rfl|rfl
   ·left;simp
   ·right;dsimp only;rw[a1];simp
   ·right;dsimp only;rw[a2];simp [Dn]
   ·right;dsimp only;rw[a5]
    simp only[Dn,List.mem_cons];right;right;right;right;right
    exact List.mem_range'.2 ⟨0,OM,OM⟩
  ·intro s hs;simp only[plB,domA,List.map_cons,List.map_nil,List.mem_cons,List.not_mem_nil,or_false] at hs;rcases hs with rfl|rfl
   ·left;simp
   ·right;rw[e3];exact⟨by simp [Dn],OM⟩
  ·exact hm
 ·refine h (Ze (17::18::Dn (Qq t [] q0).around.length) e) o1 ?_ ?_ ⟨Zf (fun _=>rfl) _,?_⟩ ⟨Zf (fun _=>rfl) _,?_⟩ (fun i x hi=>⟨Zf (fun _=>rfl) _,?_⟩) (fun t ht=>JY fun d hd=>ht d (hD d hd)) fun u x hu k1 k2 k3 k4=>?_
  ·have:=g1 (1000000,plR t (Qq t [] q0)) (by simp [plB])
   dsimp only at this;rw[HY _ e1 e2 e3,e0] at this;exact this
  ·have:=g1 (3003,.row 1 (arC 0 (Qq t [] q0).around)) (by simp [plB])
   dsimp only at this;rw[Zz,Kp f' e5 _ 0 OM,e3] at this;exact this
  ·have:=g2 (3001,4,(Qq t [] q0).sets.map u4) (by simp [plO])
   dsimp only at this;rw[e1] at this;exact this
  ·have:=g2 (3002,2,(Qq t [] q0).scopes.map scC) (by simp [plO])
   dsimp only at this;rw[e2] at this;exact this
  ·have hlt:=(List.getElem?_eq_some_iff.1 hi).1
   have:=g2 (5000+i,1,x.map inC) (by simp only[plO,List.mem_cons];right;right;right;exact (YU _ _ _).2 ⟨i,x,hi,by rw[Nat.zero_add]⟩)
   dsimp only at this;rw[e5 i OM] at this;exact this
  ·rw[g3 u fun s hs=>?_]
   ·exact JN hu (fun hh=>k2 (hD _ hh)) fun d hd=>k4 d (hD d hd)
   ·intro hh;rcases List.mem_append.1 hs with hs|hs
    ·simp only[plB,domA,List.map_cons,List.map_nil,List.mem_cons,List.not_mem_nil,or_false] at hs;rcases hs with rfl|rfl
     ·rw[e0] at hh;exact k1 hh.symm
     ·rw[e3] at hh;exact k2 (by rw[← hh];exact .inl ⟨OM,OM,OM⟩)
    ·obtain⟨w,hw,rfl⟩:=List.mem_map.1 hs;rcases hm w hw with h1|h1
     ·rw[List.mem_singleton.1 h1] at hh;dsimp only at hh;rw[e4] at hh;exact k3 hh.symm
     ·rw[hh] at h1;exact k2 (hD _ h1.1)
end Go.Proofs.YtocmjakchgcioaaGreat
