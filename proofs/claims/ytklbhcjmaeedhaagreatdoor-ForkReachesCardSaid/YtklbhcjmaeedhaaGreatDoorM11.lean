import Derived.Test.YtklbhcjmaeedhaaGreatDoorM10

namespace Go.Proofs.YtklbhcjmaeedhaaGreatDoor
set_option linter.all false
attribute [-go_sem] Qy Qj rfOb V.cells
def okD (d:Nat):Prop:=3001≤d∧d < 1000000∧d≠4000
def Dn (m:Nat):List Nat:=3001::3002::3003::List.range' 5000 m
def QkX {m:Nat} (h:m≤1000):∀ d∈Dn m,okD d:=by
 intro d hd;simp only[Dn,List.mem_cons] at hd;rcases hd with rfl|rfl|rfl|hd
 ·exact⟨OM,OM,OM⟩
 ·exact⟨OM,OM,OM⟩
 ·exact⟨OM,OM,OM⟩
 ·obtain⟨i,hi,rfl⟩:=List.mem_range'.1 hd
  exact⟨OM,OM,OM⟩
theorem J2 {e:E} {t:Nat}:∀ {D:List Nat},(∀ d∈D,swp d (e t)=e t)→Zx D e t=e t
 | [],_=>rfl
 | d::D,h=>by
  have h1:swpE d e t=e t:=h d SM;show Zx D (swpE d e) t=e t;rw[J2 (e:=swpE d e) (fun d' hd=>by rw[h1];exact h d' (by simp [hd])),h1]
theorem Wg {o:O} {t:Nat} {x:Ob}:∀ {D:List Nat},o t=some x→t ∉ D→(∀ d∈D,Qy d x=some x)→ZH D o t=some x
 | [],h,_,_=>h
 | d::D,h,hn,hs=>by
  simp only[List.mem_cons,not_or] at hn;refine Wg (o:=swpO d o) ?_ hn.2 fun d' hd=>hs d' (by simp [hd]);have hn1:(t==d)=false:=by simpa using hn.1
  simp only[swpO,hn1,Bool.false_eq_true,if_false,h,Option.bind_some];exact hs d SM
def U_pw {e:E} {o:O} {d:Nat} {ods:List Od} (A:Nat) {p t:Nd} {ar:List Nat} {q:Pl} {l:List Stp} {K:E→O→Prop} (hA:A=1000002∨A=4000) (hW:GPw p) (b1:q.sets.length+cntN p≤1000) (b2:q.scopes.length+cntN p≤1000) (b3:q.around.length+cntN p≤1000) (b4:ar.length+cntN p≤1000) (hne:q.around≠[]) (hargs:ods.map (Od.ev e)=[.pt 1000000 0 0,.ag (cel p),ownV A 1 (ar.map inC)])
  (m0:o 1000000=some (plR t q)) (m3:o 3003=some (.row 1 (arC 0 q.around))) (f1:Own o 3001 4 (q.sets.map u4)) (f2:Own o 3002 2 (q.scopes.map scC)) (f3:AO o q.around) (f4:Own o A 1 (ar.map inC))
  (h:∀ e1 o1,o1 1000000=some (plR t (Ql p ar q))→o1 3003=some (.row 1 (arC 0 (Ql p ar q).around))→Own o1 3001 4 ((Ql p ar q).sets.map u4)→Own o1 3002 2 ((Ql p ar q).scopes.map scC)→AO o1 (Ql p ar q).around→Own o1 A 1 (ar.map inC)→(∀ t,(∀ d,okD d→swp d (e t)=e t)→e1 t=e t)→(∀ t x,o t=some x→t≠1000000→¬ okD t→t≠A→(∀ d,okD d→Qy d x=some x)→o1 t=some x) →
   wpRU (Call F) l K (upd e1 d (.tp [])) o1):wpRU (Call F) (⟨some d,none,.nc 40 ods,[]⟩::l) K e o:=by
 obtain⟨w1,w2,w3,w4⟩:=Yq p ar q;have hA1:(1000000:Nat)≠A:=by omega
 have hA2:(3001:Nat)≠A:=by omega
 have hA3:(3002:Nat)≠A:=by omega
 have hA4:(3003:Nat)≠A:=by omega
 generalize hf:(fun s=>if s=1000002 then A else s)=f;have e0:f 1000000=1000000:=by rw[← hf];rfl
 have e1:f 3001=3001:=by rw[← hf];rfl
 have e2:f 3002=3002:=by rw[← hf];rfl
 have e3:f 3003=3003:=by rw[← hf];rfl
 have e4:f 1000002=A:=by rw[← hf];rfl
 have e5:∀ i,i≤1000→f (5000+i)=5000+i:=fun i hi=>by rw[← hf];show (if 5000+i=1000002 then A else 5000+i)=_;rw[if_neg OM]
 have hD:=QkX (m:=(Ql p ar q).around.length) OM;have hm:∀ (q0:Pl),q0.around.length≤(Ql p ar q).around.length→∀ w∈plO q0 ar,w∈[(1000002,1,ar.map inC)]∨(f w.1∈Dn (Ql p ar q).around.length∧f w.1 < 1000000):=fun q0 h0 w hw=>by
  simp only[plO,List.mem_cons] at hw;rcases hw with rfl|rfl|rfl|hw
  ·left;simp
  ·right;rw[e1];exact⟨by simp [Dn],OM⟩
  ·right;rw[e2];exact⟨by simp [Dn],OM⟩
  ·right
   obtain⟨i,x,hi,rfl⟩:=(Y1 _ _ _).1 hw
   have:=(List.getElem?_eq_some_iff.1 hi).1
   dsimp only;rw[Nat.zero_add,e5 i OM]
   refine⟨?_,OM⟩
   simp only[Dn,List.mem_cons];right;right;right
   exact List.mem_range'.2 ⟨i,OM,OM⟩
 refine Yp f f (Dn (Ql p ar q).around.length) (hW ar t q b1 b2 b3 b4 hne) ?_ ?_ ?_ ?_ (YG _ _) (YG _ _) fun o1 g1 g2 g3=>?_
 ·have hc:ren f (.ag (cel p))=.ag (cel p):=Kr _ _ (by simp only[go_sem]);rw[hargs];simp only[renL];rw[hc,QY,e4,ren,e0]
 ·intro x hx;simp only[plB,List.mem_cons,List.not_mem_nil,or_false] at hx;rcases hx with rfl|rfl
  ·dsimp only;rw[V0 _ e1 e2 e3,e0];exact m0
  ·dsimp only;rw[Y8,Hb f e5 _ 0 OM,e3];exact m3
 ·intro w hw;simp only[plO,List.mem_cons] at hw;rcases hw with rfl|rfl|rfl|hw
  ·dsimp only;rw[e4];exact f4.h
  ·dsimp only;rw[e1];exact f1.h
  ·dsimp only;rw[e2];exact f2.h
  ·obtain⟨i,x,hi,rfl⟩:=(Y1 _ _ _).1 hw
   have:=(List.getElem?_eq_some_iff.1 hi).1
   dsimp only;rw[Nat.zero_add,e5 i OM];exact (f3 i x hi).h
 ·refine Q1 (Yo f A hA e0 e1 e2 e3 e4 e5 t q ar OM) (Yo f A hA e0 e1 e2 e3 e4 e5 t _ ar OM) ?_ ?_ (HB _ _ _) (by simp [rfI,rfL]) (HB _ _ _) (YG _ _) (YG _ _) ?_ ?_ ?_ ?_ ?_ ?_
  ·have:=Yo (fun s=>s) 1000002 (.inl rfl) rfl rfl rfl rfl rfl (fun _ _=>rfl) t (Ql p ar q) ar OM
   rw[List.map_id'] at this;exact this
  ·have hc:∀ D,rfI D (.ag (cel p))=true:=fun D=>XF D _ (by simp only[go_sem]);simp only[rfL,hc,Bool.and_true,Bool.true_and,Bool.and_eq_true]
   refine⟨?_,Zm (by simp [plO])⟩
   rw[rfI];exact JA (base:=plB t q) (s:=1000000) (by simp [domA,plB])
  ·intro s hs;rw[List.mem_singleton.1 hs]
   exact⟨by simp [plB,domA],by simp [plB,domA],rfl,fun hh=>by have:=hD _ hh;rw[e0] at this;exact absurd this.2.1 OM⟩
  ·intro w hw;rw[List.mem_singleton.1 hw]
   exact⟨by simp [plO],by simp [plO],rfl,fun hh=>by have:=hD _ hh;dsimp only at this;rw[e4] at this;exact absurd this.2 OM⟩
  ·intro s hs;simp only[plB,domA,List.map_cons,List.map_nil,List.mem_cons,List.not_mem_nil,or_false] at hs;rcases hs with rfl|rfl
   ·left;simp
   ·right;rw[e3];simp [Dn]
  ·intro w hw;rcases hm q w4 w hw with hh|hh
   ·exact .inl hh
   ·exact .inr hh.1
  ·intro s hs;simp only[plB,domA,List.map_cons,List.map_nil,List.mem_cons,List.not_mem_nil,or_false] at hs;rcases hs with rfl|rfl
   ·left;simp
   ·right;rw[e3];exact⟨by simp [Dn],OM⟩
  ·exact hm _ (Nat.le_refl _)
 ·refine h (Zx (Dn (Ql p ar q).around.length) e) o1 ?_ ?_ ⟨Zk (fun _=>rfl) _,?_⟩ ⟨Zk (fun _=>rfl) _,?_⟩ (fun i x hi=>⟨Zk (fun _=>rfl) _,?_⟩) ⟨f4.c,?_⟩ (fun t ht=>J2 fun d hd=>ht d (hD d hd)) fun u x hu k1 k2 k3 k4=>?_
  ·have:=g1 (1000000,plR t (Ql p ar q)) (by simp [plB])
   dsimp only at this;rw[V0 _ e1 e2 e3,e0] at this;exact this
  ·have:=g1 (3003,.row 1 (arC 0 (Ql p ar q).around)) (by simp [plB])
   dsimp only at this;rw[Y8,Hb f e5 _ 0 OM,e3] at this;exact this
  ·have:=g2 (3001,4,(Ql p ar q).sets.map u4) (by simp [plO])
   dsimp only at this;rw[e1] at this;exact this
  ·have:=g2 (3002,2,(Ql p ar q).scopes.map scC) (by simp [plO])
   dsimp only at this;rw[e2] at this;exact this
  ·have hlt:=(List.getElem?_eq_some_iff.1 hi).1
   have:=g2 (5000+i,1,x.map inC) (by simp only[plO,List.mem_cons];right;right;right;exact (Y1 _ _ _).2 ⟨i,x,hi,by rw[Nat.zero_add]⟩)
   dsimp only at this;rw[e5 i OM] at this;exact this
  ·have:=g2 (1000002,1,ar.map inC) (by simp [plO])
   dsimp only at this;rw[e4] at this;exact this
  ·rw[g3 u fun s hs=>?_]
   ·exact Wg hu (fun hh=>k2 (hD _ hh)) fun d hd=>k4 d (hD d hd)
   ·intro hh;rcases List.mem_append.1 hs with hs|hs
    ·simp only[plB,domA,List.map_cons,List.map_nil,List.mem_cons,List.not_mem_nil,or_false] at hs;rcases hs with rfl|rfl
     ·rw[e0] at hh;exact k1 hh.symm
     ·rw[e3] at hh;exact k2 (by rw[← hh];exact⟨OM,OM,OM⟩)
    ·obtain⟨w,hw,rfl⟩:=List.mem_map.1 hs;rcases hm _ (Nat.le_refl _) w hw with h1|h1
     ·rw[List.mem_singleton.1 h1] at hh;dsimp only at hh;rw[e4] at hh;exact k3 hh.symm
     ·rw[hh] at h1;exact k2 (hD _ h1.1)
end Go.Proofs.YtklbhcjmaeedhaaGreatDoor
