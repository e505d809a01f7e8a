import Derived.Test.YtklbhcjmaeedhaaGreatDoorM20
import Derived.Test.YtklbhcjmaeedhaaGreatDoorLf

namespace Go.Proofs.YtklbhcjmaeedhaaGreatDoor
set_option linter.all false
variable {P:Program} {k n:Nat} {t e:TypeId} {vs:List V} {α:Type}
def DW {z:Int} (h:(Lit.int .u64 z).wf=true):0≤z∧z < 18446744073709551616:=by
 simp [Lit.wf,IntKind.min,IntKind.max,IntKind.signed,IntKind.bits] at h;omega
def K5 {k:IntKind} (hu:P.underlying t=some (.int k)) (h:isv P n t vs):∃ z,vs=[.i k z]∧(Lit.int k z).wf=true:=by
 cases n with
 | zero=>exact h.elim
 | succ n=>simpa only[isv,hu] using h
def QbY (hu:P.underlying t=some (.slice e)) (h:isv P n t vs):∃ es:List (List V),vs=[.sl es]∧es.length≤maxLen∧∃ m,n=m+1∧∀ c∈es,isv P m e c:=by
 cases n with
 | zero=>exact h.elim
 | succ n =>
  simp only[isv,hu] at h;obtain⟨es,h1,h2,h3⟩:=h
  exact⟨es,h1,h2,n,rfl,h3⟩
def QcS (hu:P.underlying t=some (.array k e)) (h:isv P n t vs):∃ ls:List (List V),vs=ls.flatten∧ls.length=k∧∃ m,∀ l∈ls,isv P m e l:=by
 cases n with
 | zero=>exact h.elim
 | succ n =>
  simp only[isv,hu] at h;obtain⟨es,h1,h2,h3⟩:=h
  exact⟨es,h1,h2,n,h3⟩
def QaM {fs:Array Field} (hu:P.underlying t=some (.struct fs)) (h:isv P n t vs):∃ ls:List (List V),vs=ls.flatten∧ls.length=fs.toList.length∧∃ m,n=m+1∧∀ (j:Nat) f l,fs.toList[j]?=some f→ls[j]?=some l→isv P m f.type l:=by
 cases n with
 | zero=>exact h.elim
 | succ n =>
  simp only[isv,hu] at h;obtain⟨es,h1,h2,h3⟩:=h
  exact⟨es,h1,h2,n,rfl,h3⟩
def Qfh {q:IntKind} (hu:P.underlying t=some (.array k e)) (he:P.underlying e=some (.int q)) (h:isv P n t vs):∃ zs:List Int,vs=zs.map (V.i q)∧zs.length=k∧∀ z∈zs,(Lit.int q z).wf=true:=by
 obtain⟨ls,rfl,hl,m,hm⟩:=QcS hu h;clear h hu;induction ls generalizing k with
 | nil=>exact⟨[],rfl,by simpa using hl,SM⟩
 | cons l ls ih =>
  obtain⟨z,rfl,hz⟩:=K5 he (hm l SM);obtain⟨zs,h1,h2,h3⟩:=ih (k:=ls.length) rfl (fun l hl=>hm l (by simp [hl]))
  exact⟨z::zs,by simp [h1],by simp [h2] at hl ⊢;omega,fun y hy=>by rcases List.mem_cons.1 hy with rfl|hy;exact hz;exact h3 y hy⟩
def Qg4:∀ (es:List (List V)),(∀ c∈es,∃ nd:Nd,c=cel nd∧Zv nd)→∃ ps:List Nd,es=ps.map cel∧∀ p∈ps,Zv p:=by
 intro es;induction es with
 | nil=>intro _;exact⟨[],rfl,SM⟩
 | cons c es ih2 =>
  intro h;obtain⟨nd,rfl,hnd⟩:=h c SM;obtain⟨ps,rfl,hps⟩:=ih2 fun c hc=>h c (by simp [hc])
  exact⟨nd::ps,rfl,fun p hp=>by rcases List.mem_cons.1 hp with rfl|hp;exact hnd;exact hps p hp⟩
def len5:∀ {l:List α},l.length=5→∃ a b c d e,l=[a,b,c,d,e]
 | [a,b,c,d,e],_=>⟨a,b,c,d,e,rfl⟩
def len4:∀ {l:List α},l.length=4→∃ a b c d,l=[a,b,c,d]
 | [a,b,c,d],_=>⟨a,b,c,d,rfl⟩
set_option maxRecDepth 100000 in
def Qeo:∀ {n:Nat} {vs:List V},isv Tryz.prog n 27 vs→∃ nd:Nd,vs=cel nd∧Zv nd:=by
 intro n;induction n using Nat.strongRecOn with
 | _ n ih =>
  intro vs h;obtain⟨ls,rfl,hl,m,rfl,hm⟩:=QaM Tryz.underlying27 h;have hl5:ls.length=5:=hl.trans RM;clear hl;obtain⟨l0,l1,l2,l3,l4,rfl⟩:=len5 hl5
  ·clear hl5;obtain⟨kd,rfl,_⟩:=K5 Tryz.underlying3 (hm 0 _ l0 rfl rfl);obtain⟨zs,rfl,hzl,hz⟩:=Qfh Tryz.underlying24 Tryz.underlying22 (hm 1 _ l1 rfl rfl);obtain⟨es,rfl,hel,m2,rfl,he⟩:=QbY Tryz.underlying25 (hm 2 _ l2 rfl rfl);obtain⟨lo,rfl,_⟩:=K5 Tryz.underlying2 (hm 3 _ l3 rfl rfl);obtain⟨hi,rfl,_⟩:=K5 Tryz.underlying2 (hm 4 _ l4 rfl rfl);obtain⟨z0,z1,z2,z3,rfl⟩:=len4 hzl
   ·clear hzl;have hps:=Qg4 es fun c hc=>ih m2 OM (he c hc);obtain⟨ps,rfl,hps⟩:=hps;have h0:=DW (hz z0 SM);have h1:=DW (hz z1 SM);have h2:=DW (hz z2 SM);have h3:=DW (hz z3 SM)
    refine⟨.mk kd (fun j=>if j=0 then z0.toNat else if j=1 then z1.toNat else if j=2 then z2.toNat else z3.toNat) ps lo hi,?_,?_,?_,(QX ps).2 hps⟩
    ·rw[QZ];simp [nd8,Int.toNat_of_nonneg h0.1,Int.toNat_of_nonneg h1.1,Int.toNat_of_nonneg h2.1,Int.toNat_of_nonneg h3.1]
    ·intro j hj;show (if j=0 then z0.toNat else if j=1 then z1.toNat else if j=2 then z2.toNat else z3.toNat) < _;split
     ·omega
     ·split
      ·omega
      ·split<;>omega
    ·simp [maxLen] at hel;omega
def own:ownKnob Tryz.prog.godebug=none:=by kernel_rfl
def Qg9:laidOutB Tryz.prog=true:=by kernel_rfl
def Qii:mapsRowed Tryz.prog=true:=by kernel_rfl
def Qa4:((List.range Tryz.prog.types.size).all fun t=>match Tryz.prog.underlying t with|some (.slice e)=>decide (0 < Tryz.prog.cellsOf e)|_=>true)=true:=by kernel_rfl
def Qe3:isA Tryz.prog 27=true:=by kernel_rfl
end Go.Proofs.YtklbhcjmaeedhaaGreatDoor
