import Derived.Test.YtocmjakchgcioaaGreatM14

namespace Go.Proofs.YtocmjakchgcioaaGreat
set_option linter.all false
attribute [-go_sem] Qp Qb rfOb V.cells
def D7 {o:O} {cs ws:List V} {k:IntKind} {n:Int} (h:cs.mapM (frzU 22 o)=some ws):fzU o (.tp [.ag cs,.i k n])=some (.tp [.ag ws,.i k n]):=by
 have h1:frzU 23 o (.ag cs)=some (.ag ws):=by
  show (cs.mapM (frzU 22 o)).map V.ag=_;rw[h];rfl
 show ([V.ag cs,.i k n].mapM (frzU 23 o)).map V.tp=_;rw[List.mapM_cons,h1];rfl
def QjI (n:Nd) (h:okN n) (hc:cntN n≤900):Pu F 34 [.ag (cel n)] (if plOk (plT (Qd n)) then .tp [mpR (Qd n) (plT (Qd n)),.i .i64 0] else .tp [noP,.i .i64 3]):=by
 have hs:=QcX n h hc;obtain⟨hso,hcn⟩:=Yn n h OM;generalize Qd n=t at hs hso hcn ⊢;have hW:=KY t;obtain⟨w1,w2,w3,w4⟩:=Yg t [] ⟨[zSet],[],[[]]⟩;have hwt:Qq t [] ⟨[zSet],[],[[]]⟩=plT t:=rfl;rw[hwt] at w1 w2 w3;simp only[List.length_cons,List.length_nil] at w1 w2 w3;have h1:∀ l:List Nat,Pu F 56 [.sl (l.map inC)] (.bo (decide (l.length > 4))):=Qke;have hcf:=Qef (plT t).around OM 56 (fun l=>decide (l.length > 4)) (fun x _=>h1 x);obtain⟨tk,ts,tp,tl,th⟩:=t;rw[QZ] at hs;simp only[nd8] at hs;have hzu:u4 zSet=[.i .u64 0,.i .u64 0,.i .u64 0,.i .u64 0]:=rfl;refine Qe e34 rfl rfl (by simp only[go_sem,Bool.and_true]) ?_;dsimp only[fn34,c34];(repeat' (first|refine RSN trivial ?_|((with_reducible refine PCN trivial (r:=.tp [.ag [.i .i64 tk,.i .u64 (ts 0),.i .u64 (ts 1),.i .u64 (ts 2),.i .u64 (ts 3),.sl (tp.map cel),.i .i64 tl,.i .i64 th],.i .i64 0]) ?h ?_);case h=>exact hs)|with_reducible refine GBN trivial (fun _=>?_) (fun _=>?_)|with_reducible refine GDN trivial (fun _=>?_) (fun _=>?_)));refine Qej (n:=1) (c:=1) (Zr0) (Zr0) OM ⟨OM,OM⟩ ?_;refine RN trivial ?_;refine Qej (n:=1) (c:=1) (Zr0) (Zr0) OM ⟨OM,OM⟩ ?_;refine RN trivial ?_;refine Ql1 (q0:=⟨[zSet],[],[[]]⟩) hW OM rfl (by rw[QZ];simp only[nd8];simp only[go_sem]) ?_ (Z0) (Z1 hzu) fun e1 o1 g0 g1 g2 g3 g4 k1 k2=>?_
 ·simp only[plR,List.map_nil,List.map_cons,Q4,arC,Zz,renL,ren,QN];simp only[go_sem];rfl
 rw[hwt] at g0 g1 g2 g3 g4;have hz2:∀ d,okD2 d→((20:Nat)==d)=false∧((2:Nat)==d)=false:=fun d hd=>by
  have:3≤d∧d≠20:=by
   rcases hd with hd|hd|hd
   ·have:=hd.1;omega
   ·omega
   ·omega
  simp;omega
 have t6:e1 6=.pt 20 0 0:=by
  rw[k1 6 fun d hd=>by simp only[(hz2 d hd).1,go_sem]];simp only[go_sem]
 have t2:e1 2=.pt 2 0 0:=by
  rw[k1 2 fun d hd=>by simp only[(hz2 d hd).2,go_sem]];simp only[go_sem]
 have t3:e1 3=.i .i64 0:=by
  rw[k1 3 fun d hd=>by simp only[go_sem]];simp only[go_sem]
 have o2:o1 2=some (.row 11 [[.i .i64 0,.i .u64 0,.i .u64 0,.i .u64 0,.i .u64 0,.nil,.i .i64 0,.i .i64 0,.nil,.nil,.nil]]):=by
  refine k2 2 _ ?_ OM (fun hh=>?_) OM fun d hd=>rfl
  ·simp only[go_sem]
  ·rcases hh with hh|hh|hh
   ·exact absurd hh.1 OM
   ·omega
   ·omega
 clear k1 k2 hs;simp only[plR] at g0;have s1:=Zx 3001 4 ((plT (.mk tk ts tp tl th)).sets.map u4);rw[List.length_map] at s1;simp only[Ye] at s1;have hza:=QfJ g1 g4;have hfa:fzU o1 (ownV 3003 1 (arC 0 (plT (.mk tk ts tp tl th)).around))=some (.sl ((plT (.mk tk ts tp tl th)).around.map lsC)):=hza 21;by_cases hL:(plT (.mk tk ts tp tl th)).sets.length > 41
 ·have cL:decide ((((plT (.mk tk ts tp tl th)).sets.length:Nat):Int) > 41)=true:=by simp;omega
  have hp:plOk (plT (.mk tk ts tp tl th))=false:=by simp [plOk];intro h2;omega
  rw[hp];refine RN (Ad2 t6 (Ad5 t2 g0 o2 s1 cL)) ?_;rfl
 ·have cL:decide ((((plT (.mk tk ts tp tl th)).sets.length:Nat):Int) > 41)=false:=by simp;omega
  have hL2:decide ((plT (.mk tk ts tp tl th)).sets.length≤41)=true:=by simp;omega
  refine RN (Ad2 t6 (Ad5 t2 g0 o2 s1 cL)) ?_;refine U_pc (vs:=[ownV 3003 1 (arC 0 (plT (.mk tk ts tp tl th)).around),.fn 56 []]) (ws:=[.sl ((plT (.mk tk ts tp tl th)).around.map lsC),.fn 56 []]) (r:=.bo ((plT (.mk tk ts tp tl th)).around.any fun l=>decide (l.length > 4))) (Z0) (by simp only[fzsU,List.mapM_cons,List.mapM_nil,hfa];rfl) (Bool.or_eq_true_iff.2 (.inr rfl)) rfl hcf ?_;generalize hany:((plT (.mk tk ts tp tl th)).around.any fun l=>decide (l.length > 4))=bad;cases bad with
  | true =>
   have hp:plOk (plT (.mk tk ts tp tl th))=false:=by simp only[plOk,hany,Bool.not_true,Bool.and_false]
   rw[hp];refine RN (Ad2 t6 (Ad5 t2 g0 o2 s1 cL)) ?_;rfl
  | false =>
   have hp:plOk (plT (.mk tk ts tp tl th))=true:=by simp only[plOk,hany,hL2,Bool.not_false,Bool.and_true]
   rw[hp];refine RN (Ad2 t6 (Ad5 t2 g0 o2 s1 cL)) ?_;rw[if_pos rfl];generalize hrow:some (Ob.row 11 _)=row;have z1:frzU 22 (upd o1 2 row) (ownV 3001 4 ((plT (.mk tk ts tp tl th)).sets.map u4))=_:=ZV (g2.up RM) (QiQ _) 20;have z2:frzU 22 (upd o1 2 row) (ownV 3002 2 ((plT (.mk tk ts tp tl th)).scopes.map scC))=_:=ZV (g3.up RM) (Qfv _) 20;have z3:frzU 22 (upd o1 2 row) (ownV 3003 1 (arC 0 (plT (.mk tk ts tp tl th)).around))=_:=QfJ (Z1 g1) (g4.up OM) 19;refine D7 ?_;simp only[List.mapM_cons,z1,z2,z3];simp only[mpC,QZ,nd8];rfl
end Go.Proofs.YtocmjakchgcioaaGreat
