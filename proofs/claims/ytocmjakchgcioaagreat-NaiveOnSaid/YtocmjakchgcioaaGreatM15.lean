import Derived.Test.YtocmjakchgcioaaGreatM14

namespace Go.Proofs.YtocmjakchgcioaaGreat
set_option linter.all false
attribute [-go_sem] QE Qn rfOb V.cells
theorem VT {o:O} {cs ws:List V} {k:IntKind} {n:Int} (h:cs.mapM (frzU 22 o)=some ws):fzU o (.tp [.ag cs,.i k n])=some (.tp [.ag ws,.i k n]):=by
 have h1:frzU 23 o (.ag cs)=some (.ag ws):=by
  show (cs.mapM (frzU 22 o)).map V.ag=_;rw[h];rfl
 show ([V.ag cs,.i k n].mapM (frzU 23 o)).map V.tp=_;rw[List.mapM_cons,h1];rfl
theorem QkU (n:Nd) (h:okN n) (hc:cntN n≤900):Pu F 34 [.ag (cel n)] (if plOk (plT (Qo n)) then .tp [mpR (Qo n) (plT (Qo n)),.i .i64 0] else .tp [noP,.i .i64 3]):=by
 have hs:=QbJ n h hc;obtain⟨hso,hcn⟩:=YB n h (by omega);generalize Qo n=t at hs hso hcn ⊢;have hW:=Hl t;obtain⟨w1,w2,w3,w4⟩:=YD t [] ⟨[zSet],[],[[]]⟩;have hwt:QB t [] ⟨[zSet],[],[[]]⟩=plT t:=rfl;rw[hwt] at w1 w2 w3;simp only[List.length_cons,List.length_nil] at w1 w2 w3;have h1:∀ l:List Nat,Pu F 56 [.sl (l.map inC)] (.bo (decide (l.length > 4))):=QkR;have hcf:=Qdz (plT t).around (by omega) 56 (fun l=>decide (l.length > 4)) (fun x _=>h1 x);obtain⟨tk,ts,tp,tl,th⟩:=t;rw[Ze] at hs;simp only[nd8] at hs;have hzu:u4 zSet=[.i .u64 0,.i .u64 0,.i .u64 0,.i .u64 0]:=rfl;refine Qr e34 rfl rfl (by simp only[go_sem,Bool.and_true]) ?_;dsimp only[fn34,c34];(repeat' (first|(with_reducible (first|refine Qa ?_|refine Qc ?_|refine Qb ?_|refine Qg ?_|refine X_nx ?_|((first|refine U_q (v:=?_) ?h1 ?_|refine U_ld (v:=?_) ?h1 ?_|refine QK (n:=?_) ?h1 ?_);case h1=>((try simp only[go_sem])<;>rfl))|(refine QC (cs:=?_) (cs':=?_) (n:=?_) ?h1 ?h2 ?h3 ?h4 ?_;case h1|h2|h3|h4=>((try simp only[go_sem])<;>rfl))|(refine Qq (id:=?_) (i:=?_) (j:=?_) (q:=?_) (es:=?_) (cs:=?_) (vs:=?_) (es':=?_) ?h1 ?h2 ?h3 ?h4 ?h5 ?h6 ?h7 ?_;case h1|h2|h3|h4|h5|h6|h7=>((try simp only[go_sem])<;>rfl))|(refine Qk ?h1 ?_;case h1=>((try simp only[go_sem])<;>rfl))))|((with_reducible refine U_pc (g:=53) (r:=.tp [.ag [.i .i64 tk,.i .u64 (ts 0),.i .u64 (ts 1),.i .u64 (ts 2),.i .u64 (ts 3),.sl (tp.map cel),.i .i64 tl,.i .i64 th],.i .i64 0]) (vs:=?_) (ws:=?_) ?h1 ?h2 ?h3 ?h4 ?h5 ?_);(case h1=>((try simp only[go_sem])<;>rfl));(case h2=>refine Qj ?_;first|rfl|simp only[List.all_cons,List.all_nil,Bool.and_true,go_sem]);(case h5=>exact hs);(case h3=>first|exact Bool.or_eq_true_iff.2 (.inr rfl)|(refine Bool.or_eq_true_iff.2 (.inl ?_);simp only[clos,List.all_cons,List.all_nil,Bool.and_true,go_sem]));(case h4=>first|rfl|simp only[go_sem,Bool.and_true]))|with_reducible (refine U_gb (q:=?_) ?h1 (fun _=>?_) (fun _=>?_);case h1=>((try simp only[go_sem])<;>rfl))|with_reducible (refine Qe (q:=?_) ?h1 (fun _=>?_) (fun _=>?_);case h1=>((try simp only[go_sem])<;>rfl))));refine Qel (n:=1) (c:=1) (Zr0) (Zr0) (by omega) ⟨by omega,by omega⟩ ?_;(repeat fail);refine Qel (n:=1) (c:=1) (Zr0) (Zr0) (by omega) ⟨by omega,by omega⟩ ?_;(repeat (with_reducible (first|refine Qa ?_|refine Qc ?_|refine Qb ?_|refine X_nx ?_|((first|refine U_q (v:=?_) ?h1 ?_|refine U_ld (v:=?_) ?h1 ?_);case h1=>((try simp only[go_sem])<;>rfl))|(refine QC (cs:=?_) (cs':=?_) (n:=?_) ?h1 ?h2 ?h3 ?h4 ?_;case h1|h2|h3|h4=>((try simp only[go_sem])<;>rfl)))));refine Ql0 (q0:=⟨[zSet],[],[[]]⟩) hW (by omega) rfl (by rw[Ze];simp only[nd8];simp only[go_sem]) ?_ (Z0) (Z1 hzu) fun e1 o1 g0 g1 g2 g3 g4 k1 k2=>?_
 ·simp only[plR,List.map_nil,List.map_cons,Zl,arC,ZM,renL,ren,Q6];simp only[go_sem];rfl
 rw[hwt] at g0 g1 g2 g3 g4;have hz2:∀ d,okD2 d→((20:Nat)==d)=false∧((2:Nat)==d)=false:=fun d hd=>by
  have:3≤d∧d≠20:=by
   rcases hd with hd|hd|hd
   ·have:=hd.1;omega
   ·omega
   ·omega
  simp;omega
 have t6:e1 6=.pt 20 0 0:=by
  rw[k1 6 fun d hd=>by simp only[(hz2 d hd).1,go_sem]];simp only[go_sem]
 have t2:e1 2=.pt 2 0 0:=by
  rw[k1 2 fun d hd=>by simp only[(hz2 d hd).2,go_sem]];simp only[go_sem]
 have t3:e1 3=.i .i64 0:=by
  rw[k1 3 fun d hd=>by simp only[go_sem]];simp only[go_sem]
 have o2:o1 2=some (.row 11 [[.i .i64 0,.i .u64 0,.i .u64 0,.i .u64 0,.i .u64 0,.nil,.i .i64 0,.i .i64 0,.nil,.nil,.nil]]):=by
  refine k2 2 _ ?_ (by omega) (fun hh=>?_) (by omega) fun d hd=>rfl
  ·simp only[go_sem]
  ·rcases hh with hh|hh|hh
   ·exact absurd hh.1 (by omega)
   ·omega
   ·omega
 clear k1 k2 hs;simp only[plR] at g0;have s1:=ZP 3001 4 ((plT (.mk tk ts tp tl th)).sets.map u4);rw[List.length_map] at s1;simp only[JH] at s1;have hza:=Qe4 g1 g4;have hfa:fzU o1 (ownV 3003 1 (arC 0 (plT (.mk tk ts tp tl th)).around))=some (.sl ((plT (.mk tk ts tp tl th)).around.map lsC)):=hza 21;by_cases hL:(plT (.mk tk ts tp tl th)).sets.length > 41
 ·have cL:decide ((((plT (.mk tk ts tp tl th)).sets.length:Nat):Int) > 41)=true:=by simp;omega
  have hp:plOk (plT (.mk tk ts tp tl th))=false:=by simp [plOk];intro h2;omega
  rw[hp];(repeat (with_reducible (first|refine Qa ?_|refine Qc ?_|refine Qb ?_|refine Qf ?_|refine X_nx ?_|refine X_rt ?_|((first|refine U_q (v:=?_) ?h1 ?_|refine U_ld (v:=?_) ?h1 ?_|refine Qm ?h1 ?_);case h1=>((try simp only[t6,t2,g0,o2,s1,cL,go_sem])<;>rfl))|(refine Qq (id:=?_) (i:=?_) (j:=?_) (q:=?_) (es:=?_) (cs:=?_) (vs:=?_) (es':=?_) ?h1 ?h2 ?h3 ?h4 ?h5 ?h6 ?h7 ?_;case h1|h2|h3|h4|h5|h6|h7=>((try simp only[t6,t2,g0,o2,s1,cL,go_sem])<;>rfl))|(refine XK ?h1 ?_;case h1=>((try simp only[t6,t2,g0,o2,s1,cL,go_sem])<;>rfl))|(refine E_2 (v:=?_) (u:=?_) ?h1 ?h2 ?_;case h1|h2=>((try simp only[t6,t2,g0,o2,s1,cL,go_sem])<;>rfl)))));rfl
 ·have cL:decide ((((plT (.mk tk ts tp tl th)).sets.length:Nat):Int) > 41)=false:=by simp;omega
  have hL2:decide ((plT (.mk tk ts tp tl th)).sets.length≤41)=true:=by simp;omega
  (repeat (with_reducible (first|refine Qa ?_|refine Qc ?_|refine Qb ?_|refine X_nx ?_|((first|refine U_q (v:=?_) ?h1 ?_|refine U_ld (v:=?_) ?h1 ?_|refine U_gt ?h1 ?_);case h1=>((try simp only[t6,t2,g0,o2,s1,cL,go_sem])<;>rfl)))));refine U_pc (vs:=[ownV 3003 1 (arC 0 (plT (.mk tk ts tp tl th)).around),.fn 56 []]) (ws:=[.sl ((plT (.mk tk ts tp tl th)).around.map lsC),.fn 56 []]) (r:=.bo ((plT (.mk tk ts tp tl th)).around.any fun l=>decide (l.length > 4))) (Z0) (by simp only[fzsU,List.mapM_cons,List.mapM_nil,hfa];rfl) (Bool.or_eq_true_iff.2 (.inr rfl)) rfl hcf ?_;generalize hany:((plT (.mk tk ts tp tl th)).around.any fun l=>decide (l.length > 4))=bad;cases bad with
  | true =>
   have hp:plOk (plT (.mk tk ts tp tl th))=false:=by simp only[plOk,hany,Bool.not_true,Bool.and_false]
   rw[hp];(repeat (with_reducible (first|refine Qa ?_|refine Qc ?_|refine Qb ?_|refine Qf ?_|refine X_nx ?_|refine X_rt ?_|((first|refine U_q (v:=?_) ?h1 ?_|refine Qm ?h1 ?_);case h1=>((try simp only[t6,t2,g0,o2,s1,cL,go_sem])<;>rfl))|(refine Qq (id:=?_) (i:=?_) (j:=?_) (q:=?_) (es:=?_) (cs:=?_) (vs:=?_) (es':=?_) ?h1 ?h2 ?h3 ?h4 ?h5 ?h6 ?h7 ?_;case h1|h2|h3|h4|h5|h6|h7=>((try simp only[t6,t2,g0,o2,s1,cL,go_sem])<;>rfl))|(refine E_2 (v:=?_) (u:=?_) ?h1 ?h2 ?_;case h1|h2=>((try simp only[t6,t2,g0,o2,s1,cL,go_sem])<;>rfl)))));rfl
  | false =>
   have hp:plOk (plT (.mk tk ts tp tl th))=true:=by simp only[plOk,hany,hL2,Bool.not_false,Bool.and_true]
   rw[hp];(repeat (with_reducible (first|refine Qa ?_|refine Qc ?_|refine Qb ?_|refine Qg ?_|refine Qf ?_|refine X_nx ?_|((first|refine U_q (v:=?_) ?h1 ?_|refine U_ld (v:=?_) ?h1 ?_);case h1=>((try simp only[t6,t2,g0,o2,s1,cL,go_sem])<;>rfl))|(refine Qq (id:=?_) (i:=?_) (j:=?_) (q:=?_) (es:=?_) (cs:=?_) (vs:=?_) (es':=?_) ?h1 ?h2 ?h3 ?h4 ?h5 ?h6 ?h7 ?_;case h1|h2|h3|h4|h5|h6|h7=>((try simp only[t6,t2,g0,o2,s1,cL,go_sem])<;>rfl))|(refine Qk ?h1 ?_;case h1=>((try simp only[t6,t2,g0,o2,s1,cL,go_sem])<;>rfl))|(refine E_2 (v:=?_) (u:=?_) ?h1 ?h2 ?_;case h1|h2=>((try simp only[t6,t2,g0,o2,s1,cL,go_sem])<;>rfl)))));rw[if_pos rfl];generalize hrow:some (Ob.row 11 _)=row;have z1:frzU 22 (upd o1 2 row) (ownV 3001 4 ((plT (.mk tk ts tp tl th)).sets.map u4))=_:=Yh (g2.up (by rfl)) (Qip _) 20;have z2:frzU 22 (upd o1 2 row) (ownV 3002 2 ((plT (.mk tk ts tp tl th)).scopes.map scC))=_:=Yh (g3.up (by rfl)) (QeX _) 20;have z3:frzU 22 (upd o1 2 row) (ownV 3003 1 (arC 0 (plT (.mk tk ts tp tl th)).around))=_:=Qe4 (Z1 g1) (g4.up (by omega)) 19;refine VT ?_;simp only[List.mapM_cons,z1,z2,z3];simp only[mpC,Ze,nd8];rfl
end Go.Proofs.YtocmjakchgcioaaGreat
