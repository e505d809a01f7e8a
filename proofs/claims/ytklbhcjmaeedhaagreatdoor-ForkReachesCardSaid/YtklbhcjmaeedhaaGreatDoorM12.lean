import Derived.Test.YtklbhcjmaeedhaaGreatDoorM11

namespace Go.Proofs.YtklbhcjmaeedhaaGreatDoor
set_option linter.all false
attribute [-go_sem] Qy Qj rfOb V.cells
def Qld {t:Nd} {ar:List Nat} {q:Pl} {v:V} {o:O} (hv:v=.tp []) (m0:o 1000000=some (plR t q)) (m3:o 3003=some (.row 1 (arC 0 q.around))) (f1:Own o 3001 4 (q.sets.map u4)) (f2:Own o 3002 2 (q.scopes.map scC)) (f3:AO o q.around) (f4:Own o 1000002 1 (ar.map inC)) :
  GenE (domA (obs (plB t q) (plO q ar))) (obs (plB t q) (plO q ar)) (.tp []) (stOf [1000000] [(1000002,1,ar.map inC)]) v o:=by
 subst hv;refine Zg (plB t q) (plO q ar) (fun s=>s) (by rw[ren];rfl) (by simp [WM]) SM (YG _ _) ?_ ?_ (by rw[rfI];rfl) (HB _ _ _) ?_ ?_
 ·intro p hp;simp only[plB,List.mem_cons,List.not_mem_nil,or_false] at hp;rcases hp with rfl|rfl
  ·exact m0
  ·exact m3
 ·intro w hw;simp only[plO,List.mem_cons] at hw;rcases hw with rfl|rfl|rfl|hw
  ·exact f4.h
  ·exact f1.h
  ·exact f2.h
  ·obtain⟨i,x,hi,rfl⟩:=(Y1 _ _ _).1 hw;dsimp only;rw[Nat.zero_add];exact (f3 i x hi).h
 ·simp [domA,plB]
 ·simp [plO]
def Qbh {d:Option Nat} {e e1:E} {o o1:O} {j:I} {s sz:Nat} {L:List (List V)} (t:Nat) (h1:rv e o j=some (ownV s sz L)) (h2:rv e1 o1 j=some (ownV s sz L)) (h4:d≠some t) (h5:e t=ownV s sz L) (h6:e1 t=ownV s sz L):stbU d e o e1 o1 [j]:=by
 by_cases hL:L=[]
 ·subst hL;exact W8 h1 h2 rfl trivial
 ·exact QfC t h1 h2 (by rw[ownV,if_neg hL];rfl) h4 h5 h6 trivial
structure PlS (n:Nd) (tk:Int) (ts:Nat→Nat) (tp:List Nd) (tl th:Int) (A:Nat) (ar ar0:List Nat) (q:Pl) (e:E) (o:O):Prop where
 r0:e 0=.pt 1000000 0 0
 r2:e 2=ownV A 1 (ar.map inC)
 r4:e 4=.pt 4 0 0
 o4:o 4=some (.row 8 [[.i .i64 n.kind,.i .u64 (n.set 0),.i .u64 (n.set 1),.i .u64 (n.set 2),.i .u64 (n.set 3),.sl (n.parts.map cel),.i .i64 n.lo,.i .i64 n.hi]])
 m0:o 1000000=some (.row 11 [[.i .i64 tk,.i .u64 (ts 0),.i .u64 (ts 1),.i .u64 (ts 2),.i .u64 (ts 3),.sl (tp.map cel),.i .i64 tl,.i .i64 th,ownV 3001 4 (q.sets.map u4),ownV 3002 2 (q.scopes.map scC),ownV 3003 1 (arC 0 q.around)]])
 m3:o 3003=some (.row 1 (arC 0 q.around))
 f1:Own o 3001 4 (q.sets.map u4)
 f2:Own o 3002 2 (q.scopes.map scC)
 f3:AO o q.around
 f4:Own o A 1 (ar.map inC)
 f5:Own o 1000002 1 (ar0.map inC)
def QlS (k:Int) (s:Nat→Nat) (ps:List Nd) (lo hi:Int) (ih:∀ p∈ps,GPw p):GPw (.mk k s ps lo hi):=by
 rintro ar ⟨tk,ts,tp,tl,th⟩ q b1 b2 b3 b4 hne;simp only[cntN] at b1 b2 b3 b4;have hpl:=Hd ps;have hE:=KN s;have hC:=Vf k s ps lo hi;have hnn:=Yo (fun s=>s) 1000002 (.inl rfl) rfl rfl rfl rfl rfl (fun _ _=>rfl) (.mk tk ts tp tl th) q ar OM;have hnn':=Yo (fun s=>s) 1000002 (.inl rfl) rfl rfl rfl rfl rfl (fun _ _=>rfl) (.mk tk ts tp tl th) (Ql (.mk k s ps lo hi) ar q) ar (by have:=(Yq (.mk k s ps lo hi) ar q).2.2.1;simp only[cntN] at this;omega);rw[List.map_id'] at hnn hnn';rw[QZ] at hC ⊢;simp only[nd8,u4,scC] at hE hC ⊢;refine YS e40 rfl rfl hnn' SM SM hnn fun o hb ho=>?_;clear hnn hnn';rw[Ql];dsimp only[fn40,c40];have hb0:=hb (1000000,plR (.mk tk ts tp tl th) q) (by simp [plB]);have m3:o 3003=some (.row 1 (arC 0 q.around)):=hb (3003,.row 1 (arC 0 q.around)) (by simp [plB]);have f1:Own o 3001 4 (q.sets.map u4):=⟨Zk (fun _=>rfl) _,ho (3001,4,q.sets.map u4) (by simp [plO])⟩;have f2:Own o 3002 2 (q.scopes.map scC):=⟨Zk (fun _=>rfl) _,ho (3002,2,q.scopes.map scC) (by simp [plO])⟩;have f3:AO o q.around:=fun i x hi=>⟨Zk (fun _=>rfl) _,ho (5000+i,1,x.map inC) (by simp only[plO,List.mem_cons];right;right;right;exact (Y1 _ _ _).2 ⟨i,x,hi,by rw[Nat.zero_add]⟩)⟩;have f4:Own o 1000002 1 (ar.map inC):=⟨Zk (fun _=>rfl) _,ho (1000002,1,ar.map inC) (by simp [plO])⟩;dsimp only[plR] at hb0;clear hb ho;have hs4:∀ d,d < 5000→(arC 0 q.around).map (swpL d)=arC 0 q.around:=fun d hd=>W2 d _ 0 (.inl OM);refine ZM ?_;refine X3 (fun e o=>PlS (.mk k s ps lo hi) tk ts tp tl th 1000002 ar ar q e o) ?_ ?_
 ·refine RN trivial ?_
  exact⟨rfl,Z0,Z0,Z0,by simp only[Nd.kind,Nd.set,Nd.parts,Nd.lo,Nd.hi,go_sem],Z1 hb0,Z2 m3 hs4,by (repeat first|with_reducible assumption|refine .up rfl ?_|refine .sw rfl ?_|refine .swN rfl ?_),by (repeat first|with_reducible assumption|refine .up rfl ?_|refine .sw rfl ?_|refine .swN rfl ?_),(f3.sw (.inl OM)).up (.inl OM),by (repeat first|with_reducible assumption|refine .up rfl ?_|refine .sw rfl ?_|refine .swN rfl ?_),by (repeat first|with_reducible assumption|refine .up rfl ?_|refine .sw rfl ?_|refine .swN rfl ?_)⟩
 clear hb0 f1 f2 f3 f4 m3;rintro e o ⟨r0,r2,r4,o4,m0,m3,f1,f2,f3,f4,f5⟩;simp only[Nd.kind,Nd.set,Nd.parts,Nd.lo,Nd.hi] at o4;refine X_nx ?_;refine ZM ?_;refine X3 (fun e o=>PlS (.mk k s ps lo hi) tk ts tp tl th 1000002 ar ar { sets:=if k=1∧Qq s=false then q.sets++[s] else q.sets,scopes:=q.scopes,around:=if k=1∧Qq s=false then q.around++[ar] else q.around } e o) ?_ ?_
 ·by_cases hk:k=1
  ·subst hk;generalize hes:Qq s=es at hE;cases es with
   | true =>
    simp only[true_and,Bool.true_eq_false,if_false];(repeat' (first|refine RSN (Ad5 r0 r2 r4 o4 m0) ?_|((with_reducible refine PCN (Ad5 r0 r2 r4 o4 m0) (r:=.bo true) ?h ?_);case h=>exact hE)|with_reducible refine GBN (Ad5 r0 r2 r4 o4 m0) (fun _=>?_) (fun _=>?_)|with_reducible refine GDN (Ad5 r0 r2 r4 o4 m0) (fun _=>?_) (fun _=>?_)))
    exact⟨rfl,Z1 r0,Z1 r2,Z1 r4,by simp only[o4,Nd.kind,Nd.set,Nd.parts,Nd.lo,Nd.hi,go_sem],Z1 m0,m3,f1,f2,f3,f4,f5⟩
   | false =>
    simp only[true_and,if_true];(repeat' (first|refine RSN (Ad5 r0 r2 r4 o4 m0) ?_|((with_reducible refine PCN (Ad5 r0 r2 r4 o4 m0) (r:=.bo false) ?h ?_);case h=>exact hE)|with_reducible refine GBN (Ad5 r0 r2 r4 o4 m0) (fun _=>?_) (fun _=>?_)|with_reducible refine GDN (Ad5 r0 r2 r4 o4 m0) (fun _=>?_) (fun _=>?_)));refine YO 3001 (L:=q.sets.map u4) (ys:=[u4 s]) (Z0) ((f1.sw RM).up RM).h (by (simp only[src,u4,go_sem]<;>rfl)) (by simp [Qf7]) SM OM ⟨by simp;omega,OM⟩ (Q4 _ f1.c) rfl ?_;have n0:∀ (o':O) (x:Option Ob),Own (upd o' 3001 (some (.row 4 (q.sets.map u4++[u4 s])))) 3001 4 ((q.sets++[s]).map u4):=fun o' _=>by rw[List.map_append];exact .to (by rw[List.all_append,f1.c];rfl)
    generalize hx1:swp 3001 (ownV 3001 4 (q.sets.map u4))=x1;refine RN (Ad4 r0 r2 r4 (Ad5 o4 m0 m3 hs4 hx1)) ?_;obtain⟨b,hb⟩:∃ b,b=5000+q.around.length:=⟨_,rfl⟩;have g1:((1000000:Nat)==b)=false:=by simp;omega
    have g2:((1000002:Nat)==b)=false:=by simp;omega
    have g3:((3001:Nat)==b)=false:=by simp;omega
    have g4:((3002:Nat)==b)=false:=by simp;omega
    have g5:((3003:Nat)==b)=false:=by simp;omega
    have g6:((4:Nat)==b)=false:=by simp;omega
    have g7:((26:Nat)==b)=false:=by simp;omega
    have g8:(b==37)=false:=by simp;omega
    have g9:(b==3003)=false:=by simp;omega
    have g10:(arC 0 q.around).map (swpL b)=arC 0 q.around:=W2 b _ 0 (.inr OM);have g11:((37:Nat)==b)=false:=by simp;omega
    refine Qce 1000002 b (l0:=ar) OM g2 OM (Z1 r2) (by (repeat first|with_reducible assumption|refine .up rfl ?_|refine .sw rfl ?_|refine .swN rfl ?_)) fun o1 c1 c2 c3=>?_;have k0:o1 1000000=some (.row 11 [[.i .i64 tk,.i .u64 (ts 0),.i .u64 (ts 1),.i .u64 (ts 2),.i .u64 (ts 3),.sl (tp.map cel),.i .i64 tl,.i .i64 th,ownV 3001 4 (q.sets.map u4++[u4 s]),ownV 3002 2 (q.scopes.map scC),ownV 3003 1 (arC 0 q.around)]]):=by
     rw[c3 _ LM OM];simp only[m0,g1,g2,g3,g4,g5,g6,hx1,go_sem]
    have k3:o1 3003=some (.row 1 (arC 0 q.around)):=by rw[c3 _ LM OM];simp only[m3,g5,g10,hs4,go_sem]
    have k4:o1 4=some (.row 8 [[.i .i64 1,.i .u64 (s 0),.i .u64 (s 1),.i .u64 (s 2),.i .u64 (s 3),.sl (ps.map cel),.i .i64 lo,.i .i64 hi]]):=by rw[c3 _ LM OM];simp only[o4,g6,go_sem]
    have kf1:Own o1 3001 4 ((q.sets++[s]).map u4):=by
     refine Own.at ?_ (c3 3001 LM OM);refine Own.swN (by simp [g3];omega) ?_;repeat refine Own.up RM ?_
     exact n0 _ none
    have kf2:Own o1 3002 2 (q.scopes.map scC):=by
     refine Own.at ?_ (c3 3002 LM OM);refine Own.swN (by simp [g4];omega) ?_;(repeat first|with_reducible assumption|refine .up rfl ?_|refine .sw rfl ?_|refine .swN rfl ?_)
    have kf3:AO o1 q.around:=by
     refine AO.at ?_ fun i hi=>c3 (5000+i) OM OM;refine AO.sw (.inr OM) ?_;repeat (first|exact f3|refine AO.up OM ?_|refine AO.sw OM ?_)
    clear n0 c3
    refine⟨Qbh 34 (s:=3003) (sz:=1) (L:=arC 0 q.around) ?_ ?_ LM ?_ ?_,?_⟩
    ·simp only[m0,hx1,go_sem]
    ·simp only[k0,g1,go_sem]
    ·simp only[go_sem]
    ·simp only[g5,go_sem]
    refine RN (Ad5 r0 r2 r4 k0 (Ad5 k3 k4 g1 g2 (Ad5 g3 g4 g5 g6 (Ad5 g7 g8 g9 g10 g11)))) ?_;refine YO 3003 (L:=arC 0 q.around) (ys:=[[ownV b 1 (ar.map inC)]]) (Z1 g5) (fun _=>Z2 k3 hs4) (by (simp only[src,g8,go_sem]<;>rfl)) SM SM OM ⟨by rw[Qc4];simp;omega,OM⟩ (hs4 3003 OM) (Z1 g9) ?_;generalize hx2:swp 3003 (ownV 3003 1 (arC 0 q.around))=x2;refine RN (Ad2 r0 (Ad5 r2 r4 k0 k3 (Ad5 k4 g1 g2 g3 (Ad5 g4 g5 g6 g7 (Ad5 g8 g9 g10 g11 hx2))))) ?_;have ha:arC 0 (q.around++[ar])=arC 0 q.around++[[ownV b 1 (ar.map inC)]]:=by rw[Qdk,hb,Nat.zero_add]
    refine⟨rfl,Z2 r0 g1,Z2 r2 g2,Z2 r4 g6,by simp only[k4,Nd.kind,Nd.set,Nd.parts,Nd.lo,Nd.hi,go_sem],by simp only[ha,List.map_append,go_sem],Z1 ha,?_,?_,?_,?_,?_⟩
    ·(repeat first|with_reducible assumption|refine .up rfl ?_|refine .sw rfl ?_|refine .swN rfl ?_)
    ·(repeat first|with_reducible assumption|refine .up rfl ?_|refine .sw rfl ?_|refine .swN rfl ?_)
    ·refine AO.up (by right;simp only[List.length_append,List.length_cons,List.length_nil];omega) ?_;refine AO.snoc ?_ ?_
     ·repeat (first|exact kf3|refine AO.up OM ?_|refine AO.sw OM ?_)
     ·rw[← hb];repeat (first|exact c2|refine Own.up (by simp;omega) ?_|refine Own.sw (by simp;omega) ?_)
    ·(repeat first|with_reducible assumption|refine .up rfl ?_|refine .sw rfl ?_|refine .swN rfl ?_)
    ·(repeat first|with_reducible assumption|refine .up rfl ?_|refine .sw rfl ?_|refine .swN rfl ?_)
  ·have hk1:(k==1)=false:=by simpa using hk
   simp only[hk,false_and,if_false];refine RN (Ad2 r0 (Ad5 r2 r4 o4 m0 hk1)) ?_
   exact⟨rfl,Z1 r0,Z1 r2,Z1 r4,by simp only[o4,Nd.kind,Nd.set,Nd.parts,Nd.lo,Nd.hi,go_sem],Z1 m0,m3,f1,f2,f3,f4,f5⟩
 clear r0 r2 r4 o4 m0 m3 f1 f2 f3 f4 f5 hs4;rintro e o hP;obtain⟨q1,hq1⟩:∃ q1:Pl,q1={ sets:=if k=1∧Qq s=false then q.sets++[s] else q.sets,scopes:=q.scopes,around:=if k=1∧Qq s=false then q.around++[ar] else q.around }:=⟨_,rfl⟩;rw[← hq1] at hP;have hg:({ sets:=if k=1∧Qq s=false then q.sets++[s] else q.sets,scopes:=if cnts k lo hi then q.scopes++[(low1 lo,hi)] else q.scopes,around:=if k=1∧Qq s=false then q.around++[ar] else q.around }:Pl)={ q1 with scopes:=if cnts k lo hi then q1.scopes++[(low1 lo,hi)] else q1.scopes }:=by subst hq1;rfl
 rw[hg];have hqs:q1.scopes=q.scopes:=by subst hq1;rfl
 obtain⟨z1,z2,z3⟩:q1.sets.length≤q.sets.length+1∧q1.around.length≤q.around.length+1∧q1.around≠[]:=by
  subst hq1;dsimp only;split<;>simp [hne]
 rw[← hqs] at b2 ⊢;clear hq1 hg hE hne;obtain⟨r0,r2,r4,o4,m0,m3,f1,f2,f3,f4,f5⟩:=hP;simp only[Nd.kind,Nd.set,Nd.parts,Nd.lo,Nd.hi] at o4;have hs4:∀ d,d < 5000→(arC 0 q1.around).map (swpL d)=arC 0 q1.around:=fun d hd=>W2 d _ 0 (.inl OM);have s2:=ZC 3002 2 (q1.scopes.map scC);rw[List.length_map] at s2;simp only[JZ] at s2;generalize low1 lo=l1 at hC ⊢;generalize cnts k lo hi=cn at hC ⊢;refine X_nx ?_;refine ZM ?_;refine X3 (fun e o=>∃ A,(A=1000002∧(if cn then ar++[q1.scopes.length] else ar)=ar∨A=4000)∧PlS (.mk k s ps lo hi) tk ts tp tl th A (if cn then ar++[q1.scopes.length] else ar) ar { q1 with scopes:=if cn then q1.scopes++[(l1,hi)] else q1.scopes } e o) ?_ ?_
 ·(repeat' (first|refine RSN (Ad2 r0 (Ad5 r2 r4 o4 m0 s2)) ?_|((with_reducible refine PCN (Ad2 r0 (Ad5 r2 r4 o4 m0 s2)) (r:=.tp [.ag [.i .i64 l1,.i .i64 hi],.bo cn]) ?h ?_);case h=>exact hC)|with_reducible refine GBN (Ad2 r0 (Ad5 r2 r4 o4 m0 s2)) (fun _=>?_) (fun _=>?_)|with_reducible refine GDN (Ad2 r0 (Ad5 r2 r4 o4 m0 s2)) (fun _=>?_) (fun _=>?_)))
  ·rename_i hcv;subst hcv;simp only[if_true];refine U_q (v:=.sl [[.i .i64 q1.scopes.length]]) (by (simp only[s2,litV,go_sem]<;>rfl)) ?_;refine RN trivial ?_;refine Qce 1000002 4000 (l0:=ar) OM RM OM (Z1 r2) (by (repeat first|with_reducible assumption|refine .up rfl ?_|refine .sw rfl ?_|refine .swN rfl ?_)) fun o1 c1 c2 c3=>?_;have k0:o1 1000000=some (.row 11 [[.i .i64 tk,.i .u64 (ts 0),.i .u64 (ts 1),.i .u64 (ts 2),.i .u64 (ts 3),.sl (tp.map cel),.i .i64 tl,.i .i64 th,ownV 3001 4 (q1.sets.map u4),ownV 3002 2 (q1.scopes.map scC),ownV 3003 1 (arC 0 q1.around)]]):=by
    rw[c3 _ LM LM];simp only[m0,go_sem]
   have k3:o1 3003=some (.row 1 (arC 0 q1.around)):=by rw[c3 _ LM LM];simp only[m3,hs4,go_sem]
   have k4:o1 4=some (.row 8 [[.i .i64 k,.i .u64 (s 0),.i .u64 (s 1),.i .u64 (s 2),.i .u64 (s 3),.sl (ps.map cel),.i .i64 lo,.i .i64 hi]]):=by rw[c3 _ LM LM];simp only[o4,go_sem]
   have k6:o1 6=some (.row 2 [[.i .i64 l1,.i .i64 hi]]):=by rw[c3 _ LM LM];simp only[go_sem]
   have kf1:Own o1 3001 4 (q1.sets.map u4):=by
    refine Own.at ?_ (c3 3001 LM LM);(repeat first|with_reducible assumption|refine .up rfl ?_|refine .sw rfl ?_|refine .swN rfl ?_)
   have kf2:Own o1 3002 2 (q1.scopes.map scC):=by
    refine Own.at ?_ (c3 3002 LM LM);(repeat first|with_reducible assumption|refine .up rfl ?_|refine .sw rfl ?_|refine .swN rfl ?_)
   have kf3:AO o1 q1.around:=by
    refine AO.at ?_ fun i hi=>c3 (5000+i) OM OM;refine AO.sw OM ?_;repeat (first|exact f3|refine AO.up OM ?_|refine AO.sw OM ?_)
   clear c3
   refine⟨Qbh 52 (s:=3002) (sz:=2) (L:=q1.scopes.map scC) ?_ ?_ LM ?_ ?_,?_⟩
   ·simp only[m0,go_sem]
   ·simp only[k0,go_sem]
   ·simp only[go_sem]
   ·simp only[go_sem]
   refine RN trivial ?_;refine YO 4000 (L:=ar.map inC) (ys:=[[.i .i64 q1.scopes.length]]) (Z0) c2.h (by simp only[src,go_sem]) SM SM OM ⟨by simp;omega,OM⟩ (Q4 _ c2.c) (Z0) ?_;have n0:Own (upd (swpO 4000 o1) 4000 (some (.row 1 (ar.map inC++[[.i .i64 q1.scopes.length]])))) 4000 1 ((ar++[q1.scopes.length]).map inC):=by rw[List.map_append];exact .to (by rw[List.all_append,c2.c];rfl)
   have e0:ownV 4000 1 (ar.map inC++[[.i .i64 q1.scopes.length]])=ownV 4000 1 ((ar++[q1.scopes.length]).map inC):=by rw[List.map_append];rfl
   generalize hso:swpO 4000 o1=o2 at n0;have k0:o2 1000000=some (.row 11 [[.i .i64 tk,.i .u64 (ts 0),.i .u64 (ts 1),.i .u64 (ts 2),.i .u64 (ts 3),.sl (tp.map cel),.i .i64 tl,.i .i64 th,ownV 3001 4 (q1.sets.map u4),ownV 3002 2 (q1.scopes.map scC),ownV 3003 1 (arC 0 q1.around)]]):=by rw[← hso];simp only[k0,go_sem]
   have k3:o2 3003=some (.row 1 (arC 0 q1.around)):=by rw[← hso];simp only[k3,hs4,go_sem]
   have k4:o2 4=some (.row 8 [[.i .i64 k,.i .u64 (s 0),.i .u64 (s 1),.i .u64 (s 2),.i .u64 (s 3),.sl (ps.map cel),.i .i64 lo,.i .i64 hi]]):=by rw[← hso];simp only[k4,go_sem]
   have k6:o2 6=some (.row 2 [[.i .i64 l1,.i .i64 hi]]):=by rw[← hso];simp only[k6,go_sem]
   have kf1:Own o2 3001 4 (q1.sets.map u4):=by rw[← hso];exact kf1.sw RM
   have kf2:Own o2 3002 2 (q1.scopes.map scC):=by rw[← hso];exact kf2.sw RM
   have kf3:AO o2 q1.around:=by rw[← hso];exact kf3.sw OM
   have c1:Own o2 1000002 1 (ar.map inC):=by rw[← hso];exact c1.sw RM
   clear hso c2;refine RN (Ad4 r0 r2 r4 (Ad5 k0 k3 k4 k6 e0)) ?_;refine YO 3002 (L:=q1.scopes.map scC) (ys:=[scC (l1,hi)]) (Z0) (by
    have:Own (upd (swpO 62 (upd o2 4000 (some (.row 1 (ar.map inC++[[.i .i64 q1.scopes.length]]))))) 62 (some (.row 2 [[.i .i64 l1,.i .i64 hi]]))) 3002 2 (q1.scopes.map scC):=by (repeat first|with_reducible assumption|refine .up rfl ?_|refine .sw rfl ?_|refine .swN rfl ?_)
    exact this.h) (by (simp only[src,scC,go_sem]<;>rfl)) (by simp [scC]) SM OM ⟨by simp;omega,OM⟩ (Q4 _ kf2.c) rfl ?_
   generalize hx2:swp 3002 (ownV 3002 2 (q1.scopes.map scC))=x2;refine RN (Ad5 r0 r2 r4 k0 (Ad5 k3 k4 k6 e0 hx2)) ?_;have e3:(q1.scopes++[(l1,hi)]).map scC=q1.scopes.map scC++[scC (l1,hi)]:=by rw[List.map_append];rfl
   refine⟨rfl,4000,.inr rfl,Z1 r0,Z1 e0,Z1 r4,by simp only[k4,Nd.kind,Nd.set,Nd.parts,Nd.lo,Nd.hi,go_sem],Z1 e3,Z2 k3 hs4,?_,?_,?_,?_,?_⟩
   ·(repeat first|with_reducible assumption|refine .up rfl ?_|refine .sw rfl ?_|refine .swN rfl ?_)
   ·dsimp only;refine Own.up RM ?_;rw[e3];exact .to (by rw[List.all_append,kf2.c];rfl)
   ·dsimp only;repeat (first|exact kf3|refine AO.up OM ?_|refine AO.sw OM ?_)
   ·(repeat first|with_reducible assumption|refine .up rfl ?_|refine .sw rfl ?_|refine .swN rfl ?_)
   ·(repeat first|with_reducible assumption|refine .up rfl ?_|refine .sw rfl ?_|refine .swN rfl ?_)
  ·rename_i hcv;subst hcv;simp only[Bool.false_eq_true,if_false]
   refine⟨trivial,1000002,.inl ⟨rfl,trivial⟩,Z1 r0,Z1 r2,Z1 r4,by simp only[o4,Nd.kind,Nd.set,Nd.parts,Nd.lo,Nd.hi,go_sem],Z1 m0,Z2 m3 hs4,?_,?_,?_,?_,?_⟩
   ·(repeat first|with_reducible assumption|refine .up rfl ?_|refine .sw rfl ?_|refine .swN rfl ?_)
   ·(repeat first|with_reducible assumption|refine .up rfl ?_|refine .sw rfl ?_|refine .swN rfl ?_)
   ·repeat (first|exact f3|refine AO.up OM ?_|refine AO.sw OM ?_)
   ·(repeat first|with_reducible assumption|refine .up rfl ?_|refine .sw rfl ?_|refine .swN rfl ?_)
   ·(repeat first|with_reducible assumption|refine .up rfl ?_|refine .sw rfl ?_|refine .swN rfl ?_)
 clear r0 r2 r4 o4 m0 m3 f1 f2 f3 f4 f5 hs4 hC s2;rintro e o ⟨A,hA,r0,r2,r4,o4,m0,m3,f1,f2,f3,f4,f5⟩;simp only[Nd.kind,Nd.set,Nd.parts,Nd.lo,Nd.hi] at o4;have y0:({ q1 with scopes:=if cn then q1.scopes++[(l1,hi)] else q1.scopes }:Pl).scopes.length≤q1.scopes.length+1:=by dsimp only;split<;>simp
 have ya:(if cn then ar++[q1.scopes.length] else ar).length≤ar.length+1:=by split<;>simp
 have yb:({ q1 with scopes:=if cn then q1.scopes++[(l1,hi)] else q1.scopes }:Pl).sets=q1.sets:=rfl;have yc:({ q1 with scopes:=if cn then q1.scopes++[(l1,hi)] else q1.scopes }:Pl).around=q1.around:=rfl;rw[← yb] at z1;rw[← yc] at z2 z3;generalize ({ q1 with scopes:=if cn then q1.scopes++[(l1,hi)] else q1.scopes }:Pl)=q2 at *;generalize (if cn then ar++[q1.scopes.length] else ar)=ar2 at *;refine X_nx ?_;have hAne:∀ d,okD d→(A==d)=false:=fun d hd=>by
  have:=hd.2
  simp;omega
 have hpd:∀ d,okD d→((1000000:Nat)==d)=false:=fun d hd=>by
  have:=hd.2
  simp;omega
 refine RT (Ad2 r4 o4) ?_;refine U_lp (fun r e o=>∃ (i:Nat) (y:Pl),i+r=ps.length∧e 0=.pt 1000000 0 0∧e 2=ownV A 1 (ar2.map inC)∧e 67=.sl (ps.map cel)∧e 68=.i .i64 ps.length∧e 69=.i .i64 i ∧
  Qt (ps.drop i) ar2 y=Qt ps ar2 q2∧y.sets.length+cntL (ps.drop i)≤1000∧y.scopes.length+cntL (ps.drop i)≤1000∧y.around.length+cntL (ps.drop i)≤1000∧y.around≠[] ∧
  o 1000000=some (plR (.mk tk ts tp tl th) y)∧o 3003=some (.row 1 (arC 0 y.around))∧Own o 3001 4 (y.sets.map u4)∧Own o 3002 2 (y.scopes.map scC)∧AO o y.around∧Own o A 1 (ar2.map inC)∧Own o 1000002 1 (ar.map inC)) (k:=ps.length) ?_ (Qa F) ?_
 ·exact⟨0,q2,OM,Z1 r0,Z1 r2,Z0,by simp only[List.length_map,go_sem],Zr0,rfl,by rw[List.drop_zero];omega,by rw[List.drop_zero];omega,by rw[List.drop_zero];omega,z3,m0,m3,f1,f2,f3,f4,f5⟩
 clear r0 r2 r4 o4 m0 m3 f1 f2 f3 f4 f5;rintro r e o ⟨i,y,hir,r0,r2,r12,r13,r14,hy,y1,y2,y3,y4,m0,m3,f1,f2,f3,f4,f5⟩;simp only[plR] at m0;dsimp only[QiP];refine RN (Ad2 r13 r14) ?_;refine Qv (q:=decide ((i:Int) < (ps.length:Int))) (Z0) (fun hc=>?_) (fun hc=>?_)
 ·have hi:i < ps.length:=by simpa using hc
  have hpos:(0:Int)≤(i:Int):=by omega
  have hxi:ps[i]?=some ps[i]:=List.getElem?_eq_getElem hi;rw[List.drop_eq_getElem_cons hi] at hy y1 y2 y3;rw[cntL] at y1 y2 y3;have hp:ps[i]∈ps:=List.getElem_mem _;have hpc:=Vx hp;obtain⟨w1,w2,w3,w4⟩:=Yq ps[i] ar2 y;rw[Qt] at hy;have hs4:∀ d,d < 5000→(arC 0 y.around).map (swpL d)=arC 0 y.around:=fun d hd=>W2 d _ 0 (.inl OM);have hA9:(A==9)=false:=by simp;omega
  have hw:IntKind.i64.wrap ((i:Int)+1)=((i+1:Nat):Int):=by rw[Qi OM OM];rfl
  refine RN (Ad2 r12 r14) ?_;refine U_q (v:=.ip (cel ps[i]) 0) (by simp only[r12,r14,go_sem];rw[if_pos OM];simp [hxi,QI]) ?_;refine U_ld (v:=.ag (cel ps[i])) (by simp only[go_sem];first|done|(simp [QI];exact List.take_of_length_le (by rw[QI];omega))) ?_;refine RN trivial ?_;refine U_pw A (t:=.mk tk ts tp tl th) (q:=y) (ar:=ar2) (p:=ps[i]) (hA.imp (·.1) id) (ih _ hp) OM OM OM OM y4 (Z3 r0 r2 hA9) (by simp only[m0,plR,go_sem]) (Z2 m3 hs4) (by (repeat first|with_reducible assumption|refine .up rfl ?_|refine .sw rfl ?_|refine .swN rfl ?_)) (by (repeat first|with_reducible assumption|refine .up rfl ?_|refine .sw rfl ?_|refine .swN rfl ?_)) (by repeat (first|exact f3|refine AO.up OM ?_|refine AO.sw OM ?_)) (by
   refine Own.up hA9 (Own.up hA9 (Own.sw hA9 ?_));exact f4) fun e1 o1 g0 g1 g2 g3 g4 g5 k1 k2=>?_
  have t0:e1 0=.pt 1000000 0 0:=by
   rw[k1 0 fun d hd=>by simp only[r0,hpd d hd,go_sem]];simp only[r0,go_sem]
  have t2:e1 2=ownV A 1 (ar2.map inC):=by
   rw[k1 2 fun d hd=>by simp only[r2,hA9,Xe _ _ _ _ (hAne d hd),go_sem]];simp only[r2,hA9,go_sem]
  have t67:e1 67=.sl (ps.map cel):=by
   rw[k1 67 fun d hd=>by simp only[r12,go_sem]];simp only[r12,go_sem]
  have t68:e1 68=.i .i64 ps.length:=by
   rw[k1 68 fun d hd=>by simp only[r13,go_sem]];simp only[r13,go_sem]
  have t69:e1 69=.i .i64 i:=by
   rw[k1 69 fun d hd=>by simp only[r14,go_sem]];simp only[r14,go_sem]
  have g6:Own o1 1000002 1 (ar.map inC):=by
   rcases hA with⟨a1,a2⟩|a1
   ·subst a1;rw[a2] at g5;exact g5
   ·refine⟨f5.c,fun hl=>k2 1000002 _ (by have:Own (upd (upd (swpO 9 o) 9 none) 9 none) 1000002 1 (ar.map inC):=(f5.sw RM).up RM |>.up RM
                                         have h2:=((f5.sw (d:=9) RM).h hl);simp only[h2,go_sem];first|done|exact h2) OM (fun hh=>absurd hh.2.1 OM) OM fun d _=>by rw[Vi,Q4 d f5.c]⟩
  clear k1 k2;refine RN (Ad2 t69 hw) ?_
  exact⟨r - 1,OM,i+1,_,OM,Z1 t0,Z1 t2,Z1 t67,Z1 t68,Z0,hy,OM,OM,OM,(fun hh=>by rw[hh] at w4;exact y4 (List.eq_nil_of_length_eq_zero (by simpa using w4))),g0,g1,g2,g3,g4,g5,g6⟩
 ·have hi:i=ps.length:=by
   have:¬ i < ps.length:=by simpa using hc
   omega
  subst hi;rw[List.drop_length] at hy;have hy:y=Qt ps ar2 q2:=hy;subst hy;refine RN trivial ?_;exact Qld rfl (by simp only[plR];exact m0) m3 f1 f2 f3 f5
theorem Hy:∀ (n:Nd),GPw n
 | .mk k s ps lo hi=>QlS k s ps lo hi fun p hp=>Hy p
end Go.Proofs.YtklbhcjmaeedhaaGreatDoor
