import Derived.Test.YtklbhcjmaeedhaaGreatDoorKs

namespace Go.Proofs.YtklbhcjmaeedhaaGreatDoor
set_option linter.all false
attribute [-go_sem] Qy Qj rfOb V.cells
structure CatO (y:Nds) (o:O):Prop where
 m0:o 1000000=some (rcM y.next)
 m1:o 1000001=some (egM y.L)
 o6:o 6=some (.row 3 [[.nil,.nil,.bo false]])
 o7:o 7=some (.row 3 [[ownV 3000 1 (y.first.map inC),ownV 3001 1 (y.last.map inC),.bo y.empty]])
 f1:Ow1 o 3000 y.first
 f2:Ow1 o 3001 y.last
def Qg8 (ps:List Nd) (ih:∀ p∈ps,WG p) (hl:ps.length≤1000) (sc nx:Nat) (L:List (Eg × Int)) (hsc:sc+cntL ps≤1000) (hnx:nx+cntL ps≤1000):GWk 44 (.sl (ps.map cel)) sc nx L (wkC ps sc ⟨[],[],true,nx,L⟩):=by
 refine YS e44 rfl rfl (by simp [domA]) SM SM (by simp [domA]) fun o hb ho=>?_;dsimp only[fn44,c44];have hb0:=hb _ (List.mem_cons_self ..);have hb1:=hb (1000001,egM L) SM;dsimp only[rcM] at hb0 hb1;clear hb ho;refine RT trivial ?_;refine U_lp (fun r e o=>∃ (i:Nat) (y:Nds),i+r=ps.length∧e 0=.pt 1000000 0 0∧e 2=.i .i64 sc∧e 6=.pt 6 0 0∧e 7=.pt 7 0 0∧e 12=.sl (ps.map cel)∧e 13=.i .i64 ps.length∧e 14=.i .i64 i ∧
  wkC (ps.drop i) sc y=wkC ps sc ⟨[],[],true,nx,L⟩∧y.first.length≤y.next∧y.last.length≤y.next∧y.next+cntL (ps.drop i)≤1000∧CatO y o) (k:=ps.length) ?_ (Qa F) ?_
 ·exact⟨0,⟨[],[],true,nx,L⟩,OM,Z0,Z0,Z0,Z0,Z0,by simp only[List.length_map,go_sem],Zr0,rfl,SM,SM,hnx,
   by simp only[hb0,rcM,go_sem],Z1 hb1,Z0,by simp only[List.map_nil,Q5,go_sem],fun h=>absurd rfl h,fun h=>absurd rfl h⟩
 clear hb0 hb1;rintro r e o ⟨i,y,hir,r0,r2,r6,r7,r12,r13,r14,hy,y1,y2,y3,⟨m0,m1,o6,o7,f1,f2⟩⟩;dsimp only[rcM] at m0;dsimp only[QkB];refine RN (Ad2 r13 r14) ?_;refine Qv (q:=decide ((i:Int) < (ps.length:Int))) (Z0) (fun hc=>?_) (fun hc=>?_)
 ·have hi:i < ps.length:=by simpa using hc
  have hpos:(0:Int)≤(i:Int):=by omega
  have hxi:ps[i]?=some ps[i]:=List.getElem?_eq_getElem hi;rw[List.drop_eq_getElem_cons hi] at hy y3;rw[cntL] at y3;have hp:ps[i]∈ps:=List.getElem_mem _;have hpc:=Vx hp;obtain⟨w1,w2,w3,w4⟩:=JT ps[i] sc y.next y.L;have hW:=ih _ hp sc y.next y.L OM OM;rw[wkC] at hy;generalize hx:wk ps[i] sc y.next y.L=x at hy w1 w2 w3 w4 hW;refine RN (Ad2 r12 r14) ?_;refine U_q (v:=.ip (cel ps[i]) 0) (by simp only[r12,r14,go_sem];rw[if_pos OM];simp [hxi,QI]) ?_;refine U_ld (v:=.ag (cel ps[i])) (by simp only[go_sem];first|done|(simp [QI];exact List.take_of_length_le (by rw[QI];omega))) ?_;refine RN trivial ?_;refine X9 hW (Z2 r0 r2) (by simp only[go_sem]) (by simp only[m0,rcM,go_sem]) (Z1 m1) fun o1 g0 g1 g2 g3 g4=>?_;have k6:o1 6=some (.row 3 [[.nil,.nil,.bo false]]):=by rw[g4 6 LM LM LM LM];simp only[o6,go_sem]
  have k7:o1 7=some (.row 3 [[ownV 3000 1 (y.first.map inC),ownV 3001 1 (y.last.map inC),.bo y.empty]]):=by rw[g4 7 LM LM LM LM];simp only[o7,go_sem]
  have kf1:Ow1 o1 3000 y.first:=by
   refine Ow1.at ?_ (g4 3000 LM LM LM LM);(repeat (first|with_reducible assumption|with_reducible exact Ow1.to|((with_reducible first|refine Ow1.up ?hh ?_|refine Ow1.sw ?hh ?_|refine Ow1.swN ?hh ?_);(case hh=>rfl))))
  have kf2:Ow1 o1 3001 y.last:=by
   refine Ow1.at ?_ (g4 3001 LM LM LM LM);(repeat (first|with_reducible assumption|with_reducible exact Ow1.to|((with_reducible first|refine Ow1.up ?hh ?_|refine Ow1.sw ?hh ?_|refine Ow1.swN ?hh ?_);(case hh=>rfl))))
  clear g4 m0 m1 o6 o7 f1 f2;refine RN (Ad2 r0 (Ad5 r2 r6 r7 k6 k7)) ?_;refine Qgj 3001 2000 (fr:=y.last) (to:=x.first) (L:=x.L) (next:=x.next) (keep:=sc) (again:=false) OM OM LM LM LM (Z2 r0 r2) (Z1 g0) (Z1 g1) (by (repeat (first|with_reducible assumption|with_reducible exact Ow1.to|((with_reducible first|refine Ow1.up ?hh ?_|refine Ow1.sw ?hh ?_|refine Ow1.swN ?hh ?_);(case hh=>rfl))))) (by (repeat (first|with_reducible assumption|with_reducible exact Ow1.to|((with_reducible first|refine Ow1.up ?hh ?_|refine Ow1.sw ?hh ?_|refine Ow1.swN ?hh ?_);(case hh=>rfl))))) fun o2 l0 l1 l2 l3 l4=>?_;have q6:o2 6=some (.row 3 [[.nil,.nil,.bo false]]):=by rw[l4 6 LM LM LM LM];simp only[k6,go_sem]
  have q7:o2 7=some (.row 3 [[ownV 3000 1 (y.first.map inC),ownV 3001 1 (y.last.map inC),.bo y.empty]]):=by rw[l4 7 LM LM LM LM];simp only[k7,go_sem]
  have q10:o2 10=some (.row 3 [[ownV 2000 1 (x.first.map inC),ownV 2001 1 (x.last.map inC),.bo x.empty]]):=by rw[l4 10 LM LM LM LM];simp only[go_sem]
  have qf1:Ow1 o2 3000 y.first:=by
   refine Ow1.at ?_ (l4 3000 LM LM LM LM);(repeat (first|with_reducible assumption|with_reducible exact Ow1.to|((with_reducible first|refine Ow1.up ?hh ?_|refine Ow1.sw ?hh ?_|refine Ow1.swN ?hh ?_);(case hh=>rfl))))
  have qf3:Ow1 o2 2001 x.last:=by
   refine Ow1.at ?_ (l4 2001 LM LM LM LM);(repeat (first|with_reducible assumption|with_reducible exact Ow1.to|((with_reducible first|refine Ow1.up ?hh ?_|refine Ow1.sw ?hh ?_|refine Ow1.swN ?hh ?_);(case hh=>rfl))))
  clear l4 g0 g1 g2 g3 k6 k7 kf1 kf2;refine RN (Ad3 r0 r2 (Ad5 r6 r7 q6 q7 q10)) ?_;refine X3 (fun e o=>e 0=.pt 1000000 0 0∧e 2=.i .i64 sc∧e 6=.pt 6 0 0∧e 7=.pt 7 0 0∧e 10=.pt 10 0 0∧e 12=.sl (ps.map cel)∧e 13=.i .i64 ps.length∧e 14=.i .i64 i ∧
   o 1000000=some (.row 2 [[.i .i64 (x.next:Int),.mp 1000001]])∧o 1000001=some (egM (lnk y.last x.first sc false x.L))∧o 6=some (.row 3 [[.nil,.nil,.bo false]])∧o 7=some (.row 3 [[ownV 3000 1 ((if y.empty then y.first++x.first else y.first).map inC),ownV 3001 1 (y.last.map inC),.bo y.empty]]) ∧
   (∃ j,o 10=some (.row 3 [[j,ownV 2001 1 (x.last.map inC),.bo x.empty]]))∧Ow1 o 3000 (if y.empty then y.first++x.first else y.first)∧Ow1 o 3001 y.last∧Ow1 o 2001 x.last) ?_ ?_
  ·refine Qv (q:=y.empty) (Z0) (fun he=>?_) (fun he=>?_)
   ·refine RN (Ad3 r0 r2 (Ad5 r6 r7 q6 q7 q10)) ?_;refine U_cc 35 3000 2000 (l1:=y.first) (l2:=x.first) OM OM LM LM (Z0) (Z0) (by (repeat (first|with_reducible assumption|with_reducible exact Ow1.to|((with_reducible first|refine Ow1.up ?hh ?_|refine Ow1.sw ?hh ?_|refine Ow1.swN ?hh ?_);(case hh=>rfl))))) (by (repeat (first|with_reducible assumption|with_reducible exact Ow1.to|((with_reducible first|refine Ow1.up ?hh ?_|refine Ow1.sw ?hh ?_|refine Ow1.swN ?hh ?_);(case hh=>rfl))))) fun o3 c1 c2=>?_;have t0:o3 1000000=some (.row 2 [[.i .i64 (x.next:Int),.mp 1000001]]):=by rw[c2 _ LM];simp only[l0,go_sem]
    have t1:o3 1000001=some (egM (lnk y.last x.first sc false x.L)):=by rw[c2 _ LM];simp only[l1,go_sem]
    have t6:o3 6=some (.row 3 [[.nil,.nil,.bo false]]):=by rw[c2 _ LM];simp only[q6,go_sem]
    have t7:o3 7=some (.row 3 [[swp 2000 (swp 3000 (ownV 3000 1 (y.first.map inC))),ownV 3001 1 (y.last.map inC),.bo y.empty]]):=by rw[c2 _ LM];simp only[q7,go_sem]
    have t10:o3 10=some (.row 3 [[swp 2000 (ownV 2000 1 (x.first.map inC)),ownV 2001 1 (x.last.map inC),.bo x.empty]]):=by rw[c2 _ LM];simp only[q10,go_sem]
    have u2:Ow1 o3 3001 y.last:=by
     refine Ow1.at ?_ (c2 3001 LM);(repeat (first|with_reducible assumption|with_reducible exact Ow1.to|((with_reducible first|refine Ow1.up ?hh ?_|refine Ow1.sw ?hh ?_|refine Ow1.swN ?hh ?_);(case hh=>rfl))))
    have u3:Ow1 o3 2001 x.last:=by
     refine Ow1.at ?_ (c2 2001 LM);(repeat (first|with_reducible assumption|with_reducible exact Ow1.to|((with_reducible first|refine Ow1.up ?hh ?_|refine Ow1.sw ?hh ?_|refine Ow1.swN ?hh ?_);(case hh=>rfl))))
    refine RN (Ad4 r0 r2 r6 (Ad5 r7 r12 r13 r14 t7)) ?_
    refine⟨rfl,Z1 r0,Z1 r2,Z1 r6,Z1 r7,Z0,Z1 r12,Z1 r13,Z1 r14,Z1 t0,Z1 t1,Z1 t6,Z1 he,⟨_,Zr1 t10⟩,?_,?_,?_⟩
    ·rw[he];exact c1.up RM
    ·(repeat (first|with_reducible assumption|with_reducible exact Ow1.to|((with_reducible first|refine Ow1.up ?hh ?_|refine Ow1.sw ?hh ?_|refine Ow1.swN ?hh ?_);(case hh=>rfl))))
    ·(repeat (first|with_reducible assumption|with_reducible exact Ow1.to|((with_reducible first|refine Ow1.up ?hh ?_|refine Ow1.sw ?hh ?_|refine Ow1.swN ?hh ?_);(case hh=>rfl))))
   ·refine RN trivial ?_
    refine⟨rfl,Z1 r0,Z1 r2,Z1 r6,Z1 r7,Z0,Z1 r12,Z1 r13,Z1 r14,Z1 l0,Z1 l1,Z1 q6,Z2 he q7,⟨_,Zr1 q10⟩,?_,?_,?_⟩
    ·rw[he];exact qf1
    ·(repeat (first|with_reducible assumption|with_reducible exact Ow1.to|((with_reducible first|refine Ow1.up ?hh ?_|refine Ow1.sw ?hh ?_|refine Ow1.swN ?hh ?_);(case hh=>rfl))))
    ·(repeat (first|with_reducible assumption|with_reducible exact Ow1.to|((with_reducible first|refine Ow1.up ?hh ?_|refine Ow1.sw ?hh ?_|refine Ow1.swN ?hh ?_);(case hh=>rfl))))
  clear r0 r2 r6 r7 r12 r13 r14 l0 l1 l2 l3 q6 q7 q10 qf1 qf3;rintro e o ⟨r0,r2,r6,r7,r10,r12,r13,r14,l0,l1,q6,q7,⟨j1,q10⟩,f1,f2,f3⟩;have hF:(if y.empty then y.first++x.first else y.first).length≤x.next:=by split<;>(try simp only[List.length_append])<;>omega
  generalize hFs:(if y.empty then y.first++x.first else y.first)=F1 at hy q7 f1 hF;refine RN (Ad4 r0 r2 r6 (Ad5 r7 r10 q6 q7 q10)) ?_;refine X3 (fun e o=>e 0=.pt 1000000 0 0∧e 2=.i .i64 sc∧e 6=.pt 6 0 0∧e 7=.pt 7 0 0∧e 10=.pt 10 0 0∧e 12=.sl (ps.map cel)∧e 13=.i .i64 ps.length∧e 14=.i .i64 i ∧
   o 1000000=some (.row 2 [[.i .i64 (x.next:Int),.mp 1000001]])∧o 1000001=some (egM (lnk y.last x.first sc false x.L))∧o 6=some (.row 3 [[.nil,.nil,.bo false]])∧o 7=some (.row 3 [[ownV 3000 1 (F1.map inC),ownV 3001 1 ((if x.empty then y.last++x.last else x.last).map inC),.bo y.empty]]) ∧
   (∃ j1 j2,o 10=some (.row 3 [[j1,j2,.bo x.empty]]))∧Ow1 o 3000 F1∧Ow1 o 3001 (if x.empty then y.last++x.last else x.last)) ?_ ?_
  ·refine Qv (q:=x.empty) (Z0) (fun he=>?_) (fun he=>?_)
   ·refine RN (Ad4 r0 r2 r6 (Ad5 r7 r10 q6 q7 q10)) ?_;refine U_cc 44 3001 2001 (l1:=y.last) (l2:=x.last) OM OM LM LM (Z0) (Z0) (by (repeat (first|with_reducible assumption|with_reducible exact Ow1.to|((with_reducible first|refine Ow1.up ?hh ?_|refine Ow1.sw ?hh ?_|refine Ow1.swN ?hh ?_);(case hh=>rfl))))) (by (repeat (first|with_reducible assumption|with_reducible exact Ow1.to|((with_reducible first|refine Ow1.up ?hh ?_|refine Ow1.sw ?hh ?_|refine Ow1.swN ?hh ?_);(case hh=>rfl))))) fun o3 c1 c2=>?_;have t0:o3 1000000=some (.row 2 [[.i .i64 (x.next:Int),.mp 1000001]]):=by rw[c2 _ LM];simp only[l0,go_sem]
    have t1:o3 1000001=some (egM (lnk y.last x.first sc false x.L)):=by rw[c2 _ LM];simp only[l1,go_sem]
    have t6:o3 6=some (.row 3 [[.nil,.nil,.bo false]]):=by rw[c2 _ LM];simp only[q6,go_sem]
    have t7:o3 7=some (.row 3 [[ownV 3000 1 (F1.map inC),swp 2001 (swp 3001 (ownV 3001 1 (y.last.map inC))),.bo y.empty]]):=by rw[c2 _ LM];simp only[q7,go_sem]
    have t10:o3 10=some (.row 3 [[swp 2001 (swp 3001 (swp 44 (swp 44 j1))),swp 2001 (ownV 2001 1 (x.last.map inC)),.bo x.empty]]):=by rw[c2 _ LM];simp only[q10,go_sem]
    have u1:Ow1 o3 3000 F1:=by
     refine Ow1.at ?_ (c2 3000 LM);(repeat (first|with_reducible assumption|with_reducible exact Ow1.to|((with_reducible first|refine Ow1.up ?hh ?_|refine Ow1.sw ?hh ?_|refine Ow1.swN ?hh ?_);(case hh=>rfl))))
    refine RN (Ad5 r0 r2 r6 r7 (Ad5 r10 r12 r13 r14 t7)) ?_
    refine⟨rfl,Z1 r0,Z1 r2,Z1 r6,Z1 r7,Z1 r10,Z1 r12,Z1 r13,Z1 r14,Z1 t0,Z1 t1,Z1 t6,Z1 he,⟨_,_,Zr1 t10⟩,?_,?_⟩
    ·(repeat (first|with_reducible assumption|with_reducible exact Ow1.to|((with_reducible first|refine Ow1.up ?hh ?_|refine Ow1.sw ?hh ?_|refine Ow1.swN ?hh ?_);(case hh=>rfl))))
    ·rw[he];exact c1.up RM
   ·refine Qj0 2001 3001 LM LM ?_;have t7:renO 2001 3001 o 7=some (.row 3 [[ownV 3000 1 (F1.map inC),ren (tof 2001 3001) (swp 3001 (ownV 3001 1 (y.last.map inC))),.bo y.empty]]):=by simp only[Xf,q7,go_sem]
    have t10:renO 2001 3001 o 10=some (.row 3 [[ren (tof 2001 3001) (swp 3001 j1),ownV 3001 1 (x.last.map inC),.bo x.empty]]):=by simp only[Xf,q10,go_sem]
    have t0:renO 2001 3001 o 1000000=some (.row 2 [[.i .i64 (x.next:Int),.mp 1000001]]):=by simp only[Xf,l0,go_sem]
    have t1:renO 2001 3001 o 1000001=some (egM (lnk y.last x.first sc false x.L)):=by simp only[Xf,l1,go_sem]
    have t6:renO 2001 3001 o 6=some (.row 3 [[.nil,.nil,.bo false]]):=by simp only[Xf,q6,go_sem]
    have u1:Ow1 (renO 2001 3001 o) 3000 F1:=f1.ren2 RM RM;have u2:Ow1 (renO 2001 3001 o) 3001 x.last:=f3.ren1 RM;refine RN (Ad2 r0 (Ad5 r2 r6 r7 r10 (Ad5 r12 r13 r14 t7 t10))) ?_
    refine⟨rfl,Z1 r0,Z1 r2,Z1 r6,Z1 r7,Z1 r10,Z1 r12,Z1 r13,Z1 r14,Z1 t0,Z1 t1,Z1 t6,Z1 he,⟨_,_,Zr1 t10⟩,?_,?_⟩
    ·(repeat (first|with_reducible assumption|with_reducible exact Ow1.to|((with_reducible first|refine Ow1.up ?hh ?_|refine Ow1.sw ?hh ?_|refine Ow1.swN ?hh ?_);(case hh=>rfl))))
    ·rw[he,if_neg LM];(repeat (first|with_reducible assumption|with_reducible exact Ow1.to|((with_reducible first|refine Ow1.up ?hh ?_|refine Ow1.sw ?hh ?_|refine Ow1.swN ?hh ?_);(case hh=>rfl))))
  clear r0 r2 r6 r7 r10 r12 r13 r14 l0 l1 q6 q7 q10 f1 f2 f3;rintro e o ⟨r0,r2,r6,r7,r10,r12,r13,r14,l0,l1,q6,q7,⟨j1,j2,q10⟩,f1,f2⟩;have hG:(if x.empty then y.last++x.last else x.last).length≤x.next:=by split<;>(try simp only[List.length_append])<;>omega
  generalize hGs:(if x.empty then y.last++x.last else x.last)=F2 at hy q7 f2 hG;have hw:IntKind.i64.wrap ((i:Int)+1)=((i+1:Nat):Int):=by rw[Qi OM OM];rfl
  rcases Bool.eq_false_or_eq_true y.empty with hE|hE;all_goals
   simp only[hE,Bool.true_and,Bool.false_and] at hy q7;refine RN (Ad2 r0 (Ad5 r2 r6 r7 r10 (Ad5 r14 q6 q7 q10 hw))) ?_
   exact⟨r - 1,OM,i+1,_,OM,Z1 r0,Z1 r2,Z1 r6,Z1 r7,Z1 r12,Z1 r13,Z0,hy,hF,hG,by dsimp only;omega,⟨by simp only[l0,rcM,go_sem],Z1 l1,Z1 q6,Z0,by dsimp only;(repeat (first|with_reducible assumption|with_reducible exact Ow1.to|((with_reducible first|refine Ow1.up ?hh ?_|refine Ow1.sw ?hh ?_|refine Ow1.swN ?hh ?_);(case hh=>rfl)))),by dsimp only;(repeat (first|with_reducible assumption|with_reducible exact Ow1.to|((with_reducible first|refine Ow1.up ?hh ?_|refine Ow1.sw ?hh ?_|refine Ow1.swN ?hh ?_);(case hh=>rfl))))⟩⟩
 ·have hi:i=ps.length:=by
   have:¬ i < ps.length:=by simpa using hc
   omega
  subst hi;rw[List.drop_length] at hy;have hy:y=wkC ps sc ⟨[],[],true,nx,L⟩:=hy;subst hy;refine RN (Ad4 r6 r7 o6 o7) ?_;refine Jl (s:=3000) (t:=3001) (nx:=nx) OM OM OM ?_ ?_ ?_ ?_ ?_
  ·simp only[r6,r7,o6,o7,go_sem]
  ·simp only[m0,rcM,go_sem]
  ·simp only[m1,go_sem]
  ·exact f1.up RM
  ·exact f2.up RM
end Go.Proofs.YtklbhcjmaeedhaaGreatDoor
