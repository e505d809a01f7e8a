import Derived.Test.YtklbhcjmaeedhaaGreatDoorM7

namespace Go.Proofs.YtklbhcjmaeedhaaGreatDoor
set_option linter.all false
attribute [-go_sem] Qy Qj rfOb V.cells
def QgH (ps:List Nd) (ih:∀ p∈ps,WG p) (hl:ps.length≤1000) (sc nx:Nat) (L:List (Eg × Int)) (hsc:sc+cntL ps≤1000) (hnx:nx+cntL ps≤1000):GWk 45 (.sl (ps.map cel)) sc nx L (wkA ps sc ⟨[],[],false,nx,L⟩):=by
 refine YS e45 rfl rfl (by simp [domA]) SM SM (by simp [domA]) fun o hb ho=>?_;dsimp only[fn45,c45];have hb0:=hb _ (List.mem_cons_self ..);have hb1:=hb (1000001,egM L) SM;dsimp only[rcM] at hb0 hb1;clear hb ho;refine RT trivial ?_;refine U_lp (fun r e o=>∃ (i:Nat) (y:Nds),i+r=ps.length∧e 0=.pt 1000000 0 0∧e 2=.i .i64 sc∧e 6=.pt 6 0 0∧e 7=.pt 7 0 0∧e 11=.sl (ps.map cel)∧e 12=.i .i64 ps.length∧e 13=.i .i64 i ∧
  wkA (ps.drop i) sc y=wkA ps sc ⟨[],[],false,nx,L⟩∧y.first.length≤y.next∧y.last.length≤y.next∧y.next+cntL (ps.drop i)≤1000∧CatO y o) (k:=ps.length) ?_ (Qa F) ?_
 ·exact⟨0,⟨[],[],false,nx,L⟩,OM,Z0,Z0,Z0,Z0,Z0,by simp only[List.length_map,go_sem],Zr0,rfl,SM,SM,hnx,
   by simp only[hb0,rcM,go_sem],Z1 hb1,Z0,by simp only[List.map_nil,Q5,go_sem],fun h=>absurd rfl h,fun h=>absurd rfl h⟩
 clear hb0 hb1;rintro r e o ⟨i,y,hir,r0,r2,r6,r7,r12,r13,r14,hy,y1,y2,y3,⟨m0,m1,o6,o7,f1,f2⟩⟩;dsimp only[rcM] at m0;dsimp only[Qlj];refine RN (Ad2 r13 r14) ?_;refine Qv (q:=decide ((i:Int) < (ps.length:Int))) (Z0) (fun hc=>?_) (fun hc=>?_)
 ·have hi:i < ps.length:=by simpa using hc
  have hpos:(0:Int)≤(i:Int):=by omega
  have hxi:ps[i]?=some ps[i]:=List.getElem?_eq_getElem hi;rw[List.drop_eq_getElem_cons hi] at hy y3;rw[cntL] at y3;have hp:ps[i]∈ps:=List.getElem_mem _;have hpc:=Vx hp;obtain⟨w1,w2,w3,w4⟩:=JT ps[i] sc y.next y.L;have hW:=ih _ hp sc y.next y.L OM OM;rw[wkA] at hy;generalize hx:wk ps[i] sc y.next y.L=x at hy w1 w2 w3 w4 hW;refine RN (Ad2 r12 r14) ?_;refine U_q (v:=.ip (cel ps[i]) 0) (by simp only[r12,r14,go_sem];rw[if_pos OM];simp [hxi,QI]) ?_;refine U_ld (v:=.ag (cel ps[i])) (by simp only[go_sem];first|done|(simp [QI];exact List.take_of_length_le (by rw[QI];omega))) ?_;refine RN trivial ?_;refine X9 hW (Z2 r0 r2) (by simp only[go_sem]) (by simp only[m0,rcM,go_sem]) (Z1 m1) fun o1 g0 g1 g2 g3 g4=>?_;have k6:o1 6=some (.row 3 [[.nil,.nil,.bo false]]):=by rw[g4 6 LM LM LM LM];simp only[o6,go_sem]
  have k7:o1 7=some (.row 3 [[ownV 3000 1 (y.first.map inC),ownV 3001 1 (y.last.map inC),.bo y.empty]]):=by rw[g4 7 LM LM LM LM];simp only[o7,go_sem]
  have kf1:Ow1 o1 3000 y.first:=by
   refine Ow1.at ?_ (g4 3000 LM LM LM LM);(repeat (first|with_reducible assumption|with_reducible exact Ow1.to|((with_reducible first|refine Ow1.up ?hh ?_|refine Ow1.sw ?hh ?_|refine Ow1.swN ?hh ?_);(case hh=>rfl))))
  have kf2:Ow1 o1 3001 y.last:=by
   refine Ow1.at ?_ (g4 3001 LM LM LM LM);(repeat (first|with_reducible assumption|with_reducible exact Ow1.to|((with_reducible first|refine Ow1.up ?hh ?_|refine Ow1.sw ?hh ?_|refine Ow1.swN ?hh ?_);(case hh=>rfl))))
  clear g4 m0 m1 o6 o7 f1 f2;refine RN (Ad2 r0 (Ad5 r2 r6 r7 k6 k7)) ?_;refine U_cc 25 3000 2000 (l1:=y.first) (l2:=x.first) OM OM LM LM (Z0) (Z0) (by (repeat (first|with_reducible assumption|with_reducible exact Ow1.to|((with_reducible first|refine Ow1.up ?hh ?_|refine Ow1.sw ?hh ?_|refine Ow1.swN ?hh ?_);(case hh=>rfl))))) (by (repeat (first|with_reducible assumption|with_reducible exact Ow1.to|((with_reducible first|refine Ow1.up ?hh ?_|refine Ow1.sw ?hh ?_|refine Ow1.swN ?hh ?_);(case hh=>rfl))))) fun o3 c1 c2=>?_;have t0:o3 1000000=some (.row 2 [[.i .i64 (x.next:Int),.mp 1000001]]):=by rw[c2 _ LM];simp only[g0,go_sem]
  have t1:o3 1000001=some (egM x.L):=by rw[c2 _ LM];simp only[g1,go_sem]
  have t6:o3 6=some (.row 3 [[.nil,.nil,.bo false]]):=by rw[c2 _ LM];simp only[k6,go_sem]
  have t7:o3 7=some (.row 3 [[swp 2000 (swp 3000 (ownV 3000 1 (y.first.map inC))),ownV 3001 1 (y.last.map inC),.bo y.empty]]):=by rw[c2 _ LM];simp only[k7,go_sem]
  have t10:o3 10=some (.row 3 [[swp 2000 (ownV 2000 1 (x.first.map inC)),ownV 2001 1 (x.last.map inC),.bo x.empty]]):=by rw[c2 _ LM];simp only[go_sem]
  have u2:Ow1 o3 3001 y.last:=by
   refine Ow1.at ?_ (c2 3001 LM);(repeat (first|with_reducible assumption|with_reducible exact Ow1.to|((with_reducible first|refine Ow1.up ?hh ?_|refine Ow1.sw ?hh ?_|refine Ow1.swN ?hh ?_);(case hh=>rfl))))
  have u3:Ow1 o3 2001 x.last:=by
   refine Ow1.at ?_ (c2 2001 LM);(repeat (first|with_reducible assumption|with_reducible exact Ow1.to|((with_reducible first|refine Ow1.up ?hh ?_|refine Ow1.sw ?hh ?_|refine Ow1.swN ?hh ?_);(case hh=>rfl))))
  generalize swp 2000 (swp 3000 (ownV 3000 1 (y.first.map inC)))=j1 at t7;generalize swp 2000 (ownV 2000 1 (x.first.map inC))=j2 at t10;clear g0 g1 g2 g3 k6 k7 kf1 kf2 c2;refine RN (Ad3 r0 r2 (Ad5 r6 r7 t6 t7 t10)) ?_;refine U_cc 32 3001 2001 (l1:=y.last) (l2:=x.last) OM OM LM LM (Z0) (Z0) (by (repeat (first|with_reducible assumption|with_reducible exact Ow1.to|((with_reducible first|refine Ow1.up ?hh ?_|refine Ow1.sw ?hh ?_|refine Ow1.swN ?hh ?_);(case hh=>rfl))))) (by (repeat (first|with_reducible assumption|with_reducible exact Ow1.to|((with_reducible first|refine Ow1.up ?hh ?_|refine Ow1.sw ?hh ?_|refine Ow1.swN ?hh ?_);(case hh=>rfl))))) fun o4 d1 d2=>?_;have v0:o4 1000000=some (.row 2 [[.i .i64 (x.next:Int),.mp 1000001]]):=by rw[d2 _ LM];simp only[t0,go_sem]
  have v1:o4 1000001=some (egM x.L):=by rw[d2 _ LM];simp only[t1,go_sem]
  have v6:o4 6=some (.row 3 [[.nil,.nil,.bo false]]):=by rw[d2 _ LM];simp only[t6,go_sem]
  have v7:o4 7=some (.row 3 [[ownV 3000 1 ((y.first++x.first).map inC),swp 2001 (swp 3001 (ownV 3001 1 (y.last.map inC))),.bo y.empty]]):=by rw[d2 _ LM];simp only[go_sem]
  have v10:o4 10=some (.row 3 [[swp 2001 (swp 3001 (swp 32 (swp 32 j2))),swp 2001 (ownV 2001 1 (x.last.map inC)),.bo x.empty]]):=by rw[d2 _ LM];simp only[t10,go_sem]
  have x1:Ow1 o4 3000 (y.first++x.first):=by
   refine Ow1.at ?_ (d2 3000 LM);(repeat (first|with_reducible assumption|with_reducible exact Ow1.to|((with_reducible first|refine Ow1.up ?hh ?_|refine Ow1.sw ?hh ?_|refine Ow1.swN ?hh ?_);(case hh=>rfl))))
  clear d2 c1 t0 t1 t6 t7 t10;have hw:IntKind.i64.wrap ((i:Int)+1)=((i+1:Nat):Int):=by rw[Qi OM OM];rfl
  have hF:(y.first++x.first).length≤x.next:=by simp only[List.length_append];omega
  have hG:(y.last++x.last).length≤x.next:=by simp only[List.length_append];omega
  generalize y.first++x.first=F1 at *;generalize y.last++x.last=F2 at *;rcases Bool.eq_false_or_eq_true y.empty with hE|hE;all_goals
   simp only[hE,Bool.true_or,Bool.false_or] at hy v7;refine RN (Ad5 r0 r2 r6 r7 (Ad5 r14 v6 v7 v10 hw)) ?_
   exact⟨r - 1,OM,i+1,_,OM,Z1 r0,Z1 r2,Z1 r6,Z1 r7,Z1 r12,Z1 r13,Z0,hy,hF,hG,by dsimp only;omega,⟨by simp only[v0,rcM,go_sem],Z1 v1,Z1 v6,Z0,by dsimp only;(repeat (first|with_reducible assumption|with_reducible exact Ow1.to|((with_reducible first|refine Ow1.up ?hh ?_|refine Ow1.sw ?hh ?_|refine Ow1.swN ?hh ?_);(case hh=>rfl)))),by dsimp only;(repeat (first|with_reducible assumption|with_reducible exact Ow1.to|((with_reducible first|refine Ow1.up ?hh ?_|refine Ow1.sw ?hh ?_|refine Ow1.swN ?hh ?_);(case hh=>rfl))))⟩⟩
 ·have hi:i=ps.length:=by
   have:¬ i < ps.length:=by simpa using hc
   omega
  subst hi;rw[List.drop_length] at hy;have hy:y=wkA ps sc ⟨[],[],false,nx,L⟩:=hy;subst hy;refine RN (Ad4 r6 r7 o6 o7) ?_;refine Jl (s:=3000) (t:=3001) (nx:=nx) OM OM OM ?_ ?_ ?_ ?_ ?_
  ·simp only[r6,r7,o6,o7,go_sem]
  ·simp only[m0,rcM,go_sem]
  ·simp only[m1,go_sem]
  ·exact f1.up RM
  ·exact f2.up RM
end Go.Proofs.YtklbhcjmaeedhaaGreatDoor
