import Derived.Test.YtgiedknghbpdfaaM7

namespace Go.Proofs.Ytgiedknghbpdfaa
set_option linter.all false
attribute [-go_sem] swpOb renOb rfOb V.cells
theorem alt_gen (ps:List Nd) (ih:∀ p∈ps,WG p) (hl:ps.length≤1000) (sc nx:Nat) (L:List (Eg × Int)) (hsc:sc+cntL ps≤1000) (hnx:nx+cntL ps≤1000):GWk 34 (.sl (ps.map cel)) sc nx L (wkA ps sc ⟨[],[],false,nx,L⟩):=by
 refine U_gfo e34 rfl rfl (by simp [domA]) (by simp) (by simp) (by simp [domA]) fun o hb ho=>?_
 dsimp only[fn34,c34]
 have hb0:=hb _ (List.mem_cons_self ..)
 have hb1:=hb (1000001,egM L) (by simp)
 dsimp only[rcM] at hb0 hb1
 clear hb ho
 (repeat (with_reducible (first|refine U_nil ?_|refine UC_sq ?_|refine UC_rg ?_|refine UC_bk ?_|refine X_nx ?_|((first|refine U_q (v:=?_) ?h1 ?_|refine U_alc (n:=?_) ?h1 ?_);case h1=>((try simp only[List.length_map,go_sem])<;>rfl)))))
 refine U_lp (fun r e o=>∃ (i:Nat) (y:Nds),i+r=ps.length∧e 0=.pt 1000000 0 0∧e 2=.i .i64 sc∧e 6=.pt 6 0 0∧e 7=.pt 7 0 0∧e 11=.sl (ps.map cel)∧e 12=.i .i64 ps.length∧e 13=.i .i64 i ∧
  wkA (ps.drop i) sc y=wkA ps sc ⟨[],[],false,nx,L⟩∧y.first.length≤y.next∧y.last.length≤y.next∧y.next+cntL (ps.drop i)≤1000∧CatO y o) (k:=ps.length) ?_ (Call_le F) ?_
 ·exact⟨0,⟨[],[],false,nx,L⟩,by omega,by simp only[go_sem],by simp only[go_sem],by simp only[go_sem],by simp only[go_sem],by simp only[go_sem],by simp only[List.length_map,go_sem],by (simp only[go_sem]<;>rfl),rfl,by simp,by simp,hnx,
   by simp only[hb0,rcM,go_sem],by simp only[hb1,go_sem],by simp only[go_sem],by simp only[List.map_nil,ownV_nil,go_sem],fun h=>absurd rfl h,fun h=>absurd rfl h⟩
 clear hb0 hb1
 rintro r e o ⟨i,y,hir,r0,r2,r6,r7,r12,r13,r14,hy,y1,y2,y3,⟨m0,m1,o6,o7,f1,f2⟩⟩
 dsimp only[rcM] at m0
 dsimp only[b34_0]
 (repeat (with_reducible (first|refine U_nil ?_|refine UC_sq ?_|refine UC_rg ?_|refine X_nx ?_|(refine U_q (v:=?_) ?h1 ?_;case h1=>((try simp only[r13,r14,go_sem])<;>rfl)))))
 refine UC_cdb (q:=decide ((i:Int) < (ps.length:Int))) (by simp only[go_sem]) (fun hc=>?_) (fun hc=>?_)
 ·have hi:i < ps.length:=by simpa using hc
  have hpos:(0:Int)≤(i:Int):=by omega
  have hxi:ps[i]?=some ps[i]:=List.getElem?_eq_getElem hi
  rw[List.drop_eq_getElem_cons hi] at hy y3
  rw[cntL] at y3
  have hp:ps[i]∈ps:=List.getElem_mem _
  have hpc:=cntN_le hp
  obtain⟨w1,w2,w3,w4⟩:=wk_len ps[i] sc y.next y.L
  have hW:=ih _ hp sc y.next y.L (by omega) (by omega)
  rw[wkA] at hy
  generalize hx:wk ps[i] sc y.next y.L=x at hy w1 w2 w3 w4 hW
  (repeat (with_reducible (first|refine UC_sq ?_|refine UC_rg ?_|refine UC_bk ?_|refine UC_sk ?_|refine X_nx ?_)))
  refine U_q (v:=.ip (cel ps[i]) 0) (by simp only[r12,r14,go_sem];rw[if_pos (by omega)];simp [hxi,cel_len]) ?_
  refine U_ld (v:=.ag (cel ps[i])) (by simp only[go_sem];first|done|(simp [cel_len];exact List.take_of_length_le (by rw[cel_len];omega))) ?_
  (repeat (with_reducible (first|refine U_nil ?_|refine UC_sq ?_|refine UC_rg ?_|refine X_nx ?_|((first|refine U_q (v:=?_) ?h1 ?_|refine U_ld (v:=?_) ?h1 ?_|refine U_alc (n:=?_) ?h1 ?_);case h1=>((try simp only[go_sem])<;>rfl))|(refine U_sto (id:=?_) (i:=?_) (j:=?_) (q:=?_) (es:=?_) (cs:=?_) (vs:=?_) (es':=?_) ?h1 ?h2 ?h3 ?h4 ?h5 ?h6 ?h7 ?_;case h1|h2|h3|h4|h5|h6|h7=>((try simp only[go_sem])<;>rfl)))))
  refine U_walk hW (by simp only[r0,r2,go_sem]) (by simp only[go_sem]) (by simp only[m0,rcM,go_sem]) (by simp only[m1,go_sem]) fun o1 g0 g1 g2 g3 g4=>?_
  have k6:o1 6=some (.row 3 [[.nil,.nil,.bo false]]):=by rw[g4 6 (by decide) (by decide) (by decide) (by decide)];simp only[o6,go_sem]
  have k7:o1 7=some (.row 3 [[ownV 3000 1 (y.first.map inC),ownV 3001 1 (y.last.map inC),.bo y.empty]]):=by rw[g4 7 (by decide) (by decide) (by decide) (by decide)];simp only[o7,go_sem]
  have kf1:Ow1 o1 3000 y.first:=by
   refine Ow1.at ?_ (g4 3000 (by decide) (by decide) (by decide) (by decide))
   (repeat (first|with_reducible assumption|with_reducible exact Ow1.to|((with_reducible first|refine Ow1.up ?hh ?_|refine Ow1.sw ?hh ?_|refine Ow1.swN ?hh ?_);(case hh=>rfl))))
  have kf2:Ow1 o1 3001 y.last:=by
   refine Ow1.at ?_ (g4 3001 (by decide) (by decide) (by decide) (by decide))
   (repeat (first|with_reducible assumption|with_reducible exact Ow1.to|((with_reducible first|refine Ow1.up ?hh ?_|refine Ow1.sw ?hh ?_|refine Ow1.swN ?hh ?_);(case hh=>rfl))))
  clear g4 m0 m1 o6 o7 f1 f2
  (repeat (with_reducible (first|refine U_nil ?_|refine UC_sq ?_|refine UC_rg ?_|refine X_nx ?_|((first|refine U_q (v:=?_) ?h1 ?_|refine U_ld (v:=?_) ?h1 ?_|refine U_alc (n:=?_) ?h1 ?_);case h1=>((try simp only[r0,r2,r6,r7,k6,k7,go_sem])<;>rfl))|(refine U_sto (id:=?_) (i:=?_) (j:=?_) (q:=?_) (es:=?_) (cs:=?_) (vs:=?_) (es':=?_) ?h1 ?h2 ?h3 ?h4 ?h5 ?h6 ?h7 ?_;case h1|h2|h3|h4|h5|h6|h7=>((try simp only[r0,r2,r6,r7,k6,k7,go_sem])<;>rfl))|(refine U_bsl (es:=?_) (es':=?_) ?h1 ?h2 ?h3 ?_;case h1|h2|h3=>((try simp only[r0,r2,r6,r7,k6,k7,go_sem])<;>rfl)))))
  refine U_cc 25 3000 2000 (l1:=y.first) (l2:=x.first) (by omega) (by omega) (by decide) (by decide) (by simp only[go_sem]) (by simp only[go_sem]) (by (repeat (first|with_reducible assumption|with_reducible exact Ow1.to|((with_reducible first|refine Ow1.up ?hh ?_|refine Ow1.sw ?hh ?_|refine Ow1.swN ?hh ?_);(case hh=>rfl))))) (by (repeat (first|with_reducible assumption|with_reducible exact Ow1.to|((with_reducible first|refine Ow1.up ?hh ?_|refine Ow1.sw ?hh ?_|refine Ow1.swN ?hh ?_);(case hh=>rfl))))) fun o3 c1 c2=>?_
  have t0:o3 1000000=some (.row 2 [[.i .i64 (x.next:Int),.mp 1000001]]):=by rw[c2 _ (by decide)];simp only[g0,go_sem]
  have t1:o3 1000001=some (egM x.L):=by rw[c2 _ (by decide)];simp only[g1,go_sem]
  have t6:o3 6=some (.row 3 [[.nil,.nil,.bo false]]):=by rw[c2 _ (by decide)];simp only[k6,go_sem]
  have t7:o3 7=some (.row 3 [[swp 2000 (swp 3000 (ownV 3000 1 (y.first.map inC))),ownV 3001 1 (y.last.map inC),.bo y.empty]]):=by rw[c2 _ (by decide)];simp only[k7,go_sem]
  have t10:o3 10=some (.row 3 [[swp 2000 (ownV 2000 1 (x.first.map inC)),ownV 2001 1 (x.last.map inC),.bo x.empty]]):=by rw[c2 _ (by decide)];simp only[go_sem]
  have u2:Ow1 o3 3001 y.last:=by
   refine Ow1.at ?_ (c2 3001 (by decide))
   (repeat (first|with_reducible assumption|with_reducible exact Ow1.to|((with_reducible first|refine Ow1.up ?hh ?_|refine Ow1.sw ?hh ?_|refine Ow1.swN ?hh ?_);(case hh=>rfl))))
  have u3:Ow1 o3 2001 x.last:=by
   refine Ow1.at ?_ (c2 2001 (by decide))
   (repeat (first|with_reducible assumption|with_reducible exact Ow1.to|((with_reducible first|refine Ow1.up ?hh ?_|refine Ow1.sw ?hh ?_|refine Ow1.swN ?hh ?_);(case hh=>rfl))))
  generalize swp 2000 (swp 3000 (ownV 3000 1 (y.first.map inC)))=j1 at t7
  generalize swp 2000 (ownV 2000 1 (x.first.map inC))=j2 at t10
  clear g0 g1 g2 g3 k6 k7 kf1 kf2 c2
  (repeat (with_reducible (first|refine U_nil ?_|refine UC_sq ?_|refine UC_rg ?_|refine X_nx ?_|((first|refine U_q (v:=?_) ?h1 ?_|refine U_ld (v:=?_) ?h1 ?_);case h1=>((try simp only[r0,r2,r6,r7,t6,t7,t10,go_sem])<;>rfl))|(refine U_sto (id:=?_) (i:=?_) (j:=?_) (q:=?_) (es:=?_) (cs:=?_) (vs:=?_) (es':=?_) ?h1 ?h2 ?h3 ?h4 ?h5 ?h6 ?h7 ?_;case h1|h2|h3|h4|h5|h6|h7=>((try simp only[r0,r2,r6,r7,t6,t7,t10,go_sem])<;>rfl))|(refine U_bsl (es:=?_) (es':=?_) ?h1 ?h2 ?h3 ?_;case h1|h2|h3=>((try simp only[r0,r2,r6,r7,t6,t7,t10,go_sem])<;>rfl)))))
  refine U_cc 32 3001 2001 (l1:=y.last) (l2:=x.last) (by omega) (by omega) (by decide) (by decide) (by simp only[go_sem]) (by simp only[go_sem]) (by (repeat (first|with_reducible assumption|with_reducible exact Ow1.to|((with_reducible first|refine Ow1.up ?hh ?_|refine Ow1.sw ?hh ?_|refine Ow1.swN ?hh ?_);(case hh=>rfl))))) (by (repeat (first|with_reducible assumption|with_reducible exact Ow1.to|((with_reducible first|refine Ow1.up ?hh ?_|refine Ow1.sw ?hh ?_|refine Ow1.swN ?hh ?_);(case hh=>rfl))))) fun o4 d1 d2=>?_
  have v0:o4 1000000=some (.row 2 [[.i .i64 (x.next:Int),.mp 1000001]]):=by rw[d2 _ (by decide)];simp only[t0,go_sem]
  have v1:o4 1000001=some (egM x.L):=by rw[d2 _ (by decide)];simp only[t1,go_sem]
  have v6:o4 6=some (.row 3 [[.nil,.nil,.bo false]]):=by rw[d2 _ (by decide)];simp only[t6,go_sem]
  have v7:o4 7=some (.row 3 [[ownV 3000 1 ((y.first++x.first).map inC),swp 2001 (swp 3001 (ownV 3001 1 (y.last.map inC))),.bo y.empty]]):=by rw[d2 _ (by decide)];simp only[go_sem]
  have v10:o4 10=some (.row 3 [[swp 2001 (swp 3001 (swp 32 (swp 32 j2))),swp 2001 (ownV 2001 1 (x.last.map inC)),.bo x.empty]]):=by rw[d2 _ (by decide)];simp only[t10,go_sem]
  have x1:Ow1 o4 3000 (y.first++x.first):=by
   refine Ow1.at ?_ (d2 3000 (by decide))
   (repeat (first|with_reducible assumption|with_reducible exact Ow1.to|((with_reducible first|refine Ow1.up ?hh ?_|refine Ow1.sw ?hh ?_|refine Ow1.swN ?hh ?_);(case hh=>rfl))))
  clear d2 c1 t0 t1 t6 t7 t10
  have hw:IntKind.i64.wrap ((i:Int)+1)=((i+1:Nat):Int):=by rw[wrap_i64 (by omega) (by omega)];rfl
  have hF:(y.first++x.first).length≤x.next:=by simp only[List.length_append];omega
  have hG:(y.last++x.last).length≤x.next:=by simp only[List.length_append];omega
  generalize y.first++x.first=F1 at *
  generalize y.last++x.last=F2 at *
  rcases Bool.eq_false_or_eq_true y.empty with hE|hE
  all_goals
   simp only[hE,Bool.true_or,Bool.false_or] at hy v7
   (repeat (with_reducible (first|refine U_nil ?_|refine UC_rg ?_|refine X_nx ?_|refine B_nx ?_|((first|refine U_q (v:=?_) ?h1 ?_|refine U_ld (v:=?_) ?h1 ?_);case h1=>((try simp only[r0,r2,r6,r7,r14,v6,v7,v10,hw,go_sem])<;>rfl))|(refine U_sto (id:=?_) (i:=?_) (j:=?_) (q:=?_) (es:=?_) (cs:=?_) (vs:=?_) (es':=?_) ?h1 ?h2 ?h3 ?h4 ?h5 ?h6 ?h7 ?_;case h1|h2|h3|h4|h5|h6|h7=>((try simp only[r0,r2,r6,r7,r14,v6,v7,v10,hw,go_sem])<;>rfl))|(refine U_gt ?h1 ?_;case h1=>((try simp only[r0,r2,r6,r7,r14,v6,v7,v10,hw,go_sem])<;>rfl))|(refine U_gs1 ?h1 ?_;case h1=>((try simp only[r0,r2,r6,r7,r14,v6,v7,v10,hw,go_sem])<;>rfl))|rw[put_some])))
   exact⟨r - 1,by omega,i+1,_,by omega,by simp only[r0,go_sem],by simp only[r2,go_sem],by simp only[r6,go_sem],by simp only[r7,go_sem],by simp only[r12,go_sem],by simp only[r13,go_sem],by simp only[go_sem],hy,hF,hG,by dsimp only;omega,⟨by simp only[v0,rcM,go_sem],by simp only[v1,go_sem],by simp only[v6,go_sem],by simp only[go_sem],by dsimp only;(repeat (first|with_reducible assumption|with_reducible exact Ow1.to|((with_reducible first|refine Ow1.up ?hh ?_|refine Ow1.sw ?hh ?_|refine Ow1.swN ?hh ?_);(case hh=>rfl)))),by dsimp only;(repeat (first|with_reducible assumption|with_reducible exact Ow1.to|((with_reducible first|refine Ow1.up ?hh ?_|refine Ow1.sw ?hh ?_|refine Ow1.swN ?hh ?_);(case hh=>rfl))))⟩⟩
 ·have hi:i=ps.length:=by
   have:¬ i < ps.length:=by simpa using hc
   omega
  subst hi
  rw[List.drop_length] at hy
  have hy:y=wkA ps sc ⟨[],[],false,nx,L⟩:=hy
  subst hy
  (repeat (with_reducible (first|refine U_nil ?_|refine UC_sq ?_|refine UC_rg ?_|refine UC_ex ?_|refine UC_rt ?_|refine X_nx ?_|refine X_ex ?_|refine B_self ?_|((first|refine U_ld (v:=?_) ?h1 ?_|refine E_1 (v:=?_) ?h1 ?_);case h1=>((try simp only[r6,r7,o6,o7,go_sem])<;>rfl))|(refine U_sto (id:=?_) (i:=?_) (j:=?_) (q:=?_) (es:=?_) (cs:=?_) (vs:=?_) (es':=?_) ?h1 ?h2 ?h3 ?h4 ?h5 ?h6 ?h7 ?_;case h1|h2|h3|h4|h5|h6|h7=>((try simp only[r6,r7,o6,o7,go_sem])<;>rfl)))))
  refine wk_fin (s:=3000) (t:=3001) (nx:=nx) (by omega) (by omega) (by omega) ?_ ?_ ?_ ?_ ?_
  ·simp only[r6,r7,o6,o7,go_sem]
  ·simp only[m0,rcM,go_sem]
  ·simp only[m1,go_sem]
  ·exact f1.up (by rfl)
  ·exact f2.up (by rfl)
end Go.Proofs.Ytgiedknghbpdfaa
