import Derived.Test.YtgiedknghbpdfaaDoorC4
import Derived.Test.YtgiedknghbpdfaaDoorA7

namespace Go.Proofs.YtgiedknghbpdfaaDoor
set_option linter.all false
attribute [-go_sem] swpOb renOb rfOb V.cells
theorem spl_z5 (x:Cf) (a b c d e:V):splice 0 [a,b,c,d,e] (cfC x)=[a,b,c,d,e]:=rfl
attribute [go_sem] spl_z5
theorem low_at {l:List (Int × Int)} {i:Nat} (hi:i < l.length):low l i=l[i].1:=by simp [low,List.getElem?_eq_getElem hi]
theorem ra_keep_c {x:Cf} {y z:Cf} {i:Nat} {v:Int} (hp:y.p=z.p) (h:∀ j,j < 4→(if j=i then v else y.c j)=z.c j):y.setC i v=z :=
 cf_ext (by rw[setC_p];exact hp) fun j hj=>by rw[setC_c _ _ _ _ hj];exact h j hj
set_option maxHeartbeats 2000000 in
theorem rmay_pu {A:Au} (hW:WF A) {x:Cf} (hr:rightB A x=true) {m:Mv} (hm:MvOk A x.p.toNat m):Pu F 12 [.ag (auC A),.ag (cfC x),.ag (mvC m)] (mayV (mayF A x m)):=by
 obtain⟨r1,r2,_⟩:=rightB_iff.1 hr;obtain⟨p,hp⟩:∃ p:Nat,x.p=p:=⟨x.p.toNat,by omega⟩;have hpl:p < A.around.length:=by omega
 have hpt:x.p.toNat=p:=by omega
 have hra:=ar_at hpl;have hrt:=ar_at hm.to;have hpp:(0:Int)≤(p:Int):=by omega
 have htp:(0:Int)≤(m.to:Int):=by omega
 have h4:=ar_4 hW hpl;have h4t:=ar_4 hW hm.to;have hlt:∀ i∈arAt A p,i < A.scopes.length:=fun i hi=>ar_lt hW hpl hi;have hkl:lft m≤(arAt A p).length:=by rw[← hpt];exact hm.keep
 have hk4:m.keep≤4:=by unfold lft at hkl;omega
 have hrg:∀ (i:Nat) (h:i < (arAt A p).length),1≤x.c i∧x.c i≤topS (scI A (arAt A p)[i]):=fun i h=>by
  have h1:=right_at (i:=i) hr (by rw[hpt];exact h) (by omega);simp only[hpt] at h1;exact h1
 have hsc:∀ (i:Nat) (h:i < (arAt A p).length),low (scAt A p) i=(scI A (arAt A p)[i]).1:=fun i h=>by
  rw[low_at (by rw[scAt_len];exact h)];simp [scAt]
 have hsl:=scAt_len A p;have hnx:∀ (h:m.keep < (arAt A p).length),nxt A x m=nextS (scI A (arAt A p)[m.keep]) (x.c m.keep):=fun h=>by
  unfold nxt;rw[hpt,scAt_get h];rfl
 refine U_pure e12 rfl rfl (by simp only[go_sem,Bool.and_true]) ?_;dsimp only[fn12,c12];(repeat (with_reducible (first|refine U_nil ?_|refine UC_sq ?_|refine UC_rg ?_|refine UC_bk ?_|refine X_nx ?_|((first|refine U_q (v:=?_) ?h1 ?_|refine U_ld (v:=?_) ?h1 ?_|refine U_alc (n:=?_) ?h1 ?_);case h1=>((try simp only[go_sem])<;>rfl))|(refine U_box (cs:=?_) (cs':=?_) (n:=?_) ?h1 ?h2 ?h3 ?h4 ?_;case h1|h2|h3|h4=>((try simp only[go_sem])<;>rfl))|(refine U_sto (id:=?_) (i:=?_) (j:=?_) (q:=?_) (es:=?_) (cs:=?_) (vs:=?_) (es':=?_) ?h1 ?h2 ?h3 ?h4 ?h5 ?h6 ?h7 ?_;case h1|h2|h3|h4|h5|h6|h7=>((try simp only[go_sem])<;>rfl)))));refine UC_cutx (fun e o=>e 3=.pt 3 0 0∧e 4=.pt 4 0 0∧e 5=.pt 5 0 0∧e 6=.pt 6 0 0∧e 8=.pt 8 0 0∧o 3=some (.row 15 [auC A])∧o 4=some (.row 5 [cfC x])∧o 5=some (.row 3 [mvC m])∧o 6=some (.row 5 [cfC noC])∧o 8=some (.row 5 [cfC (entI m.to (arAt A m.to).length)])) ?_ ?_
 ·generalize hl:arAt A m.to=l at hrt h4t;refine U_lp (fun r e o=>∃ i:Nat,i+r=l.length∧e 3=.pt 3 0 0∧e 4=.pt 4 0 0∧e 5=.pt 5 0 0∧e 6=.pt 6 0 0∧e 8=.pt 8 0 0∧e 9=.i .i64 i∧o 3=some (.row 15 [auC A])∧o 4=some (.row 5 [cfC x])∧o 5=some (.row 3 [mvC m])∧o 6=some (.row 5 [cfC noC])∧o 8=some (.row 5 [cfC (entI m.to i)])) (k:=l.length) ?_ (Call_le F) ?_
  ·exact⟨0,by omega,Z0,Z0,Z0,Z0,Z0,Zr0,Z0,Z0,Z0,Zr0,Zr0⟩
  rintro r e o ⟨i,hir,r3,r4,r5,r6,r8,r9,o3,o4,o5,o6,o8⟩;dsimp only[b12_0];(repeat (with_reducible (first|refine U_nil ?_|refine UC_sq ?_|refine UC_rg ?_|refine X_nx ?_|((first|refine U_q (v:=?_) ?h1 ?_|refine U_ld (v:=?_) ?h1 ?_);case h1=>((try simp only[r3,r5,r9,o3,o5,hrt,htp,Int.toNat_natCast,List.length_map,go_sem])<;>rfl)))));refine UC_cdb (q:=decide ((i:Int) < (l.length:Int))) (Z0) (fun hc=>?_) (fun hc=>?_)
  ·have hi:i < l.length:=by simpa using hc
   have hi4:i < 4:=by omega
   have hip:(0:Int)≤(i:Int):=by omega
   have hi4':((i:Int) < 4)=True:=by simp;omega
   have hspl:=cf_spl (entI m.to i) 1 hi4;rw[entI_set m.to i hi4] at hspl;have hle:1+i+1≤5:=by omega
   have hw:=wrap1 (i:=i) (by omega);(repeat (with_reducible (first|refine U_nil ?_|refine UC_sq ?_|refine UC_rg ?_|refine UC_bk ?_|refine UC_sk ?_|refine X_nx ?_|refine B_nx ?_|(refine U_q (v:=?_) ?h1 ?_;case h1=>((try simp only[r8,r9,o8,hip,hi4',hspl,hle,Int.toNat_natCast,Nat.mul_one,List.set_cons_zero,hw,List.getElem?_cons_zero,go_sem])<;>rfl))|(refine U_sto (id:=?_) (i:=?_) (j:=?_) (q:=?_) (es:=?_) (cs:=?_) (vs:=?_) (es':=?_) ?h1 ?h2 ?h3 ?h4 ?h5 ?h6 ?h7 ?_;case h1|h2|h3|h4|h5|h6|h7=>((try simp only[r8,r9,o8,hip,hi4',hspl,hle,Int.toNat_natCast,Nat.mul_one,List.set_cons_zero,hw,List.getElem?_cons_zero,go_sem])<;>rfl)))))
   exact⟨r - 1,by omega,i+1,by omega,Z1 r3,Z1 r4,Z1 r5,Z1 r6,Z1 r8,Z0,Z1 o3,Z1 o4,Z1 o5,Z1 o6,Z0⟩
  ·have hi:i=l.length:=by
    have:¬ i < l.length:=by simpa using hc
    omega
   subst hi;(repeat (with_reducible (first|refine UC_ex ?_|refine X_ex ?_)))
   exact⟨rfl,Z1 r3,Z1 r4,Z1 r5,Z1 r6,Z1 r8,o3,o4,o5,o6,o8⟩
 rintro e o ⟨r3,r4,r5,r6,r8,o3,o4,o5,o6,o8⟩;obtain⟨n,hn⟩:∃ n,∀ v,nxt A x m=some v→v=n:=by
  cases h:nxt A x m with
  | none=>exact⟨0,fun v hv=>by cases hv⟩
  | some n=>exact⟨n,fun v hv=>by cases hv;rfl⟩
 have hrm0:entI m.to (arAt A m.to).length=rmC A x m n 0:=cf_ext rfl fun j hj=>by
  rw[rm_c hj,entI,mkCf_c _ _ hj];have g1:¬ (j < 0∧j < m.keep):=by omega
  have g2:¬ (j < 0∧j=m.keep∧m.again=true):=by omega
  simp only[if_neg g1,if_neg g2]
 rw[hrm0] at o8;(repeat (with_reducible (first|refine U_nil ?_|refine UC_sq ?_|refine UC_rg ?_|refine UC_bk ?_|refine X_nx ?_|(refine U_q (v:=?_) ?h1 ?_;case h1=>((try simp only[go_sem])<;>rfl)))));refine U_lp (fun r e o=>∃ i:Nat,i+r=(arAt A p).length∧e 3=.pt 3 0 0∧e 4=.pt 4 0 0∧e 5=.pt 5 0 0∧e 6=.pt 6 0 0∧e 8=.pt 8 0 0∧e 10=.i .i64 i∧o 3=some (.row 15 [auC A])∧o 4=some (.row 5 [cfC x])∧o 5=some (.row 3 [mvC m])∧o 6=some (.row 5 [cfC noC])∧o 8=some (.row 5 [cfC (rmC A x m n i)])∧(m.again=true→m.keep < i→nxt A x m=some n)∧∀ j,lft m≤j→j < i→low (scAt A p) j≤x.c j) (k:=(arAt A p).length) ?_ (Call_le F) ?_
 ·exact⟨0,by omega,Z1 r3,Z1 r4,Z1 r5,Z1 r6,Z1 r8,Zr0,Z1 o3,Z1 o4,Z1 o5,Z1 o6,Z1 o8,fun _ h=>absurd h (by omega),fun j _ h=>absurd h (by omega)⟩
 clear r3 r4 r5 r6 r8 o3 o4 o5 o6 o8;rintro r e o ⟨i,hir,r3,r4,r5,r6,r8,r10,o3,o4,o5,o6,o8,hc1,hc2⟩;dsimp only[b12_1];(repeat (with_reducible (first|refine U_nil ?_|refine UC_sq ?_|refine UC_rg ?_|refine X_nx ?_|((first|refine U_q (v:=?_) ?h1 ?_|refine U_ld (v:=?_) ?h1 ?_);case h1=>((try simp only[hp,r3,r4,r10,o3,o4,hra,hpp,Int.toNat_natCast,List.length_map,go_sem])<;>rfl)))));refine UC_cdb (q:=decide ((i:Int) < ((arAt A p).length:Int))) (Z0) (fun hc=>?_) (fun hc=>?_)
 ·have hi:i < (arAt A p).length:=by simpa using hc
  have hi4:i < 4:=by omega
  have hip:(0:Int)≤(i:Int):=by omega
  have hi4':((i:Int) < 4)=True:=by simp;omega
  have hle:1+i+1≤5:=by omega
  have hw:=wrap1 (i:=i) (by omega);have hxi:=cf_get x hi4;have hli:=in_at hi;have hlp:(0:Int)≤((arAt A p)[i]:Int):=by omega
  have hsi:=sc_at (hlt (arAt A p)[i] (List.getElem_mem hi));have hsok:=scI_ok hW (hlt (arAt A p)[i] (List.getElem_mem hi));obtain⟨q1,q2⟩:=hrg i hi;have hlow:=hsc i hi;have hnxi:i=m.keep→nxt A x m=nextS (scI A (arAt A p)[i]) (x.c i):=fun h=>by subst h;exact hnx hi
  generalize scI A (arAt A p)[i]=s at hsi hsok q2 hlow hnxi;have ht:=top_pu s;have htk:=top_ok hsok;(repeat (with_reducible (first|refine U_nil ?_|refine UC_sq ?_|refine UC_rg ?_|refine UC_bk ?_|refine UC_sk ?_|refine X_nx ?_|((first|refine U_q (v:=?_) ?h1 ?_|refine U_ld (v:=?_) ?h1 ?_|refine U_alc (n:=?_) ?h1 ?_);case h1=>((try simp only[hp,r3,r4,r5,r10,o3,o4,o5,hra,hpp,hip,hli,hlp,hsi,Int.toNat_natCast,go_sem])<;>rfl))|(refine U_sto (id:=?_) (i:=?_) (j:=?_) (q:=?_) (es:=?_) (cs:=?_) (vs:=?_) (es':=?_) ?h1 ?h2 ?h3 ?h4 ?h5 ?h6 ?h7 ?_;case h1|h2|h3|h4|h5|h6|h7=>((try simp only[hp,r3,r4,r5,r10,o3,o4,o5,hra,hpp,hip,hli,hlp,hsi,Int.toNat_natCast,go_sem])<;>rfl)))));by_cases hik:i < m.keep
  ·have d1:decide ((i:Int) < (m.keep:Int))=true:=by simp;omega
   have hspl:=cf_spl (rmC A x m n i) (x.c i) hi4;rw[ra_keep_c (x:=x) (y:=rmC A x m n i) (z:=rmC A x m n (i+1)) rfl fun j hj=>rm_keep hj hik] at hspl;have hlf:¬ lft m≤i:=by unfold lft;omega
   (repeat (with_reducible (first|refine U_nil ?_|refine UC_sq ?_|refine UC_rg ?_|refine UC_ex ?_|refine X_nx ?_|refine X_ex ?_|refine B_self ?_|((first|refine U_q (v:=?_) ?h1 ?_|refine U_ld (v:=?_) ?h1 ?_|refine UC_cdt ?h1 ?_);case h1=>((try simp only[r4,r5,r8,r10,o4,o5,o8,d1,hip,hi4',hxi,hspl,hle,Int.toNat_natCast,Nat.mul_one,List.set_cons_zero,hw,List.getElem?_cons_zero,go_sem])<;>rfl))|(refine U_sto (id:=?_) (i:=?_) (j:=?_) (q:=?_) (es:=?_) (cs:=?_) (vs:=?_) (es':=?_) ?h1 ?h2 ?h3 ?h4 ?h5 ?h6 ?h7 ?_;case h1|h2|h3|h4|h5|h6|h7=>((try simp only[r4,r5,r8,r10,o4,o5,o8,d1,hip,hi4',hxi,hspl,hle,Int.toNat_natCast,Nat.mul_one,List.set_cons_zero,hw,List.getElem?_cons_zero,go_sem])<;>rfl)))))
   exact⟨r - 1,by omega,i+1,by omega,Z1 r3,Z1 r4,Z1 r5,Z1 r6,Z1 r8,Z0,Z1 o3,Z1 o4,Z1 o5,Z1 o6,Z0,fun h1 h2=>absurd h2 (by omega),fun j h1 h2=>absurd h1 (by omega)⟩
  have d1:decide ((i:Int) < (m.keep:Int))=false:=by simp;omega
  by_cases hag:i=m.keep∧m.again=true
  ·obtain⟨hie,hag⟩:=hag;have d2:((i:Int)==(m.keep:Int))=true:=by simp;omega
   have hnxe:=hnxi hie;have w1:IntKind.i64.wrap (x.c i+1)=x.c i+1:=wrap_i64 (by omega) (by omega);(repeat (with_reducible (first|refine U_nil ?_|refine UC_sq ?_|refine UC_rg ?_|refine UC_sk ?_|refine X_nx ?_|((first|refine U_q (v:=?_) ?h1 ?_|refine U_ld (v:=?_) ?h1 ?_|refine U_gt ?h1 ?_|refine UC_cdt ?h1 ?_);case h1=>((try simp only[r4,r5,r10,o4,o5,d1,d2,hag,hip,hi4',hxi,Int.toNat_natCast,Nat.mul_one,go_sem])<;>rfl))|(refine UC_cdf ?h1 ?_;case h1=>((try simp only[r4,r5,r10,o4,o5,d1,d2,hag,hip,hi4',hxi,Int.toNat_natCast,Nat.mul_one,go_sem])<;>rfl)))))
   (refine U_pcr (r:=.i .i64 (topS s)) ht ?h1 ?h2 rfl ?_;(case h1=>((try simp only[go_sem])<;>rfl));(case h2=>simp only[List.all_cons,List.all_nil,Bool.and_true,go_sem]))
   by_cases hf:x.c i=topS s∧s.2≥0
   ·have d3:(x.c i==topS s)=true:=by simpa using hf.1
    have d4:decide (s.2≥0)=true:=by simpa using hf.2
    have hno:nxt A x m=none:=by
     rw[hnxe];have g1:¬ s.2 < 0:=by omega
     have g2:topS s=s.2:=by simp [topS,g1]
     simp only[nextS,if_neg g1];rw[if_pos (by omega)]
    (repeat (with_reducible (first|refine U_nil ?_|refine UC_sq ?_|refine UC_rg ?_|refine UC_rt ?_|refine X_nx ?_|refine X_rt ?_|refine B_rt ?_|((first|refine U_q (v:=?_) ?h1 ?_|refine U_ld (v:=?_) ?h1 ?_|refine U_gt ?h1 ?_|refine UC_cdt ?h1 ?_);case h1=>((try simp only[r6,o6,d3,d4,go_sem])<;>rfl))|(refine U_sto (id:=?_) (i:=?_) (j:=?_) (q:=?_) (es:=?_) (cs:=?_) (vs:=?_) (es':=?_) ?h1 ?h2 ?h3 ?h4 ?h5 ?h6 ?h7 ?_;case h1|h2|h3|h4|h5|h6|h7=>((try simp only[r6,o6,d3,d4,go_sem])<;>rfl))|(refine E_2 (v:=?_) (u:=?_) ?h1 ?h2 ?_;case h1|h2=>((try simp only[r6,o6,d3,d4,go_sem])<;>rfl)))));rw[may_no1 hag hno];exact fz_of rfl rfl
   ·have hnv:nxt A x m=some (if topS s < x.c i+1 then topS s else x.c i+1):=by
     rw[hnxe];unfold scOk at hsok;unfold topS at *;unfold nextS;by_cases g:s.2 < 0
     ·simp only[if_pos g] at *;congr 1;repeat' split<;>omega
     ·simp only[if_neg g] at *
      have:¬ x.c i=s.2:=fun h=>hf ⟨h,by omega⟩
      rw[if_neg (by omega)];congr 1;split<;>omega
    have hmin:(if topS s < x.c i+1 then topS s else x.c i+1)=n:=hn _ hnv;rw[hmin] at hnv;have hspl:=cf_spl (rmC A x m n i) n hi4;rw[ra_keep_c (x:=x) (y:=rmC A x m n i) (z:=rmC A x m n (i+1)) rfl fun j hj=>rm_again hj hie hag] at hspl;have hlf:lft m=i+1:=by simp [lft,hag,hie]
    by_cases h3:x.c i=topS s
    ·have d3:(x.c i==topS s)=true:=by simpa using h3
     have d4:decide (s.2≥0)=false:=by
      have:¬ s.2≥0:=fun h=>hf ⟨h3,h⟩
      simpa using this
     (repeat (with_reducible (first|refine U_nil ?_|refine UC_sq ?_|refine UC_rg ?_|refine UC_sk ?_|refine X_nx ?_|((first|refine U_q (v:=?_) ?h1 ?_|refine U_ld (v:=?_) ?h1 ?_|refine U_gt ?h1 ?_);case h1=>((try simp only[r4,r8,r10,o4,o8,d3,d4,hip,hi4',hxi,w1,Int.toNat_natCast,Nat.mul_one,go_sem])<;>rfl))|(refine UC_cdf ?h1 ?_;case h1=>((try simp only[r4,r8,r10,o4,o8,d3,d4,hip,hi4',hxi,w1,Int.toNat_natCast,Nat.mul_one,go_sem])<;>rfl)))))
     (refine U_pcr (r:=.i .i64 (topS s)) ht ?h1 ?h2 rfl ?_;(case h1=>((try simp only[go_sem])<;>rfl));(case h2=>simp only[List.all_cons,List.all_nil,Bool.and_true,go_sem]))
     (repeat (with_reducible (first|refine U_nil ?_|refine UC_rg ?_|refine UC_ex ?_|refine X_nx ?_|refine X_ex ?_|refine B_self ?_|(refine U_q (v:=?_) ?h1 ?_;case h1=>((try simp only[r8,r10,o8,mxV,hmin,hip,hi4',hspl,hle,Int.toNat_natCast,Nat.mul_one,List.set_cons_zero,hw,List.getElem?_cons_zero,go_sem])<;>rfl))|(refine U_sto (id:=?_) (i:=?_) (j:=?_) (q:=?_) (es:=?_) (cs:=?_) (vs:=?_) (es':=?_) ?h1 ?h2 ?h3 ?h4 ?h5 ?h6 ?h7 ?_;case h1|h2|h3|h4|h5|h6|h7=>((try simp only[r8,r10,o8,mxV,hmin,hip,hi4',hspl,hle,Int.toNat_natCast,Nat.mul_one,List.set_cons_zero,hw,List.getElem?_cons_zero,go_sem])<;>rfl)))))
     exact⟨r - 1,by omega,i+1,by omega,Z1 r3,Z1 r4,Z1 r5,Z1 r6,Z1 r8,Z0,Z1 o3,Z1 o4,Z1 o5,Z1 o6,Z0,fun h1 h2=>hnv,fun j h1 h2=>absurd h1 (by omega)⟩
    ·have d3:(x.c i==topS s)=false:=by simpa using h3
     (repeat (with_reducible (first|refine U_nil ?_|refine UC_sq ?_|refine UC_rg ?_|refine UC_sk ?_|refine X_nx ?_|((first|refine U_q (v:=?_) ?h1 ?_|refine U_ld (v:=?_) ?h1 ?_);case h1=>((try simp only[r4,r8,r10,o4,o8,d3,hip,hi4',hxi,w1,Int.toNat_natCast,Nat.mul_one,go_sem])<;>rfl))|((first|refine U_gs2 ?h1 ?_|refine UC_cdf ?h1 ?_);case h1=>((try simp only[r4,r8,r10,o4,o8,d3,hip,hi4',hxi,w1,Int.toNat_natCast,Nat.mul_one,go_sem])<;>rfl))|rw[put_some])))
     (refine U_pcr (r:=.i .i64 (topS s)) ht ?h1 ?h2 rfl ?_;(case h1=>((try simp only[go_sem])<;>rfl));(case h2=>simp only[List.all_cons,List.all_nil,Bool.and_true,go_sem]))
     (repeat (with_reducible (first|refine U_nil ?_|refine UC_rg ?_|refine UC_ex ?_|refine X_nx ?_|refine X_ex ?_|refine B_self ?_|(refine U_q (v:=?_) ?h1 ?_;case h1=>((try simp only[r8,r10,o8,mxV,hmin,hip,hi4',hspl,hle,Int.toNat_natCast,Nat.mul_one,List.set_cons_zero,hw,List.getElem?_cons_zero,go_sem])<;>rfl))|(refine U_sto (id:=?_) (i:=?_) (j:=?_) (q:=?_) (es:=?_) (cs:=?_) (vs:=?_) (es':=?_) ?h1 ?h2 ?h3 ?h4 ?h5 ?h6 ?h7 ?_;case h1|h2|h3|h4|h5|h6|h7=>((try simp only[r8,r10,o8,mxV,hmin,hip,hi4',hspl,hle,Int.toNat_natCast,Nat.mul_one,List.set_cons_zero,hw,List.getElem?_cons_zero,go_sem])<;>rfl)))))
     exact⟨r - 1,by omega,i+1,by omega,Z1 r3,Z1 r4,Z1 r5,Z1 r6,Z1 r8,Z0,Z1 o3,Z1 o4,Z1 o5,Z1 o6,Z0,fun h1 h2=>hnv,fun j h1 h2=>absurd h1 (by omega)⟩
  ·have hlf:lft m≤i:=by
    unfold lft;split
    ·rename_i h;have:i≠m.keep:=fun hh=>hag ⟨hh,h⟩
     omega
    ·omega
   have hc1':m.again=true→m.keep < i+1→nxt A x m=some n:=fun h1 h2=>hc1 h1 (by unfold lft at hlf;rw[if_pos h1] at hlf;omega);have hskip:rmC A x m n i=rmC A x m n (i+1):=cf_ext rfl fun j hj=>rm_skip hj hlf;have lowc:∀ (hh:¬ x.c i < s.1),∀ j,lft m≤j→j < i+1→low (scAt A p) j≤x.c j:=fun hh j h1 h2=>by
    by_cases hji:j=i
    ·subst hji;rw[hlow];omega
    ·exact hc2 j h1 (by omega)
   have lowf:∀ (hh:x.c i < s.1),mayF A x m=none:=fun hh=>may_no2 (j:=i) hlf (by rw[hpt,hsl];exact hi) (by rw[hpt,hlow];exact hh) (by rw[hpt,hsl];exact h4);by_cases hie:i=m.keep
   ·have hag':m.again=false:=by
     cases h:m.again with
     | true=>exact absurd ⟨hie,h⟩ hag
     | false=>rfl
    have d2:((i:Int)==(m.keep:Int))=true:=by simp;omega
    by_cases hlw:x.c i < s.1
    ·have d5:decide (x.c i < s.1)=true:=by simpa using hlw
     (repeat (with_reducible (first|refine U_nil ?_|refine UC_sq ?_|refine UC_rg ?_|refine UC_sk ?_|refine UC_rt ?_|refine X_nx ?_|refine X_rt ?_|refine B_rt ?_|((first|refine U_q (v:=?_) ?h1 ?_|refine U_ld (v:=?_) ?h1 ?_|refine U_gt ?h1 ?_|refine UC_cdt ?h1 ?_);case h1=>((try simp only[r4,r5,r6,r10,o4,o5,o6,d1,d2,d5,hag',hip,hi4',hxi,Int.toNat_natCast,Nat.mul_one,go_sem])<;>rfl))|(refine U_sto (id:=?_) (i:=?_) (j:=?_) (q:=?_) (es:=?_) (cs:=?_) (vs:=?_) (es':=?_) ?h1 ?h2 ?h3 ?h4 ?h5 ?h6 ?h7 ?_;case h1|h2|h3|h4|h5|h6|h7=>((try simp only[r4,r5,r6,r10,o4,o5,o6,d1,d2,d5,hag',hip,hi4',hxi,Int.toNat_natCast,Nat.mul_one,go_sem])<;>rfl))|(refine UC_cdf ?h1 ?_;case h1=>((try simp only[r4,r5,r6,r10,o4,o5,o6,d1,d2,d5,hag',hip,hi4',hxi,Int.toNat_natCast,Nat.mul_one,go_sem])<;>rfl))|(refine E_2 (v:=?_) (u:=?_) ?h1 ?h2 ?_;case h1|h2=>((try simp only[r4,r5,r6,r10,o4,o5,o6,d1,d2,d5,hag',hip,hi4',hxi,Int.toNat_natCast,Nat.mul_one,go_sem])<;>rfl)))));rw[lowf hlw];exact fz_of rfl rfl
    ·have d5:decide (x.c i < s.1)=false:=by simpa using hlw
     (repeat (with_reducible (first|refine U_nil ?_|refine UC_sq ?_|refine UC_rg ?_|refine UC_sk ?_|refine X_nx ?_|refine B_nx ?_|((first|refine U_q (v:=?_) ?h1 ?_|refine U_ld (v:=?_) ?h1 ?_|refine U_gt ?h1 ?_);case h1=>((try simp only[r4,r5,r6,r10,o4,o5,o6,d1,d2,d5,hag',hip,hi4',hxi,hw,Int.toNat_natCast,Nat.mul_one,go_sem])<;>rfl))|(refine UC_cdf ?h1 ?_;case h1=>((try simp only[r4,r5,r6,r10,o4,o5,o6,d1,d2,d5,hag',hip,hi4',hxi,hw,Int.toNat_natCast,Nat.mul_one,go_sem])<;>rfl)))))
     exact⟨r - 1,by omega,i+1,by omega,Z1 r3,Z1 r4,Z1 r5,Z1 r6,Z1 r8,Z0,Z1 o3,Z1 o4,Z1 o5,Z1 o6,by rw[← hskip];simp only[o8,go_sem],hc1',lowc hlw⟩
   ·have d2:((i:Int)==(m.keep:Int))=false:=by simp;omega
    by_cases hlw:x.c i < s.1
    ·have d5:decide (x.c i < s.1)=true:=by simpa using hlw
     (repeat (with_reducible (first|refine U_nil ?_|refine UC_sq ?_|refine UC_rg ?_|refine UC_sk ?_|refine UC_rt ?_|refine X_nx ?_|refine X_rt ?_|refine B_rt ?_|((first|refine U_q (v:=?_) ?h1 ?_|refine U_ld (v:=?_) ?h1 ?_|refine UC_cdt ?h1 ?_);case h1=>((try simp only[r4,r5,r6,r10,o4,o5,o6,d1,d2,d5,hip,hi4',hxi,Int.toNat_natCast,Nat.mul_one,go_sem])<;>rfl))|(refine U_sto (id:=?_) (i:=?_) (j:=?_) (q:=?_) (es:=?_) (cs:=?_) (vs:=?_) (es':=?_) ?h1 ?h2 ?h3 ?h4 ?h5 ?h6 ?h7 ?_;case h1|h2|h3|h4|h5|h6|h7=>((try simp only[r4,r5,r6,r10,o4,o5,o6,d1,d2,d5,hip,hi4',hxi,Int.toNat_natCast,Nat.mul_one,go_sem])<;>rfl))|((first|refine U_gs2 ?h1 ?_|refine UC_cdf ?h1 ?_);case h1=>((try simp only[r4,r5,r6,r10,o4,o5,o6,d1,d2,d5,hip,hi4',hxi,Int.toNat_natCast,Nat.mul_one,go_sem])<;>rfl))|(refine E_2 (v:=?_) (u:=?_) ?h1 ?h2 ?_;case h1|h2=>((try simp only[r4,r5,r6,r10,o4,o5,o6,d1,d2,d5,hip,hi4',hxi,Int.toNat_natCast,Nat.mul_one,go_sem])<;>rfl)))));rw[lowf hlw];exact fz_of rfl rfl
    ·have d5:decide (x.c i < s.1)=false:=by simpa using hlw
     (repeat (with_reducible (first|refine U_nil ?_|refine UC_sq ?_|refine UC_rg ?_|refine UC_sk ?_|refine X_nx ?_|refine B_nx ?_|((first|refine U_q (v:=?_) ?h1 ?_|refine U_ld (v:=?_) ?h1 ?_);case h1=>((try simp only[r4,r5,r6,r10,o4,o5,o6,d1,d2,d5,hip,hi4',hxi,hw,Int.toNat_natCast,Nat.mul_one,go_sem])<;>rfl))|((first|refine U_gs2 ?h1 ?_|refine UC_cdf ?h1 ?_);case h1=>((try simp only[r4,r5,r6,r10,o4,o5,o6,d1,d2,d5,hip,hi4',hxi,hw,Int.toNat_natCast,Nat.mul_one,go_sem])<;>rfl))|rw[put_some])))
     exact⟨r - 1,by omega,i+1,by omega,Z1 r3,Z1 r4,Z1 r5,Z1 r6,Z1 r8,Z0,Z1 o3,Z1 o4,Z1 o5,Z1 o6,by rw[← hskip];simp only[o8,go_sem],hc1',lowc hlw⟩
 ·have hi:i=(arAt A p).length:=by
   have:¬ i < (arAt A p).length:=by simpa using hc
   omega
  have hmay:mayF A x m=some (rmC A x m n i):=by
   rw[show rmC A x m n i=enterF A m.to (kept x m n) from cf_ext rfl fun j hj=>rm_end hj (by omega) hk4];refine may_some (fun h=>hc1 h (by unfold lft at hkl;rw[if_pos h] at hkl;omega)) (fun j h1 h2=>?_) (by rw[hpt,hsl];exact h4);rw[hpt] at h2 ⊢;exact hc2 j h1 (by omega)
  rw[hmay];(repeat (with_reducible (first|refine U_nil ?_|refine UC_sq ?_|refine UC_rg ?_|refine UC_ex ?_|refine UC_rt ?_|refine X_nx ?_|refine X_ex ?_|refine B_self ?_|((first|refine U_q (v:=?_) ?h1 ?_|refine U_ld (v:=?_) ?h1 ?_);case h1=>((try simp only[r6,r8,o6,o8,go_sem])<;>rfl))|(refine U_sto (id:=?_) (i:=?_) (j:=?_) (q:=?_) (es:=?_) (cs:=?_) (vs:=?_) (es':=?_) ?h1 ?h2 ?h3 ?h4 ?h5 ?h6 ?h7 ?_;case h1|h2|h3|h4|h5|h6|h7=>((try simp only[r6,r8,o6,o8,go_sem])<;>rfl))|(refine E_2 (v:=?_) (u:=?_) ?h1 ?h2 ?_;case h1|h2=>((try simp only[r6,r8,o6,o8,go_sem])<;>rfl)))));exact fz_of rfl rfl
end Go.Proofs.YtgiedknghbpdfaaDoor
