import Derived.Test.YtgiedknghbpdfaaGreatC2

namespace Go.Proofs.YtgiedknghbpdfaaGreat
set_option linter.all false
attribute [-go_sem] swpOb renOb rfOb V.cells
theorem right_f {A:Au} {x:Cf} {i:Nat} (hi:i < 4) (h:okAt (scAt A x.p.toNat) x i=false):rightB A x=false:=by
 rw[Bool.eq_false_iff]
 intro h2
 have:=(rightB_iff.1 h2).2.2 i hi
 rw[h] at this;cases this
set_option maxHeartbeats 1000000 in
theorem right_pu {A:Au} (hW:WF A) (x:Cf):Pu F 12 [.ag (auC A),.ag (cfC x)] (.bo (rightB A x)):=by
 have hlen:A.around.length≤41:=by rw[hW.la];exact hW.n
 refine U_pure e12 rfl rfl (by simp only[go_sem,Bool.and_true]) ?_
 dsimp only[fn12,c12]
 by_cases h1:x.p < 1
 ·have e1:decide (x.p < 1)=true:=by simpa using h1
  have hr:rightB A x=false:=by simp [rightB];omega
  (repeat (with_reducible (first|refine U_nil ?_|refine UC_sq ?_|refine UC_rg ?_|refine UC_rt ?_|refine X_nx ?_|refine X_rt ?_|((first|refine U_q (v:=?_) ?h1 ?_|refine U_ld (v:=?_) ?h1 ?_|refine E_1 (v:=?_) ?h1 ?_);case h1=>((try simp only[e1,go_sem])<;>rfl))|(refine U_box (cs:=?_) (cs':=?_) (n:=?_) ?h1 ?h2 ?h3 ?h4 ?_;case h1|h2|h3|h4=>((try simp only[e1,go_sem])<;>rfl))|(refine U_gs1 ?h1 ?_;case h1=>((try simp only[e1,go_sem])<;>rfl))|(refine UC_cdt ?h1 ?_;case h1=>((try simp only[e1,go_sem])<;>rfl)))))
  rw[hr];exact fz_of (by simp) rfl
 have e1:decide (x.p < 1)=false:=by simpa using h1
 by_cases h2:x.p≥(A.around.length:Int)
 ·have e2:decide (x.p≥(A.around.length:Int))=true:=by simpa using h2
  have hr:rightB A x=false:=by simp [rightB];omega
  (repeat (with_reducible (first|refine U_nil ?_|refine UC_sq ?_|refine UC_rg ?_|refine UC_rt ?_|refine X_nx ?_|refine X_rt ?_|((first|refine U_q (v:=?_) ?h1 ?_|refine U_ld (v:=?_) ?h1 ?_|refine E_1 (v:=?_) ?h1 ?_);case h1=>((try simp only[e1,e2,List.length_map,go_sem])<;>rfl))|(refine U_box (cs:=?_) (cs':=?_) (n:=?_) ?h1 ?h2 ?h3 ?h4 ?_;case h1|h2|h3|h4=>((try simp only[e1,e2,List.length_map,go_sem])<;>rfl))|(refine U_gt ?h1 ?_;case h1=>((try simp only[e1,e2,List.length_map,go_sem])<;>rfl))|(refine UC_cdt ?h1 ?_;case h1=>((try simp only[e1,e2,List.length_map,go_sem])<;>rfl)))))
  rw[hr];exact fz_of (by simp) rfl
 have e2:decide (x.p≥(A.around.length:Int))=false:=by simpa using h2
 obtain⟨p,hp⟩:∃ p:Nat,x.p=p:=⟨x.p.toNat,by omega⟩
 have hpl:p < A.around.length:=by omega
 have hpt:x.p.toNat=p:=by omega
 have ha:=around_pu hW hpl
 have hs4:(scAt A p).length≤4:=by rw[scAt_len];exact ar_4 hW hpl
 have hso:∀ s∈scAt A p,scOk s:=fun s hs=>scAt_ok hW hpl hs
 rw[hp] at e1 e2
 (repeat (with_reducible (first|refine U_nil ?_|refine UC_sq ?_|refine UC_rg ?_|refine UC_sk ?_|refine X_nx ?_|((first|refine U_q (v:=?_) ?h1 ?_|refine U_ld (v:=?_) ?h1 ?_);case h1=>((try simp only[hp,e1,e2,List.length_map,go_sem])<;>rfl))|(refine U_box (cs:=?_) (cs':=?_) (n:=?_) ?h1 ?h2 ?h3 ?h4 ?_;case h1|h2|h3|h4=>((try simp only[hp,e1,e2,List.length_map,go_sem])<;>rfl))|(refine U_gt ?h1 ?_;case h1=>((try simp only[hp,e1,e2,List.length_map,go_sem])<;>rfl))|(refine UC_cdf ?h1 ?_;case h1=>((try simp only[hp,e1,e2,List.length_map,go_sem])<;>rfl)))))
 (refine U_pc (g:=30) (r:=.sl ((scAt A p).map scC)) (vs:=?_) (ws:=?_) ?h1 ?h2 ?h3 ?h4 ?h5 ?_;(case h1=>((try simp only[go_sem])<;>rfl));(case h2=>refine fzsU_ok ?_;first|rfl|simp only[List.all_cons,List.all_nil,Bool.and_true,go_sem]);(case h5=>exact ha);(case h3=>first|exact Bool.or_eq_true_iff.2 (.inr rfl)|(refine Bool.or_eq_true_iff.2 (.inl ?_);simp only[clos,List.all_cons,List.all_nil,Bool.and_true,go_sem]));(case h4=>first|rfl|simp only[go_sem,Bool.and_true]))
 (repeat (with_reducible (first|refine U_nil ?_|refine UC_sq ?_|refine UC_rg ?_|refine UC_bk ?_|refine X_nx ?_|((first|refine U_q (v:=?_) ?h1 ?_|refine U_ld (v:=?_) ?h1 ?_);case h1=>((try simp only[go_sem])<;>rfl)))))
 have hrt:rightB A x=(List.range 4).all (okAt (scAt A p) x):=by
  simp [rightB,hp,hpt];omega
 have hrf:∀ i,i < 4→okAt (scAt A p) x i=false→rightB A x=false:=fun i hi h=>right_f hi (by rw[hpt];exact h)
 generalize hl:scAt A p=l at hs4 hso hrt hrf
 refine U_lp (fun r e o=>∃ i:Nat,i+r=4∧e 5=.sl (l.map scC)∧e 25=.ag ((cl4 x).map (V.i .i64))∧e 26=.i .i64 i∧∀ j,j < i→okAt l x j=true) (k:=4) ?_ (Call_le F) ?_
 ·exact⟨0,by omega,by simp only[go_sem],by simp only[go_sem],by (simp only[go_sem]<;>rfl),fun j h=>absurd h (by omega)⟩
 rintro r e o ⟨i,hir,r5,r25,r26,hq⟩
 dsimp only[b12_0]
 (repeat (with_reducible (first|refine U_nil ?_|refine UC_sq ?_|refine UC_rg ?_|refine X_nx ?_|(refine U_q (v:=?_) ?h1 ?_;case h1=>((try simp only[r26,go_sem])<;>rfl)))))
 refine UC_cdb (q:=decide ((i:Int) < 4)) (by simp only[go_sem]) (fun hc=>?_) (fun hc=>?_)
 ·have hi:i < 4:=by simp at hc;omega
  have hip:(0:Int)≤(i:Int):=by omega
  have hi4':((i:Int) < 4)=True:=by simp;omega
  have hw:=wrap1 (i:=i) (by omega)
  have hxi:((cl4 x).map (V.i .i64))[i]?=some (.i .i64 (x.c i)):=by rw[List.getElem?_map,cl4_get x hi];rfl
  (repeat (with_reducible (first|refine U_nil ?_|refine UC_sq ?_|refine UC_rg ?_|refine UC_bk ?_|refine UC_sk ?_|refine X_nx ?_|(refine U_q (v:=?_) ?h1 ?_;case h1=>((try simp only[r5,r25,r26,hip,hi4',hxi,Int.toNat_natCast,Nat.mul_one,go_sem])<;>rfl)))))
  have nxt:okAt l x i=true→∀ j,j < i+1→okAt l x j=true:=fun h j hj=>by
   by_cases hji:j=i
   ·subst hji;exact h
   ·exact hq j (by omega)
  by_cases hil:i < l.length
  ·have c1:decide ((i:Int) < (l.length:Int))=true:=by simp;omega
   have c2:decide ((i:Int)≥(l.length:Int))=false:=by simp;omega
   have hsi:=scs_at hil
   have hf:=fits_pu l[i] (x.c i) (hso _ (List.getElem_mem hil))
   rw[← okAt_lt hil] at hf
   (repeat (with_reducible (first|((first|refine U_q (v:=?_) ?h1 ?_|refine U_ld (v:=?_) ?h1 ?_);case h1=>((try simp only[r5,c1,List.length_map,hip,hsi,Int.toNat_natCast,go_sem])<;>rfl))|(refine U_gt ?h1 ?_;case h1=>((try simp only[r5,c1,List.length_map,hip,hsi,Int.toNat_natCast,go_sem])<;>rfl)))))
   (refine U_pcr (r:=.bo (okAt l x i)) hf ?h1 ?h2 rfl ?_;(case h1=>((try simp only[go_sem])<;>rfl));(case h2=>simp only[List.all_cons,List.all_nil,Bool.and_true,go_sem]))
   cases hok:okAt l x i with
   | true =>
    (repeat (with_reducible (first|refine U_nil ?_|refine UC_rg ?_|refine UC_sk ?_|refine X_nx ?_|refine B_nx ?_|(refine U_q (v:=?_) ?h1 ?_;case h1=>((try simp only[r5,r26,c1,c2,List.length_map,hw,go_sem])<;>rfl))|(refine U_gt ?h1 ?_;case h1=>((try simp only[r5,r26,c1,c2,List.length_map,hw,go_sem])<;>rfl))|(refine U_gs2 ?h1 ?_;case h1=>((try simp only[r5,r26,c1,c2,List.length_map,hw,go_sem])<;>rfl))|(refine UC_cdf ?h1 ?_;case h1=>((try simp only[r5,r26,c1,c2,List.length_map,hw,go_sem])<;>rfl))|rw[put_some])))
    exact⟨r - 1,by omega,i+1,by omega,by simp only[r5,go_sem],by simp only[r25,go_sem],by simp only[go_sem],nxt hok⟩
   | false =>
    (repeat (with_reducible (first|refine U_nil ?_|refine UC_sq ?_|refine UC_rg ?_|refine UC_rt ?_|refine X_nx ?_|refine X_rt ?_|refine B_rt ?_|((first|refine U_q (v:=?_) ?h1 ?_|refine E_1 (v:=?_) ?h1 ?_);case h1=>((try simp only[r5,r26,c1,c2,List.length_map,hw,go_sem])<;>rfl))|(refine U_gt ?h1 ?_;case h1=>((try simp only[r5,r26,c1,c2,List.length_map,hw,go_sem])<;>rfl))|(refine U_gs1 ?h1 ?_;case h1=>((try simp only[r5,r26,c1,c2,List.length_map,hw,go_sem])<;>rfl))|(refine U_gj (vs:=?_) ?h1 ?_;case h1=>((try simp only[r5,r26,c1,c2,List.length_map,hw,go_sem])<;>rfl))|(refine UC_cdt ?h1 ?_;case h1=>((try simp only[r5,r26,c1,c2,List.length_map,hw,go_sem])<;>rfl)))))
    rw[hrf i hi hok];exact fz_of (by simp) rfl
  ·have c1:decide ((i:Int) < (l.length:Int))=false:=by simp;omega
   have c2:decide ((i:Int)≥(l.length:Int))=true:=by simp;omega
   have hok:=okAt_ge (x:=x) hil
   by_cases hz:x.c i=0
   ·have c3:(x.c i != 0)=false:=by simpa using hz
    (repeat (with_reducible (first|refine U_nil ?_|refine UC_rg ?_|refine UC_sk ?_|refine X_nx ?_|refine B_nx ?_|(refine U_q (v:=?_) ?h1 ?_;case h1=>((try simp only[r5,r26,c1,c2,c3,List.length_map,hw,go_sem])<;>rfl))|(refine U_gt ?h1 ?_;case h1=>((try simp only[r5,r26,c1,c2,c3,List.length_map,hw,go_sem])<;>rfl))|(refine U_gs2 ?h1 ?_;case h1=>((try simp only[r5,r26,c1,c2,c3,List.length_map,hw,go_sem])<;>rfl))|(refine UC_cdf ?h1 ?_;case h1=>((try simp only[r5,r26,c1,c2,c3,List.length_map,hw,go_sem])<;>rfl))|rw[put_some])))
    exact⟨r - 1,by omega,i+1,by omega,by simp only[r5,go_sem],by simp only[r25,go_sem],by simp only[go_sem],nxt (by rw[hok];simpa using hz)⟩
   ·have c3:(x.c i != 0)=true:=by simpa using hz
    (repeat (with_reducible (first|refine U_nil ?_|refine UC_sq ?_|refine UC_rg ?_|refine UC_rt ?_|refine X_nx ?_|refine X_rt ?_|refine B_rt ?_|((first|refine U_q (v:=?_) ?h1 ?_|refine E_1 (v:=?_) ?h1 ?_);case h1=>((try simp only[r5,r26,c1,c2,c3,List.length_map,hw,go_sem])<;>rfl))|(refine U_gt ?h1 ?_;case h1=>((try simp only[r5,r26,c1,c2,c3,List.length_map,hw,go_sem])<;>rfl))|(refine U_gs2 ?h1 ?_;case h1=>((try simp only[r5,r26,c1,c2,c3,List.length_map,hw,go_sem])<;>rfl))|(refine UC_cdt ?h1 ?_;case h1=>((try simp only[r5,r26,c1,c2,c3,List.length_map,hw,go_sem])<;>rfl)))))
    rw[hrf i hi (by rw[hok];simpa using hz)];exact fz_of (by simp) rfl
 ·have hi:i=4:=by simp at hc;omega
  subst hi
  (repeat (with_reducible (first|refine U_nil ?_|refine UC_sq ?_|refine UC_rg ?_|refine UC_ex ?_|refine UC_rt ?_|refine X_nx ?_|refine X_ex ?_|refine B_self ?_|((first|refine U_q (v:=?_) ?h1 ?_|refine E_1 (v:=?_) ?h1 ?_);case h1=>((try simp only[go_sem])<;>rfl)))))
  rw[hrt,List.all_eq_true.2 fun i hi=>hq i (List.mem_range.1 hi)];exact fz_of (by simp) rfl
set_option maxHeartbeats 1000000 in
theorem rright_pu {A:Au} (hW:WF A) (x:Cf):Pu F 11 [.ag (auC A),.ag (cfC x)] (.bo (rightB A x)):=by
 have hlen:A.around.length≤41:=by rw[hW.la];exact hW.n
 refine U_pure e11 rfl rfl (by simp only[go_sem,Bool.and_true]) ?_
 dsimp only[fn11,c11]
 by_cases h1:x.p < 1
 ·have e1:decide (x.p < 1)=true:=by simpa using h1
  have hr:rightB A x=false:=by simp [rightB];omega
  (repeat (with_reducible (first|refine U_nil ?_|refine UC_sq ?_|refine UC_rg ?_|refine UC_rt ?_|refine X_nx ?_|refine X_rt ?_|((first|refine U_q (v:=?_) ?h1 ?_|refine U_ld (v:=?_) ?h1 ?_|refine E_1 (v:=?_) ?h1 ?_);case h1=>((try simp only[e1,go_sem])<;>rfl))|(refine U_box (cs:=?_) (cs':=?_) (n:=?_) ?h1 ?h2 ?h3 ?h4 ?_;case h1|h2|h3|h4=>((try simp only[e1,go_sem])<;>rfl))|(refine U_gs1 ?h1 ?_;case h1=>((try simp only[e1,go_sem])<;>rfl))|(refine UC_cdt ?h1 ?_;case h1=>((try simp only[e1,go_sem])<;>rfl)))))
  rw[hr];exact fz_of (by simp) rfl
 have e1:decide (x.p < 1)=false:=by simpa using h1
 by_cases h2:x.p≥(A.around.length:Int)
 ·have e2:decide (x.p≥(A.around.length:Int))=true:=by simpa using h2
  have hr:rightB A x=false:=by simp [rightB];omega
  (repeat (with_reducible (first|refine U_nil ?_|refine UC_sq ?_|refine UC_rg ?_|refine UC_rt ?_|refine X_nx ?_|refine X_rt ?_|((first|refine U_q (v:=?_) ?h1 ?_|refine U_ld (v:=?_) ?h1 ?_|refine E_1 (v:=?_) ?h1 ?_);case h1=>((try simp only[e1,e2,List.length_map,go_sem])<;>rfl))|(refine U_box (cs:=?_) (cs':=?_) (n:=?_) ?h1 ?h2 ?h3 ?h4 ?_;case h1|h2|h3|h4=>((try simp only[e1,e2,List.length_map,go_sem])<;>rfl))|(refine U_gt ?h1 ?_;case h1=>((try simp only[e1,e2,List.length_map,go_sem])<;>rfl))|(refine UC_cdt ?h1 ?_;case h1=>((try simp only[e1,e2,List.length_map,go_sem])<;>rfl)))))
  rw[hr];exact fz_of (by simp) rfl
 have e2:decide (x.p≥(A.around.length:Int))=false:=by simpa using h2
 obtain⟨p,hp⟩:∃ p:Nat,x.p=p:=⟨x.p.toNat,by omega⟩
 have hpl:p < A.around.length:=by omega
 have hpt:x.p.toNat=p:=by omega
 have hra:=ar_at hpl
 have hpp:(0:Int)≤(p:Int):=by omega
 have h4:=ar_4 hW hpl
 have hlt:∀ i∈arAt A p,i < A.scopes.length:=fun i hi=>ar_lt hW hpl hi
 have hrt:rightB A x=(List.range 4).all (okAt ((arAt A p).map (scI A)) x):=by
  simp [rightB,hp,hpt,scAt];omega
 have hrf:∀ i,i < 4→okAt ((arAt A p).map (scI A)) x i=false→rightB A x=false:=fun i hi h=>right_f hi (by rw[hpt];exact h)
 rw[hp] at e1 e2
 generalize arAt A p=l at hra h4 hlt hrt hrf
 (repeat (with_reducible (first|refine U_nil ?_|refine UC_sq ?_|refine UC_rg ?_|refine UC_bk ?_|refine UC_sk ?_|refine X_nx ?_|((first|refine U_q (v:=?_) ?h1 ?_|refine U_ld (v:=?_) ?h1 ?_);case h1=>((try simp only[hp,e1,e2,hra,hpp,Int.toNat_natCast,List.length_map,go_sem])<;>rfl))|(refine U_box (cs:=?_) (cs':=?_) (n:=?_) ?h1 ?h2 ?h3 ?h4 ?_;case h1|h2|h3|h4=>((try simp only[hp,e1,e2,hra,hpp,Int.toNat_natCast,List.length_map,go_sem])<;>rfl))|(refine U_gt ?h1 ?_;case h1=>((try simp only[hp,e1,e2,hra,hpp,Int.toNat_natCast,List.length_map,go_sem])<;>rfl))|(refine UC_cdf ?h1 ?_;case h1=>((try simp only[hp,e1,e2,hra,hpp,Int.toNat_natCast,List.length_map,go_sem])<;>rfl)))))
 refine U_lp (fun r e o=>∃ i:Nat,i+r=4∧e 2=.pt 2 0 0∧e 3=.pt 3 0 0∧e 5=.i .i64 l.length∧e 6=.i .i64 i∧o 2=some (.row 15 [auC A])∧o 3=some (.row 5 [cfC x])∧∀ j,j < i→okAt (l.map (scI A)) x j=true) (k:=4) ?_ (Call_le F) ?_
 ·exact⟨0,by omega,by simp only[go_sem],by simp only[go_sem],by simp only[List.length_map,go_sem],by (simp only[go_sem]<;>rfl),by simp only[go_sem],by simp only[go_sem],fun j h=>absurd h (by omega)⟩
 rintro r e o ⟨i,hir,r2,r3,r5,r6,o2,o3,hq⟩
 dsimp only[b11_0]
 (repeat (with_reducible (first|refine U_nil ?_|refine UC_sq ?_|refine UC_rg ?_|refine X_nx ?_|(refine U_q (v:=?_) ?h1 ?_;case h1=>((try simp only[r6,go_sem])<;>rfl)))))
 refine UC_cdb (q:=decide ((i:Int) < 4)) (by simp only[go_sem]) (fun hc=>?_) (fun hc=>?_)
 ·have hi:i < 4:=by simp at hc;omega
  have hip:(0:Int)≤(i:Int):=by omega
  have hi4':((i:Int) < 4)=True:=by simp;omega
  have hw:=wrap1 (i:=i) (by omega)
  have hxi:=cf_get x hi
  have nxt:okAt (l.map (scI A)) x i=true→∀ j,j < i+1→okAt (l.map (scI A)) x j=true:=fun h j hj=>by
   by_cases hji:j=i
   ·subst hji;exact h
   ·exact hq j (by omega)
  by_cases hil:i < l.length
  ·have c1:decide ((i:Int) < (l.length:Int))=true:=by simp;omega
   have c2:decide ((i:Int)≥(l.length:Int))=false:=by simp;omega
   have hli:=in_at hil
   have hlp:(0:Int)≤(l[i]:Int):=by omega
   have hsi:=sc_at (hlt l[i] (List.getElem_mem hil))
   have ht:=top_pu (scI A l[i])
   have hok:okAt (l.map (scI A)) x i=(decide (1≤x.c i)&&decide (x.c i≤topS (scI A l[i]))):=by
    rw[okAt_lt (by simpa using hil)];simp
   by_cases hc1:x.c i < 1
   ·have d1:decide (x.c i < 1)=true:=by simpa using hc1
    (repeat (with_reducible (first|refine U_nil ?_|refine UC_sq ?_|refine UC_rg ?_|refine UC_bk ?_|refine UC_sk ?_|refine UC_rt ?_|refine X_nx ?_|refine X_rt ?_|refine B_rt ?_|((first|refine U_q (v:=?_) ?h1 ?_|refine U_ld (v:=?_) ?h1 ?_|refine E_1 (v:=?_) ?h1 ?_);case h1=>((try simp only[r2,r3,r5,r6,o2,o3,c1,c2,d1,hip,hi4',hxi,Int.toNat_natCast,Nat.mul_one,go_sem])<;>rfl))|(refine U_gt ?h1 ?_;case h1=>((try simp only[r2,r3,r5,r6,o2,o3,c1,c2,d1,hip,hi4',hxi,Int.toNat_natCast,Nat.mul_one,go_sem])<;>rfl))|(refine U_gs1 ?h1 ?_;case h1=>((try simp only[r2,r3,r5,r6,o2,o3,c1,c2,d1,hip,hi4',hxi,Int.toNat_natCast,Nat.mul_one,go_sem])<;>rfl))|(refine U_gs2 ?h1 ?_;case h1=>((try simp only[r2,r3,r5,r6,o2,o3,c1,c2,d1,hip,hi4',hxi,Int.toNat_natCast,Nat.mul_one,go_sem])<;>rfl))|(refine UC_cdt ?h1 ?_;case h1=>((try simp only[r2,r3,r5,r6,o2,o3,c1,c2,d1,hip,hi4',hxi,Int.toNat_natCast,Nat.mul_one,go_sem])<;>rfl)))))
    rw[hrf i hi (by rw[hok];simp;omega)];exact fz_of (by simp) rfl
   ·have d1:decide (x.c i < 1)=false:=by simpa using hc1
    (repeat (with_reducible (first|refine UC_sq ?_|refine UC_rg ?_|refine UC_bk ?_|refine UC_sk ?_|refine X_nx ?_|((first|refine U_q (v:=?_) ?h1 ?_|refine U_ld (v:=?_) ?h1 ?_);case h1=>((try simp only[hp,r2,r3,r5,r6,o2,o3,c1,c2,d1,hip,hi4',hxi,hra,hpp,hli,hlp,hsi,Int.toNat_natCast,Nat.mul_one,go_sem])<;>rfl))|(refine U_gt ?h1 ?_;case h1=>((try simp only[hp,r2,r3,r5,r6,o2,o3,c1,c2,d1,hip,hi4',hxi,hra,hpp,hli,hlp,hsi,Int.toNat_natCast,Nat.mul_one,go_sem])<;>rfl))|(refine U_gs2 ?h1 ?_;case h1=>((try simp only[hp,r2,r3,r5,r6,o2,o3,c1,c2,d1,hip,hi4',hxi,hra,hpp,hli,hlp,hsi,Int.toNat_natCast,Nat.mul_one,go_sem])<;>rfl))|rw[put_some])))
    (refine U_pcr (r:=.i .i64 (topS (scI A l[i]))) ht ?h1 ?h2 rfl ?_;(case h1=>((try simp only[go_sem])<;>rfl));(case h2=>simp only[List.all_cons,List.all_nil,Bool.and_true,go_sem]))
    by_cases hc2:x.c i > topS (scI A l[i])
    ·have d2:decide (x.c i > topS (scI A l[i]))=true:=by simpa using hc2
     (repeat (with_reducible (first|refine U_nil ?_|refine UC_sq ?_|refine UC_rg ?_|refine UC_rt ?_|refine X_nx ?_|refine X_rt ?_|refine B_rt ?_|((first|refine U_q (v:=?_) ?h1 ?_|refine E_1 (v:=?_) ?h1 ?_);case h1=>((try simp only[d2,go_sem])<;>rfl))|(refine U_gt ?h1 ?_;case h1=>((try simp only[d2,go_sem])<;>rfl))|(refine UC_cdt ?h1 ?_;case h1=>((try simp only[d2,go_sem])<;>rfl)))))
     rw[hrf i hi (by rw[hok];simp;omega)];exact fz_of (by simp) rfl
    ·have d2:decide (x.c i > topS (scI A l[i]))=false:=by simpa using hc2
     (repeat (with_reducible (first|refine U_nil ?_|refine UC_rg ?_|refine UC_sk ?_|refine X_nx ?_|refine B_nx ?_|(refine U_q (v:=?_) ?h1 ?_;case h1=>((try simp only[d2,r6,hw,go_sem])<;>rfl))|(refine U_gt ?h1 ?_;case h1=>((try simp only[d2,r6,hw,go_sem])<;>rfl))|(refine UC_cdf ?h1 ?_;case h1=>((try simp only[d2,r6,hw,go_sem])<;>rfl)))))
     exact⟨r - 1,by omega,i+1,by omega,by simp only[r2,go_sem],by simp only[r3,go_sem],by simp only[r5,go_sem],by simp only[go_sem],o2,o3,nxt (by rw[hok];simp;omega)⟩
  ·have c1:decide ((i:Int) < (l.length:Int))=false:=by simp;omega
   have c2:decide ((i:Int)≥(l.length:Int))=true:=by simp;omega
   have hok:=okAt_ge (l:=l.map (scI A)) (x:=x) (i:=i) (by simpa using hil)
   by_cases hz:x.c i=0
   ·have c3:(x.c i != 0)=false:=by simpa using hz
    (repeat (with_reducible (first|refine U_nil ?_|refine UC_sq ?_|refine UC_rg ?_|refine UC_bk ?_|refine UC_sk ?_|refine X_nx ?_|refine B_nx ?_|((first|refine U_q (v:=?_) ?h1 ?_|refine U_ld (v:=?_) ?h1 ?_);case h1=>((try simp only[r2,r3,r5,r6,o2,o3,c1,c2,c3,hip,hi4',hxi,Int.toNat_natCast,Nat.mul_one,hw,go_sem])<;>rfl))|(refine U_gt ?h1 ?_;case h1=>((try simp only[r2,r3,r5,r6,o2,o3,c1,c2,c3,hip,hi4',hxi,Int.toNat_natCast,Nat.mul_one,hw,go_sem])<;>rfl))|(refine U_gs2 ?h1 ?_;case h1=>((try simp only[r2,r3,r5,r6,o2,o3,c1,c2,c3,hip,hi4',hxi,Int.toNat_natCast,Nat.mul_one,hw,go_sem])<;>rfl))|(refine U_gj (vs:=?_) ?h1 ?_;case h1=>((try simp only[r2,r3,r5,r6,o2,o3,c1,c2,c3,hip,hi4',hxi,Int.toNat_natCast,Nat.mul_one,hw,go_sem])<;>rfl))|(refine UC_cdf ?h1 ?_;case h1=>((try simp only[r2,r3,r5,r6,o2,o3,c1,c2,c3,hip,hi4',hxi,Int.toNat_natCast,Nat.mul_one,hw,go_sem])<;>rfl))|rw[put_some])))
    exact⟨r - 1,by omega,i+1,by omega,by simp only[r2,go_sem],by simp only[r3,go_sem],by simp only[r5,go_sem],by simp only[go_sem],o2,o3,nxt (by rw[hok];simpa using hz)⟩
   ·have c3:(x.c i != 0)=true:=by simpa using hz
    (repeat (with_reducible (first|refine U_nil ?_|refine UC_sq ?_|refine UC_rg ?_|refine UC_bk ?_|refine UC_sk ?_|refine UC_rt ?_|refine X_nx ?_|refine X_rt ?_|refine B_rt ?_|((first|refine U_q (v:=?_) ?h1 ?_|refine U_ld (v:=?_) ?h1 ?_|refine E_1 (v:=?_) ?h1 ?_);case h1=>((try simp only[r2,r3,r5,r6,o2,o3,c1,c2,c3,hip,hi4',hxi,Int.toNat_natCast,Nat.mul_one,hw,go_sem])<;>rfl))|(refine U_gt ?h1 ?_;case h1=>((try simp only[r2,r3,r5,r6,o2,o3,c1,c2,c3,hip,hi4',hxi,Int.toNat_natCast,Nat.mul_one,hw,go_sem])<;>rfl))|(refine U_gs1 ?h1 ?_;case h1=>((try simp only[r2,r3,r5,r6,o2,o3,c1,c2,c3,hip,hi4',hxi,Int.toNat_natCast,Nat.mul_one,hw,go_sem])<;>rfl))|(refine U_gj (vs:=?_) ?h1 ?_;case h1=>((try simp only[r2,r3,r5,r6,o2,o3,c1,c2,c3,hip,hi4',hxi,Int.toNat_natCast,Nat.mul_one,hw,go_sem])<;>rfl))|(refine UC_cdt ?h1 ?_;case h1=>((try simp only[r2,r3,r5,r6,o2,o3,c1,c2,c3,hip,hi4',hxi,Int.toNat_natCast,Nat.mul_one,hw,go_sem])<;>rfl)))))
    rw[hrf i hi (by rw[hok];simpa using hz)];exact fz_of (by simp) rfl
 ·have hi:i=4:=by simp at hc;omega
  subst hi
  (repeat (with_reducible (first|refine U_nil ?_|refine UC_sq ?_|refine UC_rg ?_|refine UC_ex ?_|refine UC_rt ?_|refine X_nx ?_|refine X_ex ?_|refine B_self ?_|((first|refine U_q (v:=?_) ?h1 ?_|refine E_1 (v:=?_) ?h1 ?_);case h1=>((try simp only[go_sem])<;>rfl)))))
  rw[hrt,List.all_eq_true.2 fun i hi=>hq i (List.mem_range.1 hi)];exact fz_of (by simp) rfl
theorem la_at {A:Au} {p:Nat} (hp:p < A.last.length):(A.last.map boC)[p]?=some [.bo ((A.last[p]?).getD false)]:=by
 rw[List.getElem?_map,List.getElem?_eq_getElem hp];rfl
theorem acc_pu {A:Au} (hW:WF A) (x:Cf):Pu F 13 [.ag (auC A),.ag (cfC x)] (.bo (accB A x)):=by
 have hr:=right_pu hW x
 refine U_pure e13 rfl rfl (by simp only[go_sem,Bool.and_true]) ?_
 dsimp only[fn13,c13]
 (repeat (with_reducible (first|refine U_nil ?_|refine UC_sq ?_|refine UC_rg ?_|refine X_nx ?_|((first|refine U_q (v:=?_) ?h1 ?_|refine U_ld (v:=?_) ?h1 ?_);case h1=>((try simp only[go_sem])<;>rfl))|(refine U_box (cs:=?_) (cs':=?_) (n:=?_) ?h1 ?h2 ?h3 ?h4 ?_;case h1|h2|h3|h4=>((try simp only[go_sem])<;>rfl)))))
 (refine U_pcr (r:=.bo (rightB A x)) hr ?h1 ?h2 rfl ?_;(case h1=>((try simp only[go_sem])<;>rfl));(case h2=>simp only[List.all_cons,List.all_nil,Bool.and_true,go_sem]))
 cases hrb:rightB A x with
 | false =>
  (repeat (with_reducible (first|refine U_nil ?_|refine UC_rt ?_|refine X_nx ?_|((first|refine U_q (v:=?_) ?h1 ?_|refine E_1 (v:=?_) ?h1 ?_);case h1=>((try simp only[go_sem])<;>rfl))|(refine U_gs2 ?h1 ?_;case h1=>((try simp only[go_sem])<;>rfl)))))
  have:accB A x=false:=by simp [accB,hrb]
  rw[this];exact fz_of (by simp) rfl
 | true =>
  obtain⟨h1,h2,h3⟩:=rightB_iff.1 hrb
  obtain⟨p,hp⟩:∃ p:Nat,x.p=p:=⟨x.p.toNat,by omega⟩
  have hpl:p < A.around.length:=by omega
  have hpt:x.p.toNat=p:=by omega
  have hpp:(0:Int)≤(p:Int):=by omega
  have hla:=la_at (A:=A) (p:=p) (by rw[hW.ll,← hW.la];exact hpl)
  have ha:=around_pu hW hpl
  have hs4:(scAt A p).length≤4:=by rw[scAt_len];exact ar_4 hW hpl
  have hl:=leaves_pu (l:=scAt A p) (cs:=cl4 x) hs4 hs4
  cases hlb:(A.last[p]?).getD false with
  | false =>
   rw[hlb] at hla
   (repeat (with_reducible (first|refine U_nil ?_|refine UC_rt ?_|refine X_nx ?_|((first|refine U_q (v:=?_) ?h1 ?_|refine U_ld (v:=?_) ?h1 ?_|refine E_1 (v:=?_) ?h1 ?_);case h1=>((try simp only[hp,hla,hpp,Int.toNat_natCast,go_sem])<;>rfl))|(refine U_gt ?h1 ?_;case h1=>((try simp only[hp,hla,hpp,Int.toNat_natCast,go_sem])<;>rfl))|(refine U_gs2 ?h1 ?_;case h1=>((try simp only[hp,hla,hpp,Int.toNat_natCast,go_sem])<;>rfl)))))
   have:accB A x=false:=by simp [accB,hpt,hlb]
   rw[this];exact fz_of (by simp) rfl
  | true =>
   rw[hlb] at hla
   (repeat (with_reducible (first|((first|refine U_q (v:=?_) ?h1 ?_|refine U_ld (v:=?_) ?h1 ?_);case h1=>((try simp only[hp,hla,hpp,Int.toNat_natCast,go_sem])<;>rfl))|(refine U_gt ?h1 ?_;case h1=>((try simp only[hp,hla,hpp,Int.toNat_natCast,go_sem])<;>rfl)))))
   (refine U_pc (g:=30) (r:=.sl ((scAt A p).map scC)) (vs:=?_) (ws:=?_) ?h1 ?h2 ?h3 ?h4 ?h5 ?_;(case h1=>((try simp only[go_sem])<;>rfl));(case h2=>refine fzsU_ok ?_;first|rfl|simp only[List.all_cons,List.all_nil,Bool.and_true,go_sem]);(case h5=>exact ha);(case h3=>first|exact Bool.or_eq_true_iff.2 (.inr rfl)|(refine Bool.or_eq_true_iff.2 (.inl ?_);simp only[clos,List.all_cons,List.all_nil,Bool.and_true,go_sem]));(case h4=>first|rfl|simp only[go_sem,Bool.and_true]))
   (repeat (with_reducible (first|(refine U_gt ?h1 ?_;case h1=>((try simp only[go_sem])<;>rfl)))))
   refine U_pc (vs:=[.sl ((scAt A p).map scC),.ra 3 0 1 4]) (ws:=[.sl ((scAt A p).map scC),.sl ((cl4 x).map i1)]) (r:=.bo (leavesL (scAt A p) (cl4 x))) (by simp only[go_sem]) rfl (Bool.or_eq_true_iff.2 (.inr rfl)) rfl hl ?_
   (repeat (with_reducible (first|refine U_nil ?_|refine UC_rt ?_|refine X_nx ?_|((first|refine U_q (v:=?_) ?h1 ?_|refine E_1 (v:=?_) ?h1 ?_);case h1=>((try simp only[go_sem])<;>rfl)))))
   have:accB A x=leavesL (scAt A p) (cl4 x):=by simp [accB,hpt,hlb,hrb]
   rw[this];exact fz_of (by simp) rfl
end Go.Proofs.YtgiedknghbpdfaaGreat
