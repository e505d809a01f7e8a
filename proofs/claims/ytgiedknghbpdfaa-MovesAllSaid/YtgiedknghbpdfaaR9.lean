import Derived.Test.YtgiedknghbpdfaaR8

namespace Go.Proofs.Ytgiedknghbpdfaa
set_option linter.all false
attribute [-go_sem] swpOb renOb rfOb V.cells
def blC (f:Nat→Bool) (j:Nat):List V:=[.bo (f j)]
def bl (f:Nat→Bool):List (List V):=(List.range 200).map (blC f)
theorem bl_len (f:Nat→Bool):(bl f).length=200:=by simp [bl]
theorem bl_at (f:Nat→Bool) {j:Nat} (h:j < 200):(bl f)[j]?=some [.bo (f j)]:=by simp [bl,h,blC]
theorem bl_cls (f:Nat→Bool):(bl f).all cls1L=true:=List.all_eq_true.2 fun c hc=>by
 simp only[bl] at hc;obtain⟨x,_,rfl⟩:=List.mem_map.1 hc;rfl
theorem bl_cld (f:Nat→Bool):cldLL (bl f)=true:=cldLL_map (fun _=>rfl) _
theorem rep_gen {α:Type} (x:α) (n:Nat):List.replicate n x=(List.range n).map fun _=>x:=by rw[List.map_const',List.length_range]
theorem bl_rep:List.replicate 200 [V.bo false]=bl fun _=>false:=rep_gen _ _
theorem bl_set (f:Nat→Bool) (j:Nat) (v:Bool):(bl f).set j [.bo v]=bl fun x=>if x=j then v else f x:=by
 apply List.ext_getElem
 ·simp [bl]
 ·intro i h1 h2;rw[List.getElem_set];simp only[bl,List.getElem_map,List.getElem_range,blC];split
  ·rename_i h;rw[if_pos h.symm]
  ·rename_i h;rw[if_neg fun h3=>h h3.symm]
theorem bl_congr {f g:Nat→Bool} (h:∀ j,f j=g j):bl f=bl g:=by rw[funext h]
theorem bl_swp (d:Nat) (f:Nat→Bool):swpR d (bl f)=bl f:=swpR_cls d (bl_cls f)
theorem bl_swpM (d:Nat) (f:Nat→Bool):(bl f).map (swpL d)=bl f:=swpR_cls d (bl_cls f)
attribute [go_sem] bl_swp bl_swpM bl_cld
theorem frz_bl {o:O} {s:Nat} {f:Nat→Bool} (h:o s=some (.row 1 (bl f))) (n:Nat):frzU (n+2) o (.rw s 1 0 200)=some (.sl (bl f)):=by
 have hne:bl f≠[]:=by intro h0;have:=bl_len f;rw[h0] at this;cases this
 have:=frz_own (o:=o) (s:=s) (sz:=1) (L:=bl f) ⟨bl_cls f,fun _=>h⟩ (fun c hc v hv m=>by
  simp only[bl] at hc;obtain⟨x,_,rfl⟩:=List.mem_map.1 hc;simp only[blC,List.mem_singleton] at hv;rw[hv];rfl) n
 rw[ownV_ne hne,bl_len] at this;exact this
theorem fz_en {o:O} {f g:Nat→Bool} {n:Int} (h1:o 18=some (.row 1 (bl f))) (h2:o 19=some (.row 1 (bl g))):fzU o (.tp [.rw 18 1 0 200,.rw 19 1 0 200,.i .i64 n])=some (.tp [.sl (bl f),.sl (bl g),.i .i64 n]):=by
 show frzU 24 o _=_;have g1:=frz_bl h1 21;have g2:=frz_bl h2 21;have g3:frzU 23 o (.i .i64 n)=some (.i .i64 n):=rfl;have g4:([V.rw 18 1 0 200,V.rw 19 1 0 200,V.i .i64 n].mapM (frzU 23 o))=some [V.sl (bl f),V.sl (bl g),V.i .i64 n]:=by
  rw[List.mapM_cons,List.mapM_cons,List.mapM_cons,g1,g2,g3];rfl
 rw[frzU,g4];rfl
theorem E_3 {a b c:Nat} {x y z:V} {K:V→O→Prop} {e:E} {o:O} (h1:e a=x) (h2:e b=y) (h3:e c=z) (h:K (.tp [x,y,z]) o):endX [.t a,.t b,.t c] K .rt e o:=by
 subst h1;subst h2;subst h3
 exact⟨_,rfl,h⟩
theorem lc_at {ps:List Nd} {i:Nat} (h:i < ps.length):lcL (ps.take i)+lcN ps[i]≤lcL ps:=by
 have h1:=lcL_app (ps.take (i+1)) (ps.drop (i+1));rw[List.take_append_drop,List.take_add_one,List.getElem?_eq_getElem h] at h1;simp only[Option.toList_some,lcL_app,lcL] at h1;omega
def mixB (p:Nat) (new old:Nat→Bool):Nat→Bool:=fun j=>if j < p then new j else old j
theorem mixB_0 (f g:Nat→Bool):mixB 0 f g=g:=by funext j;simp [mixB]
theorem mixB_at (p:Nat) (new old:Nat→Bool):mixB p new old p=old p:=by simp [mixB]
theorem mixB_set (p:Nat) (new old:Nat→Bool):(fun x=>if x=p then new p else mixB p new old x)=mixB (p+1) new old:=by
 funext x
 simp only[mixB];by_cases h:x=p
 ·rw[if_pos h,if_pos (by omega),h]
 ·rw[if_neg h];by_cases h2:x < p
  ·rw[if_pos h2,if_pos (by omega)]
  ·rw[if_neg h2,if_neg (by omega)]
theorem bl_mset (p:Nat) (new old:Nat→Bool) (v:Bool) (h:new p=v):(bl (mixB p new old)).set p [.bo v]=bl (mixB (p+1) new old):=by
 rw[bl_set,← h,mixB_set]
theorem mixB_same (p:Nat) (new old:Nat→Bool) (h:new p=old p):mixB (p+1) new old=mixB p new old:=by
 rw[← mixB_set];funext x
 split
 ·rename_i hx;rw[hx,mixB_at,h]
 ·rfl
def lastB (p:Nat) (v:Bool) (L:Nat→Bool):Nat→Bool:=fun j=>if j=p then v else L j
theorem lastB_at (p:Nat) (v:Bool) (L:Nat→Bool):lastB p v L p=v:=by simp [lastB]
theorem lastB_same (p:Nat) (v:Bool) (L:Nat→Bool) (h:L p=v):lastB p v L=L:=by
 funext j
 unfold lastB;split
 ·rename_i hj;rw[hj,h]
 ·rfl
theorem bl_lset (p:Nat) (v w:Bool) (new old:Nat→Bool) (h:new p=w):(bl (lastB p v (mixB p new old))).set p [.bo w]=bl (mixB (p+1) new old):=by
 rw[bl_set,← mixB_set,← h];refine bl_congr fun j=>?_;unfold lastB;split<;>rfl
set_option maxRecDepth 5000 in
set_option maxHeartbeats 4000000 in
theorem rends_pu:∀ (n:Nd) (b:Nat),okN n→cntN n≤900→b+lcN n < 200→Pu F 13 [.ag (cel n),.i .i64 b] (.tp [.sl (bl (enN n b).f),.sl (bl (enN n b).l),.i .i64 (enN n b).c])
 | .mk k s ps lo hi,b,hn,hcn,hb=>by
  have ih:∀ p∈ps,∀ b:Nat,okN p→cntN p≤900→b+lcN p < 200→Pu F 13 [.ag (cel p),.i .i64 b] (.tp [.sl (bl (enN p b).f),.sl (bl (enN p b).l),.i .i64 (enN p b).c]):=fun p hp=>rends_pu p;have hpok:=(okN_parts hn).1;simp only[Nd.parts] at hpok;have hcl:cntL ps≤899:=by rw[cntN] at hcn;omega
  have hpl:ps.length≤899:=Nat.le_trans (len_cnt ps) hcl;rw[lcN] at hb;rw[enN];obtain⟨a,hae⟩:∃ a:Nd,a=.mk k s ps lo hi:=⟨_,rfl⟩;have h0:a.kind=k:=by rw[hae];rfl
  have h1:a.set=s:=by rw[hae];rfl
  have h5:a.parts=ps:=by rw[hae];rfl
  rw[← hae];clear hae hn hcn;refine U_pure e13 rfl rfl (by simp only[go_sem,Bool.and_true]) ?_;dsimp only[fn13,c13];(repeat (with_reducible (first|refine U_nil ?_|refine UC_sq ?_|refine UC_rg ?_|refine X_nx ?_|(refine U_q (v:=?_) ?h1 ?_;case h1=>((try simp only[go_sem])<;>rfl))|(refine U_box (cs:=?_) (cs':=?_) (n:=?_) ?h1 ?h2 ?h3 ?h4 ?_;case h1|h2|h3|h4=>((try simp only[go_sem])<;>rfl)))));refine U_mks (n:=200) (c:=200) (Zr0) (Zr0) (by omega) ⟨by omega,by omega⟩ ?_;rw[bl_rep];(repeat (with_reducible (first|(refine U_q (v:=?_) ?h1 ?_;case h1=>((try simp only[go_sem])<;>rfl)))));refine U_mks (n:=200) (c:=200) (Zr0) (Zr0) (by omega) ⟨by omega,by omega⟩ ?_;rw[bl_rep];by_cases hk1:k=1
  ·have c1:(k==1)=true:=by simpa using hk1
   rw[if_pos hk1];rw[if_pos hk1] at hb;cases hem:emptyS s with
   | true =>
    rw[if_pos rfl];(repeat (with_reducible (first|refine U_nil ?_|refine UC_sq ?_|refine UC_rg ?_|refine UC_rt ?_|refine X_nx ?_|refine X_rt ?_|((first|refine U_q (v:=?_) ?h1 ?_|refine U_ld (v:=?_) ?h1 ?_|refine UC_cdt ?h1 ?_);case h1=>((try simp only[h0,h1,c1,u4_eqz,u4_eqzV,hem,go_sem])<;>rfl)))));refine E_3 (x:=.rw 18 1 0 200) (y:=.rw 19 1 0 200) (Z0) (Z0) (Zr0) (fz_en ?_ ?_)<;>simp only[go_sem]<;>rfl
   | false =>
    rw[if_neg (by decide)];rw[hem,if_neg (by decide)] at hb;have hw:=wrapN1 (i:=b) (by omega);have hp1:(0:Int)≤((b+1:Nat):Int):=by omega
    have hl1:((b+1:Nat):Int) < 200:=by omega
    have hl2:((b+1:Nat):Int) < ((200:Nat):Int):=by omega
    have hat:(bl fun _=>false)[b+1]?=some [.bo false]:=bl_at _ (by omega);have hst:(bl fun _=>false).set (b+1) [.bo true]=bl fun j=>j==b+1:=by
     rw[bl_set];refine bl_congr fun j=>?_;by_cases h:j=b+1<;>simp [h]
    (repeat (with_reducible (first|refine U_nil ?_|refine UC_sq ?_|refine UC_rg ?_|refine UC_sk ?_|refine X_nx ?_|((first|refine U_q (v:=?_) ?h1 ?_|refine U_ld (v:=?_) ?h1 ?_|refine UC_cdt ?h1 ?_);case h1=>((try simp only[h0,h1,c1,u4_eqz,u4_eqzV,hem,hw,hp1,hl1,hl2,Int.toNat_natCast,Nat.zero_add,go_sem])<;>rfl))|(refine U_sto (id:=?_) (i:=?_) (j:=?_) (q:=?_) (es:=?_) (cs:=?_) (vs:=?_) (es':=?_) ?h1 ?h2 ?h3 ?h4 ?h5 ?h6 ?h7 ?_;case h1|h2|h3|h4|h5|h6|h7=>((try simp only[h0,h1,c1,u4_eqz,u4_eqzV,hem,hw,hp1,hl1,hl2,Int.toNat_natCast,Nat.zero_add,go_sem])<;>rfl))|(refine UC_cdf ?h1 ?_;case h1=>((try simp only[h0,h1,c1,u4_eqz,u4_eqzV,hem,hw,hp1,hl1,hl2,Int.toNat_natCast,Nat.zero_add,go_sem])<;>rfl)))));refine U_sto (id:=18) (i:=b+1) (j:=0) (q:=1) (es:=bl fun _=>false) (cs:=[.bo false]) (vs:=[.bo true]) (es':=bl fun j=>j==b+1) (Z0) (Z0) hat (Z0) rfl (by simp) (by rw[← hst];rfl) ?_;(repeat (with_reducible (first|refine U_nil ?_|refine UC_sq ?_|refine UC_rg ?_|refine X_nx ?_|(refine U_q (v:=?_) ?h1 ?_;case h1=>((try simp only[hw,hp1,hl1,hl2,Int.toNat_natCast,Nat.zero_add,go_sem])<;>rfl))|(refine U_sto (id:=?_) (i:=?_) (j:=?_) (q:=?_) (es:=?_) (cs:=?_) (vs:=?_) (es':=?_) ?h1 ?h2 ?h3 ?h4 ?h5 ?h6 ?h7 ?_;case h1|h2|h3|h4|h5|h6|h7=>((try simp only[hw,hp1,hl1,hl2,Int.toNat_natCast,Nat.zero_add,go_sem])<;>rfl)))));refine U_sto (id:=19) (i:=b+1) (j:=0) (q:=1) (es:=bl fun _=>false) (cs:=[.bo false]) (vs:=[.bo true]) (es':=bl fun j=>j==b+1) (Z0) (Z0) hat (Z0) rfl (by simp) (by rw[← hst];rfl) ?_;(repeat (with_reducible (first|refine U_nil ?_|refine UC_sq ?_|refine UC_rg ?_|refine UC_rt ?_|refine X_nx ?_|refine X_rt ?_|(refine U_q (v:=?_) ?h1 ?_;case h1=>((try simp only[go_sem])<;>rfl)))));refine E_3 (x:=.rw 18 1 0 200) (y:=.rw 19 1 0 200) (Z0) (Z0) (Zr0) (fz_en ?_ ?_)<;>simp only[go_sem]<;>rfl
  have c1:(k==1)=false:=by simpa using hk1
  rw[if_neg hk1];rw[if_neg hk1] at hb;(repeat (with_reducible (first|refine U_nil ?_|refine UC_sq ?_|refine UC_rg ?_|refine UC_bk ?_|refine UC_sk ?_|refine X_nx ?_|((first|refine U_q (v:=?_) ?h1 ?_|refine U_ld (v:=?_) ?h1 ?_);case h1=>((try simp only[h0,c1,go_sem])<;>rfl))|(refine UC_cdf ?h1 ?_;case h1=>((try simp only[h0,c1,go_sem])<;>rfl)))));refine UC_cutx (fun e o=>∃ Q:Es,Q=enL k ps b es0∧e 7=.rw 18 1 0 200∧e 8=.rw 19 1 0 200∧e 9=.i .i64 Q.c∧o 18=some (.row 1 (bl Q.f))∧o 19=some (.row 1 (bl Q.l))) ?_ ?_
  ·refine U_lp (fun r e o=>∃ i:Nat,∃ Q:Es,i+r=ps.length∧Q=enL k (ps.take i) b es0∧e 1=.i .i64 b∧e 2=.pt 2 0 0∧e 7=.rw 18 1 0 200∧e 8=.rw 19 1 0 200∧e 9=.i .i64 Q.c∧e 10=.bo Q.a∧e 11=.i .i64 i∧o 2=some (.row 8 [cel a])∧o 18=some (.row 1 (bl Q.f))∧o 19=some (.row 1 (bl Q.l))) (k:=ps.length) ?_ (Call_le F) ?_
   ·exact⟨0,es0,by omega,by rw[List.take_zero,enL],Z0,Z0,Z0,Z0,Zr0,Zr0,Zr0,Z0,Zr0,Zr0⟩
   rintro r e o ⟨i,Q,hir,hQ,r1,r2,r7,r8,r9,r10,r11,o2,ho7,ho8⟩;dsimp only[b13_1];(repeat (with_reducible (first|refine U_nil ?_|refine UC_sq ?_|refine UC_rg ?_|refine X_nx ?_|((first|refine U_q (v:=?_) ?h1 ?_|refine U_ld (v:=?_) ?h1 ?_);case h1=>((try simp only[h5,r2,r11,o2,List.length_map,go_sem])<;>rfl)))));refine UC_cdb (q:=decide ((i:Int) < (ps.length:Int))) (Z0) (fun hc1=>?_) (fun hc1=>?_)
   ·have hi:i < ps.length:=by simpa using hc1
    have hip:(0:Int)≤(i:Int):=by omega
    have hx:=cels_at hi;have hw:=wrapN1 (i:=i) (by omega);have hlc:=lc_at hi;have hQc:Q.c=lcL (ps.take i):=by rw[hQ,enL_c];simp [es0]
    have hpo:=hpok _ (List.getElem_mem hi);have hpc:=cnt_at (List.getElem_mem hi);have hih:=ih _ (List.getElem_mem hi) (b+Q.c) hpo (by omega) (by omega);have hto:=told_pu _ hpo.1 hpo.2;have hxc:=enN_c ps[i] (b+Q.c);have hQ2:enL k (ps.take (i+1)) b es0=esStep k (nullB ps[i]) (enN ps[i] (b+Q.c)) Q:=by
     rw[List.take_add_one,List.getElem?_eq_getElem hi,Option.toList_some,enL_app,← hQ,enL,enL]
    have hwb:IntKind.i64.wrap ((b:Int)+(Q.c:Int))=((b+Q.c:Nat):Int):=by rw[wrap_i64 (by omega) (by omega)];omega
    generalize ps[i]=pp at hx hih hto hQ2 hxc hlc;generalize enN pp (b+Q.c)=x at hih hQ2 hxc;generalize nullB pp=nu at hto hQ2;generalize voidB pp=vo at hto;obtain⟨Q',hQ'⟩:∃ Q',Q'=esStep k nu x Q:=⟨_,rfl⟩;rw[← hQ'] at hQ2;have hwc:IntKind.i64.wrap ((Q.c:Int)+(x.c:Int))=(Q'.c:Int):=by
     rw[wrap_i64 (by omega) (by omega),hQ'];simp [esStep]
    have hfn:∀ j,Q'.f j=(Q.f j||((k != 2||Q.a)&&x.f j)):=fun j=>by rw[hQ'];rfl
    have hln:∀ j,Q'.l j=((!(k==2&&!nu)&&Q.l j)||x.l j):=fun j=>by rw[hQ'];rfl
    have han:Q'.a=(Q.a&&nu):=by rw[hQ'];rfl
    (repeat (with_reducible (first|refine UC_sq ?_|refine UC_rg ?_|refine UC_bk ?_|refine UC_sk ?_|refine X_nx ?_|((first|refine U_q (v:=?_) ?h1 ?_|refine U_ld (v:=?_) ?h1 ?_);case h1=>((try simp only[h5,r1,r2,r9,r11,o2,hip,hx,hwb,Int.toNat_natCast,go_sem])<;>rfl)))));refine U_pc (vs:=[.ag (cel pp),.i .i64 (b+Q.c:Nat)]) (ws:=[.ag (cel pp),.i .i64 (b+Q.c:Nat)]) (Z0) (fzsU_ok ?_) (Bool.or_eq_true_iff.2 (.inl ?_)) ?_ hih ?_
    ·simp only[List.all_cons,List.all_nil,Bool.and_true,okf_cel];rfl
    ·simp only[clos,List.all_cons,List.all_nil,Bool.and_true,go_sem]
    ·simp only[cldL,cld,bl_cld,Bool.and_true]
    (repeat (with_reducible (first|refine U_nil ?_|refine UC_sq ?_|refine UC_rg ?_|refine X_nx ?_|((first|refine U_q (v:=?_) ?h1 ?_|refine U_ld (v:=?_) ?h1 ?_);case h1=>((try simp only[h5,r1,r2,r9,r11,o2,hip,hx,hwb,Int.toNat_natCast,go_sem])<;>rfl)))))
    (refine U_pcr (r:=.tp [.bo vo,.bo nu]) hto ?h1 ?h2 rfl ?_;(case h1=>((try simp only[go_sem])<;>rfl));(case h2=>simp only[List.all_cons,List.all_nil,Bool.and_true,go_sem]))
    (repeat (with_reducible (first|refine U_nil ?_|refine UC_sq ?_|refine UC_rg ?_|refine UC_bk ?_|refine X_nx ?_|(refine U_q (v:=?_) ?h1 ?_;case h1=>((try simp only[go_sem])<;>rfl)))));refine UC_cutx (fun e o=>(e 14=.i .i64 x.c∧e 16=.bo nu)∧e 1=.i .i64 b∧e 2=.pt 2 0 0∧e 7=.rw 18 1 0 200∧e 8=.rw 19 1 0 200∧e 9=.i .i64 Q.c∧e 10=.bo Q.a∧e 11=.i .i64 i∧o 2=some (.row 8 [cel a])∧o 18=some (.row 1 (bl Q'.f))∧o 19=some (.row 1 (bl Q'.l))) ?_ ?_
    ·refine U_lp (fun r e o=>∃ p:Nat,p+r=200∧e 12=.sl (bl x.f)∧e 13=.sl (bl x.l)∧e 14=.i .i64 x.c∧e 16=.bo nu∧e 17=.i .i64 p∧e 1=.i .i64 b∧e 2=.pt 2 0 0∧e 7=.rw 18 1 0 200∧e 8=.rw 19 1 0 200∧e 9=.i .i64 Q.c∧e 10=.bo Q.a∧e 11=.i .i64 i∧o 2=some (.row 8 [cel a])∧o 18=some (.row 1 (bl (mixB p Q'.f Q.f)))∧o 19=some (.row 1 (bl (mixB p Q'.l Q.l)))) (k:=200) ?_ (Call_le F) ?_
     ·refine⟨0,by omega,Z0,Z0,Z0,Z0,Zr0,Z1 r1,Z1 r2,Z1 r7,Z1 r8,Z1 r9,Z1 r10,Z1 r11,Z1 o2,by rw[mixB_0];simp only[ho7,go_sem],by rw[mixB_0];simp only[ho8,go_sem]⟩
     clear r1 r2 r7 r8 r9 r10 r11 o2 ho7 ho8;rintro r' e o ⟨p,hpr,r12,r13,r14,r16,r17,r1,r2,r7,r8,r9,r10,r11,o2,ho7,ho8⟩;dsimp only[b13_0];by_cases hp2:p < 200
     ·have hpd:decide ((p:Int) < 200)=true:=decide_eq_true (by omega);have hpp:(0:Int)≤(p:Int):=by omega
      have hpl2:(p:Int) < 200:=by omega
      have hpl3:(p:Int) < ((200:Nat):Int):=by omega
      have hwp:=wrapN1 (i:=p) (by omega);have gf:=bl_at x.f hp2;have gl:=bl_at x.l hp2;have gF:=bl_at (mixB p Q'.f Q.f) hp2;have gL:=bl_at (mixB p Q'.l Q.l) hp2;rw[mixB_at] at gF gL;refine UC_sq ?_;refine UC_cut (fun e o=>e 12=.sl (bl x.f)∧e 13=.sl (bl x.l)∧e 14=.i .i64 x.c∧e 16=.bo nu∧e 17=.i .i64 p∧e 1=.i .i64 b∧e 2=.pt 2 0 0∧e 7=.rw 18 1 0 200∧e 8=.rw 19 1 0 200∧e 9=.i .i64 Q.c∧e 10=.bo Q.a∧e 11=.i .i64 i∧o 2=some (.row 8 [cel a])∧o 18=some (.row 1 (bl (mixB p Q'.f Q.f)))∧o 19=some (.row 1 (bl (mixB p Q'.l Q.l)))) ?_ ?_
      ·(repeat (with_reducible (first|refine U_nil ?_|refine UC_sq ?_|refine UC_rg ?_|refine UC_sk ?_|refine X_nx ?_|((first|refine U_q (v:=?_) ?h1 ?_|refine UC_cdt ?h1 ?_);case h1=>((try simp only[r17,hpd,go_sem])<;>rfl)))))
       exact⟨by trivial,Z1 r12,Z1 r13,Z1 r14,Z1 r16,Z1 r17,Z1 r1,Z1 r2,Z1 r7,Z1 r8,Z1 r9,Z1 r10,Z1 r11,Z1 o2,Z1 ho7,Z1 ho8⟩
      clear r12 r13 r14 r16 r17 r1 r2 r7 r8 r9 r10 r11 o2 ho7 ho8;rintro e o ⟨r12,r13,r14,r16,r17,r1,r2,r7,r8,r9,r10,r11,o2,ho7,ho8⟩;refine X_nx ?_;refine UC_sq ?_;refine UC_bk ?_;refine UC_sq ?_;refine UC_cut (fun e o=>e 12=.sl (bl x.f)∧e 13=.sl (bl x.l)∧e 14=.i .i64 x.c∧e 16=.bo nu∧e 17=.i .i64 p∧e 1=.i .i64 b∧e 2=.pt 2 0 0∧e 7=.rw 18 1 0 200∧e 8=.rw 19 1 0 200∧e 9=.i .i64 Q.c∧e 10=.bo Q.a∧e 11=.i .i64 i∧o 2=some (.row 8 [cel a])∧o 18=some (.row 1 (bl (mixB (p+1) Q'.f Q.f)))∧o 19=some (.row 1 (bl (mixB p Q'.l Q.l)))) ?_ ?_
      ·have hA:=hfn p;cases hak:(k != 2||Q.a) with
       | false =>
        rw[hak,Bool.false_and,Bool.or_false] at hA;rw[Bool.or_eq_false_iff] at hak;rw[hak.2] at r10;rw[mixB_same p Q'.f Q.f hA];(repeat (with_reducible (first|refine U_nil ?_|refine UC_sq ?_|refine UC_rg ?_|refine UC_sk ?_|refine X_nx ?_|((first|refine U_q (v:=?_) ?h1 ?_|refine U_ld (v:=?_) ?h1 ?_|refine U_gt ?h1 ?_);case h1=>((try simp only[h0,r2,r10,o2,hak.1,go_sem])<;>rfl))|(refine UC_cdf ?h1 ?_;case h1=>((try simp only[h0,r2,r10,o2,hak.1,go_sem])<;>rfl)))))
        exact⟨by trivial,Z1 r12,Z1 r13,Z1 r14,Z1 r16,Z1 r17,Z1 r1,Z1 r2,Z1 r7,Z1 r8,Z1 r9,by simp only[r10,hak.2,go_sem],Z1 r11,Z1 o2,Z1 ho7,Z1 ho8⟩
       | true =>
        rw[hak,Bool.true_and] at hA;have hst:=bl_mset p Q'.f Q.f _ hA;refine UC_sq ?_;refine UC_cut (fun e o=>e 77=.bo true∧e 12=.sl (bl x.f)∧e 13=.sl (bl x.l)∧e 14=.i .i64 x.c∧e 16=.bo nu∧e 17=.i .i64 p∧e 1=.i .i64 b∧e 2=.pt 2 0 0∧e 7=.rw 18 1 0 200∧e 8=.rw 19 1 0 200∧e 9=.i .i64 Q.c∧e 10=.bo Q.a∧e 11=.i .i64 i∧o 2=some (.row 8 [cel a])∧o 18=some (.row 1 (bl (mixB p Q'.f Q.f)))∧o 19=some (.row 1 (bl (mixB p Q'.l Q.l)))) ?_ ?_
        ·cases hk2:(k != 2) with
         | true =>
          (repeat (with_reducible (first|refine U_nil ?_|refine UC_rg ?_|((first|refine U_q (v:=?_) ?h1 ?_|refine U_ld (v:=?_) ?h1 ?_);case h1=>((try simp only[h0,r2,r10,o2,hk2,go_sem])<;>rfl))|(refine U_gs1 ?h1 ?_;case h1=>((try simp only[h0,r2,r10,o2,hk2,go_sem])<;>rfl))|rw[put_some])))
          exact⟨by trivial,Z0,Z1 r12,Z1 r13,Z1 r14,Z1 r16,Z1 r17,Z1 r1,Z1 r2,Z1 r7,Z1 r8,Z1 r9,Z1 r10,Z1 r11,Z1 o2,Z1 ho7,Z1 ho8⟩
         | false =>
          rw[hk2,Bool.false_or] at hak;rw[hak] at r10;(repeat (with_reducible (first|refine U_nil ?_|refine UC_rg ?_|((first|refine U_q (v:=?_) ?h1 ?_|refine U_ld (v:=?_) ?h1 ?_|refine U_gt ?h1 ?_);case h1=>((try simp only[h0,r2,r10,o2,hk2,go_sem])<;>rfl)))))
          exact⟨by trivial,Z0,Z1 r12,Z1 r13,Z1 r14,Z1 r16,Z1 r17,Z1 r1,Z1 r2,Z1 r7,Z1 r8,Z1 r9,Z2 r10 hak,Z1 r11,Z1 o2,Z1 ho7,Z1 ho8⟩
        clear r12 r13 r14 r16 r17 r1 r2 r7 r8 r9 r10 r11 o2 ho7 ho8;rintro e o ⟨r77,r12,r13,r14,r16,r17,r1,r2,r7,r8,r9,r10,r11,o2,ho7,ho8⟩;cases hF:Q.f p with
        | true =>
         rw[hF] at gF hst;rw[Bool.true_or] at hst;(repeat (with_reducible (first|refine U_nil ?_|refine UC_rg ?_|refine X_nx ?_|((first|refine U_q (v:=?_) ?h1 ?_|refine U_ld (v:=?_) ?h1 ?_|refine UC_cdt ?h1 ?_);case h1=>((try simp only[r7,r17,r77,ho7,gF,hpp,hpl2,hpl3,Int.toNat_natCast,Nat.zero_add,go_sem])<;>rfl))|(refine U_sto (id:=?_) (i:=?_) (j:=?_) (q:=?_) (es:=?_) (cs:=?_) (vs:=?_) (es':=?_) ?h1 ?h2 ?h3 ?h4 ?h5 ?h6 ?h7 ?_;case h1|h2|h3|h4|h5|h6|h7=>((try simp only[r7,r17,r77,ho7,gF,hpp,hpl2,hpl3,Int.toNat_natCast,Nat.zero_add,go_sem])<;>rfl))|(refine U_gs1 ?h1 ?_;case h1=>((try simp only[r7,r17,r77,ho7,gF,hpp,hpl2,hpl3,Int.toNat_natCast,Nat.zero_add,go_sem])<;>rfl))|rw[put_some])))
         exact⟨by trivial,Z1 r12,Z1 r13,Z1 r14,Z1 r16,Z1 r17,Z1 r1,Z1 r2,Z1 r7,Z1 r8,Z1 r9,Z1 r10,Z1 r11,Z1 o2,Z1 hst,Z1 ho8⟩
        | false =>
         rw[hF] at gF hst;rw[Bool.false_or] at hst;(repeat (with_reducible (first|refine U_nil ?_|refine UC_rg ?_|refine X_nx ?_|((first|refine U_q (v:=?_) ?h1 ?_|refine U_ld (v:=?_) ?h1 ?_|refine U_gt ?h1 ?_|refine UC_cdt ?h1 ?_);case h1=>((try simp only[r7,r12,r17,r77,ho7,gF,gf,hpp,hpl2,hpl3,Int.toNat_natCast,Nat.zero_add,go_sem])<;>rfl))|(refine U_sto (id:=?_) (i:=?_) (j:=?_) (q:=?_) (es:=?_) (cs:=?_) (vs:=?_) (es':=?_) ?h1 ?h2 ?h3 ?h4 ?h5 ?h6 ?h7 ?_;case h1|h2|h3|h4|h5|h6|h7=>((try simp only[r7,r12,r17,r77,ho7,gF,gf,hpp,hpl2,hpl3,Int.toNat_natCast,Nat.zero_add,go_sem])<;>rfl)))))
         exact⟨by trivial,Z1 r12,Z1 r13,Z1 r14,Z1 r16,Z1 r17,Z1 r1,Z1 r2,Z1 r7,Z1 r8,Z1 r9,Z1 r10,Z1 r11,Z1 o2,Z1 hst,Z1 ho8⟩
      clear r12 r13 r14 r16 r17 r1 r2 r7 r8 r9 r10 r11 o2 ho7 ho8;rintro e o ⟨r12,r13,r14,r16,r17,r1,r2,r7,r8,r9,r10,r11,o2,ho7,ho8⟩;refine X_nx ?_;refine UC_sq ?_;refine UC_cut (fun e o=>e 12=.sl (bl x.f)∧e 13=.sl (bl x.l)∧e 14=.i .i64 x.c∧e 16=.bo nu∧e 17=.i .i64 p∧e 1=.i .i64 b∧e 2=.pt 2 0 0∧e 7=.rw 18 1 0 200∧e 8=.rw 19 1 0 200∧e 9=.i .i64 Q.c∧e 10=.bo Q.a∧e 11=.i .i64 i∧o 2=some (.row 8 [cel a])∧o 18=some (.row 1 (bl (mixB (p+1) Q'.f Q.f)))∧o 19=some (.row 1 (bl (lastB p (!(k==2&&!nu)&&Q.l p) (mixB p Q'.l Q.l))))) ?_ ?_
      ·cases hB:(k==2&&!nu) with
       | false =>
        rw[lastB_same _ _ _ (by rw[mixB_at];simp)];cases hk2:(k==2) with
        | false =>
         (repeat (with_reducible (first|refine U_nil ?_|refine UC_sq ?_|refine UC_rg ?_|refine UC_sk ?_|refine X_nx ?_|((first|refine U_q (v:=?_) ?h1 ?_|refine U_ld (v:=?_) ?h1 ?_);case h1=>((try simp only[h0,r2,r16,o2,hk2,go_sem])<;>rfl))|((first|refine U_gs2 ?h1 ?_|refine UC_cdf ?h1 ?_);case h1=>((try simp only[h0,r2,r16,o2,hk2,go_sem])<;>rfl))|rw[put_some])))
         exact⟨by trivial,Z1 r12,Z1 r13,Z1 r14,Z1 r16,Z1 r17,Z1 r1,Z1 r2,Z1 r7,Z1 r8,Z1 r9,Z1 r10,Z1 r11,Z1 o2,Z1 ho7,Z1 ho8⟩
        | true =>
         rw[hk2,Bool.true_and] at hB;(repeat (with_reducible (first|refine U_nil ?_|refine UC_sq ?_|refine UC_rg ?_|refine UC_sk ?_|refine X_nx ?_|((first|refine U_q (v:=?_) ?h1 ?_|refine U_ld (v:=?_) ?h1 ?_|refine U_gt ?h1 ?_);case h1=>((try simp only[h0,r2,r16,o2,hk2,hB,go_sem])<;>rfl))|(refine UC_cdf ?h1 ?_;case h1=>((try simp only[h0,r2,r16,o2,hk2,hB,go_sem])<;>rfl)))))
         exact⟨by trivial,Z1 r12,Z1 r13,Z1 r14,Z1 r16,Z1 r17,Z1 r1,Z1 r2,Z1 r7,Z1 r8,Z1 r9,Z1 r10,Z1 r11,Z1 o2,Z1 ho7,Z1 ho8⟩
       | true =>
        have hst:=bl_set (mixB p Q'.l Q.l) p false;have e1:(fun x=>if x=p then false else mixB p Q'.l Q.l x)=lastB p (!true&&Q.l p) (mixB p Q'.l Q.l):=rfl;rw[e1] at hst;rw[Bool.and_eq_true] at hB;(repeat (with_reducible (first|refine U_nil ?_|refine UC_sq ?_|refine UC_rg ?_|refine X_nx ?_|((first|refine U_q (v:=?_) ?h1 ?_|refine U_ld (v:=?_) ?h1 ?_|refine U_gt ?h1 ?_|refine UC_cdt ?h1 ?_);case h1=>((try simp only[h0,r2,r8,r16,r17,o2,ho8,hB.1,hB.2,gL,hpp,hpl2,hpl3,Int.toNat_natCast,Nat.zero_add,go_sem])<;>rfl))|(refine U_sto (id:=?_) (i:=?_) (j:=?_) (q:=?_) (es:=?_) (cs:=?_) (vs:=?_) (es':=?_) ?h1 ?h2 ?h3 ?h4 ?h5 ?h6 ?h7 ?_;case h1|h2|h3|h4|h5|h6|h7=>((try simp only[h0,r2,r8,r16,r17,o2,ho8,hB.1,hB.2,gL,hpp,hpl2,hpl3,Int.toNat_natCast,Nat.zero_add,go_sem])<;>rfl)))))
        exact⟨by trivial,Z1 r12,Z1 r13,Z1 r14,Z1 r16,Z1 r17,Z1 r1,Z1 r2,Z1 r7,Z1 r8,Z1 r9,Z1 r10,Z1 r11,Z1 o2,Z1 ho7,Z1 hst⟩
      clear r12 r13 r14 r16 r17 r1 r2 r7 r8 r9 r10 r11 o2 ho7 ho8;rintro e o ⟨r12,r13,r14,r16,r17,r1,r2,r7,r8,r9,r10,r11,o2,ho7,ho8⟩;have gV:=bl_at (lastB p (!(k==2&&!nu)&&Q.l p) (mixB p Q'.l Q.l)) hp2;rw[lastB_at] at gV;have hst:=bl_lset p (!(k==2&&!nu)&&Q.l p) _ Q'.l Q.l (hln p);generalize (!(k==2&&!nu)&&Q.l p)=vv at gV hst ho8;cases vv with
      | true =>
       rw[Bool.true_or] at hst;(repeat (with_reducible (first|refine U_nil ?_|refine UC_rg ?_|refine X_nx ?_|refine B_nx ?_|((first|refine U_q (v:=?_) ?h1 ?_|refine U_ld (v:=?_) ?h1 ?_);case h1=>((try simp only[r8,r17,ho8,gV,hwp,hpp,hpl2,hpl3,Int.toNat_natCast,Nat.zero_add,go_sem])<;>rfl))|(refine U_sto (id:=?_) (i:=?_) (j:=?_) (q:=?_) (es:=?_) (cs:=?_) (vs:=?_) (es':=?_) ?h1 ?h2 ?h3 ?h4 ?h5 ?h6 ?h7 ?_;case h1|h2|h3|h4|h5|h6|h7=>((try simp only[r8,r17,ho8,gV,hwp,hpp,hpl2,hpl3,Int.toNat_natCast,Nat.zero_add,go_sem])<;>rfl))|(refine U_gs1 ?h1 ?_;case h1=>((try simp only[r8,r17,ho8,gV,hwp,hpp,hpl2,hpl3,Int.toNat_natCast,Nat.zero_add,go_sem])<;>rfl))|rw[put_some])))
       exact⟨r' - 1,by omega,p+1,by omega,Z1 r12,Z1 r13,Z1 r14,Z1 r16,Z0,Z1 r1,Z1 r2,Z1 r7,Z1 r8,Z1 r9,Z1 r10,Z1 r11,Z1 o2,Z1 ho7,Z1 hst⟩
      | false =>
       rw[Bool.false_or] at hst;(repeat (with_reducible (first|refine U_nil ?_|refine UC_rg ?_|refine X_nx ?_|refine B_nx ?_|((first|refine U_q (v:=?_) ?h1 ?_|refine U_ld (v:=?_) ?h1 ?_|refine U_gt ?h1 ?_);case h1=>((try simp only[r8,r13,r17,ho8,gV,gl,hwp,hpp,hpl2,hpl3,Int.toNat_natCast,Nat.zero_add,go_sem])<;>rfl))|(refine U_sto (id:=?_) (i:=?_) (j:=?_) (q:=?_) (es:=?_) (cs:=?_) (vs:=?_) (es':=?_) ?h1 ?h2 ?h3 ?h4 ?h5 ?h6 ?h7 ?_;case h1|h2|h3|h4|h5|h6|h7=>((try simp only[r8,r13,r17,ho8,gV,gl,hwp,hpp,hpl2,hpl3,Int.toNat_natCast,Nat.zero_add,go_sem])<;>rfl)))))
       exact⟨r' - 1,by omega,p+1,by omega,Z1 r12,Z1 r13,Z1 r14,Z1 r16,Z0,Z1 r1,Z1 r2,Z1 r7,Z1 r8,Z1 r9,Z1 r10,Z1 r11,Z1 o2,Z1 ho7,Z1 hst⟩
     ·have hpd:decide ((p:Int) < 200)=false:=decide_eq_false (by omega);have hp2:p=200:=by omega
      (repeat (with_reducible (first|refine U_nil ?_|refine UC_sq ?_|refine UC_rg ?_|refine UC_ex ?_|refine X_nx ?_|refine X_ex ?_|(refine U_q (v:=?_) ?h1 ?_;case h1=>((try simp only[r17,hpd,go_sem])<;>rfl))|(refine UC_cdf ?h1 ?_;case h1=>((try simp only[r17,hpd,go_sem])<;>rfl)))));have eF:∀ (f g:Nat→Bool),bl (mixB 200 f g)=bl f:=fun f g=>by
       apply List.map_congr_left;intro j hj
       have:j < 200:=by simpa using hj
       simp [blC,mixB,this]
      rw[hp2,eF] at ho7 ho8
      exact⟨rfl,⟨Z1 r14,Z1 r16⟩,Z1 r1,Z1 r2,Z1 r7,Z1 r8,Z1 r9,Z1 r10,Z1 r11,Z1 o2,Z1 ho7,Z1 ho8⟩
    clear r1 r2 r7 r8 r9 r10 r11 o2 ho7 ho8;rintro e o ⟨⟨r14,r16⟩,r1,r2,r7,r8,r9,r10,r11,o2,ho7,ho8⟩;cases hqa:Q.a with
    | true =>
     rw[hqa] at r10 han;rw[Bool.true_and] at han;(repeat (with_reducible (first|refine U_nil ?_|refine UC_sq ?_|refine UC_rg ?_|refine X_nx ?_|refine B_nx ?_|((first|refine U_q (v:=?_) ?h1 ?_|refine U_gt ?h1 ?_);case h1=>((try simp only[r9,r10,r11,r14,r16,hw,hwc,go_sem])<;>rfl)))))
     exact⟨r - 1,by omega,i+1,Q',by omega,hQ2.symm,Z1 r1,Z1 r2,Z1 r7,Z1 r8,Z0,Z1 han,Z0,Z1 o2,Z1 ho7,Z1 ho8⟩
    | false =>
     rw[hqa] at r10 han;rw[Bool.false_and] at han;(repeat (with_reducible (first|refine U_nil ?_|refine UC_sq ?_|refine UC_rg ?_|refine X_nx ?_|refine B_nx ?_|(refine U_q (v:=?_) ?h1 ?_;case h1=>((try simp only[r9,r10,r11,r14,r16,hw,hwc,go_sem])<;>rfl))|(refine U_gs2 ?h1 ?_;case h1=>((try simp only[r9,r10,r11,r14,r16,hw,hwc,go_sem])<;>rfl))|rw[put_some])))
     exact⟨r - 1,by omega,i+1,Q',by omega,hQ2.symm,Z1 r1,Z1 r2,Z1 r7,Z1 r8,Z0,Z1 han,Z0,Z1 o2,Z1 ho7,Z1 ho8⟩
   ·have hi:i=ps.length:=by
     have:¬ i < ps.length:=by simpa using hc1
     omega
    subst hi;rw[List.take_length] at hQ;(repeat (with_reducible (first|refine UC_ex ?_|refine X_ex ?_)))
    exact⟨rfl,Q,hQ,Z1 r7,Z1 r8,Z1 r9,Z1 ho7,Z1 ho8⟩
  rintro e o ⟨Q,hQ,r7,r8,r9,ho7,ho8⟩;rw[← hQ];(repeat (with_reducible (first|refine U_nil ?_|refine UC_sq ?_|refine UC_rg ?_|refine UC_rt ?_|refine X_nx ?_|(refine U_q (v:=?_) ?h1 ?_;case h1=>((try simp only[r7,r8,r9,go_sem])<;>rfl)))));refine E_3 (x:=.rw 18 1 0 200) (y:=.rw 19 1 0 200) (Z0) (Z0) (Z0) (fz_en ho7 ho8)
end Go.Proofs.Ytgiedknghbpdfaa
