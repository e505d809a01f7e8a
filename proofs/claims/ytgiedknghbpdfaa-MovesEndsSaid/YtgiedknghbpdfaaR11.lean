import Derived.Test.YtgiedknghbpdfaaR10
import Derived.Test.YtgiedknghbpdfaaKt

namespace Go.Proofs.Ytgiedknghbpdfaa
set_option linter.all false
attribute [-go_sem] swpOb renOb rfOb V.cells
theorem ml_cld (l:List (List Mv)):cldLL (l.map mlC)=true:=cldLL_map (fun x=>by
 rw[mlC,cldL,cld,cldLL_map (fun _=>rfl)];rfl) l
theorem bo_cld (l:List Bool):cldLL (l.map boC)=true:=cldLL_map (fun _=>rfl) l
set_option maxHeartbeats 4000000 in
theorem ends_law (n:Nd) (hs:small n):Pu F 4 [.ag (cel n)] (.bo true):=by
 have hsz:Pu F 9 [.ag (cel n),.i .i64 100] (.i .i64 (sizeF n 100)):=size_ok n hs 100 (by omega) (by omega) emp _ (fun _=>rfl)
 have haw:=awake_pu
 have hfo:Pu F 11 [.ag (cel n)] (.bo (formed n)):=formed2_ok n hs emp _ (fun _=>rfl)
 refine U_pure e4 rfl rfl (by simp only[go_sem,Bool.and_true]) ?_
 dsimp only[fn4,c4]
 by_cases hA:sizeF n 100 > 100
 ·have hA1:decide (sizeF n 100 > 100)=true:=by simpa using hA
  (repeat' (first|(with_reducible (first|refine U_nil ?_|refine UC_sq ?_|refine UC_rg ?_|refine UC_rt ?_|refine X_nx ?_|refine X_rt ?_|((first|refine U_q (v:=?_) ?h1 ?_|refine U_ld (v:=?_) ?h1 ?_|refine E_1 (v:=?_) ?h1 ?_);case h1=>((try simp only[hA1,List.take_succ_cons,List.take_zero,List.drop_succ_cons,List.drop_zero,go_sem])<;>rfl))|(refine U_box (cs:=?_) (cs':=?_) (n:=?_) ?h1 ?h2 ?h3 ?h4 ?_;case h1|h2|h3|h4=>((try simp only[hA1,List.take_succ_cons,List.take_zero,List.drop_succ_cons,List.drop_zero,go_sem])<;>rfl))|(refine U_gt ?h1 ?_;case h1=>((try simp only[hA1,List.take_succ_cons,List.take_zero,List.drop_succ_cons,List.drop_zero,go_sem])<;>rfl))|(refine UC_cdt ?h1 ?_;case h1=>((try simp only[hA1,List.take_succ_cons,List.take_zero,List.drop_succ_cons,List.drop_zero,go_sem])<;>rfl))))|((with_reducible refine U_pc (g:=8) (r:=.bo true) (vs:=?_) (ws:=?_) ?h1 ?h2 ?h3 ?h4 ?h5 ?_);(case h1=>((try simp only[hA1,List.take_succ_cons,List.take_zero,List.drop_succ_cons,List.drop_zero,go_sem])<;>rfl));(case h2=>refine fzsU_ok ?_;first|rfl|simp only[List.all_cons,List.all_nil,Bool.and_true,go_sem]);(case h5=>exact haw);(case h3=>first|exact Bool.or_eq_true_iff.2 (.inr rfl)|(refine Bool.or_eq_true_iff.2 (.inl ?_);simp only[clos,List.all_cons,List.all_nil,Bool.and_true,go_sem]));(case h4=>first|rfl|simp only[go_sem,Bool.and_true]))|((with_reducible refine U_pc (g:=9) (r:=.i .i64 (sizeF n 100)) (vs:=?_) (ws:=?_) ?h1 ?h2 ?h3 ?h4 ?h5 ?_);(case h1=>((try simp only[hA1,List.take_succ_cons,List.take_zero,List.drop_succ_cons,List.drop_zero,go_sem])<;>rfl));(case h2=>refine fzsU_ok ?_;first|rfl|simp only[List.all_cons,List.all_nil,Bool.and_true,go_sem]);(case h5=>exact hsz);(case h3=>first|exact Bool.or_eq_true_iff.2 (.inr rfl)|(refine Bool.or_eq_true_iff.2 (.inl ?_);simp only[clos,List.all_cons,List.all_nil,Bool.and_true,go_sem]));(case h4=>first|rfl|simp only[go_sem,Bool.and_true]))|with_reducible (refine U_gb (q:=?_) ?h1 (fun _=>?_) (fun _=>?_);case h1=>((try simp only[hA1,List.take_succ_cons,List.take_zero,List.drop_succ_cons,List.drop_zero,go_sem])<;>rfl))|with_reducible (refine UC_cdb (q:=?_) ?h1 (fun _=>?_) (fun _=>?_);case h1=>((try simp only[hA1,List.take_succ_cons,List.take_zero,List.drop_succ_cons,List.drop_zero,go_sem])<;>rfl))))
  rfl
 have hA1:decide (sizeF n 100 > 100)=false:=by simpa using hA
 have hc:cntN n≤900:=by
  have:=sizeF_cnt n 100 (by omega) (by omega)
  omega
 have hp:V.ag (auC noA)=.ag [.i .i64 0,.i .u64 0,.i .u64 0,.i .u64 0,.i .u64 0,.sl [],.i .i64 0,.i .i64 0,.sl [],.sl [],.sl [],.sl [],.sl [],.sl [],.bo false]:=rfl
 rcases make_cases n hs hc with⟨hf,hM⟩|⟨hf,hpl,hM⟩|⟨hf,hpl,hok,hcn,hM,hW,hLn⟩
 ·rw[hp] at hM
  rw[hf] at hfo
  (repeat' (first|(with_reducible (first|refine U_nil ?_|refine UC_sq ?_|refine UC_rg ?_|refine UC_sk ?_|refine UC_rt ?_|refine X_nx ?_|refine X_rt ?_|((first|refine U_q (v:=?_) ?h1 ?_|refine U_ld (v:=?_) ?h1 ?_|refine E_1 (v:=?_) ?h1 ?_|refine U_alc (n:=?_) ?h1 ?_);case h1=>((try simp only[hA1,List.take_succ_cons,List.take_zero,List.drop_succ_cons,List.drop_zero,go_sem])<;>rfl))|(refine U_box (cs:=?_) (cs':=?_) (n:=?_) ?h1 ?h2 ?h3 ?h4 ?_;case h1|h2|h3|h4=>((try simp only[hA1,List.take_succ_cons,List.take_zero,List.drop_succ_cons,List.drop_zero,go_sem])<;>rfl))|(refine U_sto (id:=?_) (i:=?_) (j:=?_) (q:=?_) (es:=?_) (cs:=?_) (vs:=?_) (es':=?_) ?h1 ?h2 ?h3 ?h4 ?h5 ?h6 ?h7 ?_;case h1|h2|h3|h4|h5|h6|h7=>((try simp only[hA1,List.take_succ_cons,List.take_zero,List.drop_succ_cons,List.drop_zero,go_sem])<;>rfl))|(refine U_gt ?h1 ?_;case h1=>((try simp only[hA1,List.take_succ_cons,List.take_zero,List.drop_succ_cons,List.drop_zero,go_sem])<;>rfl))|(refine UC_cdt ?h1 ?_;case h1=>((try simp only[hA1,List.take_succ_cons,List.take_zero,List.drop_succ_cons,List.drop_zero,go_sem])<;>rfl))|(refine UC_cdf ?h1 ?_;case h1=>((try simp only[hA1,List.take_succ_cons,List.take_zero,List.drop_succ_cons,List.drop_zero,go_sem])<;>rfl))))|((with_reducible refine U_pc (g:=8) (r:=.bo true) (vs:=?_) (ws:=?_) ?h1 ?h2 ?h3 ?h4 ?h5 ?_);(case h1=>((try simp only[hA1,List.take_succ_cons,List.take_zero,List.drop_succ_cons,List.drop_zero,go_sem])<;>rfl));(case h2=>refine fzsU_ok ?_;first|rfl|simp only[List.all_cons,List.all_nil,Bool.and_true,go_sem]);(case h5=>exact haw);(case h3=>first|exact Bool.or_eq_true_iff.2 (.inr rfl)|(refine Bool.or_eq_true_iff.2 (.inl ?_);simp only[clos,List.all_cons,List.all_nil,Bool.and_true,go_sem]));(case h4=>first|rfl|simp only[go_sem,Bool.and_true]))|((with_reducible refine U_pc (g:=9) (r:=.i .i64 (sizeF n 100)) (vs:=?_) (ws:=?_) ?h1 ?h2 ?h3 ?h4 ?h5 ?_);(case h1=>((try simp only[hA1,List.take_succ_cons,List.take_zero,List.drop_succ_cons,List.drop_zero,go_sem])<;>rfl));(case h2=>refine fzsU_ok ?_;first|rfl|simp only[List.all_cons,List.all_nil,Bool.and_true,go_sem]);(case h5=>exact hsz);(case h3=>first|exact Bool.or_eq_true_iff.2 (.inr rfl)|(refine Bool.or_eq_true_iff.2 (.inl ?_);simp only[clos,List.all_cons,List.all_nil,Bool.and_true,go_sem]));(case h4=>first|rfl|simp only[go_sem,Bool.and_true]))|((with_reducible refine U_pc (g:=11) (r:=.bo false) (vs:=?_) (ws:=?_) ?h1 ?h2 ?h3 ?h4 ?h5 ?_);(case h1=>((try simp only[hA1,List.take_succ_cons,List.take_zero,List.drop_succ_cons,List.drop_zero,go_sem])<;>rfl));(case h2=>refine fzsU_ok ?_;first|rfl|simp only[List.all_cons,List.all_nil,Bool.and_true,go_sem]);(case h5=>exact hfo);(case h3=>first|exact Bool.or_eq_true_iff.2 (.inr rfl)|(refine Bool.or_eq_true_iff.2 (.inl ?_);simp only[clos,List.all_cons,List.all_nil,Bool.and_true,go_sem]));(case h4=>first|rfl|simp only[go_sem,Bool.and_true]))|((with_reducible refine U_pc (g:=10) (r:=.tp [.ag [.i .i64 0,.i .u64 0,.i .u64 0,.i .u64 0,.i .u64 0,.sl [],.i .i64 0,.i .i64 0,.sl [],.sl [],.sl [],.sl [],.sl [],.sl [],.bo false],.i .i64 1]) (vs:=?_) (ws:=?_) ?h1 ?h2 ?h3 ?h4 ?h5 ?_);(case h1=>((try simp only[hA1,List.take_succ_cons,List.take_zero,List.drop_succ_cons,List.drop_zero,go_sem])<;>rfl));(case h2=>refine fzsU_ok ?_;first|rfl|simp only[List.all_cons,List.all_nil,Bool.and_true,go_sem]);(case h5=>exact hM);(case h3=>first|exact Bool.or_eq_true_iff.2 (.inr rfl)|(refine Bool.or_eq_true_iff.2 (.inl ?_);simp only[clos,List.all_cons,List.all_nil,Bool.and_true,go_sem]));(case h4=>first|rfl|simp only[go_sem,Bool.and_true]))|with_reducible (refine U_gb (q:=?_) ?h1 (fun _=>?_) (fun _=>?_);case h1=>((try simp only[hA1,List.take_succ_cons,List.take_zero,List.drop_succ_cons,List.drop_zero,go_sem])<;>rfl))|with_reducible (refine UC_cdb (q:=?_) ?h1 (fun _=>?_) (fun _=>?_);case h1=>((try simp only[hA1,List.take_succ_cons,List.take_zero,List.drop_succ_cons,List.drop_zero,go_sem])<;>rfl))))
  rfl
 ·rw[hp] at hM
  rw[hf] at hfo
  have hof:=rof_pu n ⟨hs,hf⟩ hc
  rw[hpl,if_neg (by decide)] at hof
  have hq:noP=.ag [.i .i64 0,.i .u64 0,.i .u64 0,.i .u64 0,.i .u64 0,.sl [],.i .i64 0,.i .i64 0,.sl [],.sl [],.sl []]:=rfl
  rw[hq] at hof
  (repeat' (first|(with_reducible (first|refine U_nil ?_|refine UC_sq ?_|refine UC_rg ?_|refine UC_sk ?_|refine X_nx ?_|((first|refine U_q (v:=?_) ?h1 ?_|refine U_ld (v:=?_) ?h1 ?_|refine U_alc (n:=?_) ?h1 ?_);case h1=>((try simp only[hA1,List.take_succ_cons,List.take_zero,List.drop_succ_cons,List.drop_zero,go_sem])<;>rfl))|(refine U_box (cs:=?_) (cs':=?_) (n:=?_) ?h1 ?h2 ?h3 ?h4 ?_;case h1|h2|h3|h4=>((try simp only[hA1,List.take_succ_cons,List.take_zero,List.drop_succ_cons,List.drop_zero,go_sem])<;>rfl))|(refine U_sto (id:=?_) (i:=?_) (j:=?_) (q:=?_) (es:=?_) (cs:=?_) (vs:=?_) (es':=?_) ?h1 ?h2 ?h3 ?h4 ?h5 ?h6 ?h7 ?_;case h1|h2|h3|h4|h5|h6|h7=>((try simp only[hA1,List.take_succ_cons,List.take_zero,List.drop_succ_cons,List.drop_zero,go_sem])<;>rfl))|(refine U_gt ?h1 ?_;case h1=>((try simp only[hA1,List.take_succ_cons,List.take_zero,List.drop_succ_cons,List.drop_zero,go_sem])<;>rfl))|(refine UC_cdf ?h1 ?_;case h1=>((try simp only[hA1,List.take_succ_cons,List.take_zero,List.drop_succ_cons,List.drop_zero,go_sem])<;>rfl))))|((with_reducible refine U_pc (g:=8) (r:=.bo true) (vs:=?_) (ws:=?_) ?h1 ?h2 ?h3 ?h4 ?h5 ?_);(case h1=>((try simp only[hA1,List.take_succ_cons,List.take_zero,List.drop_succ_cons,List.drop_zero,go_sem])<;>rfl));(case h2=>refine fzsU_ok ?_;first|rfl|simp only[List.all_cons,List.all_nil,Bool.and_true,go_sem]);(case h5=>exact haw);(case h3=>first|exact Bool.or_eq_true_iff.2 (.inr rfl)|(refine Bool.or_eq_true_iff.2 (.inl ?_);simp only[clos,List.all_cons,List.all_nil,Bool.and_true,go_sem]));(case h4=>first|rfl|simp only[go_sem,Bool.and_true]))|((with_reducible refine U_pc (g:=9) (r:=.i .i64 (sizeF n 100)) (vs:=?_) (ws:=?_) ?h1 ?h2 ?h3 ?h4 ?h5 ?_);(case h1=>((try simp only[hA1,List.take_succ_cons,List.take_zero,List.drop_succ_cons,List.drop_zero,go_sem])<;>rfl));(case h2=>refine fzsU_ok ?_;first|rfl|simp only[List.all_cons,List.all_nil,Bool.and_true,go_sem]);(case h5=>exact hsz);(case h3=>first|exact Bool.or_eq_true_iff.2 (.inr rfl)|(refine Bool.or_eq_true_iff.2 (.inl ?_);simp only[clos,List.all_cons,List.all_nil,Bool.and_true,go_sem]));(case h4=>first|rfl|simp only[go_sem,Bool.and_true]))|((with_reducible refine U_pc (g:=11) (r:=.bo true) (vs:=?_) (ws:=?_) ?h1 ?h2 ?h3 ?h4 ?h5 ?_);(case h1=>((try simp only[hA1,List.take_succ_cons,List.take_zero,List.drop_succ_cons,List.drop_zero,go_sem])<;>rfl));(case h2=>refine fzsU_ok ?_;first|rfl|simp only[List.all_cons,List.all_nil,Bool.and_true,go_sem]);(case h5=>exact hfo);(case h3=>first|exact Bool.or_eq_true_iff.2 (.inr rfl)|(refine Bool.or_eq_true_iff.2 (.inl ?_);simp only[clos,List.all_cons,List.all_nil,Bool.and_true,go_sem]));(case h4=>first|rfl|simp only[go_sem,Bool.and_true]))|((with_reducible refine U_pc (g:=10) (r:=.tp [.ag [.i .i64 0,.i .u64 0,.i .u64 0,.i .u64 0,.i .u64 0,.sl [],.i .i64 0,.i .i64 0,.sl [],.sl [],.sl [],.sl [],.sl [],.sl [],.bo false],.i .i64 3]) (vs:=?_) (ws:=?_) ?h1 ?h2 ?h3 ?h4 ?h5 ?_);(case h1=>((try simp only[hA1,List.take_succ_cons,List.take_zero,List.drop_succ_cons,List.drop_zero,go_sem])<;>rfl));(case h2=>refine fzsU_ok ?_;first|rfl|simp only[List.all_cons,List.all_nil,Bool.and_true,go_sem]);(case h5=>exact hM);(case h3=>first|exact Bool.or_eq_true_iff.2 (.inr rfl)|(refine Bool.or_eq_true_iff.2 (.inl ?_);simp only[clos,List.all_cons,List.all_nil,Bool.and_true,go_sem]));(case h4=>first|rfl|simp only[go_sem,Bool.and_true]))|with_reducible (refine U_gb (q:=?_) ?h1 (fun _=>?_) (fun _=>?_);case h1=>((try simp only[hA1,List.take_succ_cons,List.take_zero,List.drop_succ_cons,List.drop_zero,go_sem])<;>rfl))|with_reducible (refine UC_cdb (q:=?_) ?h1 (fun _=>?_) (fun _=>?_);case h1=>((try simp only[hA1,List.take_succ_cons,List.take_zero,List.drop_succ_cons,List.drop_zero,go_sem])<;>rfl))))
  refine U_pc (vs:=[.ag (cel n)]) (ws:=[.ag (cel n)]) (by simp only[go_sem]) (fzsU_ok ?_) (Bool.or_eq_true_iff.2 (.inl ?_)) ?_ hof ?_
  ·simp only[List.all_cons,List.all_nil,Bool.and_true,okf_cel]
  ·simp only[clos,List.all_cons,List.all_nil,Bool.and_true,go_sem]
  ·rfl
  (repeat (with_reducible (first|refine U_nil ?_|refine UC_sq ?_|refine UC_rg ?_|refine UC_rt ?_|refine X_nx ?_|refine X_rt ?_|((first|refine U_q (v:=?_) ?h1 ?_|refine U_ld (v:=?_) ?h1 ?_|refine E_1 (v:=?_) ?h1 ?_|refine U_alc (n:=?_) ?h1 ?_);case h1=>((try simp only[go_sem])<;>rfl))|(refine U_sto (id:=?_) (i:=?_) (j:=?_) (q:=?_) (es:=?_) (cs:=?_) (vs:=?_) (es':=?_) ?h1 ?h2 ?h3 ?h4 ?h5 ?h6 ?h7 ?_;case h1|h2|h3|h4|h5|h6|h7=>((try simp only[go_sem])<;>rfl))|(refine U_gt ?h1 ?_;case h1=>((try simp only[go_sem])<;>rfl))|(refine UC_cdt ?h1 ?_;case h1=>((try simp only[go_sem])<;>rfl)))))
  rfl
 ·rw[hf] at hfo
  have hof:=rof_pu n ⟨hs,hf⟩ hc
  rw[hpl,if_pos rfl] at hof
  have hcn2:cntN (simpleN n)≤900:=by omega
  clear hp hcn hc
  generalize simpleN n=t at hpl hok hM hW hLn hof hcn2
  have hSl:=sets_lc t hok.2
  have hFi:=first_eq t hok.2
  have hEm:(makeT t).empty=nullB t:=(wk_en t 0 0 [] hok.2).2
  have hLa:(makeT t).last=(List.range (lcN t+1)).map (enN t 0).l:=by
   simp only[makeT,hSl]
   exact List.map_congr_left fun p _=>(wk_en t 0 0 [] hok.2).1.l p
  have hn41:lcN t≤40:=by
   have h1:=hW.n
   have h2:(makeT t).sets.length=lcN t+1:=hSl
   omega
  have hE:=rends_pu t 0 hok hcn2 (by omega)
  have hTo:=told_pu t hok.1 hok.2
  have hEc:=enN_c t 0
  have hmo:(makeT t).moves.length=lcN t+1:=by rw[hW.lm];exact hSl
  have hse:(makeT t).sets.length=lcN t+1:=hSl
  have hmp:mpR t (plT t)=.ag (mpC (makeT t).tree (makeT t).sets (makeT t).scopes (makeT t).around):=rfl
  rw[hmp] at hof
  have htr:(makeT t).tree=t:=rfl
  clear hW hLn hSl hpl hmp
  generalize makeT t=A at *
  obtain⟨⟨ak,as_,ap,al,ah⟩,S,Cs,R,Fi,Mo,La,Em⟩:=A
  dsimp only at hFi hEm hLa hmo hse htr
  have hlF:Fi.length=((List.range (lcN t+1)).filter (enN t 0).f).length:=by rw[hFi]
  simp only[auC,mpC,cel_mk,nd8,List.cons_append,List.nil_append] at hM hof
  rw[← htr] at hE hTo
  rw[cel_mk] at hE hTo
  simp only[nd8] at hE hTo
  rw[htr] at hE hTo
  generalize enN t 0=Q at hFi hLa hE hEc hlF
  rw[hEc] at hE
  generalize lcN t=k at *
  rw[← hEm] at hTo
  clear hok hcn2 hEm htr hf
  generalize voidB t=vo at hTo
  clear t
  have hLl:La.length=k+1:=by rw[hLa];simp
  have hw:=wrapN1 (i:=k) (by omega)
  (repeat' (first|(with_reducible (first|refine U_nil ?_|refine UC_sq ?_|refine UC_rg ?_|refine UC_sk ?_|refine X_nx ?_|((first|refine U_q (v:=?_) ?h1 ?_|refine U_ld (v:=?_) ?h1 ?_);case h1=>((try simp only[hA1,List.take_succ_cons,List.take_zero,List.drop_succ_cons,List.drop_zero,go_sem])<;>rfl))|(refine U_box (cs:=?_) (cs':=?_) (n:=?_) ?h1 ?h2 ?h3 ?h4 ?_;case h1|h2|h3|h4=>((try simp only[hA1,List.take_succ_cons,List.take_zero,List.drop_succ_cons,List.drop_zero,go_sem])<;>rfl))|(refine U_gt ?h1 ?_;case h1=>((try simp only[hA1,List.take_succ_cons,List.take_zero,List.drop_succ_cons,List.drop_zero,go_sem])<;>rfl))|(refine UC_cdf ?h1 ?_;case h1=>((try simp only[hA1,List.take_succ_cons,List.take_zero,List.drop_succ_cons,List.drop_zero,go_sem])<;>rfl))))|((with_reducible refine U_pc (g:=8) (r:=.bo true) (vs:=?_) (ws:=?_) ?h1 ?h2 ?h3 ?h4 ?h5 ?_);(case h1=>((try simp only[hA1,List.take_succ_cons,List.take_zero,List.drop_succ_cons,List.drop_zero,go_sem])<;>rfl));(case h2=>refine fzsU_ok ?_;first|rfl|simp only[List.all_cons,List.all_nil,Bool.and_true,go_sem]);(case h5=>exact haw);(case h3=>first|exact Bool.or_eq_true_iff.2 (.inr rfl)|(refine Bool.or_eq_true_iff.2 (.inl ?_);simp only[clos,List.all_cons,List.all_nil,Bool.and_true,go_sem]));(case h4=>first|rfl|simp only[go_sem,Bool.and_true]))|((with_reducible refine U_pc (g:=9) (r:=.i .i64 (sizeF n 100)) (vs:=?_) (ws:=?_) ?h1 ?h2 ?h3 ?h4 ?h5 ?_);(case h1=>((try simp only[hA1,List.take_succ_cons,List.take_zero,List.drop_succ_cons,List.drop_zero,go_sem])<;>rfl));(case h2=>refine fzsU_ok ?_;first|rfl|simp only[List.all_cons,List.all_nil,Bool.and_true,go_sem]);(case h5=>exact hsz);(case h3=>first|exact Bool.or_eq_true_iff.2 (.inr rfl)|(refine Bool.or_eq_true_iff.2 (.inl ?_);simp only[clos,List.all_cons,List.all_nil,Bool.and_true,go_sem]));(case h4=>first|rfl|simp only[go_sem,Bool.and_true]))|with_reducible (refine U_gb (q:=?_) ?h1 (fun _=>?_) (fun _=>?_);case h1=>((try simp only[hA1,List.take_succ_cons,List.take_zero,List.drop_succ_cons,List.drop_zero,go_sem])<;>rfl))|with_reducible (refine UC_cdb (q:=?_) ?h1 (fun _=>?_) (fun _=>?_);case h1=>((try simp only[hA1,List.take_succ_cons,List.take_zero,List.drop_succ_cons,List.drop_zero,go_sem])<;>rfl))))
  refine U_pc (vs:=[.ag (cel n)]) (ws:=[.ag (cel n)]) (by simp only[go_sem]) (fzsU_ok ?_) (Bool.or_eq_true_iff.2 (.inl ?_)) ?_ hM ?_
  ·simp only[List.all_cons,List.all_nil,Bool.and_true,okf_cel]
  ·simp only[clos,List.all_cons,List.all_nil,Bool.and_true,go_sem]
  ·simp only[go_sem,u4_cld,sc_cld,ls_cld,cldLL_in,ml_cld,bo_cld,Bool.and_true]
  (repeat (with_reducible (first|refine U_nil ?_|refine UC_sq ?_|refine UC_rg ?_|refine X_nx ?_|((first|refine U_q (v:=?_) ?h1 ?_|refine U_ld (v:=?_) ?h1 ?_|refine U_alc (n:=?_) ?h1 ?_);case h1=>((try simp only[go_sem])<;>rfl))|(refine U_sto (id:=?_) (i:=?_) (j:=?_) (q:=?_) (es:=?_) (cs:=?_) (vs:=?_) (es':=?_) ?h1 ?h2 ?h3 ?h4 ?h5 ?h6 ?h7 ?_;case h1|h2|h3|h4|h5|h6|h7=>((try simp only[go_sem])<;>rfl)))))
  (refine U_pcr (r:=.bo true) hfo ?h1 ?h2 rfl ?_;(case h1=>((try simp only[go_sem])<;>rfl));(case h2=>simp only[List.all_cons,List.all_nil,Bool.and_true,go_sem]))
  (repeat (with_reducible (first|refine U_nil ?_|refine UC_sq ?_|refine UC_rg ?_|refine UC_sk ?_|refine X_nx ?_|((first|refine U_q (v:=?_) ?h1 ?_|refine U_ld (v:=?_) ?h1 ?_);case h1=>((try simp only[go_sem])<;>rfl))|(refine UC_cdf ?h1 ?_;case h1=>((try simp only[go_sem])<;>rfl)))))
  refine U_pc (vs:=[.ag (cel n)]) (ws:=[.ag (cel n)]) (by simp only[go_sem]) (fzsU_ok ?_) (Bool.or_eq_true_iff.2 (.inl ?_)) ?_ hof ?_
  ·simp only[List.all_cons,List.all_nil,Bool.and_true,okf_cel]
  ·simp only[clos,List.all_cons,List.all_nil,Bool.and_true,go_sem]
  ·simp only[go_sem,u4_cld,sc_cld,ls_cld,cldLL_in,ml_cld,bo_cld,Bool.and_true]
  (repeat (with_reducible (first|refine U_nil ?_|refine UC_sq ?_|refine UC_rg ?_|refine UC_sk ?_|refine X_nx ?_|((first|refine U_q (v:=?_) ?h1 ?_|refine U_ld (v:=?_) ?h1 ?_|refine U_alc (n:=?_) ?h1 ?_);case h1=>((try simp only[go_sem])<;>rfl))|(refine U_sto (id:=?_) (i:=?_) (j:=?_) (q:=?_) (es:=?_) (cs:=?_) (vs:=?_) (es':=?_) ?h1 ?h2 ?h3 ?h4 ?h5 ?h6 ?h7 ?_;case h1|h2|h3|h4|h5|h6|h7=>((try simp only[go_sem])<;>rfl))|(refine UC_cdf ?h1 ?_;case h1=>((try simp only[go_sem])<;>rfl)))))
  refine U_pc (vs:=[.ag [.i .i64 ak,.i .u64 (as_ 0),.i .u64 (as_ 1),.i .u64 (as_ 2),.i .u64 (as_ 3),.sl (ap.map cel),.i .i64 al,.i .i64 ah],.i .i64 0]) (ws:=[.ag [.i .i64 ak,.i .u64 (as_ 0),.i .u64 (as_ 1),.i .u64 (as_ 2),.i .u64 (as_ 3),.sl (ap.map cel),.i .i64 al,.i .i64 ah],.i .i64 0]) (by simp only[go_sem]) (by rfl) (Bool.or_eq_true_iff.2 (.inl ?_)) ?_ hE ?_
  ·rfl
  ·simp only[cldL,cld,bl_cld,Bool.and_true]
  (repeat (with_reducible (first|refine U_nil ?_|refine UC_sq ?_|refine UC_rg ?_|refine X_nx ?_|((first|refine U_q (v:=?_) ?h1 ?_|refine U_ld (v:=?_) ?h1 ?_);case h1=>((try simp only[go_sem])<;>rfl)))))
  refine U_pc (vs:=[.ag [.i .i64 ak,.i .u64 (as_ 0),.i .u64 (as_ 1),.i .u64 (as_ 2),.i .u64 (as_ 3),.sl (ap.map cel),.i .i64 al,.i .i64 ah]]) (ws:=[.ag [.i .i64 ak,.i .u64 (as_ 0),.i .u64 (as_ 1),.i .u64 (as_ 2),.i .u64 (as_ 3),.sl (ap.map cel),.i .i64 al,.i .i64 ah]]) (by simp only[go_sem]) (by rfl) (Bool.or_eq_true_iff.2 (.inr rfl)) rfl hTo ?_
  have hee:(!Em==Em)=false:=by cases Em<;>rfl
  have hne:(((k+1:Nat):Int) != ((k+1:Nat):Int))=false:=by simp
  (repeat (with_reducible (first|refine U_nil ?_|refine UC_sq ?_|refine UC_rg ?_|refine UC_bk ?_|refine UC_sk ?_|refine X_nx ?_|((first|refine U_q (v:=?_) ?h1 ?_|refine U_ld (v:=?_) ?h1 ?_);case h1=>((try simp only[hee,hw,hLl,hmo,hse,hne,List.length_map,go_sem])<;>rfl))|(refine U_gt ?h1 ?_;case h1=>((try simp only[hee,hw,hLl,hmo,hse,hne,List.length_map,go_sem])<;>rfl))|(refine UC_cdf ?h1 ?_;case h1=>((try simp only[hee,hw,hLl,hmo,hse,hne,List.length_map,go_sem])<;>rfl)))))
  refine UC_cutx (fun e o=>e 3=.pt 3 0 0∧e 12=.i .i64 Fi.length∧o 3=some (.row 15 [[.i .i64 ak,.i .u64 (as_ 0),.i .u64 (as_ 1),.i .u64 (as_ 2),.i .u64 (as_ 3),.sl (ap.map cel),.i .i64 al,.i .i64 ah,.sl (S.map u4),.sl (Cs.map scC),.sl (R.map lsC),.sl (Fi.map inC),.sl (Mo.map mlC),.sl (La.map boC),.bo Em]])) ?_ ?_
  ·refine U_lp (fun r e o=>∃ p:Nat,p+r=k+1∧e 12=.i .i64 ((List.range p).filter Q.f).length∧e 13=.i .i64 p∧e 3=.pt 3 0 0∧e 7=.sl (bl Q.f)∧e 8=.sl (bl Q.l)∧e 9=.i .i64 k∧o 3=some (.row 15 [[.i .i64 ak,.i .u64 (as_ 0),.i .u64 (as_ 1),.i .u64 (as_ 2),.i .u64 (as_ 3),.sl (ap.map cel),.i .i64 al,.i .i64 ah,.sl (S.map u4),.sl (Cs.map scC),.sl (R.map lsC),.sl (Fi.map inC),.sl (Mo.map mlC),.sl (La.map boC),.bo Em]])) (k:=k+1) ?_ (Call_le F) ?_
   ·exact⟨0,by omega,by (simp only[go_sem]<;>rfl),by (simp only[go_sem]<;>rfl),by simp only[go_sem],by simp only[go_sem],by simp only[go_sem],by simp only[go_sem],by simp only[go_sem]⟩
   rintro r e o ⟨p,hpr,r12,r13,r3,r7,r8,r9,o3⟩
   dsimp only[b4_0]
   by_cases hp:p < k+1
   ·have c1:decide ((p:Int)≤(k:Int))=true:=decide_eq_true (by omega)
    have hpp:(0:Int)≤(p:Int):=by omega
    have gl:=bl_at Q.l (j:=p) (by omega)
    have gf:=bl_at Q.f (j:=p) (by omega)
    have gL:(La.map boC)[p]?=some [.bo (Q.l p)]:=by
     rw[List.getElem?_map,hLa];simp [hp,boC]
    have hbb:(!Q.l p==Q.l p)=false:=by cases Q.l p<;>rfl
    have hwp:=wrapN1 (i:=p) (by omega)
    have hfs:=filt_succ Q.f p
    have hfa:=filt_at Q.f (k+1) p hp
    have hfl:((List.range p).filter Q.f).length≤p:=by
     have:=List.length_filter_le Q.f (List.range p)
     rw[List.length_range] at this;exact this
    generalize ((List.range p).filter Q.f).length=at_ at r12 hfs hfa hfl
    cases hf:Q.f p with
    | false =>
     rw[hf] at gf hfs
     (repeat (with_reducible (first|refine U_nil ?_|refine UC_sq ?_|refine UC_rg ?_|refine UC_bk ?_|refine UC_sk ?_|refine X_nx ?_|refine B_nx ?_|((first|refine U_q (v:=?_) ?h1 ?_|refine U_ld (v:=?_) ?h1 ?_);case h1=>((try simp only[r3,r7,r8,r9,r13,o3,c1,hpp,gl,gf,gL,hbb,hwp,Int.toNat_natCast,go_sem])<;>rfl))|(refine UC_cdt ?h1 ?_;case h1=>((try simp only[r3,r7,r8,r9,r13,o3,c1,hpp,gl,gf,gL,hbb,hwp,Int.toNat_natCast,go_sem])<;>rfl))|(refine UC_cdf ?h1 ?_;case h1=>((try simp only[r3,r7,r8,r9,r13,o3,c1,hpp,gl,gf,gL,hbb,hwp,Int.toNat_natCast,go_sem])<;>rfl)))))
     rw[if_neg (by decide),Nat.add_zero] at hfs
     exact⟨r - 1,by omega,p+1,by omega,by rw[hfs];simp only[r12,go_sem],by simp only[go_sem],by simp only[r3,go_sem],by simp only[r7,go_sem],by simp only[r8,go_sem],by simp only[r9,go_sem],by simp only[o3,go_sem]⟩
    | true =>
     rw[hf] at gf hfs
     have hfa:=hfa hf
     rw[if_pos rfl] at hfs
     rw[← hFi] at hfa
     have hal:at_ < Fi.length:=by
      by_cases h:at_ < Fi.length
      ·exact h
      ·rw[List.getElem?_eq_none (by omega)] at hfa;cases hfa
     have c2:decide ((at_:Int)≥(Fi.length:Int))=false:=decide_eq_false (by omega)
     have hap:(0:Int)≤(at_:Int):=by omega
     have gF:(Fi.map inC)[at_]?=some [.i .i64 p]:=by rw[List.getElem?_map,hfa];rfl
     have c3:((p:Int) != (p:Int))=false:=by simp
     have hwa:=wrapN1 (i:=at_) (by omega)
     (repeat (with_reducible (first|refine U_nil ?_|refine UC_sq ?_|refine UC_rg ?_|refine UC_bk ?_|refine UC_sk ?_|refine X_nx ?_|refine B_nx ?_|((first|refine U_q (v:=?_) ?h1 ?_|refine U_ld (v:=?_) ?h1 ?_);case h1=>((try simp only[r3,r7,r8,r9,r12,r13,o3,c1,c2,c3,hpp,hap,gl,gf,gL,gF,hbb,hwp,hwa,Int.toNat_natCast,List.length_map,go_sem])<;>rfl))|(refine U_gt ?h1 ?_;case h1=>((try simp only[r3,r7,r8,r9,r12,r13,o3,c1,c2,c3,hpp,hap,gl,gf,gL,gF,hbb,hwp,hwa,Int.toNat_natCast,List.length_map,go_sem])<;>rfl))|(refine UC_cdt ?h1 ?_;case h1=>((try simp only[r3,r7,r8,r9,r12,r13,o3,c1,c2,c3,hpp,hap,gl,gf,gL,gF,hbb,hwp,hwa,Int.toNat_natCast,List.length_map,go_sem])<;>rfl))|(refine UC_cdf ?h1 ?_;case h1=>((try simp only[r3,r7,r8,r9,r12,r13,o3,c1,c2,c3,hpp,hap,gl,gf,gL,gF,hbb,hwp,hwa,Int.toNat_natCast,List.length_map,go_sem])<;>rfl)))))
     exact⟨r - 1,by omega,p+1,by omega,by rw[hfs];simp only[go_sem],by simp only[go_sem],by simp only[r3,go_sem],by simp only[r7,go_sem],by simp only[r8,go_sem],by simp only[r9,go_sem],by simp only[o3,go_sem]⟩
   ·have c1:decide ((p:Int)≤(k:Int))=false:=decide_eq_false (by omega)
    have hp2:p=k+1:=by omega
    rw[hp2,← hlF] at r12
    (repeat (with_reducible (first|refine U_nil ?_|refine UC_sq ?_|refine UC_rg ?_|refine UC_ex ?_|refine X_nx ?_|refine X_ex ?_|(refine U_q (v:=?_) ?h1 ?_;case h1=>((try simp only[r9,r13,c1,go_sem])<;>rfl))|(refine UC_cdf ?h1 ?_;case h1=>((try simp only[r9,r13,c1,go_sem])<;>rfl)))))
    exact⟨rfl,by simp only[r3,go_sem],by simp only[r12,go_sem],by simp only[o3,go_sem]⟩
  rintro e o ⟨r3,r12,o3⟩
  have c4:((Fi.length:Int)==(Fi.length:Int))=true:=by simp
  (repeat (with_reducible (first|refine U_nil ?_|refine UC_sq ?_|refine UC_rg ?_|refine UC_rt ?_|refine X_nx ?_|((first|refine U_q (v:=?_) ?h1 ?_|refine U_ld (v:=?_) ?h1 ?_|refine E_1 (v:=?_) ?h1 ?_);case h1=>((try simp only[r3,r12,o3,c4,List.length_map,go_sem])<;>rfl)))))
  rfl
end Go.Proofs.Ytgiedknghbpdfaa
