import Derived.Test.YtgiedknghbpdfaaKk
import Derived.Test.YtgiedknghbpdfaaM20

namespace Go.Proofs.Ytgiedknghbpdfaa
set_option linter.all false
attribute [-go_sem] swpOb renOb rfOb V.cells
theorem voidAny_cnt:∀ (ps:List Nd),voidAny ps=decide (((ps.countP voidB:Nat):Int) > 0)
 | []=>rfl
 | p::ps=>by
  rw[voidAny,voidAny_cnt ps,List.countP_cons];cases voidB p
  ·simp
  ·simp
theorem nullAny_cnt:∀ (ps:List Nd),nullAny ps=decide (((ps.countP nullB:Nat):Int) > 0)
 | []=>rfl
 | p::ps=>by
  rw[nullAny,nullAny_cnt ps,List.countP_cons];cases nullB p
  ·simp
  ·simp
theorem voidAll_cnt:∀ (ps:List Nd),voidAll ps=(((ps.countP voidB:Nat):Int)==(ps.length:Int))
 | []=>rfl
 | p::ps=>by
  have hle:=List.countP_le_length (p:=voidB) (l:=ps);rw[voidAll,voidAll_cnt ps,List.countP_cons,List.length_cons,Bool.eq_iff_iff];cases voidB p
  ·simp;omega
  ·simp
theorem nullAll_cnt:∀ (ps:List Nd),nullAll ps=(((ps.countP nullB:Nat):Int)==(ps.length:Int))
 | []=>rfl
 | p::ps=>by
  have hle:=List.countP_le_length (p:=nullB) (l:=ps);rw[nullAll,nullAll_cnt ps,List.countP_cons,List.length_cons,Bool.eq_iff_iff];cases nullB p
  ·simp;omega
  ·simp
theorem wrapN1 {i:Nat} (h:i < 9223372036854775807):IntKind.i64.wrap ((i:Int)+1)=((i+1:Nat):Int):=by rw[wrap_i64 (by omega) (by omega)];rfl
theorem cels_at {l:List Nd} {i:Nat} (hi:i < l.length):(l.map cel)[i]?=some (cel l[i]):=by
 rw[List.getElem?_map,List.getElem?_eq_getElem hi];rfl
theorem cel_tk (n:Nd):List.take 8 (cel n)=cel n:=List.take_of_length_le (by rw[cel_len];exact Nat.le_refl _)
theorem cntT (f:Nd→Bool) {l:List Nd} {i:Nat} (hi:i < l.length):(l.take (i+1)).countP f=(l.take i).countP f+(if f l[i] then 1 else 0):=by
 rw[List.take_add_one,List.getElem?_eq_getElem hi,Option.toList_some,List.countP_append,List.countP_singleton]
attribute [go_sem] cel_len cel_tk
set_option maxHeartbeats 2000000 in
theorem told_pu:∀ (n:Nd),small n→formed n=true→Pu F 14 [.ag (cel n)] (.tp [.bo (voidB n),.bo (nullB n)])
 | .mk k s ps lo hi,hs,hf=>by
  rw[formed,Bool.and_eq_true,formedL_all] at hf;have ih:∀ p∈ps,Pu F 14 [.ag (cel p)] (.tp [.bo (voidB p),.bo (nullB p)]):=fun p hp=>told_pu p ((smallL_all ps).1 hs.2.2 p hp) (List.all_eq_true.1 hf.2 p hp);have hlen:=hs.2.1;have hsh:=hf.1;rw[cel_mk];simp only[nd8];refine U_pure e14 rfl rfl (by simp only[go_sem,Bool.and_true]) ?_;dsimp only[fn14,c14];(repeat (with_reducible (first|refine U_nil ?_|refine UC_sq ?_|refine UC_rg ?_|refine UC_bk ?_|refine X_nx ?_|(refine U_q (v:=?_) ?h1 ?_;case h1=>((try simp only[go_sem])<;>rfl))|(refine U_box (cs:=?_) (cs':=?_) (n:=?_) ?h1 ?h2 ?h3 ?h4 ?_;case h1|h2|h3|h4=>((try simp only[go_sem])<;>rfl)))));refine UC_cutx (fun e o=>e 1=.pt 1 0 0∧e 4=.i .i64 (ps.countP voidB)∧e 5=.i .i64 (ps.countP nullB)∧o 1=some (.row 8 [[.i .i64 k,.i .u64 (s 0),.i .u64 (s 1),.i .u64 (s 2),.i .u64 (s 3),.sl (ps.map cel),.i .i64 lo,.i .i64 hi]])) ?_ ?_
  ·refine U_lp (fun r e o=>∃ i:Nat,i+r=ps.length∧e 1=.pt 1 0 0∧e 4=.i .i64 ((ps.take i).countP voidB)∧e 5=.i .i64 ((ps.take i).countP nullB)∧e 6=.i .i64 i∧o 1=some (.row 8 [[.i .i64 k,.i .u64 (s 0),.i .u64 (s 1),.i .u64 (s 2),.i .u64 (s 3),.sl (ps.map cel),.i .i64 lo,.i .i64 hi]])) (k:=ps.length) ?_ (Call_le F) ?_
   ·exact⟨0,by omega,Z0,Zr0,Zr0,Zr0,Z0⟩
   rintro r e o ⟨i,hir,r1,r4,r5,r6,o1⟩;dsimp only[b14_0];(repeat (with_reducible (first|refine U_nil ?_|refine UC_sq ?_|refine UC_rg ?_|refine X_nx ?_|((first|refine U_q (v:=?_) ?h1 ?_|refine U_ld (v:=?_) ?h1 ?_);case h1=>((try simp only[r1,r6,o1,List.length_map,go_sem])<;>rfl)))));refine UC_cdb (q:=decide ((i:Int) < (ps.length:Int))) (Z0) (fun hc=>?_) (fun hc=>?_)
   ·have hi:i < ps.length:=by simpa using hc
    have hip:(0:Int)≤(i:Int):=by omega
    have hx:=cels_at hi;have hw:=wrapN1 (i:=i) (by omega);have hcv:=cntT voidB hi;have hcn:=cntT nullB hi;have hl1:=List.countP_le_length (p:=voidB) (l:=ps.take i);have hl2:=List.countP_le_length (p:=nullB) (l:=ps.take i);rw[List.length_take] at hl1 hl2;have hwv:=wrapN1 (i:=(ps.take i).countP voidB) (by omega);have hwn:=wrapN1 (i:=(ps.take i).countP nullB) (by omega);have hih:=ih _ (List.getElem_mem hi);generalize ps[i]=p at hx hcv hcn hih;(repeat (with_reducible (first|refine UC_sq ?_|refine UC_rg ?_|refine UC_bk ?_|refine UC_sk ?_|refine X_nx ?_|((first|refine U_q (v:=?_) ?h1 ?_|refine U_ld (v:=?_) ?h1 ?_);case h1=>((try simp only[r1,r6,o1,hip,hx,Int.toNat_natCast,go_sem])<;>rfl)))))
    (refine U_pcr (r:=.tp [.bo (voidB p),.bo (nullB p)]) hih ?h1 ?h2 rfl ?_;(case h1=>((try simp only[go_sem])<;>rfl));(case h2=>simp only[List.all_cons,List.all_nil,Bool.and_true,go_sem]))
    cases hv:voidB p<;>cases hn:nullB p;all_goals
     rw[hv] at hcv;rw[hn] at hcn;simp only[if_true,Bool.false_eq_true,if_false,Nat.add_zero] at hcv hcn;(repeat (with_reducible (first|refine U_nil ?_|refine UC_sq ?_|refine UC_rg ?_|refine UC_sk ?_|refine X_nx ?_|refine B_nx ?_|((first|refine U_q (v:=?_) ?h1 ?_|refine UC_cdt ?h1 ?_);case h1=>((try simp only[r4,r5,r6,hw,hwv,hwn,go_sem])<;>rfl))|(refine UC_cdf ?h1 ?_;case h1=>((try simp only[r4,r5,r6,hw,hwv,hwn,go_sem])<;>rfl)))))
     exact⟨r - 1,by omega,i+1,by omega,Z1 r1,Z2 r4 hcv,Z2 r5 hcn,Z0,Z1 o1⟩
   ·have hi:i=ps.length:=by
     have:¬ i < ps.length:=by simpa using hc
     omega
    subst hi;rw[List.take_length] at r4 r5;(repeat (with_reducible (first|refine UC_ex ?_|refine X_ex ?_)))
    exact⟨rfl,Z1 r1,Z1 r4,Z1 r5,o1⟩
  rintro e o ⟨r1,r4,r5,o1⟩;have hva:=voidAny_cnt ps;have hvl:=voidAll_cnt ps;have hna:=nullAny_cnt ps;have hnl:=nullAll_cnt ps;have hk:k=0∨k=1∨k=2∨k=3∨k=4:=by
   unfold shapedB at hsh;by_cases h0:k=0
   ·exact .inl h0
   by_cases h1:k=1
   ·exact .inr (.inl h1)
   by_cases h2:k=2
   ·exact .inr (.inr (.inl h2))
   by_cases h3:k=3
   ·exact .inr (.inr (.inr (.inl h3)))
   by_cases h4:k=4
   ·exact .inr (.inr (.inr (.inr h4)))
   simp [h0,h1,h2,h3,h4] at hsh
  rcases hk with rfl|rfl|rfl|rfl|rfl
  ·(repeat (with_reducible (first|refine U_nil ?_|refine UC_sq ?_|refine UC_rg ?_|refine UC_bk ?_|refine UC_rt ?_|refine X_nx ?_|refine X_rt ?_|refine B_rt ?_|((first|refine U_q (v:=?_) ?h1 ?_|refine U_ld (v:=?_) ?h1 ?_|refine UC_cdt ?h1 ?_);case h1=>((try simp only[r1,o1,go_sem])<;>rfl))|(refine E_2 (v:=?_) (u:=?_) ?h1 ?h2 ?_;case h1|h2=>((try simp only[r1,o1,go_sem])<;>rfl)))));exact fz_of (by simp [voidB,nullB]) rfl
  ·have hem:eqps [.i .u64,.i .u64,.i .u64,.i .u64] [.i .u64 (s 0),.i .u64 (s 1),.i .u64 (s 2),.i .u64 (s 3)] [.i .u64 0,.i .u64 0,.i .u64 0,.i .u64 0]=some (emptyS s):=by
    simp only[eqps,lfEq,and_self,if_true,Bool.and_true,emptyS];congr 1;rw[Bool.eq_iff_iff];simp
   have hem2:eqV true [.i .u64,.i .u64,.i .u64,.i .u64] (.ag [.i .u64 (s 0),.i .u64 (s 1),.i .u64 (s 2),.i .u64 (s 3)]) (.ag [.i .u64 0,.i .u64 0,.i .u64 0,.i .u64 0])=some (emptyS s):=hem;have hb:∀ b:Bool,(b != false)=b:=fun b=>by cases b<;>rfl
   (repeat (with_reducible (first|refine U_nil ?_|refine UC_sq ?_|refine UC_rg ?_|refine UC_bk ?_|refine UC_rt ?_|refine X_nx ?_|refine X_rt ?_|refine B_rt ?_|((first|refine U_q (v:=?_) ?h1 ?_|refine U_ld (v:=?_) ?h1 ?_|refine UC_cdt ?h1 ?_);case h1=>((try simp only[r1,o1,hem,hem2,hb,go_sem])<;>rfl))|(refine UC_cdf ?h1 ?_;case h1=>((try simp only[r1,o1,hem,hem2,hb,go_sem])<;>rfl))|(refine E_2 (v:=?_) (u:=?_) ?h1 ?h2 ?_;case h1|h2=>((try simp only[r1,o1,hem,hem2,hb,go_sem])<;>rfl)))));exact fz_of (by simp [voidB,nullB]) rfl
  ·(repeat (with_reducible (first|refine U_nil ?_|refine UC_sq ?_|refine UC_rg ?_|refine UC_bk ?_|refine UC_rt ?_|refine X_nx ?_|refine X_rt ?_|refine B_rt ?_|((first|refine U_q (v:=?_) ?h1 ?_|refine U_ld (v:=?_) ?h1 ?_|refine UC_cdt ?h1 ?_);case h1=>((try simp only[r1,r4,r5,o1,List.length_map,go_sem])<;>rfl))|(refine UC_cdf ?h1 ?_;case h1=>((try simp only[r1,r4,r5,o1,List.length_map,go_sem])<;>rfl))|(refine E_2 (v:=?_) (u:=?_) ?h1 ?h2 ?_;case h1|h2=>((try simp only[r1,r4,r5,o1,List.length_map,go_sem])<;>rfl)))));exact fz_of (by simp [voidB,nullB,hva,hnl]) rfl
  ·(repeat (with_reducible (first|refine U_nil ?_|refine UC_sq ?_|refine UC_rg ?_|refine UC_bk ?_|refine UC_rt ?_|refine X_nx ?_|refine X_rt ?_|refine B_rt ?_|((first|refine U_q (v:=?_) ?h1 ?_|refine U_ld (v:=?_) ?h1 ?_|refine UC_cdt ?h1 ?_);case h1=>((try simp only[r1,r4,r5,o1,List.length_map,go_sem])<;>rfl))|(refine UC_cdf ?h1 ?_;case h1=>((try simp only[r1,r4,r5,o1,List.length_map,go_sem])<;>rfl))|(refine E_2 (v:=?_) (u:=?_) ?h1 ?h2 ?_;case h1|h2=>((try simp only[r1,r4,r5,o1,List.length_map,go_sem])<;>rfl)))));exact fz_of (by simp [voidB,nullB,hvl,hna]) rfl
  ·obtain⟨h1,h2,_⟩:=shape4 hsh
   match ps,h1 with
   | [p],_ =>
    have hlo:(lo==0)=!decide (lo > 0):=by
     by_cases h:lo=0
     ·subst h;rfl
     ·have:lo > 0:=by omega
      simp [h,this]
    have e1:voidB (.mk 4 s [p] lo hi)=(decide (0 < lo)&&voidB p):=by rw[voidB];rfl
    have e2:nullB (.mk 4 s [p] lo hi)=((lo==0)||nullB p):=by rw[nullB];rfl
    cases hv:voidB p<;>cases hn:nullB p<;>cases hd:decide (lo > 0);all_goals
     rw[hd] at hlo;have cv:((List.countP voidB [p]:Nat):Int)=(if voidB p then 1 else 0):=by simp [List.countP_cons];split<;>rfl
     have cn:((List.countP nullB [p]:Nat):Int)=(if nullB p then 1 else 0):=by simp [List.countP_cons];split<;>rfl
     rw[hv] at cv;rw[hn] at cn;simp only[if_true,Bool.false_eq_true,if_false,Bool.not_true,Bool.not_false] at cv cn hlo;rw[cv] at r4;rw[cn] at r5;have g1:decide ((1:Int) > 0)=true:=rfl;have g0:decide ((0:Int) > 0)=false:=rfl;(repeat (with_reducible (first|refine U_nil ?_|refine UC_sq ?_|refine UC_rg ?_|refine UC_bk ?_|refine UC_sk ?_|refine UC_rt ?_|refine X_nx ?_|refine B_nx ?_|((first|refine U_q (v:=?_) ?h1 ?_|refine U_ld (v:=?_) ?h1 ?_|refine U_gt ?h1 ?_);case h1=>((try simp only[r1,r4,r5,o1,hd,hlo,g1,g0,go_sem])<;>rfl))|((first|refine U_gs1 ?h1 ?_|refine U_gs2 ?h1 ?_|refine UC_cdf ?h1 ?_);case h1=>((try simp only[r1,r4,r5,o1,hd,hlo,g1,g0,go_sem])<;>rfl))|(refine E_2 (v:=?_) (u:=?_) ?h1 ?h2 ?_;case h1|h2=>((try simp only[r1,r4,r5,o1,hd,hlo,g1,g0,go_sem])<;>rfl)))));have hd':decide (0 < lo)=_:=hd;exact fz_of (by rw[e1,e2,hv,hn,hd',hlo];rfl) rfl
end Go.Proofs.Ytgiedknghbpdfaa
