import Derived.Test.YtgiedknghbpdfaaR3

namespace Go.Proofs.Ytgiedknghbpdfaa
set_option linter.all false
attribute [-go_sem] swpOb renOb rfOb V.cells
theorem stepK_len (k:Int):∀ (qs l:List Nd),(qs.foldl (stepK k) l).length≤l.length+qs.length
 | [],l=>by simp
 | q::qs,l=>by
  have h:=stepK_len k qs (stepK k l q);have h1:(stepK k l q).length≤l.length+1:=by
   unfold stepK;split
   ·omega
   ·split
    ·omega
    ·simp
  rw[List.foldl_cons,List.length_cons];omega
theorem stepK_mem (k:Int) (P:Nd→Prop):∀ (qs l:List Nd),(∀ q∈qs,P q)→(∀ q∈l,P q)→∀ q∈qs.foldl (stepK k) l,P q
 | [],l,_,hl=>by simpa using hl
 | q::qs,l,h,hl=>by
  rw[List.foldl_cons];refine stepK_mem k P qs _ (fun x hx=>h x (by simp [hx])) ?_;unfold stepK;split
  ·exact hl
  ·split
   ·exact hl
   ·intro x hx;rcases List.mem_append.1 hx with h1|h1
    ·exact hl x h1
    ·rw[List.mem_singleton.1 h1];exact h q (by simp)
theorem spr_mem {k:Int} {P:Nd→Prop} {l:List Nd} (h:∀ p∈l,P p) (h2:∀ p∈l,∀ q∈p.parts,P q):∀ q∈sprN k l,P q:=by
 intro q hq;obtain⟨p,hp,hq⟩:=List.mem_flatMap.1 hq;split at hq
 ·exact h2 p hp q hq
 ·rw[List.mem_singleton.1 hq];exact h p hp
theorem cnt_at {ps:List Nd} {p:Nd} (h:p∈ps):cntN p≤cntL ps:=by
 induction ps with
 | nil=>cases h
 | cons q ps ih =>
  rw[cntL];rcases List.mem_cons.1 h with rfl|h
  ·omega
  ·have:=ih h;omega
theorem cntL_map:∀ (ps:List Nd),(∀ p∈ps,cntN (simpleN p)≤cntN p)→cntL (ps.map simpleN)≤cntL ps
 | [],_=>by simp [cntL]
 | p::ps,h=>by
  have h1:=h p (by simp);have h2:=cntL_map ps fun x hx=>h x (by simp [hx]);rw[List.map_cons,cntL,cntL];omega
theorem stillL_cel (d:Nat) (es:List (List V)) (p:Nd):stillL d es (cel p)=cel p:=by cases p;rfl
set_option maxHeartbeats 4000000 in
theorem rsimple_pu:∀ (n:Nd),okN n→cntN n≤900→Pu F 24 [.ag (cel n)] (.ag (cel (simpleN n)))
 | .mk k s ps lo hi,hn,hc=>by
  have hpok:=(okN_parts hn).1;simp only[Nd.parts] at hpok;have hcl:cntL ps≤899:=by rw[cntN] at hc;omega
  have ih:∀ p∈ps,Pu F 24 [.ag (cel p)] (.ag (cel (simpleN p))):=fun p hp=>rsimple_pu p (hpok p hp) (by have:=cnt_at hp;omega);have hsok:∀ p∈ps,okN (simpleN p)∧cntN (simpleN p)≤cntN p:=fun p hp=>simpleN_ok p (hpok p hp) (by have:=cnt_at hp;omega);have hpl:ps.length≤899:=Nat.le_trans (len_cnt ps) hcl;have ht:=told_pu _ hn.1 hn.2;have hsh:shapedB k s ps.length lo hi=true:=by
   have:=hn.2;rw[formed,Bool.and_eq_true] at this;exact this.1
  rw[simpleN_eq];obtain⟨a,hae⟩:∃ a:Nd,a=.mk k s ps lo hi:=⟨_,rfl⟩;have h0:a.kind=k:=by rw[hae];rfl
  have h5:a.parts=ps:=by rw[hae];rfl
  have h6:a.lo=lo:=by rw[hae];rfl
  have h7:a.hi=hi:=by rw[hae];rfl
  rw[← hae] at ht ⊢;refine U_pure e24 rfl rfl (by simp only[go_sem,Bool.and_true]) ?_;dsimp only[fn24,c24];(repeat (with_reducible (first|refine U_nil ?_|refine UC_sq ?_|refine UC_rg ?_|refine X_nx ?_|((first|refine U_ld (v:=?_) ?h1 ?_|refine U_alc (n:=?_) ?h1 ?_);case h1=>((try simp only[go_sem])<;>rfl))|(refine U_box (cs:=?_) (cs':=?_) (n:=?_) ?h1 ?h2 ?h3 ?h4 ?_;case h1|h2|h3|h4=>((try simp only[go_sem])<;>rfl)))))
  (refine U_pcr (r:=.tp [.bo (voidB a),.bo (nullB a)]) ht ?h1 ?h2 rfl ?_;(case h1=>((try simp only[go_sem])<;>rfl));(case h2=>simp only[List.all_cons,List.all_nil,Bool.and_true,go_sem]))
  cases hv:voidB a with
  | true =>
   rw[if_pos rfl];(repeat (with_reducible (first|refine U_nil ?_|refine UC_sq ?_|refine UC_rg ?_|refine UC_rt ?_|refine X_nx ?_|refine X_rt ?_|((first|refine U_q (v:=?_) ?h1 ?_|refine E_1 (v:=?_) ?h1 ?_|refine UC_cdt ?h1 ?_);case h1=>((try simp only[go_sem])<;>rfl))|(refine U_sto (id:=?_) (i:=?_) (j:=?_) (q:=?_) (es:=?_) (cs:=?_) (vs:=?_) (es':=?_) ?h1 ?h2 ?h3 ?h4 ?h5 ?h6 ?h7 ?_;case h1|h2|h3|h4|h5|h6|h7=>((try simp only[go_sem])<;>rfl)))));rfl
  | false =>
   rw[if_neg (by decide)];by_cases hk2:k < 2
   ·have d1:decide (k < 2)=true:=by simpa using hk2
    rw[if_neg (by omega),if_neg (by omega)];(repeat (with_reducible (first|refine U_nil ?_|refine UC_sq ?_|refine UC_rg ?_|refine UC_sk ?_|refine UC_rt ?_|refine X_nx ?_|refine X_rt ?_|((first|refine U_q (v:=?_) ?h1 ?_|refine U_ld (v:=?_) ?h1 ?_|refine E_1 (v:=?_) ?h1 ?_|refine UC_cdt ?h1 ?_);case h1=>((try simp only[h0,d1,go_sem])<;>rfl))|(refine U_sto (id:=?_) (i:=?_) (j:=?_) (q:=?_) (es:=?_) (cs:=?_) (vs:=?_) (es':=?_) ?h1 ?h2 ?h3 ?h4 ?h5 ?h6 ?h7 ?_;case h1|h2|h3|h4|h5|h6|h7=>((try simp only[h0,d1,go_sem])<;>rfl))|(refine UC_cdf ?h1 ?_;case h1=>((try simp only[h0,d1,go_sem])<;>rfl)))));exact fz_of rfl (okf_cel a)
   have d1:decide (k < 2)=false:=by simpa using hk2
   (repeat (with_reducible (first|refine U_nil ?_|refine UC_sq ?_|refine UC_rg ?_|refine UC_bk ?_|refine UC_sk ?_|refine X_nx ?_|((first|refine U_q (v:=?_) ?h1 ?_|refine U_ld (v:=?_) ?h1 ?_);case h1=>((try simp only[h0,d1,go_sem])<;>rfl))|(refine UC_cdf ?h1 ?_;case h1=>((try simp only[h0,d1,go_sem])<;>rfl)))));refine UC_cutx (fun e o=>e 1=.pt 1 0 0∧e 2=.pt 2 0 0∧e 5=ownV 42 8 ((ps.map simpleN).map cel)∧Own o 42 8 ((ps.map simpleN).map cel)∧o 1=some (.row 8 [cel a])∧o 2=some (.row 8 [[.i .i64 0,.i .u64 0,.i .u64 0,.i .u64 0,.i .u64 0,.nil,.i .i64 0,.i .i64 0]])) ?_ ?_
   ·refine U_lp (fun r e o=>∃ i:Nat,i+r=ps.length∧e 1=.pt 1 0 0∧e 2=.pt 2 0 0∧e 6=.i .i64 i∧e 5=ownV 42 8 (((ps.take i).map simpleN).map cel)∧Own o 42 8 (((ps.take i).map simpleN).map cel)∧o 1=some (.row 8 [cel a])∧o 2=some (.row 8 [[.i .i64 0,.i .u64 0,.i .u64 0,.i .u64 0,.i .u64 0,.nil,.i .i64 0,.i .i64 0]])) (k:=ps.length) ?_ (Call_le F) ?_
    ·exact⟨0,by omega,Z0,Z0,Zr0,Zr0,⟨rfl,fun h=>absurd rfl h⟩,Z0,Z0⟩
    rintro r e o ⟨i,hir,r1,r2,r6,r5,ho,o1,o2⟩;dsimp only[b24_0];(repeat (with_reducible (first|refine U_nil ?_|refine UC_sq ?_|refine UC_rg ?_|refine X_nx ?_|((first|refine U_q (v:=?_) ?h1 ?_|refine U_ld (v:=?_) ?h1 ?_);case h1=>((try simp only[h5,r1,r6,o1,List.length_map,go_sem])<;>rfl)))));refine UC_cdb (q:=decide ((i:Int) < (ps.length:Int))) (Z0) (fun hc1=>?_) (fun hc1=>?_)
    ·have hi':i < ps.length:=by simpa using hc1
     have hip:(0:Int)≤(i:Int):=by omega
     have hx:=cels_at hi';have hw:=wrapN1 (i:=i) (by omega);have hih:=ih _ (List.getElem_mem hi');have htk:((ps.take (i+1)).map simpleN).map cel=((ps.take i).map simpleN).map cel++[cel (simpleN ps[i])]:=by
      rw[List.take_add_one,List.getElem?_eq_getElem hi'];simp only[Option.toList_some,List.map_append,List.map_cons,List.map_nil]
     (repeat (with_reducible (first|refine UC_sq ?_|refine UC_rg ?_|refine UC_bk ?_|refine UC_sk ?_|refine X_nx ?_|((first|refine U_q (v:=?_) ?h1 ?_|refine U_ld (v:=?_) ?h1 ?_);case h1=>((try simp only[h5,r1,r5,r6,o1,hip,hx,Int.toNat_natCast,go_sem])<;>rfl)))));refine U_pc (vs:=[.ag (cel ps[i])]) (ws:=[.ag (cel ps[i])]) (r:=.ag (cel (simpleN ps[i]))) (Z0) (fzsU_ok (by simp only[List.all_cons,List.all_nil,Bool.and_true,go_sem])) (Bool.or_eq_true_iff.2 (.inl (by simp only[clos,List.all_cons,List.all_nil,Bool.and_true,go_sem]))) (Z0) hih ?_;(repeat (with_reducible (first|(refine U_bsl (es:=?_) (es':=?_) ?h1 ?h2 ?h3 ?_;case h1|h2|h3=>((try simp only[go_sem])<;>rfl)))));refine U_appo 42 (L:=((ps.take i).map simpleN).map cel) (ys:=[cel (simpleN ps[i])]) (Z1 r5) ?_ (by (simp only[src,go_sem]<;>rfl)) (by simp [cel_len]) (by simp) (by omega) ⟨by simp;omega,by omega⟩ (swpR_cls _ ho.c) (by simp [swpR,cel_sw]) ?_
     ·exact Own.h (by (repeat first|with_reducible assumption|refine .up rfl ?_|refine .sw rfl ?_|refine .swN rfl ?_))
     (repeat (with_reducible (first|refine U_nil ?_|refine UC_rg ?_|refine X_nx ?_|refine B_nx ?_|(refine U_q (v:=?_) ?h1 ?_;case h1=>((try simp only[r6,hw,go_sem])<;>rfl)))))
     refine⟨r - 1,by omega,i+1,by omega,Z1 r1,Z1 r2,Z0,Z1 htk,?_,Z1 o1,Z1 o2⟩
     rw[htk];exact Own.to (by rw[← htk];exact cels_cls _)
    ·have hi':i=ps.length:=by
      have:¬ i < ps.length:=by simpa using hc1
      omega
     rw[hi',List.take_length] at r5 ho;(repeat (with_reducible (first|refine UC_ex ?_|refine X_ex ?_)))
     exact⟨rfl,Z1 r1,Z1 r2,Z1 r5,ho,o1,o2⟩
   rintro e o ⟨r1,r2,r5,ho,o1,o2⟩;by_cases hk4:k=4
   ·have d4:(k==4)=true:=by simpa using hk4
    rw[if_neg (by omega),if_pos hk4];have hp1:ps.length=1:=(shape4 (by rw[← hk4];exact hsh)).1;obtain⟨p,hpe⟩:=List.length_eq_one_iff.1 hp1;have hq:=(hsok p (by rw[hpe];simp)).1;rw[hpe] at r5 ho;simp only[List.map_cons,List.map_nil] at r5 ho;have ho:=ho.h (by simp);rw[show ownV 42 8 [cel (simpleN p)]=.rw 42 8 0 1 by rw[ownV,if_neg (by simp)];rfl] at r5;rw[hpe,show simpleH [p]=simpleN p by rw[simpleH]];have tq:=told_pu _ hq.1 hq.2;generalize simpleN p=q at hq ho tq;have hno:∀ o':O,fzU o' (.ag [.i .i64 0,.i .u64 0,.i .u64 0,.i .u64 0,.i .u64 0,.nil,.i .i64 0,.i .i64 0])=some (.ag (cel noN)):=fun _=>rfl;have hmk:∀ (o':O) (lo':Int),o' 42=some (.row 8 [cel q])→fzU o' (.ag [.i .i64 4,.i .u64 0,.i .u64 0,.i .u64 0,.i .u64 0,.rw 42 8 0 1,.i .i64 lo',.i .i64 hi])=some (.ag (cel (.mk 4 zSet [q] lo' hi))):=fun o' lo' h=>frz_celN o' 4 zSet [q] lo' hi _ (frz_row8 h rfl);(repeat (with_reducible (first|refine U_nil ?_|refine UC_sq ?_|refine UC_rg ?_|refine X_nx ?_|((first|refine U_q (v:=?_) ?h1 ?_|refine U_ld (v:=?_) ?h1 ?_|refine UC_cdt ?h1 ?_);case h1=>((try simp only[h0,r1,r5,o1,ho,d4,go_sem])<;>rfl)))))
    (refine U_pcr (r:=.tp [.bo (voidB q),.bo (nullB q)]) tq ?h1 ?h2 rfl ?_;(case h1=>((try simp only[go_sem])<;>rfl));(case h2=>simp only[List.all_cons,List.all_nil,Bool.and_true,go_sem]))
    cases c1:(hi==0) with
    | true =>
     have e:timesN q lo hi=noN:=by unfold timesN;rw[c1];rfl
     (repeat (with_reducible (first|refine U_nil ?_|refine UC_sq ?_|refine UC_rg ?_|refine UC_rt ?_|refine X_nx ?_|refine X_rt ?_|((first|refine U_q (v:=?_) ?h1 ?_|refine U_ld (v:=?_) ?h1 ?_|refine E_1 (v:=?_) ?h1 ?_|refine UC_cdt ?h1 ?_);case h1=>((try simp only[h7,r1,r2,r5,o1,o2,ho,c1,go_sem])<;>rfl))|(refine U_sto (id:=?_) (i:=?_) (j:=?_) (q:=?_) (es:=?_) (cs:=?_) (vs:=?_) (es':=?_) ?h1 ?h2 ?h3 ?h4 ?h5 ?h6 ?h7 ?_;case h1|h2|h3|h4|h5|h6|h7=>((try simp only[h7,r1,r2,r5,o1,o2,ho,c1,go_sem])<;>rfl))|(refine U_gs1 ?h1 ?_;case h1=>((try simp only[h7,r1,r2,r5,o1,o2,ho,c1,go_sem])<;>rfl)))));rw[e];exact hno _
    | false =>
     cases c2:(q.kind==0) with
     | true =>
      have e:timesN q lo hi=noN:=by unfold timesN;rw[c1,c2];rfl
      (repeat (with_reducible (first|refine U_nil ?_|refine UC_sq ?_|refine UC_rg ?_|refine UC_rt ?_|refine X_nx ?_|refine X_rt ?_|((first|refine U_q (v:=?_) ?h1 ?_|refine U_ld (v:=?_) ?h1 ?_|refine E_1 (v:=?_) ?h1 ?_|refine U_gt ?h1 ?_|refine UC_cdt ?h1 ?_);case h1=>((try simp only[h7,r1,r2,r5,o1,o2,ho,c1,c2,go_sem])<;>rfl))|(refine U_sto (id:=?_) (i:=?_) (j:=?_) (q:=?_) (es:=?_) (cs:=?_) (vs:=?_) (es':=?_) ?h1 ?h2 ?h3 ?h4 ?h5 ?h6 ?h7 ?_;case h1|h2|h3|h4|h5|h6|h7=>((try simp only[h7,r1,r2,r5,o1,o2,ho,c1,c2,go_sem])<;>rfl))|(refine U_gs1 ?h1 ?_;case h1=>((try simp only[h7,r1,r2,r5,o1,o2,ho,c1,c2,go_sem])<;>rfl)))));rw[e];exact hno _
     | false =>
      cases c3:voidB q with
      | true =>
       have e:timesN q lo hi=noN:=by unfold timesN;rw[c1,c2,c3];rfl
       (repeat (with_reducible (first|refine U_nil ?_|refine UC_sq ?_|refine UC_rg ?_|refine UC_rt ?_|refine X_nx ?_|refine X_rt ?_|((first|refine U_q (v:=?_) ?h1 ?_|refine U_ld (v:=?_) ?h1 ?_|refine E_1 (v:=?_) ?h1 ?_|refine U_gt ?h1 ?_|refine UC_cdt ?h1 ?_);case h1=>((try simp only[h7,r1,r2,r5,o1,o2,ho,c1,c2,go_sem])<;>rfl))|(refine U_sto (id:=?_) (i:=?_) (j:=?_) (q:=?_) (es:=?_) (cs:=?_) (vs:=?_) (es':=?_) ?h1 ?h2 ?h3 ?h4 ?h5 ?h6 ?h7 ?_;case h1|h2|h3|h4|h5|h6|h7=>((try simp only[h7,r1,r2,r5,o1,o2,ho,c1,c2,go_sem])<;>rfl)))));rw[e];exact hno _
      | false =>
       cases c4:(lo==1) with
       | true =>
        cases c5:(hi==1) with
        | true =>
         have e:timesN q lo hi=q:=by unfold timesN;rw[c1,c2,c3,c4,c5];rfl
         (repeat (with_reducible (first|refine U_nil ?_|refine UC_sq ?_|refine UC_rg ?_|refine UC_sk ?_|refine UC_rt ?_|refine X_nx ?_|refine X_rt ?_|((first|refine U_q (v:=?_) ?h1 ?_|refine U_ld (v:=?_) ?h1 ?_|refine E_1 (v:=?_) ?h1 ?_|refine U_gt ?h1 ?_|refine UC_cdt ?h1 ?_);case h1=>((try simp only[h6,h7,r1,r2,r5,o1,o2,ho,c1,c2,c4,c5,go_sem])<;>rfl))|(refine U_sto (id:=?_) (i:=?_) (j:=?_) (q:=?_) (es:=?_) (cs:=?_) (vs:=?_) (es':=?_) ?h1 ?h2 ?h3 ?h4 ?h5 ?h6 ?h7 ?_;case h1|h2|h3|h4|h5|h6|h7=>((try simp only[h6,h7,r1,r2,r5,o1,o2,ho,c1,c2,c4,c5,go_sem])<;>rfl))|(refine UC_cdf ?h1 ?_;case h1=>((try simp only[h6,h7,r1,r2,r5,o1,o2,ho,c1,c2,c4,c5,go_sem])<;>rfl)))));rw[e];exact fz_of rfl (okf_cel q)
        | false =>
         cases c6:nullB q with
         | true =>
          have e:timesN q lo hi=.mk 4 zSet [q] 0 hi:=by unfold timesN;rw[c1,c2,c3,c4,c5,c6];rfl
          (repeat (with_reducible (first|refine U_nil ?_|refine UC_sq ?_|refine UC_rg ?_|refine UC_sk ?_|refine UC_rt ?_|refine X_nx ?_|refine X_rt ?_|((first|refine U_q (v:=?_) ?h1 ?_|refine U_ld (v:=?_) ?h1 ?_|refine E_1 (v:=?_) ?h1 ?_|refine U_alc (n:=?_) ?h1 ?_|refine U_gt ?h1 ?_|refine UC_cdt ?h1 ?_);case h1=>((try simp only[h6,h7,r1,r2,r5,o1,o2,ho,c1,c2,c4,c5,go_sem])<;>rfl))|(refine U_sto (id:=?_) (i:=?_) (j:=?_) (q:=?_) (es:=?_) (cs:=?_) (vs:=?_) (es':=?_) ?h1 ?h2 ?h3 ?h4 ?h5 ?h6 ?h7 ?_;case h1|h2|h3|h4|h5|h6|h7=>((try simp only[h6,h7,r1,r2,r5,o1,o2,ho,c1,c2,c4,c5,go_sem])<;>rfl))|(refine UC_cdf ?h1 ?_;case h1=>((try simp only[h6,h7,r1,r2,r5,o1,o2,ho,c1,c2,c4,c5,go_sem])<;>rfl)))));rw[e];exact hmk _ _ (Z1 ho)
         | false =>
          have e:timesN q lo hi=.mk 4 zSet [q] lo hi:=by unfold timesN;rw[c1,c2,c3,c4,c5,c6];rfl
          (repeat (with_reducible (first|refine U_nil ?_|refine UC_sq ?_|refine UC_rg ?_|refine UC_sk ?_|refine UC_rt ?_|refine X_nx ?_|refine X_rt ?_|((first|refine U_q (v:=?_) ?h1 ?_|refine U_ld (v:=?_) ?h1 ?_|refine E_1 (v:=?_) ?h1 ?_|refine U_alc (n:=?_) ?h1 ?_|refine U_gt ?h1 ?_);case h1=>((try simp only[h6,h7,r1,r2,r5,o1,o2,ho,c1,c2,c4,c5,go_sem])<;>rfl))|(refine U_sto (id:=?_) (i:=?_) (j:=?_) (q:=?_) (es:=?_) (cs:=?_) (vs:=?_) (es':=?_) ?h1 ?h2 ?h3 ?h4 ?h5 ?h6 ?h7 ?_;case h1|h2|h3|h4|h5|h6|h7=>((try simp only[h6,h7,r1,r2,r5,o1,o2,ho,c1,c2,c4,c5,go_sem])<;>rfl))|(refine UC_cdf ?h1 ?_;case h1=>((try simp only[h6,h7,r1,r2,r5,o1,o2,ho,c1,c2,c4,c5,go_sem])<;>rfl)))));rw[e];exact hmk _ _ (Z1 ho)
       | false =>
        cases c6:nullB q with
        | true =>
         have e:timesN q lo hi=.mk 4 zSet [q] 0 hi:=by unfold timesN;rw[c1,c2,c3,c4,c6];rfl
         (repeat (with_reducible (first|refine U_nil ?_|refine UC_sq ?_|refine UC_rg ?_|refine UC_sk ?_|refine UC_rt ?_|refine X_nx ?_|refine X_rt ?_|((first|refine U_q (v:=?_) ?h1 ?_|refine U_ld (v:=?_) ?h1 ?_|refine E_1 (v:=?_) ?h1 ?_|refine U_alc (n:=?_) ?h1 ?_|refine U_gt ?h1 ?_|refine UC_cdt ?h1 ?_);case h1=>((try simp only[h6,h7,r1,r2,r5,o1,o2,ho,c1,c2,c4,go_sem])<;>rfl))|(refine U_sto (id:=?_) (i:=?_) (j:=?_) (q:=?_) (es:=?_) (cs:=?_) (vs:=?_) (es':=?_) ?h1 ?h2 ?h3 ?h4 ?h5 ?h6 ?h7 ?_;case h1|h2|h3|h4|h5|h6|h7=>((try simp only[h6,h7,r1,r2,r5,o1,o2,ho,c1,c2,c4,go_sem])<;>rfl))|((first|refine U_gs2 ?h1 ?_|refine UC_cdf ?h1 ?_);case h1=>((try simp only[h6,h7,r1,r2,r5,o1,o2,ho,c1,c2,c4,go_sem])<;>rfl)))));rw[e];exact hmk _ _ (Z1 ho)
        | false =>
         have e:timesN q lo hi=.mk 4 zSet [q] lo hi:=by unfold timesN;rw[c1,c2,c3,c4,c6];rfl
         (repeat (with_reducible (first|refine U_nil ?_|refine UC_sq ?_|refine UC_rg ?_|refine UC_sk ?_|refine UC_rt ?_|refine X_nx ?_|refine X_rt ?_|((first|refine U_q (v:=?_) ?h1 ?_|refine U_ld (v:=?_) ?h1 ?_|refine E_1 (v:=?_) ?h1 ?_|refine U_alc (n:=?_) ?h1 ?_|refine U_gt ?h1 ?_);case h1=>((try simp only[h6,h7,r1,r2,r5,o1,o2,ho,c1,c2,c4,go_sem])<;>rfl))|(refine U_sto (id:=?_) (i:=?_) (j:=?_) (q:=?_) (es:=?_) (cs:=?_) (vs:=?_) (es':=?_) ?h1 ?h2 ?h3 ?h4 ?h5 ?h6 ?h7 ?_;case h1|h2|h3|h4|h5|h6|h7=>((try simp only[h6,h7,r1,r2,r5,o1,o2,ho,c1,c2,c4,go_sem])<;>rfl))|((first|refine U_gs2 ?h1 ?_|refine UC_cdf ?h1 ?_);case h1=>((try simp only[h6,h7,r1,r2,r5,o1,o2,ho,c1,c2,c4,go_sem])<;>rfl)))));rw[e];exact hmk _ _ (Z1 ho)
   ·have d4:(k==4)=false:=by simpa using hk4
    have hk:k=2∨k=3:=by
     unfold shapedB at hsh;by_cases e2:k=2∨k=3
     ·exact e2
     ·rw[if_neg (by omega),if_neg (by omega),if_neg e2,if_neg hk4] at hsh;cases hsh
    rw[if_pos hk,simpleL_map];have hfl:∀ p∈ps.map simpleN,flatN p=true:=fun p hp=>by
     obtain⟨q,hq,rfl⟩:=List.mem_map.1 hp;exact simpleN_fl q (hpok q hq).2
    rw[putL_spr hk _ _ hfl];have hlo:∀ p∈ps.map simpleN,okN p:=fun p hp=>by
     obtain⟨q,hq,rfl⟩:=List.mem_map.1 hp;exact (hsok q hq).1
    have hlc:cntL (ps.map simpleN)≤899:=Nat.le_trans (cntL_map ps fun p hp=>(hsok p hp).2) hcl;have hsp:=spread_pu hk (ps.map simpleN) hlo (by omega);have hso:∀ q∈sprN k (ps.map simpleN),okN q:=spr_mem hlo fun p hp q hq=>(okN_parts (hlo p hp)).1 q hq;have hsl:(sprN k (ps.map simpleN)).length≤899:=Nat.le_trans (sprN_cnt k _) hlc;have hlne:ps.map simpleN≠[]:=by
     have:ps≠[]:=by
      rintro rfl;rcases hk with rfl|rfl<;>simp [shapedB] at hsh
     simpa using this
    generalize ps.map simpleN=l at r5 ho hsp hso hsl hlne;generalize sprN k l=m at hsp hso hsl;repeat (with_reducible (first|refine UC_sq ?_|refine X_ex ?_|refine X_nx ?_|refine B_self ?_))
    have hlc2:l.map cel≠[]:=by simpa using hlne
    have hso2:=still_own 42 8 hlc2;refine UC_still 42 (sz:=8) (es:=l.map cel) (ho.h hlc2) (okLL_cels _) ?_;(repeat (with_reducible (first|refine U_nil ?_|refine UC_sq ?_|refine UC_rg ?_|refine UC_sk ?_|refine X_nx ?_|((first|refine U_q (v:=?_) ?h1 ?_|refine U_ld (v:=?_) ?h1 ?_);case h1=>((try simp only[h0,r1,r2,r5,o1,o2,d4,hso2,stillL_cel,go_sem])<;>rfl))|(refine UC_cdf ?h1 ?_;case h1=>((try simp only[h0,r1,r2,r5,o1,o2,d4,hso2,stillL_cel,go_sem])<;>rfl)))))
    (refine U_pc (g:=41) (r:=.sl (m.map cel)) (vs:=?_) (ws:=?_) ?h1 ?h2 ?h3 ?h4 ?h5 ?_;(case h1=>((try simp only[h0,r1,r2,r5,o1,o2,hso2,stillL_cel,go_sem])<;>rfl));(case h2=>refine fzsU_ok ?_;first|rfl|simp only[h0,r1,r2,r5,o1,o2,hso2,stillL_cel,List.all_cons,List.all_nil,Bool.and_true,go_sem]);(case h5=>exact hsp);(case h3=>first|exact Bool.or_eq_true_iff.2 (.inr rfl)|(refine Bool.or_eq_true_iff.2 (.inl ?_);simp only[clos,h0,r1,r2,r5,o1,o2,hso2,stillL_cel,List.all_cons,List.all_nil,Bool.and_true,go_sem]));(case h4=>first|rfl|simp only[h0,r1,r2,r5,o1,o2,hso2,stillL_cel,go_sem,Bool.and_true]))
    (repeat (with_reducible (first|refine U_nil ?_|refine UC_sq ?_|refine UC_rg ?_|refine UC_bk ?_|refine X_nx ?_|(refine U_q (v:=?_) ?h1 ?_;case h1=>((try simp only[go_sem])<;>rfl)))));refine UC_cutx (fun e o=>e 1=.pt 1 0 0∧e 2=.pt 2 0 0∧e 10=ownV 155 8 ((m.foldl (stepK k) []).map cel)∧Own o 155 8 ((m.foldl (stepK k) []).map cel)∧o 1=some (.row 8 [cel a])∧o 2=some (.row 8 [[.i .i64 0,.i .u64 0,.i .u64 0,.i .u64 0,.i .u64 0,.nil,.i .i64 0,.i .i64 0]])) ?_ ?_
    ·refine U_lp (fun r e o=>∃ i:Nat,i+r=m.length∧e 1=.pt 1 0 0∧e 2=.pt 2 0 0∧e 5=.sl (m.map cel)∧e 11=.i .i64 i∧e 10=ownV 155 8 (((m.take i).foldl (stepK k) []).map cel)∧Own o 155 8 (((m.take i).foldl (stepK k) []).map cel)∧o 1=some (.row 8 [cel a])∧o 2=some (.row 8 [[.i .i64 0,.i .u64 0,.i .u64 0,.i .u64 0,.i .u64 0,.nil,.i .i64 0,.i .i64 0]])) (k:=m.length) ?_ (Call_le F) ?_
     ·exact⟨0,by omega,Z1 r1,Z1 r2,Z0,Zr0,Zr0,⟨rfl,fun h=>absurd rfl h⟩,by simp only[o1,stillL_cel,go_sem],Z1 o2⟩
     clear r1 r2 r5 ho o1 o2;rintro r e o ⟨i,hir,r1,r2,r5,r6,r10,ho,o1,o2⟩;dsimp only[b24_2];(repeat (with_reducible (first|refine U_nil ?_|refine UC_sq ?_|refine UC_rg ?_|refine X_nx ?_|(refine U_q (v:=?_) ?h1 ?_;case h1=>((try simp only[r1,r5,r6,o1,List.length_map,go_sem])<;>rfl)))));refine UC_cdb (q:=decide ((i:Int) < (m.length:Int))) (Z0) (fun hc1=>?_) (fun hc1=>?_)
     ·have hi':i < m.length:=by simpa using hc1
      have hip:(0:Int)≤(i:Int):=by omega
      have hx:=cels_at hi';have hw:=wrapN1 (i:=i) (by omega);have hqo:=hso _ (List.getElem_mem hi');have htq:=told_pu _ hqo.1 hqo.2;have htk:(m.take (i+1)).foldl (stepK k) []=stepK k ((m.take i).foldl (stepK k) []) m[i]:=by
       rw[List.take_add_one,List.getElem?_eq_getElem hi',List.foldl_append];rfl
      have hLl:((m.take i).foldl (stepK k) []).length≤899:=by
       have:=stepK_len k (m.take i) []
       simp only[List.length_nil,Nat.zero_add,List.length_take] at this;omega
      have hLo:∀ q∈(m.take i).foldl (stepK k) [],okN q:=stepK_mem k okN _ _ (fun q hq=>hso q (List.mem_of_mem_take hq)) (by simp);generalize (m.take i).foldl (stepK k) []=L at r10 ho htk hLl hLo;generalize m[i]=q at hx hqo htq htk;(repeat (with_reducible (first|refine UC_sq ?_|refine UC_rg ?_|refine UC_bk ?_|refine UC_sk ?_|refine X_nx ?_|((first|refine U_q (v:=?_) ?h1 ?_|refine U_ld (v:=?_) ?h1 ?_);case h1=>((try simp only[r1,r5,r6,o1,hip,hx,Int.toNat_natCast,go_sem])<;>rfl)))))
      (refine U_pcr (r:=.tp [.bo (voidB q),.bo (nullB q)]) htq ?h1 ?h2 rfl ?_;(case h1=>((try simp only[go_sem])<;>rfl));(case h2=>simp only[List.all_cons,List.all_nil,Bool.and_true,go_sem]))
      have hcv:∀ x∈L,Pu F 42 [.ag (cel x),.ag (cel q)] (.bo (sameN x q)):=fun x hx=>rsame_pu x q (hLo x hx).1 hqo.1;have s1:=slenV_own 155 8 (L.map cel);rw[List.length_map] at s1;simp only[slenV] at s1;rcases hk with rfl|rfl
      ·have hst:stepK 2 L q=if (q.kind==0)=true then L else L++[q]:=by
        unfold stepK;cases hq0:(q.kind==0)
        ·rw[if_neg (by rintro⟨_,h⟩;rw[h] at hq0;cases hq0),if_neg (by rintro⟨h,_⟩;omega),if_neg (by simp)]
        ·rw[if_pos ⟨rfl,by simpa using hq0⟩,if_pos rfl]
       cases hq0:(q.kind==0)
       ·rw[hq0] at hst;(repeat (with_reducible (first|refine U_nil ?_|refine UC_sq ?_|refine UC_rg ?_|refine UC_bk ?_|refine X_nx ?_|((first|refine U_q (v:=?_) ?h1 ?_|refine U_ld (v:=?_) ?h1 ?_|refine U_gt ?h1 ?_);case h1=>((try simp only[h0,r1,r5,r6,o1,hip,hx,Int.toNat_natCast,hq0,go_sem])<;>rfl))|(refine U_gs2 ?h1 ?_;case h1=>((try simp only[h0,r1,r5,r6,o1,hip,hx,Int.toNat_natCast,hq0,go_sem])<;>rfl))|rw[put_some])));refine UC_cutx (fun e o=>(e 1=.pt 1 0 0∧e 2=.pt 2 0 0∧e 5=.sl (m.map cel)∧e 11=.i .i64 i∧e 10=ownV 155 8 (L.map cel)∧Own o 155 8 (L.map cel)∧o 1=some (.row 8 [cel a])∧o 2=some (.row 8 [[.i .i64 0,.i .u64 0,.i .u64 0,.i .u64 0,.i .u64 0,.nil,.i .i64 0,.i .i64 0]]))∧e 14=.bo false) ?_ ?_
        ·refine U_lp (fun r e o=>(e 1=.pt 1 0 0∧e 2=.pt 2 0 0∧e 5=.sl (m.map cel)∧e 11=.i .i64 i∧e 10=ownV 155 8 (L.map cel)∧Own o 155 8 (L.map cel)∧o 1=some (.row 8 [cel a])∧o 2=some (.row 8 [[.i .i64 0,.i .u64 0,.i .u64 0,.i .u64 0,.i .u64 0,.nil,.i .i64 0,.i .i64 0]]))∧e 14=.bo false∧e 15=.i .i64 0) (k:=1) ?_ (Call_le F) ?_
         ·exact⟨⟨Z1 r1,Z1 r2,Z1 r5,Z1 r6,Z1 r10,by (repeat first|with_reducible assumption|refine .up rfl ?_|refine .sw rfl ?_|refine .swN rfl ?_),Z1 o1,Z1 o2⟩,Z0,Z0⟩
         clear r1 r2 r5 r6 r10 ho o1 o2;rintro r' e o ⟨⟨r1,r2,r5,r6,r10,ho,o1,o2⟩,r14,r15⟩;dsimp only[b24_1];cases hl0:decide ((0:Int) < (L.length:Int))
         ·(repeat (with_reducible (first|refine U_nil ?_|refine UC_sq ?_|refine UC_rg ?_|refine UC_ex ?_|refine X_nx ?_|refine X_ex ?_|(refine U_q (v:=?_) ?h1 ?_;case h1=>((try simp only[h0,r1,r10,r15,o1,s1,hl0,go_sem])<;>rfl))|((first|refine U_gs2 ?h1 ?_|refine UC_cdf ?h1 ?_);case h1=>((try simp only[h0,r1,r10,r15,o1,s1,hl0,go_sem])<;>rfl))|rw[put_some])))
          exact⟨rfl,⟨Z1 r1,Z1 r2,Z1 r5,Z1 r6,Z1 r10,by (repeat first|with_reducible assumption|refine .up rfl ?_|refine .sw rfl ?_|refine .swN rfl ?_),Z1 o1,Z1 o2⟩,Z1 r14⟩
         ·(repeat (with_reducible (first|refine U_nil ?_|refine UC_sq ?_|refine UC_rg ?_|refine UC_ex ?_|refine X_nx ?_|refine X_ex ?_|((first|refine U_q (v:=?_) ?h1 ?_|refine U_ld (v:=?_) ?h1 ?_|refine U_gt ?h1 ?_);case h1=>((try simp only[h0,r1,r10,r15,o1,s1,hl0,go_sem])<;>rfl))|(refine UC_cdf ?h1 ?_;case h1=>((try simp only[h0,r1,r10,r15,o1,s1,hl0,go_sem])<;>rfl)))))
          exact⟨rfl,⟨Z1 r1,Z1 r2,Z1 r5,Z1 r6,Z1 r10,by (repeat first|with_reducible assumption|refine .up rfl ?_|refine .sw rfl ?_|refine .swN rfl ?_),Z1 o1,Z1 o2⟩,Z1 r14⟩
        clear r1 r2 r5 r6 r10 ho o1 o2;rintro e o ⟨⟨r1,r2,r5,r6,r10,ho,o1,o2⟩,r14⟩;rw[if_neg (by decide)] at hst;rw[hst] at htk;(repeat (with_reducible (first|refine U_nil ?_|refine UC_sq ?_|refine UC_rg ?_|refine X_nx ?_|((first|refine U_q (v:=?_) ?h1 ?_|refine U_ld (v:=?_) ?h1 ?_|refine UC_cdt ?h1 ?_);case h1=>((try simp only[r1,r5,r6,r10,r14,hip,hx,Int.toNat_natCast,go_sem])<;>rfl))|(refine U_bsl (es:=?_) (es':=?_) ?h1 ?h2 ?h3 ?_;case h1|h2|h3=>((try simp only[r1,r5,r6,r10,r14,hip,hx,Int.toNat_natCast,go_sem])<;>rfl)))));refine U_appo 155 (L:=L.map cel) (ys:=[cel q]) (Z1 r10) ?_ (by (simp only[src,go_sem]<;>rfl)) (by simp [cel_len]) (by simp) (by omega) ⟨by simp;omega,by omega⟩ (swpR_cls _ ho.c) (by simp [swpR,cel_sw]) ?_
        ·exact Own.h (by (repeat first|with_reducible assumption|refine .up rfl ?_|refine .sw rfl ?_|refine .swN rfl ?_))
        (repeat (with_reducible (first|refine U_nil ?_|refine UC_rg ?_|refine X_nx ?_|refine B_nx ?_|(refine U_q (v:=?_) ?h1 ?_;case h1=>((try simp only[r6,hw,go_sem])<;>rfl)))));have hm1:(L++[q]).map cel=L.map cel++[cel q]:=by simp
        refine⟨r - 1,by omega,i+1,by omega,Z1 r1,Z1 r2,Z1 r5,Z0,Z2 htk hm1,?_,Z1 o1,Z1 o2⟩
        rw[htk,hm1];exact Own.to (by rw[← hm1];exact cels_cls _)
       ·rw[hq0] at hst;(repeat (with_reducible (first|refine U_nil ?_|refine UC_sq ?_|refine UC_rg ?_|refine UC_bk ?_|refine X_nx ?_|((first|refine U_q (v:=?_) ?h1 ?_|refine U_ld (v:=?_) ?h1 ?_|refine U_gt ?h1 ?_);case h1=>((try simp only[h0,r1,r5,r6,o1,hip,hx,Int.toNat_natCast,hq0,go_sem])<;>rfl))|(refine U_gs1 ?h1 ?_;case h1=>((try simp only[h0,r1,r5,r6,o1,hip,hx,Int.toNat_natCast,hq0,go_sem])<;>rfl))|(refine U_gj (vs:=?_) ?h1 ?_;case h1=>((try simp only[h0,r1,r5,r6,o1,hip,hx,Int.toNat_natCast,hq0,go_sem])<;>rfl))|rw[put_some])));refine UC_cutx (fun e o=>(e 1=.pt 1 0 0∧e 2=.pt 2 0 0∧e 5=.sl (m.map cel)∧e 11=.i .i64 i∧e 10=ownV 155 8 (L.map cel)∧Own o 155 8 (L.map cel)∧o 1=some (.row 8 [cel a])∧o 2=some (.row 8 [[.i .i64 0,.i .u64 0,.i .u64 0,.i .u64 0,.i .u64 0,.nil,.i .i64 0,.i .i64 0]]))∧e 14=.bo true) ?_ ?_
        ·refine U_lp (fun r e o=>(e 1=.pt 1 0 0∧e 2=.pt 2 0 0∧e 5=.sl (m.map cel)∧e 11=.i .i64 i∧e 10=ownV 155 8 (L.map cel)∧Own o 155 8 (L.map cel)∧o 1=some (.row 8 [cel a])∧o 2=some (.row 8 [[.i .i64 0,.i .u64 0,.i .u64 0,.i .u64 0,.i .u64 0,.nil,.i .i64 0,.i .i64 0]]))∧e 14=.bo true∧e 15=.i .i64 0) (k:=1) ?_ (Call_le F) ?_
         ·exact⟨⟨Z1 r1,Z1 r2,Z1 r5,Z1 r6,Z1 r10,by (repeat first|with_reducible assumption|refine .up rfl ?_|refine .sw rfl ?_|refine .swN rfl ?_),Z1 o1,Z1 o2⟩,Z0,Z0⟩
         clear r1 r2 r5 r6 r10 ho o1 o2;rintro r' e o ⟨⟨r1,r2,r5,r6,r10,ho,o1,o2⟩,r14,r15⟩;dsimp only[b24_1];cases hl0:decide ((0:Int) < (L.length:Int))
         ·(repeat (with_reducible (first|refine U_nil ?_|refine UC_sq ?_|refine UC_rg ?_|refine UC_ex ?_|refine X_nx ?_|refine X_ex ?_|(refine U_q (v:=?_) ?h1 ?_;case h1=>((try simp only[h0,r1,r10,r15,o1,s1,hl0,go_sem])<;>rfl))|((first|refine U_gs2 ?h1 ?_|refine UC_cdf ?h1 ?_);case h1=>((try simp only[h0,r1,r10,r15,o1,s1,hl0,go_sem])<;>rfl))|rw[put_some])))
          exact⟨rfl,⟨Z1 r1,Z1 r2,Z1 r5,Z1 r6,Z1 r10,by (repeat first|with_reducible assumption|refine .up rfl ?_|refine .sw rfl ?_|refine .swN rfl ?_),Z1 o1,Z1 o2⟩,Z1 r14⟩
         ·(repeat (with_reducible (first|refine U_nil ?_|refine UC_sq ?_|refine UC_rg ?_|refine UC_ex ?_|refine X_nx ?_|refine X_ex ?_|((first|refine U_q (v:=?_) ?h1 ?_|refine U_ld (v:=?_) ?h1 ?_|refine U_gt ?h1 ?_);case h1=>((try simp only[h0,r1,r10,r15,o1,s1,hl0,go_sem])<;>rfl))|(refine UC_cdf ?h1 ?_;case h1=>((try simp only[h0,r1,r10,r15,o1,s1,hl0,go_sem])<;>rfl)))))
          exact⟨rfl,⟨Z1 r1,Z1 r2,Z1 r5,Z1 r6,Z1 r10,by (repeat first|with_reducible assumption|refine .up rfl ?_|refine .sw rfl ?_|refine .swN rfl ?_),Z1 o1,Z1 o2⟩,Z1 r14⟩
        clear r1 r2 r5 r6 r10 ho o1 o2;rintro e o ⟨⟨r1,r2,r5,r6,r10,ho,o1,o2⟩,r14⟩;rw[if_pos rfl] at hst;rw[hst] at htk;(repeat (with_reducible (first|refine U_nil ?_|refine UC_sq ?_|refine UC_rg ?_|refine UC_sk ?_|refine X_nx ?_|refine B_nx ?_|(refine U_q (v:=?_) ?h1 ?_;case h1=>((try simp only[r6,r14,hw,go_sem])<;>rfl))|(refine UC_cdf ?h1 ?_;case h1=>((try simp only[r6,r14,hw,go_sem])<;>rfl)))))
        exact⟨r - 1,by omega,i+1,by omega,Z1 r1,Z1 r2,Z1 r5,Z0,by rw[htk];simp only[r10,go_sem],by rw[htk];(repeat first|with_reducible assumption|refine .up rfl ?_|refine .sw rfl ?_|refine .swN rfl ?_),Z1 o1,Z1 o2⟩
      ·(repeat (with_reducible (first|refine U_nil ?_|refine UC_sq ?_|refine UC_rg ?_|refine UC_bk ?_|refine X_nx ?_|((first|refine U_q (v:=?_) ?h1 ?_|refine U_ld (v:=?_) ?h1 ?_|refine U_gt ?h1 ?_);case h1=>((try simp only[h0,r1,r5,r6,o1,hip,hx,Int.toNat_natCast,go_sem])<;>rfl))|(refine U_gs2 ?h1 ?_;case h1=>((try simp only[h0,r1,r5,r6,o1,hip,hx,Int.toNat_natCast,go_sem])<;>rfl))|rw[put_some])));have hst:stepK 3 L q=if (voidB q||L.any (fun x=>sameN x q))=true then L else L++[q]:=by
        unfold stepK;rw[if_neg (by rintro⟨h,_⟩;omega)];simp
       refine UC_cutx (fun e o=>(e 1=.pt 1 0 0∧e 2=.pt 2 0 0∧e 5=.sl (m.map cel)∧e 11=.i .i64 i∧e 10=ownV 155 8 (L.map cel)∧Own o 155 8 (L.map cel)∧o 1=some (.row 8 [cel a])∧o 2=some (.row 8 [[.i .i64 0,.i .u64 0,.i .u64 0,.i .u64 0,.i .u64 0,.nil,.i .i64 0,.i .i64 0]]))∧e 14=.bo (voidB q||L.any (fun x=>sameN x q))) ?_ ?_
       ·refine U_lp (fun r e o=>∃ j:Nat,j+r=L.length∧(e 1=.pt 1 0 0∧e 2=.pt 2 0 0∧e 5=.sl (m.map cel)∧e 11=.i .i64 i∧e 10=ownV 155 8 (L.map cel)∧Own o 155 8 (L.map cel)∧o 1=some (.row 8 [cel a])∧o 2=some (.row 8 [[.i .i64 0,.i .u64 0,.i .u64 0,.i .u64 0,.i .u64 0,.nil,.i .i64 0,.i .i64 0]]))∧e 14=.bo (voidB q||(L.take j).any (fun x=>sameN x q))∧e 15=.i .i64 j) (k:=L.length) ?_ (Call_le F) ?_
        ·exact⟨0,by omega,⟨Z1 r1,Z1 r2,Z1 r5,Z1 r6,Z1 r10,by (repeat first|with_reducible assumption|refine .up rfl ?_|refine .sw rfl ?_|refine .swN rfl ?_),Z1 o1,Z1 o2⟩,by simp only[List.take_zero,List.any_nil,Bool.or_false,go_sem],Zr0⟩
        clear r1 r2 r5 r6 r10 ho o1 o2;rintro r' e o ⟨j,hjr,⟨r1,r2,r5,r6,r10,ho,o1,o2⟩,r14,r15⟩;dsimp only[b24_1];by_cases hj:j < L.length
        ·have hj1:decide ((j:Int) < (L.length:Int))=true:=by simpa using hj
         have hjp:(0:Int)≤(j:Int):=by omega
         have hjl:(j:Int) < (L.length:Int):=by omega
         have hy:=cels_at hj;have hjw:=wrapN1 (i:=j) (by omega);have hsv:=hcv _ (List.getElem_mem hj);have hjt:(L.take (j+1)).any (fun x=>sameN x q)=((L.take j).any (fun x=>sameN x q)||sameN L[j] q):=by
          rw[List.take_add_one,List.getElem?_eq_getElem hj];simp only[Option.toList_some,List.any_append,List.any_cons,List.any_nil,Bool.or_false]
         have hne:L.map cel≠[]:=by
          intro h;have:L=[]:=by simpa using h
          rw[this] at hj;exact absurd hj (by simp)
         have hrl:(L.map cel).length=L.length:=List.length_map ..;have r10':=r10;rw[ownV_ne hne,hrl] at r10;have ho':=ho.h hne;generalize L[j]=x at hy hsv hjt;cases hb:(voidB q||(L.take j).any (fun x=>sameN x q)) with
         | true =>
          rw[hb] at r14;(repeat (with_reducible (first|refine U_nil ?_|refine UC_sq ?_|refine UC_rg ?_|refine UC_bk ?_|refine UC_sk ?_|refine X_nx ?_|refine B_nx ?_|((first|refine U_q (v:=?_) ?h1 ?_|refine U_ld (v:=?_) ?h1 ?_|refine U_gt ?h1 ?_|refine UC_cdt ?h1 ?_);case h1=>((try simp only[h0,r1,r10,r14,r15,o1,hj1,hjw,go_sem])<;>rfl))|(refine U_gs1 ?h1 ?_;case h1=>((try simp only[h0,r1,r10,r14,r15,o1,hj1,hjw,go_sem])<;>rfl))|rw[put_some])))
          exact⟨r' - 1,by omega,j+1,by omega,⟨Z1 r1,Z1 r2,Z1 r5,Z1 r6,Z1 r10',by (repeat first|with_reducible assumption|refine .up rfl ?_|refine .sw rfl ?_|refine .swN rfl ?_),Z1 o1,Z1 o2⟩,by simp only[go_sem];rw[hjt,← Bool.or_assoc,hb,Bool.true_or],Z0⟩
         | false =>
          rw[hb] at r14;(repeat (with_reducible (first|refine U_nil ?_|refine UC_sq ?_|refine UC_rg ?_|refine UC_bk ?_|refine UC_sk ?_|refine X_nx ?_|((first|refine U_q (v:=?_) ?h1 ?_|refine U_ld (v:=?_) ?h1 ?_|refine U_gt ?h1 ?_|refine UC_cdt ?h1 ?_);case h1=>((try simp only[h0,r1,r5,r6,r10,r14,r15,o1,ho',hj1,hjl,hjw,hip,hjp,hx,hy,Int.toNat_natCast,Nat.zero_add,go_sem])<;>rfl)))))
          (refine U_pcr (r:=.bo (sameN x q)) hsv ?h1 ?h2 rfl ?_;(case h1=>((try simp only[go_sem])<;>rfl));(case h2=>simp only[List.all_cons,List.all_nil,Bool.and_true,go_sem]))
          (repeat (with_reducible (first|refine U_nil ?_|refine UC_rg ?_|refine X_nx ?_|refine B_nx ?_|(refine U_q (v:=?_) ?h1 ?_;case h1=>((try simp only[r15,hjw,go_sem])<;>rfl)))))
          exact⟨r' - 1,by omega,j+1,by omega,⟨Z1 r1,Z1 r2,Z1 r5,Z1 r6,Z1 r10',by (repeat first|with_reducible assumption|refine .up rfl ?_|refine .sw rfl ?_|refine .swN rfl ?_),Z1 o1,Z1 o2⟩,by simp only[go_sem];rw[hjt,← Bool.or_assoc,hb,Bool.false_or],Z0⟩
        ·have hj1:decide ((j:Int) < (L.length:Int))=false:=by simpa using hj
         have hjl:j=L.length:=by omega
         rw[hjl,List.take_length] at r14;(repeat (with_reducible (first|refine U_nil ?_|refine UC_sq ?_|refine UC_rg ?_|refine UC_ex ?_|refine X_nx ?_|refine X_ex ?_|(refine U_q (v:=?_) ?h1 ?_;case h1=>((try simp only[h0,r1,r10,r15,o1,s1,hj1,go_sem])<;>rfl))|((first|refine U_gs2 ?h1 ?_|refine UC_cdf ?h1 ?_);case h1=>((try simp only[h0,r1,r10,r15,o1,s1,hj1,go_sem])<;>rfl))|rw[put_some])))
         exact⟨rfl,⟨Z1 r1,Z1 r2,Z1 r5,Z1 r6,Z1 r10,by (repeat first|with_reducible assumption|refine .up rfl ?_|refine .sw rfl ?_|refine .swN rfl ?_),Z1 o1,Z1 o2⟩,Z1 r14⟩
       clear r1 r2 r5 r6 r10 ho o1 o2;rintro e o ⟨⟨r1,r2,r5,r6,r10,ho,o1,o2⟩,r14⟩;cases hd:(voidB q||L.any (fun x=>sameN x q)) with
       | true =>
        rw[hd] at hst r14;rw[if_pos rfl] at hst;rw[hst] at htk;(repeat (with_reducible (first|refine U_nil ?_|refine UC_sq ?_|refine UC_rg ?_|refine UC_sk ?_|refine X_nx ?_|refine B_nx ?_|(refine U_q (v:=?_) ?h1 ?_;case h1=>((try simp only[r6,r14,hw,go_sem])<;>rfl))|(refine UC_cdf ?h1 ?_;case h1=>((try simp only[r6,r14,hw,go_sem])<;>rfl)))))
        exact⟨r - 1,by omega,i+1,by omega,Z1 r1,Z1 r2,Z1 r5,Z0,by rw[htk];simp only[r10,go_sem],by rw[htk];(repeat first|with_reducible assumption|refine .up rfl ?_|refine .sw rfl ?_|refine .swN rfl ?_),Z1 o1,Z1 o2⟩
       | false =>
        rw[hd] at hst r14;rw[if_neg (by decide)] at hst;rw[hst] at htk;(repeat (with_reducible (first|refine U_nil ?_|refine UC_sq ?_|refine UC_rg ?_|refine X_nx ?_|((first|refine U_q (v:=?_) ?h1 ?_|refine U_ld (v:=?_) ?h1 ?_|refine UC_cdt ?h1 ?_);case h1=>((try simp only[r1,r5,r6,r10,r14,hip,hx,Int.toNat_natCast,go_sem])<;>rfl))|(refine U_bsl (es:=?_) (es':=?_) ?h1 ?h2 ?h3 ?_;case h1|h2|h3=>((try simp only[r1,r5,r6,r10,r14,hip,hx,Int.toNat_natCast,go_sem])<;>rfl)))));refine U_appo 155 (L:=L.map cel) (ys:=[cel q]) (Z1 r10) ?_ (by (simp only[src,go_sem]<;>rfl)) (by simp [cel_len]) (by simp) (by omega) ⟨by simp;omega,by omega⟩ (swpR_cls _ ho.c) (by simp [swpR,cel_sw]) ?_
        ·exact Own.h (by (repeat first|with_reducible assumption|refine .up rfl ?_|refine .sw rfl ?_|refine .swN rfl ?_))
        (repeat (with_reducible (first|refine U_nil ?_|refine UC_rg ?_|refine X_nx ?_|refine B_nx ?_|(refine U_q (v:=?_) ?h1 ?_;case h1=>((try simp only[r6,hw,go_sem])<;>rfl)))));have hm1:(L++[q]).map cel=L.map cel++[cel q]:=by simp
        refine⟨r - 1,by omega,i+1,by omega,Z1 r1,Z1 r2,Z1 r5,Z0,Z2 htk hm1,?_,Z1 o1,Z1 o2⟩
        rw[htk,hm1];exact Own.to (by rw[← hm1];exact cels_cls _)
     ·have hi':i=m.length:=by
       have:¬ i < m.length:=by simpa using hc1
       omega
      rw[hi',List.take_length] at r10 ho;(repeat (with_reducible (first|refine UC_ex ?_|refine X_ex ?_)))
      exact⟨rfl,Z1 r1,Z1 r2,Z1 r10,ho,o1,o2⟩
    clear r1 r2 r5 ho o1 o2;rintro e o ⟨r1,r2,r10,ho,o1,o2⟩;have hLl:(m.foldl (stepK k) []).length≤899:=by
     have:=stepK_len k m []
     simp only[List.length_nil,Nat.zero_add] at this;omega
    generalize m.foldl (stepK k) []=L at r10 ho hLl
    match L,r10,ho,hLl with
    | [],r10,ho,hLl =>
     rw[show ownV 155 8 (([]:List Nd).map cel)=.nil from rfl] at r10;(repeat (with_reducible (first|refine U_nil ?_|refine UC_sq ?_|refine UC_rg ?_|refine UC_rt ?_|refine X_nx ?_|refine X_rt ?_|((first|refine U_q (v:=?_) ?h1 ?_|refine E_1 (v:=?_) ?h1 ?_|refine UC_cdt ?h1 ?_);case h1=>((try simp only[r1,r2,r10,o1,o2,go_sem])<;>rfl))|(refine U_sto (id:=?_) (i:=?_) (j:=?_) (q:=?_) (es:=?_) (cs:=?_) (vs:=?_) (es':=?_) ?h1 ?h2 ?h3 ?h4 ?h5 ?h6 ?h7 ?_;case h1|h2|h3|h4|h5|h6|h7=>((try simp only[r1,r2,r10,o1,o2,go_sem])<;>rfl)))));exact frz_celN _ 0 zSet [] 0 0 .nil rfl
    | [p],r10,ho,hLl =>
     rw[show ownV 155 8 (([p]:List Nd).map cel)=.rw 155 8 0 1 from rfl] at r10;have ho:=ho.h (by simp);(repeat (with_reducible (first|refine U_nil ?_|refine UC_sq ?_|refine UC_rg ?_|refine UC_sk ?_|refine UC_rt ?_|refine X_nx ?_|refine X_rt ?_|((first|refine U_q (v:=?_) ?h1 ?_|refine U_ld (v:=?_) ?h1 ?_|refine E_1 (v:=?_) ?h1 ?_|refine UC_cdt ?h1 ?_);case h1=>((try simp only[r1,r2,r10,o1,o2,ho,go_sem])<;>rfl))|(refine U_sto (id:=?_) (i:=?_) (j:=?_) (q:=?_) (es:=?_) (cs:=?_) (vs:=?_) (es':=?_) ?h1 ?h2 ?h3 ?h4 ?h5 ?h6 ?h7 ?_;case h1|h2|h3|h4|h5|h6|h7=>((try simp only[r1,r2,r10,o1,o2,ho,go_sem])<;>rfl))|(refine UC_cdf ?h1 ?_;case h1=>((try simp only[r1,r2,r10,o1,o2,ho,go_sem])<;>rfl)))));exact fz_of rfl (okf_cel p)
    | p::p'::L,r10,ho,hLl =>
     have h10:(p::p'::L).map cel≠[]:=by simp
     obtain⟨n,hn2⟩:∃ n,n=((p::p'::L).map cel).length:=⟨_,rfl⟩;have hn3:2≤n:=by rw[hn2];simp
     rw[ownV_ne h10,← hn2] at r10;have hn0:((n:Int)==0)=false:=by simp;omega
     have hn1:((n:Int)==1)=false:=by simp;omega
     (repeat (with_reducible (first|refine U_nil ?_|refine UC_sq ?_|refine UC_rg ?_|refine UC_sk ?_|refine UC_rt ?_|refine X_nx ?_|((first|refine U_q (v:=?_) ?h1 ?_|refine U_ld (v:=?_) ?h1 ?_|refine E_1 (v:=?_) ?h1 ?_);case h1=>((try simp only[r1,r2,r10,o1,o2,hn0,hn1,h0,go_sem])<;>rfl))|(refine U_sto (id:=?_) (i:=?_) (j:=?_) (q:=?_) (es:=?_) (cs:=?_) (vs:=?_) (es':=?_) ?h1 ?h2 ?h3 ?h4 ?h5 ?h6 ?h7 ?_;case h1|h2|h3|h4|h5|h6|h7=>((try simp only[r1,r2,r10,o1,o2,hn0,hn1,h0,go_sem])<;>rfl))|(refine UC_cdf ?h1 ?_;case h1=>((try simp only[r1,r2,r10,o1,o2,hn0,hn1,h0,go_sem])<;>rfl)))));refine frz_celN _ k zSet (p::p'::L) 0 0 _ ?_;rw[show V.rw 155 8 0 n=ownV 155 8 ((p::p'::L).map cel) from by rw[ownV_ne h10,hn2]];exact frz_own (by (repeat first|with_reducible assumption|refine .up rfl ?_|refine .sw rfl ?_|refine .swN rfl ?_)) (fza_cel _) 21
end Go.Proofs.Ytgiedknghbpdfaa
