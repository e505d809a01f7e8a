import Derived.Test.YtgiedknghbpdfaaGreatC13

namespace Go.Proofs.YtgiedknghbpdfaaGreat
set_option linter.all false
attribute [-go_sem] swpOb renOb rfOb V.cells
set_option maxHeartbeats 2000000 in
theorem steps_law (n:Nd) (hs:small n) (c:Cf) (b:Nat) (hb:b < 256):Pu F 5 [.ag (cel n),.ag (cfC c),.i .u8 b] (.bo true):=by
 have haw:=cawake_pu
 obtain⟨A,ok,hA,hok⟩:=auto_pu n hs
 refine U_pure e5 rfl rfl (by simp only[go_sem,Bool.and_true]) ?_
 dsimp only[fn5,c5]
 (repeat (with_reducible (first|refine U_nil ?_|refine UC_sq ?_|refine UC_rg ?_|refine X_nx ?_|(refine U_q (v:=?_) ?h1 ?_;case h1=>((try simp only[go_sem])<;>rfl))|(refine U_box (cs:=?_) (cs':=?_) (n:=?_) ?h1 ?h2 ?h3 ?h4 ?_;case h1|h2|h3|h4=>((try simp only[go_sem])<;>rfl)))))
 (refine U_pcr (r:=.bo true) haw ?h1 ?h2 rfl ?_;(case h1=>((try simp only[go_sem])<;>rfl));(case h2=>simp only[List.all_cons,List.all_nil,Bool.and_true,go_sem]))
 (repeat (with_reducible (first|refine U_nil ?_|refine UC_sq ?_|refine UC_rg ?_|refine UC_sk ?_|refine X_nx ?_|((first|refine U_q (v:=?_) ?h1 ?_|refine U_ld (v:=?_) ?h1 ?_);case h1=>((try simp only[go_sem])<;>rfl))|(refine UC_cdf ?h1 ?_;case h1=>((try simp only[go_sem])<;>rfl)))))
 refine U_pc (vs:=[.ag (cel n)]) (ws:=[.ag (cel n)]) (by simp only[go_sem]) (fzs_cel n _) (Bool.or_eq_true_iff.2 (.inl (clos_cel n))) (by simp only[Bool.and_true,go_sem]) hA ?_
 cases ok with
 | false =>
  (repeat (with_reducible (first|refine U_nil ?_|refine UC_sq ?_|refine UC_rg ?_|refine UC_rt ?_|refine X_nx ?_|refine X_rt ?_|((first|refine U_q (v:=?_) ?h1 ?_|refine E_1 (v:=?_) ?h1 ?_|refine U_alc (n:=?_) ?h1 ?_);case h1=>((try simp only[go_sem])<;>rfl))|(refine U_sto (id:=?_) (i:=?_) (j:=?_) (q:=?_) (es:=?_) (cs:=?_) (vs:=?_) (es':=?_) ?h1 ?h2 ?h3 ?h4 ?h5 ?h6 ?h7 ?_;case h1|h2|h3|h4|h5|h6|h7=>((try simp only[go_sem])<;>rfl))|(refine UC_cdt ?h1 ?_;case h1=>((try simp only[go_sem])<;>rfl)))))
  rfl
 | true =>
  obtain⟨hAm,_,hW,hL,_⟩:=hok rfl
  have hfn:A.first.Nodup:=by rw[hAm];exact first_nodup _
  have hf:A.first.length≤41:=by
   have:=nodup_len A.first (List.range 41) hfn fun p hp=>List.mem_range.2 (by have:=(hW.f p hp).2;have:=hW.n;omega)
   simpa using this
  clear hAm
  have hn:=near_pu hW c true
  generalize nearC A c true=x at hn
  have h1:=begin_pu hW (by omega) hb
  have h2:=rbegin_pu hW (by omega) hb
  have g1:(begF A b).length=(begL A b A.first).length:=sd_len (beg_nodup b hfn) fun y=>Iff.rfl
  have g2:(begL A b A.first).length≤41:=by
   have:=List.length_filter_le (fun p=>bitOf (stAt A p) b) A.first
   simp only[begL,List.length_map];omega
  have h3:=rsorted_pu (l:=begF A b) (by omega) g1 (fun y hy=>(sd_mem _ y).1 hy) (sd_pw _)
  have hrt:∀ y∈begF A b,rightB A y=true:=fun y hy=>by
   obtain⟨q,hq,rfl⟩:=List.mem_map.1 ((sd_mem _ y).1 hy)
   have:=hW.f q (List.mem_filter.1 hq).1
   exact ent_right hW this.1 (by rw[hW.la];exact this.2)
  have hlb:(begF A b).length≤41:=by omega
  generalize begF A b=l at h1 h3 hrt hlb
  have hrx:=rright_pu hW x
  (repeat (with_reducible (first|refine U_nil ?_|refine UC_sq ?_|refine UC_rg ?_|refine UC_sk ?_|refine X_nx ?_|((first|refine U_q (v:=?_) ?h1 ?_|refine U_ld (v:=?_) ?h1 ?_|refine U_alc (n:=?_) ?h1 ?_);case h1=>((try simp only[go_sem])<;>rfl))|(refine U_sto (id:=?_) (i:=?_) (j:=?_) (q:=?_) (es:=?_) (cs:=?_) (vs:=?_) (es':=?_) ?h1 ?h2 ?h3 ?h4 ?h5 ?h6 ?h7 ?_;case h1|h2|h3|h4|h5|h6|h7=>((try simp only[go_sem])<;>rfl))|(refine UC_cdf ?h1 ?_;case h1=>((try simp only[go_sem])<;>rfl)))))
  (refine U_pcr (r:=.ag (cfC x)) hn ?h1 ?h2 rfl ?_;(case h1=>((try simp only[go_sem])<;>rfl));(case h2=>simp only[List.all_cons,List.all_nil,Bool.and_true,go_sem]))
  (repeat (with_reducible (first|refine U_nil ?_|refine UC_sq ?_|refine UC_rg ?_|refine X_nx ?_|((first|refine U_q (v:=?_) ?h1 ?_|refine U_ld (v:=?_) ?h1 ?_);case h1=>((try simp only[go_sem])<;>rfl))|(refine U_sto (id:=?_) (i:=?_) (j:=?_) (q:=?_) (es:=?_) (cs:=?_) (vs:=?_) (es':=?_) ?h1 ?h2 ?h3 ?h4 ?h5 ?h6 ?h7 ?_;case h1|h2|h3|h4|h5|h6|h7=>((try simp only[go_sem])<;>rfl)))))
  (refine U_pc (g:=17) (r:=.sl (l.map cfC)) (vs:=?_) (ws:=?_) ?h1 ?h2 ?h3 ?h4 ?h5 ?_;(case h1=>((try simp only[go_sem])<;>rfl));(case h2=>refine fzsU_ok ?_;first|rfl|simp only[List.all_cons,List.all_nil,Bool.and_true,go_sem]);(case h5=>exact h1);(case h3=>first|exact Bool.or_eq_true_iff.2 (.inr rfl)|(refine Bool.or_eq_true_iff.2 (.inl ?_);simp only[clos,List.all_cons,List.all_nil,Bool.and_true,go_sem]));(case h4=>first|rfl|simp only[go_sem,Bool.and_true]))
  (repeat (with_reducible (first|refine U_nil ?_|refine UC_sq ?_|refine UC_rg ?_|refine X_nx ?_|((first|refine U_q (v:=?_) ?h1 ?_|refine U_ld (v:=?_) ?h1 ?_);case h1=>((try simp only[go_sem])<;>rfl)))))
  (refine U_pc (g:=19) (r:=.sl ((begL A b A.first).map cfC)) (vs:=?_) (ws:=?_) ?h1 ?h2 ?h3 ?h4 ?h5 ?_;(case h1=>((try simp only[go_sem])<;>rfl));(case h2=>refine fzsU_ok ?_;first|rfl|simp only[List.all_cons,List.all_nil,Bool.and_true,go_sem]);(case h5=>exact h2);(case h3=>first|exact Bool.or_eq_true_iff.2 (.inr rfl)|(refine Bool.or_eq_true_iff.2 (.inl ?_);simp only[clos,List.all_cons,List.all_nil,Bool.and_true,go_sem]));(case h4=>first|rfl|simp only[go_sem,Bool.and_true]))
  (repeat fail)
  (refine U_pcr (r:=.bo true) h3 ?h1 ?h2 rfl ?_;(case h1=>((try simp only[go_sem])<;>rfl));(case h2=>simp only[List.all_cons,List.all_nil,Bool.and_true,go_sem]))
  (repeat (with_reducible (first|refine U_nil ?_|refine UC_sq ?_|refine UC_rg ?_|refine UC_bk ?_|refine UC_sk ?_|refine X_nx ?_|(refine U_q (v:=?_) ?h1 ?_;case h1=>((try simp only[go_sem])<;>rfl))|(refine UC_cdf ?h1 ?_;case h1=>((try simp only[go_sem])<;>rfl)))))
  refine UC_cutx (fun e o=>e 2=.i .u8 b∧e 4=.pt 4 0 0∧e 7=.pt 7 0 0∧o 4=some (.row 5 [cfC x])∧o 7=some (.row 15 [auC A])) ?_ ?_
  ·refine U_lp (fun r e o=>∃ i:Nat,i+r=l.length∧e 2=.i .u8 b∧e 4=.pt 4 0 0∧e 7=.pt 7 0 0∧e 9=.sl (l.map cfC)∧e 10=.i .i64 i∧o 4=some (.row 5 [cfC x])∧o 7=some (.row 15 [auC A])) (k:=l.length) ?_ (Call_le F) ?_
   ·exact⟨0,by omega,by simp only[go_sem],by simp only[go_sem],by simp only[go_sem],by simp only[go_sem],by (simp only[go_sem]<;>rfl),by simp only[go_sem],by simp only[go_sem]⟩
   rintro r e o ⟨i,hir,r2,r4,r7,r9,r10,o4,o7⟩
   dsimp only[b5_0]
   (repeat (with_reducible (first|refine U_nil ?_|refine UC_sq ?_|refine UC_rg ?_|refine X_nx ?_|(refine U_q (v:=?_) ?h1 ?_;case h1=>((try simp only[r9,r10,List.length_map,go_sem])<;>rfl)))))
   refine UC_cdb (q:=decide ((i:Int) < (l.length:Int))) (by simp only[go_sem]) (fun hc=>?_) (fun hc=>?_)
   ·have hi:i < l.length:=by simpa using hc
    have hip:(0:Int)≤(i:Int):=by omega
    have hx:=cfs_at hi
    have hw:=wrap1 (i:=i) (by omega)
    have hy:=rright_pu hW l[i]
    rw[hrt _ (List.getElem_mem hi)] at hy
    (repeat (with_reducible (first|refine UC_sq ?_|refine UC_rg ?_|refine UC_bk ?_|refine UC_sk ?_|refine X_nx ?_|((first|refine U_q (v:=?_) ?h1 ?_|refine U_ld (v:=?_) ?h1 ?_);case h1=>((try simp only[r7,r9,r10,o7,hip,hx,Int.toNat_natCast,go_sem])<;>rfl)))))
    (refine U_pcr (r:=.bo true) hy ?h1 ?h2 rfl ?_;(case h1=>((try simp only[go_sem])<;>rfl));(case h2=>simp only[List.all_cons,List.all_nil,Bool.and_true,go_sem]))
    (repeat (with_reducible (first|refine U_nil ?_|refine UC_rg ?_|refine UC_sk ?_|refine X_nx ?_|refine B_nx ?_|(refine U_q (v:=?_) ?h1 ?_;case h1=>((try simp only[r10,hw,go_sem])<;>rfl))|(refine UC_cdf ?h1 ?_;case h1=>((try simp only[r10,hw,go_sem])<;>rfl)))))
    exact⟨r - 1,by omega,i+1,by omega,by simp only[r2,go_sem],by simp only[r4,go_sem],by simp only[r7,go_sem],by simp only[r9,go_sem],by simp only[go_sem],by simp only[o4,go_sem],by simp only[o7,go_sem]⟩
   ·(repeat (with_reducible (first|refine UC_ex ?_|refine X_ex ?_)))
    exact⟨rfl,by simp only[r2,go_sem],by simp only[r4,go_sem],by simp only[r7,go_sem],o4,o7⟩
  rintro e o ⟨r2,r4,r7,o4,o7⟩
  (repeat (with_reducible (first|refine UC_sq ?_|refine UC_rg ?_|refine X_nx ?_|(refine U_ld (v:=?_) ?h1 ?_;case h1=>((try simp only[r4,r7,o4,o7,go_sem])<;>rfl)))))
  (refine U_pcr (r:=.bo (rightB A x)) hrx ?h1 ?h2 rfl ?_;(case h1=>((try simp only[go_sem])<;>rfl));(case h2=>simp only[List.all_cons,List.all_nil,Bool.and_true,go_sem]))
  cases hr:rightB A x with
  | false =>
   have h4:=step_no hW hr b
   (repeat (with_reducible (first|refine U_nil ?_|refine UC_sq ?_|refine UC_rg ?_|refine X_nx ?_|((first|refine U_q (v:=?_) ?h1 ?_|refine U_ld (v:=?_) ?h1 ?_);case h1=>((try simp only[r2,r4,r7,o4,o7,go_sem])<;>rfl))|(refine UC_cdt ?h1 ?_;case h1=>((try simp only[r2,r4,r7,o4,o7,go_sem])<;>rfl)))))
   (refine U_pc (g:=20) (r:=.sl []) (vs:=?_) (ws:=?_) ?h1 ?h2 ?h3 ?h4 ?h5 ?_;(case h1=>((try simp only[r2,go_sem])<;>rfl));(case h2=>refine fzsU_ok ?_;first|rfl|simp only[r2,List.all_cons,List.all_nil,Bool.and_true,go_sem]);(case h5=>exact h4);(case h3=>first|exact Bool.or_eq_true_iff.2 (.inr rfl)|(refine Bool.or_eq_true_iff.2 (.inl ?_);simp only[clos,r2,List.all_cons,List.all_nil,Bool.and_true,go_sem]));(case h4=>first|rfl|simp only[r2,go_sem,Bool.and_true]))
   (repeat (with_reducible (first|refine U_nil ?_|refine UC_rt ?_|refine X_nx ?_|refine X_rt ?_|((first|refine U_q (v:=?_) ?h1 ?_|refine E_1 (v:=?_) ?h1 ?_);case h1=>((try simp only[go_sem])<;>rfl)))))
   rfl
  | true =>
   obtain⟨r1',r2',_⟩:=rightB_iff.1 hr
   have hpl:x.p.toNat < A.moves.length:=by rw[hW.lm,← hW.la];omega
   have hml:=hL _ (List.mem_of_getElem? (mo_get hpl))
   have h4:=step_pu hW hL hr hb
   have h5:=rstep_pu hW hL hr hb
   obtain⟨k1,k2,k3⟩:=rst_all A x b (mvAt A x.p.toNat) [] List.nodup_nil
   have hg:(stepF A x b).length=(rstL A x b (mvAt A x.p.toNat)).length:=sd_len k1 fun y=>by
    have:=k3 y;simpa [rstL] using this
   have hg2:(stepF A x b).length < 4294967296:=by
    rw[hg];unfold rstL;rw[List.length_nil] at k2;omega
   have h6:=rsorted_pu (l:=stepF A x b) hg2 hg (fun y hy=>(k3 y).2 (.inr ((sd_mem _ y).1 hy))) (sd_pw _)
   have hrt2:∀ y∈stepF A x b,rightB A y=true:=fun y hy=>by
    obtain⟨m,hm,hv⟩:=List.mem_filterMap.1 ((sd_mem _ y).1 hy)
    split at hv
    ·exact (may_right hW hr (mvOk hW (mo_get hpl) hm) hv).1
    ·cases hv
   clear k1 k2 k3 hg
   generalize stepF A x b=q at h4 h6 hrt2 hg2
   (repeat (with_reducible (first|refine U_nil ?_|refine UC_sq ?_|refine UC_rg ?_|refine UC_sk ?_|refine X_nx ?_|((first|refine U_q (v:=?_) ?h1 ?_|refine U_ld (v:=?_) ?h1 ?_);case h1=>((try simp only[r2,r4,r7,o4,o7,go_sem])<;>rfl))|(refine UC_cdf ?h1 ?_;case h1=>((try simp only[r2,r4,r7,o4,o7,go_sem])<;>rfl)))))
   (refine U_pc (g:=20) (r:=.sl (q.map cfC)) (vs:=?_) (ws:=?_) ?h1 ?h2 ?h3 ?h4 ?h5 ?_;(case h1=>((try simp only[r2,go_sem])<;>rfl));(case h2=>refine fzsU_ok ?_;first|rfl|simp only[r2,List.all_cons,List.all_nil,Bool.and_true,go_sem]);(case h5=>exact h4);(case h3=>first|exact Bool.or_eq_true_iff.2 (.inr rfl)|(refine Bool.or_eq_true_iff.2 (.inl ?_);simp only[clos,r2,List.all_cons,List.all_nil,Bool.and_true,go_sem]));(case h4=>first|rfl|simp only[r2,go_sem,Bool.and_true]))
   (repeat (with_reducible (first|refine U_nil ?_|refine UC_sq ?_|refine UC_rg ?_|refine UC_bk ?_|refine X_nx ?_|(refine U_q (v:=?_) ?h1 ?_;case h1=>((try simp only[go_sem])<;>rfl)))))
   refine UC_cutx (fun e o=>e 2=.i .u8 b∧e 4=.pt 4 0 0∧e 7=.pt 7 0 0∧e 11=.sl (q.map cfC)∧o 4=some (.row 5 [cfC x])∧o 7=some (.row 15 [auC A])) ?_ ?_
   ·refine U_lp (fun r e o=>∃ i:Nat,i+r=q.length∧e 2=.i .u8 b∧e 4=.pt 4 0 0∧e 7=.pt 7 0 0∧e 11=.sl (q.map cfC)∧e 12=.i .i64 i∧o 4=some (.row 5 [cfC x])∧o 7=some (.row 15 [auC A])) (k:=q.length) ?_ (Call_le F) ?_
    ·exact⟨0,by omega,by simp only[r2,go_sem],by simp only[r4,go_sem],by simp only[r7,go_sem],by simp only[go_sem],by (simp only[go_sem]<;>rfl),by simp only[o4,go_sem],by simp only[o7,go_sem]⟩
    clear r2 r4 r7 o4 o7
    rintro r e o ⟨i,hir,r2,r4,r7,r11,r12,o4,o7⟩
    dsimp only[b5_1]
    (repeat (with_reducible (first|refine U_nil ?_|refine UC_sq ?_|refine UC_rg ?_|refine X_nx ?_|(refine U_q (v:=?_) ?h1 ?_;case h1=>((try simp only[r11,r12,List.length_map,go_sem])<;>rfl)))))
    refine UC_cdb (q:=decide ((i:Int) < (q.length:Int))) (by simp only[go_sem]) (fun hc=>?_) (fun hc=>?_)
    ·have hi:i < q.length:=by simpa using hc
     have hip:(0:Int)≤(i:Int):=by omega
     have hx:=cfs_at hi
     have hw:=wrap1 (i:=i) (by omega)
     have hy:=rright_pu hW q[i]
     rw[hrt2 _ (List.getElem_mem hi)] at hy
     (repeat (with_reducible (first|refine UC_sq ?_|refine UC_rg ?_|refine UC_bk ?_|refine UC_sk ?_|refine X_nx ?_|((first|refine U_q (v:=?_) ?h1 ?_|refine U_ld (v:=?_) ?h1 ?_);case h1=>((try simp only[r7,r11,r12,o7,hip,hx,Int.toNat_natCast,go_sem])<;>rfl)))))
     (refine U_pcr (r:=.bo true) hy ?h1 ?h2 rfl ?_;(case h1=>((try simp only[go_sem])<;>rfl));(case h2=>simp only[List.all_cons,List.all_nil,Bool.and_true,go_sem]))
     (repeat (with_reducible (first|refine U_nil ?_|refine UC_rg ?_|refine UC_sk ?_|refine X_nx ?_|refine B_nx ?_|(refine U_q (v:=?_) ?h1 ?_;case h1=>((try simp only[r12,hw,go_sem])<;>rfl))|(refine UC_cdf ?h1 ?_;case h1=>((try simp only[r12,hw,go_sem])<;>rfl)))))
     exact⟨r - 1,by omega,i+1,by omega,by simp only[r2,go_sem],by simp only[r4,go_sem],by simp only[r7,go_sem],by simp only[r11,go_sem],by simp only[go_sem],by simp only[o4,go_sem],by simp only[o7,go_sem]⟩
    ·(repeat (with_reducible (first|refine UC_ex ?_|refine X_ex ?_)))
     exact⟨rfl,by simp only[r2,go_sem],by simp only[r4,go_sem],by simp only[r7,go_sem],by simp only[r11,go_sem],o4,o7⟩
   clear r2 r4 r7 o4 o7
   rintro e o ⟨r2,r4,r7,r11,o4,o7⟩
   (repeat (with_reducible (first|refine UC_sq ?_|refine UC_rg ?_|refine X_nx ?_|((first|refine U_q (v:=?_) ?h1 ?_|refine U_ld (v:=?_) ?h1 ?_);case h1=>((try simp only[r2,r4,r7,r11,o4,o7,go_sem])<;>rfl)))))
   (refine U_pc (g:=21) (r:=.sl ((rstL A x b (mvAt A x.p.toNat)).map cfC)) (vs:=?_) (ws:=?_) ?h1 ?h2 ?h3 ?h4 ?h5 ?_;(case h1=>((try simp only[r2,go_sem])<;>rfl));(case h2=>refine fzsU_ok ?_;first|rfl|simp only[r2,List.all_cons,List.all_nil,Bool.and_true,go_sem]);(case h5=>exact h5);(case h3=>first|exact Bool.or_eq_true_iff.2 (.inr rfl)|(refine Bool.or_eq_true_iff.2 (.inl ?_);simp only[clos,r2,List.all_cons,List.all_nil,Bool.and_true,go_sem]));(case h4=>first|rfl|simp only[r2,go_sem,Bool.and_true]))
   (repeat fail)
   (refine U_pcr (r:=.bo true) h6 ?h1 ?h2 rfl ?_;(case h1=>((try simp only[r11,go_sem])<;>rfl));(case h2=>simp only[r11,List.all_cons,List.all_nil,Bool.and_true,go_sem]))
   (repeat (with_reducible (first|refine U_nil ?_|refine UC_rt ?_|refine X_nx ?_|((first|refine U_q (v:=?_) ?h1 ?_|refine E_1 (v:=?_) ?h1 ?_);case h1=>((try simp only[go_sem])<;>rfl)))))
   rfl
end Go.Proofs.YtgiedknghbpdfaaGreat
