import Derived.Test.YtkmanhmdppfaiaaGreatDoorKh

namespace Go.Proofs.YtkmanhmdppfaiaaGreatDoor
set_option linter.all false
attribute [-go_sem] swpOb renOb rfOb V.cells
theorem okf_c5 (a b c d e:Int):okf FZ (.ag [.i .i64 a,.i .i64 b,.i .i64 c,.i .i64 d,.i .i64 e])=true:=rfl
theorem clo_c5 (a b c d e:Int):clo FZ (.ag [.i .i64 a,.i .i64 b,.i .i64 c,.i .i64 d,.i .i64 e])=true:=rfl
attribute [local go_sem] okf_c5 clo_c5
theorem sd_le (l:List Cf):(sdC l).length≤l.length:=Nat.le_trans (cmpC_len _) (by rw[srtC_len];exact Nat.le_refl _)
theorem first_le {A:Au} (hW:WF A) (hn:A.first.Nodup):A.first.length≤41:=by
 have:=nodup_len A.first (List.range 41) hn fun p hp=>List.mem_range.2 (by have:=(hW.f p hp).2;have:=hW.n;omega)
 simpa using this
theorem begF_le {A:Au} (hW:WF A) (hn:A.first.Nodup) (b:Nat):(begF A b).length≤41:=by
 have h1:=first_le hW hn;have h2:=List.length_filter_le (fun p=>bitOf (stAt A p) b) A.first;have h3:=sd_le (begL A b A.first);have h4:(begL A b A.first).length≤A.first.length:=by simpa [begL] using h2
 exact Nat.le_trans h3 (Nat.le_trans h4 h1)
theorem stepF_le {A:Au} (hL:∀ l∈A.moves,l.length < 2147483648) (x:Cf) (b:Nat):(stepF A x b).length < 2147483648:=by
 have h1:=sd_le (stepL A x b (mvAt A x.p.toNat));have h2:(stepL A x b (mvAt A x.p.toNat)).length≤(mvAt A x.p.toNat).length:=List.length_filterMap_le ..;have h3:(mvAt A x.p.toNat).length < 2147483648:=by
  by_cases h:x.p.toNat < A.moves.length
  ·rw[mvAt,List.getElem?_eq_getElem h];exact hL _ (List.getElem_mem h)
  ·rw[mvAt,List.getElem?_eq_none (by omega)];simp
 have h4:(stepF A x b).length≤_:=h1;omega
set_option maxHeartbeats 4000000 in
theorem true_lp (L:List Cf) (hln:L.length < 2147483648) (ca cb cc cd ce:Int) (p q b:Nat) (hLp:∃ y∈L,y.p=p) (hLq:∃ y∈L,y.p=q) (e:E) (o:O) (r5:e 5=.pt 5 0 0) (r7:e 7=.sl (L.map cfC)) (r8:e 8=.bo false) (r9:e 9=.bo false) (r10:e 10=.i .i64 0) (o5:o 5=some (.row 8 [[.i .i64 ca,.i .i64 cb,.i .i64 cc,.i .i64 cd,.i .i64 ce,.i .i64 p,.i .i64 q,.i .u8 b]])) :
  wpU true (Call F) (.lp b3_0) (fun x e o=>x=.ex 0∧e 8=.bo true∧e 9=.bo true) e o:=by
 refine U_lp (fun r e o=>∃ (i:Nat) (u v:Bool),i+r=L.length∧(u=true∨∃ y∈L.drop i,y.p=p)∧(v=true∨∃ y∈L.drop i,y.p=q)∧e 5=.pt 5 0 0∧e 7=.sl (L.map cfC)∧e 8=.bo u∧e 9=.bo v∧e 10=.i .i64 i∧o 5=some (.row 8 [[.i .i64 ca,.i .i64 cb,.i .i64 cc,.i .i64 cd,.i .i64 ce,.i .i64 p,.i .i64 q,.i .u8 b]])) (k:=L.length) ⟨0,false,false,by omega,.inr (by rw[List.drop_zero];exact hLp),.inr (by rw[List.drop_zero];exact hLq),r5,r7,r8,r9,by rw[r10];rfl,o5⟩ (Call_le F) ?_;clear r5 r7 r8 r9 r10 o5;rintro r e o ⟨i,u,v,hir,hu,hv,r5,r7,r8,r9,r10,o5⟩;dsimp only[b3_0];by_cases hi:i < L.length
 ·have hd:decide ((i:Int) < (L.length:Int))=true:=decide_eq_true (by omega);have hip:(0:Int)≤(i:Int):=by omega
  have hw:IntKind.i64.wrap ((i:Int)+1)=((i+1:Nat):Int):=by rw[wrap_i64 (by omega) (by omega)];rfl
  have gI:=cf_at hi;rw[List.drop_eq_getElem_cons hi] at hu hv;generalize L[i]=y at gI hu hv;have stay:∀ {t:Nat},(false=true∨∃ z∈y::L.drop (i+1),z.p=(t:Int))→¬ y.p=(t:Int)→∃ z∈L.drop (i+1),z.p=(t:Int):=fun {t} h hn=>by
   rcases h with h|⟨z,hz,he⟩
   ·cases h
   ·rcases List.mem_cons.1 hz with h|h
    ·subst h;exact absurd he hn
    ·exact⟨z,h,he⟩
  cases u with
  | true =>
   cases v with
   | true =>
    (repeat (with_reducible (first|refine U_nil ?_|refine UC_sq ?_|refine UC_rg ?_|refine UC_bk ?_|refine UC_sk ?_|refine X_nx ?_|refine B_nx ?_|((first|refine U_q (v:=?_) ?h1 ?_|refine UC_cdt ?h1 ?_);case h1=>((try simp only[r5,r7,r8,r9,r10,o5,hd,gI,hip,hw,Int.toNat_natCast,List.length_map,List.take_succ_cons,List.take_zero,List.drop_succ_cons,List.drop_zero,go_sem])<;>rfl))|(refine U_gs1 ?h1 ?_;case h1=>((try simp only[r5,r7,r8,r9,r10,o5,hd,gI,hip,hw,Int.toNat_natCast,List.length_map,List.take_succ_cons,List.take_zero,List.drop_succ_cons,List.drop_zero,go_sem])<;>rfl))|rw[put_some])))
    exact⟨r - 1,by omega,i+1,true,true,by omega,.inl rfl,.inl rfl,Z1 r5,Z1 r7,Z1 r8,Z1 r9,Z0,Z1 o5⟩
   | false =>
    cases cQ:(y.p==(q:Int)) with
    | true =>
     (repeat (with_reducible (first|refine U_nil ?_|refine UC_sq ?_|refine UC_rg ?_|refine UC_bk ?_|refine UC_sk ?_|refine X_nx ?_|refine B_nx ?_|((first|refine U_q (v:=?_) ?h1 ?_|refine U_ld (v:=?_) ?h1 ?_|refine U_gt ?h1 ?_|refine UC_cdt ?h1 ?_);case h1=>((try simp only[r5,r7,r8,r9,r10,o5,hd,gI,hip,hw,cQ,Int.toNat_natCast,List.length_map,List.take_succ_cons,List.take_zero,List.drop_succ_cons,List.drop_zero,go_sem])<;>rfl))|(refine U_gs1 ?h1 ?_;case h1=>((try simp only[r5,r7,r8,r9,r10,o5,hd,gI,hip,hw,cQ,Int.toNat_natCast,List.length_map,List.take_succ_cons,List.take_zero,List.drop_succ_cons,List.drop_zero,go_sem])<;>rfl))|rw[put_some])))
     exact⟨r - 1,by omega,i+1,true,true,by omega,.inl rfl,.inl rfl,Z1 r5,Z1 r7,Z1 r8,Z1 r9,Z0,Z1 o5⟩
    | false =>
     have hv2:=stay hv (by simpa using cQ);(repeat (with_reducible (first|refine U_nil ?_|refine UC_sq ?_|refine UC_rg ?_|refine UC_bk ?_|refine UC_sk ?_|refine X_nx ?_|refine B_nx ?_|((first|refine U_q (v:=?_) ?h1 ?_|refine U_ld (v:=?_) ?h1 ?_|refine U_gt ?h1 ?_|refine UC_cdt ?h1 ?_);case h1=>((try simp only[r5,r7,r8,r9,r10,o5,hd,gI,hip,hw,cQ,Int.toNat_natCast,List.length_map,List.take_succ_cons,List.take_zero,List.drop_succ_cons,List.drop_zero,go_sem])<;>rfl))|(refine U_gs1 ?h1 ?_;case h1=>((try simp only[r5,r7,r8,r9,r10,o5,hd,gI,hip,hw,cQ,Int.toNat_natCast,List.length_map,List.take_succ_cons,List.take_zero,List.drop_succ_cons,List.drop_zero,go_sem])<;>rfl))|rw[put_some])))
     exact⟨r - 1,by omega,i+1,true,false,by omega,.inl rfl,.inr hv2,Z1 r5,Z1 r7,Z1 r8,Z1 r9,Z0,Z1 o5⟩
  | false =>
   cases v with
   | true =>
    cases cP:(y.p==(p:Int)) with
    | true =>
     (repeat (with_reducible (first|refine U_nil ?_|refine UC_sq ?_|refine UC_rg ?_|refine UC_bk ?_|refine UC_sk ?_|refine X_nx ?_|refine B_nx ?_|((first|refine U_q (v:=?_) ?h1 ?_|refine U_ld (v:=?_) ?h1 ?_|refine U_gt ?h1 ?_|refine UC_cdt ?h1 ?_);case h1=>((try simp only[r5,r7,r8,r9,r10,o5,hd,gI,hip,hw,cP,Int.toNat_natCast,List.length_map,List.take_succ_cons,List.take_zero,List.drop_succ_cons,List.drop_zero,go_sem])<;>rfl))|(refine U_gs1 ?h1 ?_;case h1=>((try simp only[r5,r7,r8,r9,r10,o5,hd,gI,hip,hw,cP,Int.toNat_natCast,List.length_map,List.take_succ_cons,List.take_zero,List.drop_succ_cons,List.drop_zero,go_sem])<;>rfl))|rw[put_some])))
     exact⟨r - 1,by omega,i+1,true,true,by omega,.inl rfl,.inl rfl,Z1 r5,Z1 r7,Z1 r8,Z1 r9,Z0,Z1 o5⟩
    | false =>
     have hu2:=stay hu (by simpa using cP);(repeat (with_reducible (first|refine U_nil ?_|refine UC_sq ?_|refine UC_rg ?_|refine UC_bk ?_|refine UC_sk ?_|refine X_nx ?_|refine B_nx ?_|((first|refine U_q (v:=?_) ?h1 ?_|refine U_ld (v:=?_) ?h1 ?_|refine U_gt ?h1 ?_|refine UC_cdt ?h1 ?_);case h1=>((try simp only[r5,r7,r8,r9,r10,o5,hd,gI,hip,hw,cP,Int.toNat_natCast,List.length_map,List.take_succ_cons,List.take_zero,List.drop_succ_cons,List.drop_zero,go_sem])<;>rfl))|(refine U_gs1 ?h1 ?_;case h1=>((try simp only[r5,r7,r8,r9,r10,o5,hd,gI,hip,hw,cP,Int.toNat_natCast,List.length_map,List.take_succ_cons,List.take_zero,List.drop_succ_cons,List.drop_zero,go_sem])<;>rfl))|rw[put_some])))
     exact⟨r - 1,by omega,i+1,false,true,by omega,.inr hu2,.inl rfl,Z1 r5,Z1 r7,Z1 r8,Z1 r9,Z0,Z1 o5⟩
   | false =>
    cases cP:(y.p==(p:Int)) with
    | true =>
     cases cQ:(y.p==(q:Int)) with
     | true =>
      (repeat (with_reducible (first|refine U_nil ?_|refine UC_sq ?_|refine UC_rg ?_|refine UC_bk ?_|refine UC_sk ?_|refine X_nx ?_|refine B_nx ?_|((first|refine U_q (v:=?_) ?h1 ?_|refine U_ld (v:=?_) ?h1 ?_|refine U_gt ?h1 ?_|refine UC_cdt ?h1 ?_);case h1=>((try simp only[r5,r7,r8,r9,r10,o5,hd,gI,hip,hw,cP,cQ,Int.toNat_natCast,List.length_map,List.take_succ_cons,List.take_zero,List.drop_succ_cons,List.drop_zero,go_sem])<;>rfl)))))
      exact⟨r - 1,by omega,i+1,true,true,by omega,.inl rfl,.inl rfl,Z1 r5,Z1 r7,Z1 r8,Z1 r9,Z0,Z1 o5⟩
     | false =>
      have hv2:=stay hv (by simpa using cQ);(repeat (with_reducible (first|refine U_nil ?_|refine UC_sq ?_|refine UC_rg ?_|refine UC_bk ?_|refine UC_sk ?_|refine X_nx ?_|refine B_nx ?_|((first|refine U_q (v:=?_) ?h1 ?_|refine U_ld (v:=?_) ?h1 ?_|refine U_gt ?h1 ?_|refine UC_cdt ?h1 ?_);case h1=>((try simp only[r5,r7,r8,r9,r10,o5,hd,gI,hip,hw,cP,cQ,Int.toNat_natCast,List.length_map,List.take_succ_cons,List.take_zero,List.drop_succ_cons,List.drop_zero,go_sem])<;>rfl)))))
      exact⟨r - 1,by omega,i+1,true,false,by omega,.inl rfl,.inr hv2,Z1 r5,Z1 r7,Z1 r8,Z1 r9,Z0,Z1 o5⟩
    | false =>
     have hu2:=stay hu (by simpa using cP);cases cQ:(y.p==(q:Int)) with
     | true =>
      (repeat (with_reducible (first|refine U_nil ?_|refine UC_sq ?_|refine UC_rg ?_|refine UC_bk ?_|refine UC_sk ?_|refine X_nx ?_|refine B_nx ?_|((first|refine U_q (v:=?_) ?h1 ?_|refine U_ld (v:=?_) ?h1 ?_|refine U_gt ?h1 ?_|refine UC_cdt ?h1 ?_);case h1=>((try simp only[r5,r7,r8,r9,r10,o5,hd,gI,hip,hw,cP,cQ,Int.toNat_natCast,List.length_map,List.take_succ_cons,List.take_zero,List.drop_succ_cons,List.drop_zero,go_sem])<;>rfl)))))
      exact⟨r - 1,by omega,i+1,false,true,by omega,.inr hu2,.inl rfl,Z1 r5,Z1 r7,Z1 r8,Z1 r9,Z0,Z1 o5⟩
     | false =>
      have hv2:=stay hv (by simpa using cQ);(repeat (with_reducible (first|refine U_nil ?_|refine UC_sq ?_|refine UC_rg ?_|refine UC_bk ?_|refine UC_sk ?_|refine X_nx ?_|refine B_nx ?_|((first|refine U_q (v:=?_) ?h1 ?_|refine U_ld (v:=?_) ?h1 ?_|refine U_gt ?h1 ?_|refine UC_cdt ?h1 ?_);case h1=>((try simp only[r5,r7,r8,r9,r10,o5,hd,gI,hip,hw,cP,cQ,Int.toNat_natCast,List.length_map,List.take_succ_cons,List.take_zero,List.drop_succ_cons,List.drop_zero,go_sem])<;>rfl)))))
      exact⟨r - 1,by omega,i+1,false,false,by omega,.inr hu2,.inr hv2,Z1 r5,Z1 r7,Z1 r8,Z1 r9,Z0,Z1 o5⟩
 ·have hd:decide ((i:Int) < (L.length:Int))=false:=decide_eq_false (by omega);rw[List.drop_eq_nil_of_le (by omega)] at hu hv;have hu:u=true:=by
   rcases hu with h|⟨z,hz,_⟩
   ·exact h
   ·cases hz
  have hv:v=true:=by
   rcases hv with h|⟨z,hz,_⟩
   ·exact h
   ·cases hz
  subst hu;subst hv;(repeat (with_reducible (first|refine U_nil ?_|refine UC_sq ?_|refine UC_rg ?_|refine UC_ex ?_|refine X_nx ?_|refine X_ex ?_|(refine U_q (v:=?_) ?h1 ?_;case h1=>((try simp only[r7,r10,hd,List.length_map,go_sem])<;>rfl))|(refine UC_cdf ?h1 ?_;case h1=>((try simp only[r7,r10,hd,List.length_map,go_sem])<;>rfl)))))
  exact⟨rfl,Z1 r8,Z1 r9⟩
set_option maxRecDepth 5000 in
set_option maxHeartbeats 8000000 in
theorem trues_law (n:Nd) (hs:small n):Pu F 3 [.ag (cel n)] (.bo true):=by
 have haw:=fawake_pu;obtain⟨A,ok,hA,hok⟩:=auto_pu n hs;refine U_pure e3 rfl rfl (by simp only[go_sem,Bool.and_true]) ?_;dsimp only[fn3,c3];(repeat (with_reducible (first|refine U_nil ?_|refine UC_sq ?_|refine UC_rg ?_|refine X_nx ?_|(refine U_q (v:=?_) ?h1 ?_;case h1=>((try simp only[List.take_succ_cons,List.take_zero,List.drop_succ_cons,List.drop_zero,go_sem])<;>rfl))|(refine U_box (cs:=?_) (cs':=?_) (n:=?_) ?h1 ?h2 ?h3 ?h4 ?_;case h1|h2|h3|h4=>((try simp only[List.take_succ_cons,List.take_zero,List.drop_succ_cons,List.drop_zero,go_sem])<;>rfl)))))
 (refine U_pcr (r:=.bo true) haw ?h1 ?h2 rfl ?_;(case h1=>((try simp only[List.take_succ_cons,List.take_zero,List.drop_succ_cons,List.drop_zero,go_sem])<;>rfl));(case h2=>simp only[List.all_cons,List.all_nil,Bool.and_true,go_sem]))
 (repeat (with_reducible (first|refine U_nil ?_|refine UC_sq ?_|refine UC_rg ?_|refine UC_sk ?_|refine X_nx ?_|((first|refine U_q (v:=?_) ?h1 ?_|refine U_ld (v:=?_) ?h1 ?_);case h1=>((try simp only[List.take_succ_cons,List.take_zero,List.drop_succ_cons,List.drop_zero,go_sem])<;>rfl))|(refine UC_cdf ?h1 ?_;case h1=>((try simp only[List.take_succ_cons,List.take_zero,List.drop_succ_cons,List.drop_zero,go_sem])<;>rfl)))));refine U_pc (vs:=[.ag (cel n)]) (ws:=[.ag (cel n)]) (Z0) (fzs_cel n _) (Bool.or_eq_true_iff.2 (.inl (clos_cel n))) (by simp only[Bool.and_true,go_sem]) hA ?_;cases ok with
 | false =>
  (repeat (with_reducible (first|refine U_nil ?_|refine UC_sq ?_|refine UC_rg ?_|refine UC_rt ?_|refine X_nx ?_|refine X_rt ?_|((first|refine U_q (v:=?_) ?h1 ?_|refine E_1 (v:=?_) ?h1 ?_|refine U_alc (n:=?_) ?h1 ?_|refine UC_cdt ?h1 ?_);case h1=>((try simp only[List.take_succ_cons,List.take_zero,List.drop_succ_cons,List.drop_zero,go_sem])<;>rfl))|(refine U_sto (id:=?_) (i:=?_) (j:=?_) (q:=?_) (es:=?_) (cs:=?_) (vs:=?_) (es':=?_) ?h1 ?h2 ?h3 ?h4 ?h5 ?h6 ?h7 ?_;case h1|h2|h3|h4|h5|h6|h7=>((try simp only[List.take_succ_cons,List.take_zero,List.drop_succ_cons,List.drop_zero,go_sem])<;>rfl)))));rfl
 | true =>
  obtain⟨hAm,_,hW,hL,_⟩:=hok rfl;have hfn:A.first.Nodup:=by rw[hAm];exact first_nodup _
  clear hAm hok hA haw;have hf:=first_le hW hfn;have h1:=find_pu hW (by omega) hL;cases hfd:findF A with
  | none =>
   rw[hfd] at h1;have h1:Pu F 7 [.ag (auC A)] (.tp [.ag [.i .i64 0,.i .i64 0,.i .i64 0,.i .i64 0,.i .i64 0,.i .i64 0,.i .i64 0,.i .u8 0],.bo false]):=h1;have hz:eqV true [.i .i64,.i .i64,.i .i64,.i .i64,.i .i64,.i .i64,.i .i64,.i .u8] (.ag [.i .i64 0,.i .i64 0,.i .i64 0,.i .i64 0,.i .i64 0,.i .i64 0,.i .i64 0,.i .u8 0]) (.ag [.i .i64 0,.i .i64 0,.i .i64 0,.i .i64 0,.i .i64 0,.i .i64 0,.i .i64 0,.i .u8 0])=some true:=rfl;(repeat (with_reducible (first|refine U_nil ?_|refine UC_sq ?_|refine UC_rg ?_|refine UC_sk ?_|refine X_nx ?_|((first|refine U_q (v:=?_) ?h1 ?_|refine U_ld (v:=?_) ?h1 ?_|refine U_alc (n:=?_) ?h1 ?_);case h1=>((try simp only[List.take_succ_cons,List.take_zero,List.drop_succ_cons,List.drop_zero,go_sem])<;>rfl))|(refine U_sto (id:=?_) (i:=?_) (j:=?_) (q:=?_) (es:=?_) (cs:=?_) (vs:=?_) (es':=?_) ?h1 ?h2 ?h3 ?h4 ?h5 ?h6 ?h7 ?_;case h1|h2|h3|h4|h5|h6|h7=>((try simp only[List.take_succ_cons,List.take_zero,List.drop_succ_cons,List.drop_zero,go_sem])<;>rfl))|(refine UC_cdf ?h1 ?_;case h1=>((try simp only[List.take_succ_cons,List.take_zero,List.drop_succ_cons,List.drop_zero,go_sem])<;>rfl)))))
   (refine U_pcr (r:=.tp [.ag [.i .i64 0,.i .i64 0,.i .i64 0,.i .i64 0,.i .i64 0,.i .i64 0,.i .i64 0,.i .u8 0],.bo false]) h1 ?h1 ?h2 rfl ?_;(case h1=>((try simp only[List.take_succ_cons,List.take_zero,List.drop_succ_cons,List.drop_zero,go_sem])<;>rfl));(case h2=>simp only[List.all_cons,List.all_nil,Bool.and_true,go_sem]))
   (repeat (with_reducible (first|refine U_nil ?_|refine UC_sq ?_|refine UC_rg ?_|refine UC_rt ?_|refine X_nx ?_|refine X_rt ?_|((first|refine U_q (v:=?_) ?h1 ?_|refine U_ld (v:=?_) ?h1 ?_|refine E_1 (v:=?_) ?h1 ?_|refine U_alc (n:=?_) ?h1 ?_|refine UC_cdt ?h1 ?_);case h1=>((try simp only[hz,List.take_succ_cons,List.take_zero,List.drop_succ_cons,List.drop_zero,go_sem])<;>rfl))|(refine U_sto (id:=?_) (i:=?_) (j:=?_) (q:=?_) (es:=?_) (cs:=?_) (vs:=?_) (es':=?_) ?h1 ?h2 ?h3 ?h4 ?h5 ?h6 ?h7 ?_;case h1|h2|h3|h4|h5|h6|h7=>((try simp only[hz,List.take_succ_cons,List.take_zero,List.drop_succ_cons,List.drop_zero,go_sem])<;>rfl)))));rfl
  | some f =>
   obtain⟨c,p,q,b⟩:=f;obtain⟨k1,k2,k3,hb,k4,k5,k6⟩:=fork_ok hW hfn hfd;rw[hfd] at h1;obtain⟨L,hln,hLp,hLq,hLs⟩:∃ L:List Cf,L.length < 2147483648∧(∃ y∈L,y.p=p)∧(∃ y∈L,y.p=q)∧((c=noC∧L=begF A b)∨(c≠noC∧rightB A c=true∧L=stepF A c b)):=by
    rcases k6 with⟨e1,⟨y,hy,e2⟩,z,hz,e3⟩|⟨e1,e4,⟨y,hy,e2⟩,z,hz,e3⟩
    ·exact⟨begF A b,by have:=begF_le hW hfn b;omega,⟨y,(sd_mem _ _).2 hy,e2⟩,⟨z,(sd_mem _ _).2 hz,e3⟩,.inl ⟨e1,rfl⟩⟩
    ·exact⟨stepF A c b,stepF_le hL c b,⟨y,(sd_mem _ _).2 hy,e2⟩,⟨z,(sd_mem _ _).2 hz,e3⟩,.inr ⟨e1,e4,rfl⟩⟩
   have hB:=begin_pu hW (by omega) hb;have hR:=right_pu hW c;have hS:=fun (hr:rightB A c=true)=>step_pu hW hL hr hb;have hp0:=rhas_pu (stAt A p) (st_w hW k2.2) b hb;have hq0:=rhas_pu (stAt A q) (st_w hW k3.2) b hb;rw[k4] at hp0;rw[k5] at hq0;have gp:=st_at k2.2;have gq:=st_at k3.2;have hpp:(0:Int)≤(p:Int):=by omega
   have hqp:(0:Int)≤(q:Int):=by omega
   have c1:((p:Int)==(q:Int))=false:=by rw[beq_eq_false_iff_ne];omega
   have c2:decide ((p:Int) < 1)=false:=decide_eq_false (by omega);have c3:decide ((q:Int) < 1)=false:=decide_eq_false (by omega);have c4:decide ((p:Int)≥(A.sets.length:Int))=false:=decide_eq_false (by omega);have c5:decide ((q:Int)≥(A.sets.length:Int))=false:=decide_eq_false (by omega);have hwb:IntKind.i64.wrap (b:Int)=(b:Int):=wrap_i64 (by omega) (by omega);have hne:c≠noC→eqV true [.i .i64,.i .i64,.i .i64,.i .i64,.i .i64] (.ag (cfC c)) (.ag [.i .i64 0,.i .i64 0,.i .i64 0,.i .i64 0,.i .i64 0])=some false:=fun h=>by
    obtain⟨ca,cb,cc,cd,ce⟩:=c;simp [cfC,eqV,eqps,lfEq,V.isAg,V.cells];intro e1 e2 e3 e4 e5;exact h (by rw[e1,e2,e3,e4,e5];rfl)
   obtain⟨ca,cb,cc,cd,ce⟩:=c;have h1:Pu F 7 [.ag (auC A)] (.tp [.ag [.i .i64 ca,.i .i64 cb,.i .i64 cc,.i .i64 cd,.i .i64 ce,.i .i64 p,.i .i64 q,.i .u8 b],.bo true]):=h1;(repeat (with_reducible (first|refine U_nil ?_|refine UC_sq ?_|refine UC_rg ?_|refine UC_sk ?_|refine X_nx ?_|((first|refine U_q (v:=?_) ?h1 ?_|refine U_ld (v:=?_) ?h1 ?_|refine U_alc (n:=?_) ?h1 ?_);case h1=>((try simp only[List.take_succ_cons,List.take_zero,List.drop_succ_cons,List.drop_zero,go_sem])<;>rfl))|(refine U_sto (id:=?_) (i:=?_) (j:=?_) (q:=?_) (es:=?_) (cs:=?_) (vs:=?_) (es':=?_) ?h1 ?h2 ?h3 ?h4 ?h5 ?h6 ?h7 ?_;case h1|h2|h3|h4|h5|h6|h7=>((try simp only[List.take_succ_cons,List.take_zero,List.drop_succ_cons,List.drop_zero,go_sem])<;>rfl))|(refine UC_cdf ?h1 ?_;case h1=>((try simp only[List.take_succ_cons,List.take_zero,List.drop_succ_cons,List.drop_zero,go_sem])<;>rfl)))))
   (refine U_pcr (r:=.tp [.ag [.i .i64 ca,.i .i64 cb,.i .i64 cc,.i .i64 cd,.i .i64 ce,.i .i64 p,.i .i64 q,.i .u8 b],.bo true]) h1 ?h1 ?h2 rfl ?_;(case h1=>((try simp only[List.take_succ_cons,List.take_zero,List.drop_succ_cons,List.drop_zero,go_sem])<;>rfl));(case h2=>simp only[List.all_cons,List.all_nil,Bool.and_true,go_sem]))
   (repeat (with_reducible (first|refine U_nil ?_|refine UC_sq ?_|refine UC_rg ?_|refine UC_sk ?_|refine X_nx ?_|((first|refine U_q (v:=?_) ?h1 ?_|refine U_ld (v:=?_) ?h1 ?_|refine U_alc (n:=?_) ?h1 ?_|refine U_gt ?h1 ?_);case h1=>((try simp only[c1,c2,c3,c4,c5,gp,gq,hpp,hqp,hwb,Int.toNat_natCast,List.length_map,List.take_succ_cons,List.take_zero,List.drop_succ_cons,List.drop_zero,go_sem])<;>rfl))|(refine U_sto (id:=?_) (i:=?_) (j:=?_) (q:=?_) (es:=?_) (cs:=?_) (vs:=?_) (es':=?_) ?h1 ?h2 ?h3 ?h4 ?h5 ?h6 ?h7 ?_;case h1|h2|h3|h4|h5|h6|h7=>((try simp only[c1,c2,c3,c4,c5,gp,gq,hpp,hqp,hwb,Int.toNat_natCast,List.length_map,List.take_succ_cons,List.take_zero,List.drop_succ_cons,List.drop_zero,go_sem])<;>rfl))|(refine UC_cdf ?h1 ?_;case h1=>((try simp only[c1,c2,c3,c4,c5,gp,gq,hpp,hqp,hwb,Int.toNat_natCast,List.length_map,List.take_succ_cons,List.take_zero,List.drop_succ_cons,List.drop_zero,go_sem])<;>rfl)))))
   (refine U_pcr (r:=.bo true) hp0 ?h1 ?h2 rfl ?_;(case h1=>((try simp only[List.take_succ_cons,List.take_zero,List.drop_succ_cons,List.drop_zero,go_sem])<;>rfl));(case h2=>simp only[List.all_cons,List.all_nil,Bool.and_true,go_sem]))
   (repeat (with_reducible (first|((first|refine U_q (v:=?_) ?h1 ?_|refine U_ld (v:=?_) ?h1 ?_|refine U_gt ?h1 ?_);case h1=>((try simp only[c1,c2,c3,c4,c5,gp,gq,hpp,hqp,hwb,Int.toNat_natCast,List.length_map,List.take_succ_cons,List.take_zero,List.drop_succ_cons,List.drop_zero,go_sem])<;>rfl)))))
   (refine U_pcr (r:=.bo true) hq0 ?h1 ?h2 rfl ?_;(case h1=>((try simp only[List.take_succ_cons,List.take_zero,List.drop_succ_cons,List.drop_zero,go_sem])<;>rfl));(case h2=>simp only[List.all_cons,List.all_nil,Bool.and_true,go_sem]))
   (repeat (with_reducible (first|refine U_nil ?_|refine UC_sq ?_|refine UC_rg ?_|refine UC_sk ?_|refine X_nx ?_|((first|refine U_q (v:=?_) ?h1 ?_|refine U_ld (v:=?_) ?h1 ?_|refine U_gt ?h1 ?_);case h1=>((try simp only[List.take_succ_cons,List.take_zero,List.drop_succ_cons,List.drop_zero,go_sem])<;>rfl))|(refine UC_cdf ?h1 ?_;case h1=>((try simp only[List.take_succ_cons,List.take_zero,List.drop_succ_cons,List.drop_zero,go_sem])<;>rfl)))));refine U_pc (vs:=[.ag (auC A),.i .u8 b]) (ws:=[.ag (auC A),.i .u8 b]) (Z0) (fzsU_ok ?_) (Bool.or_eq_true_iff.2 (.inl ?_)) (by simp only[cld,cfs_cl]) hB ?_
   ·simp only[List.all_cons,List.all_nil,Bool.and_true,go_sem]
   ·simp only[clos,List.all_cons,List.all_nil,Bool.and_true,go_sem]
   (repeat (with_reducible (first|refine U_nil ?_|refine UC_sq ?_|refine UC_rg ?_|refine X_nx ?_|((first|refine U_q (v:=?_) ?h1 ?_|refine U_ld (v:=?_) ?h1 ?_);case h1=>((try simp only[List.take_succ_cons,List.take_zero,List.drop_succ_cons,List.drop_zero,go_sem])<;>rfl)))));rcases hLs with⟨e1,e2⟩|⟨e1,e2,e3⟩
   ·simp only[noC,Cf.mk.injEq] at e1;obtain⟨rfl,rfl,rfl,rfl,rfl⟩:=e1;subst e2;have hz:eqV true [.i .i64,.i .i64,.i .i64,.i .i64,.i .i64] (.ag [.i .i64 0,.i .i64 0,.i .i64 0,.i .i64 0,.i .i64 0]) (.ag [.i .i64 0,.i .i64 0,.i .i64 0,.i .i64 0,.i .i64 0])=some true:=rfl;(repeat (with_reducible (first|refine U_nil ?_|refine UC_sq ?_|refine UC_rg ?_|refine UC_bk ?_|refine UC_sk ?_|refine X_nx ?_|(refine U_q (v:=?_) ?h1 ?_;case h1=>((try simp only[hz,List.take_succ_cons,List.take_zero,List.drop_succ_cons,List.drop_zero,go_sem])<;>rfl))|(refine UC_cdf ?h1 ?_;case h1=>((try simp only[hz,List.take_succ_cons,List.take_zero,List.drop_succ_cons,List.drop_zero,go_sem])<;>rfl)))));refine UC_cutx (fun e o=>e 8=.bo true∧e 9=.bo true) (true_lp _ hln 0 0 0 0 0 p q b hLp hLq _ _ (Z0) (Z0) (Z0) (Z0) (Z0) (by simp only[List.take_succ_cons,List.take_zero,List.drop_succ_cons,List.drop_zero,go_sem])) ?_;rintro e o ⟨r8,r9⟩;(repeat (with_reducible (first|refine U_nil ?_|refine UC_sq ?_|refine UC_rg ?_|refine UC_rt ?_|refine X_nx ?_|((first|refine U_q (v:=?_) ?h1 ?_|refine E_1 (v:=?_) ?h1 ?_|refine U_gt ?h1 ?_);case h1=>((try simp only[r8,r9,go_sem])<;>rfl)))));rfl
   ·subst e3;have hz:eqV true [.i .i64,.i .i64,.i .i64,.i .i64,.i .i64] (.ag [.i .i64 ca,.i .i64 cb,.i .i64 cc,.i .i64 cd,.i .i64 ce]) (.ag [.i .i64 0,.i .i64 0,.i .i64 0,.i .i64 0,.i .i64 0])=some false:=hne e1;rw[e2] at hR;have hR:Pu F 10 [.ag (auC A),.ag [.i .i64 ca,.i .i64 cb,.i .i64 cc,.i .i64 cd,.i .i64 ce]] (.bo true):=hR;have hS:Pu F 11 [.ag (auC A),.ag [.i .i64 ca,.i .i64 cb,.i .i64 cc,.i .i64 cd,.i .i64 ce],.i .u8 b] (.sl ((stepF A ⟨ca,cb,cc,cd,ce⟩ b).map cfC)):=hS e2;(repeat (with_reducible (first|refine U_nil ?_|refine UC_sq ?_|refine UC_rg ?_|refine X_nx ?_|((first|refine U_q (v:=?_) ?h1 ?_|refine U_ld (v:=?_) ?h1 ?_|refine UC_cdt ?h1 ?_);case h1=>((try simp only[hz,List.take_succ_cons,List.take_zero,List.drop_succ_cons,List.drop_zero,go_sem])<;>rfl)))))
    (refine U_pcr (r:=.bo true) hR ?h1 ?h2 rfl ?_;(case h1=>((try simp only[List.take_succ_cons,List.take_zero,List.drop_succ_cons,List.drop_zero,go_sem])<;>rfl));(case h2=>simp only[List.all_cons,List.all_nil,Bool.and_true,go_sem]))
    (repeat (with_reducible (first|refine U_nil ?_|refine UC_rg ?_|refine UC_sk ?_|refine X_nx ?_|((first|refine U_q (v:=?_) ?h1 ?_|refine U_ld (v:=?_) ?h1 ?_);case h1=>((try simp only[List.take_succ_cons,List.take_zero,List.drop_succ_cons,List.drop_zero,go_sem])<;>rfl))|(refine UC_cdf ?h1 ?_;case h1=>((try simp only[List.take_succ_cons,List.take_zero,List.drop_succ_cons,List.drop_zero,go_sem])<;>rfl)))));refine U_pc (vs:=[.ag (auC A),.ag [.i .i64 ca,.i .i64 cb,.i .i64 cc,.i .i64 cd,.i .i64 ce],.i .u8 b]) (ws:=[.ag (auC A),.ag [.i .i64 ca,.i .i64 cb,.i .i64 cc,.i .i64 cd,.i .i64 ce],.i .u8 b]) (Z0) (fzsU_ok ?_) (Bool.or_eq_true_iff.2 (.inl ?_)) (by simp only[cld,cfs_cl]) hS ?_
    ·simp only[List.all_cons,List.all_nil,Bool.and_true,okf_au,Bool.true_and];rfl
    ·simp only[clos,List.all_cons,List.all_nil,Bool.and_true,clo_au,Bool.true_and];rfl
    (repeat (with_reducible (first|refine U_nil ?_|refine UC_sq ?_|refine UC_rg ?_|refine UC_bk ?_|refine X_nx ?_|(refine U_q (v:=?_) ?h1 ?_;case h1=>((try simp only[List.take_succ_cons,List.take_zero,List.drop_succ_cons,List.drop_zero,go_sem])<;>rfl)))));refine UC_cutx (fun e o=>e 8=.bo true∧e 9=.bo true) (true_lp _ hln ca cb cc cd ce p q b hLp hLq _ _ (Z0) (Z0) (Z0) (Z0) (Z0) (by simp only[List.take_succ_cons,List.take_zero,List.drop_succ_cons,List.drop_zero,go_sem])) ?_;rintro e o ⟨r8,r9⟩;(repeat (with_reducible (first|refine U_nil ?_|refine UC_sq ?_|refine UC_rg ?_|refine UC_rt ?_|refine X_nx ?_|((first|refine U_q (v:=?_) ?h1 ?_|refine E_1 (v:=?_) ?h1 ?_|refine U_gt ?h1 ?_);case h1=>((try simp only[r8,r9,go_sem])<;>rfl)))));rfl
end Go.Proofs.YtkmanhmdppfaiaaGreatDoor
