import Derived.Test.YtkmanhmdppfaiaaGreatDoorKh

namespace Go.Proofs.YtkmanhmdppfaiaaGreatDoor
set_option linter.all false
attribute [-go_sem] swpOb renOb rfOb V.cells
theorem okf_c5 (a b c d e:Int):okf FZ (.ag [.i .i64 a,.i .i64 b,.i .i64 c,.i .i64 d,.i .i64 e])=true:=rfl
theorem clo_c5 (a b c d e:Int):clo FZ (.ag [.i .i64 a,.i .i64 b,.i .i64 c,.i .i64 d,.i .i64 e])=true:=rfl
attribute [local go_sem] okf_c5 clo_c5
theorem sd_le (l:List Cf):(sdC l).length≤l.length:=Nat.le_trans (cmpC_len _) (by rw[srtC_len];exact Nat.le_refl _)
theorem first_le {A:Au} (hW:WF A) (hn:A.first.Nodup):A.first.length≤41:=by
 have:=nodup_len A.first (List.range 41) hn fun p hp=>List.mem_range.2 (by have:=(hW.f p hp).2;have:=hW.n;omega)
 simpa using this
theorem begF_le {A:Au} (hW:WF A) (hn:A.first.Nodup) (b:Nat):(begF A b).length≤41:=by
 have h1:=first_le hW hn;have h2:=List.length_filter_le (fun p=>bitOf (stAt A p) b) A.first;have h3:=sd_le (begL A b A.first);have h4:(begL A b A.first).length≤A.first.length:=by simpa [begL] using h2
 exact Nat.le_trans h3 (Nat.le_trans h4 h1)
theorem stepF_le {A:Au} (hL:∀ l∈A.moves,l.length < 2147483648) (x:Cf) (b:Nat):(stepF A x b).length < 2147483648:=by
 have h1:=sd_le (stepL A x b (mvAt A x.p.toNat));have h2:(stepL A x b (mvAt A x.p.toNat)).length≤(mvAt A x.p.toNat).length:=List.length_filterMap_le ..;have h3:(mvAt A x.p.toNat).length < 2147483648:=by
  by_cases h:x.p.toNat < A.moves.length
  ·rw[mvAt,List.getElem?_eq_getElem h];exact hL _ (List.getElem_mem h)
  ·rw[mvAt,List.getElem?_eq_none (by omega)];simp
 have h4:(stepF A x b).length≤_:=h1;omega
set_option maxHeartbeats 4000000 in
theorem nones_law (n:Nd) (hs:small n) (c:Cf) (b:Nat) (hb:b < 256):Pu F 4 [.ag (cel n),.ag (cfC c),.i .u8 b] (.bo true):=by
 have haw:=fawake_pu;obtain⟨A,ok,hA,hok⟩:=auto_pu n hs;refine U_pure e4 rfl rfl (by simp only[go_sem,Bool.and_true]) ?_;dsimp only[fn4,c4];(repeat (with_reducible (first|refine U_nil ?_|refine UC_sq ?_|refine UC_rg ?_|refine X_nx ?_|(refine U_q (v:=?_) ?h1 ?_;case h1=>((try simp only[List.take_succ_cons,List.take_zero,List.drop_succ_cons,List.drop_zero,go_sem])<;>rfl))|(refine U_box (cs:=?_) (cs':=?_) (n:=?_) ?h1 ?h2 ?h3 ?h4 ?_;case h1|h2|h3|h4=>((try simp only[List.take_succ_cons,List.take_zero,List.drop_succ_cons,List.drop_zero,go_sem])<;>rfl)))))
 (refine U_pcr (r:=.bo true) haw ?h1 ?h2 rfl ?_;(case h1=>((try simp only[List.take_succ_cons,List.take_zero,List.drop_succ_cons,List.drop_zero,go_sem])<;>rfl));(case h2=>simp only[List.all_cons,List.all_nil,Bool.and_true,go_sem]))
 (repeat (with_reducible (first|refine U_nil ?_|refine UC_sq ?_|refine UC_rg ?_|refine UC_sk ?_|refine X_nx ?_|((first|refine U_q (v:=?_) ?h1 ?_|refine U_ld (v:=?_) ?h1 ?_);case h1=>((try simp only[List.take_succ_cons,List.take_zero,List.drop_succ_cons,List.drop_zero,go_sem])<;>rfl))|(refine UC_cdf ?h1 ?_;case h1=>((try simp only[List.take_succ_cons,List.take_zero,List.drop_succ_cons,List.drop_zero,go_sem])<;>rfl)))));refine U_pc (vs:=[.ag (cel n)]) (ws:=[.ag (cel n)]) (Z0) (fzs_cel n _) (Bool.or_eq_true_iff.2 (.inl (clos_cel n))) (by simp only[Bool.and_true,go_sem]) hA ?_;cases ok with
 | false =>
  (repeat (with_reducible (first|refine U_nil ?_|refine UC_sq ?_|refine UC_rg ?_|refine UC_rt ?_|refine X_nx ?_|refine X_rt ?_|((first|refine U_q (v:=?_) ?h1 ?_|refine E_1 (v:=?_) ?h1 ?_|refine U_alc (n:=?_) ?h1 ?_|refine UC_cdt ?h1 ?_);case h1=>((try simp only[List.take_succ_cons,List.take_zero,List.drop_succ_cons,List.drop_zero,go_sem])<;>rfl))|(refine U_sto (id:=?_) (i:=?_) (j:=?_) (q:=?_) (es:=?_) (cs:=?_) (vs:=?_) (es':=?_) ?h1 ?h2 ?h3 ?h4 ?h5 ?h6 ?h7 ?_;case h1|h2|h3|h4|h5|h6|h7=>((try simp only[List.take_succ_cons,List.take_zero,List.drop_succ_cons,List.drop_zero,go_sem])<;>rfl)))));rfl
 | true =>
  obtain⟨hAm,_,hW,hL,_⟩:=hok rfl;have hfn:A.first.Nodup:=by rw[hAm];exact first_nodup _
  clear hAm hok hA haw;have hf:=first_le hW hfn;have h1:=find_pu hW (by omega) hL;cases hfd:findF A with
  | some f =>
   obtain⟨⟨ca,cb,cc,cd,ce⟩,p,q,b'⟩:=f;rw[hfd] at h1;have h1:Pu F 7 [.ag (auC A)] (.tp [.ag [.i .i64 ca,.i .i64 cb,.i .i64 cc,.i .i64 cd,.i .i64 ce,.i .i64 p,.i .i64 q,.i .u8 b'],.bo true]):=h1;(repeat (with_reducible (first|refine U_nil ?_|refine UC_sq ?_|refine UC_rg ?_|refine UC_sk ?_|refine X_nx ?_|((first|refine U_q (v:=?_) ?h1 ?_|refine U_ld (v:=?_) ?h1 ?_|refine U_alc (n:=?_) ?h1 ?_);case h1=>((try simp only[List.take_succ_cons,List.take_zero,List.drop_succ_cons,List.drop_zero,go_sem])<;>rfl))|(refine U_sto (id:=?_) (i:=?_) (j:=?_) (q:=?_) (es:=?_) (cs:=?_) (vs:=?_) (es':=?_) ?h1 ?h2 ?h3 ?h4 ?h5 ?h6 ?h7 ?_;case h1|h2|h3|h4|h5|h6|h7=>((try simp only[List.take_succ_cons,List.take_zero,List.drop_succ_cons,List.drop_zero,go_sem])<;>rfl))|(refine UC_cdf ?h1 ?_;case h1=>((try simp only[List.take_succ_cons,List.take_zero,List.drop_succ_cons,List.drop_zero,go_sem])<;>rfl)))))
   (refine U_pcr (r:=.tp [.ag [.i .i64 ca,.i .i64 cb,.i .i64 cc,.i .i64 cd,.i .i64 ce,.i .i64 p,.i .i64 q,.i .u8 b'],.bo true]) h1 ?h1 ?h2 rfl ?_;(case h1=>((try simp only[List.take_succ_cons,List.take_zero,List.drop_succ_cons,List.drop_zero,go_sem])<;>rfl));(case h2=>simp only[List.all_cons,List.all_nil,Bool.and_true,go_sem]))
   (repeat (with_reducible (first|refine U_nil ?_|refine UC_sq ?_|refine UC_rg ?_|refine UC_rt ?_|refine X_nx ?_|refine X_rt ?_|((first|refine U_q (v:=?_) ?h1 ?_|refine E_1 (v:=?_) ?h1 ?_|refine U_alc (n:=?_) ?h1 ?_|refine UC_cdt ?h1 ?_);case h1=>((try simp only[List.take_succ_cons,List.take_zero,List.drop_succ_cons,List.drop_zero,go_sem])<;>rfl))|(refine U_sto (id:=?_) (i:=?_) (j:=?_) (q:=?_) (es:=?_) (cs:=?_) (vs:=?_) (es':=?_) ?h1 ?h2 ?h3 ?h4 ?h5 ?h6 ?h7 ?_;case h1|h2|h3|h4|h5|h6|h7=>((try simp only[List.take_succ_cons,List.take_zero,List.drop_succ_cons,List.drop_zero,go_sem])<;>rfl)))));rfl
  | none =>
   rw[hfd] at h1;have h1:Pu F 7 [.ag (auC A)] (.tp [.ag [.i .i64 0,.i .i64 0,.i .i64 0,.i .i64 0,.i .i64 0,.i .i64 0,.i .i64 0,.i .u8 0],.bo false]):=h1;have hB:=begin_pu hW (by omega) hb;have hnb:=none_beg hfd hb;(repeat (with_reducible (first|refine U_nil ?_|refine UC_sq ?_|refine UC_rg ?_|refine UC_sk ?_|refine X_nx ?_|((first|refine U_q (v:=?_) ?h1 ?_|refine U_ld (v:=?_) ?h1 ?_|refine U_alc (n:=?_) ?h1 ?_);case h1=>((try simp only[List.take_succ_cons,List.take_zero,List.drop_succ_cons,List.drop_zero,go_sem])<;>rfl))|(refine U_sto (id:=?_) (i:=?_) (j:=?_) (q:=?_) (es:=?_) (cs:=?_) (vs:=?_) (es':=?_) ?h1 ?h2 ?h3 ?h4 ?h5 ?h6 ?h7 ?_;case h1|h2|h3|h4|h5|h6|h7=>((try simp only[List.take_succ_cons,List.take_zero,List.drop_succ_cons,List.drop_zero,go_sem])<;>rfl))|(refine UC_cdf ?h1 ?_;case h1=>((try simp only[List.take_succ_cons,List.take_zero,List.drop_succ_cons,List.drop_zero,go_sem])<;>rfl)))))
   (refine U_pcr (r:=.tp [.ag [.i .i64 0,.i .i64 0,.i .i64 0,.i .i64 0,.i .i64 0,.i .i64 0,.i .i64 0,.i .u8 0],.bo false]) h1 ?h1 ?h2 rfl ?_;(case h1=>((try simp only[List.take_succ_cons,List.take_zero,List.drop_succ_cons,List.drop_zero,go_sem])<;>rfl));(case h2=>simp only[List.all_cons,List.all_nil,Bool.and_true,go_sem]))
   (repeat (with_reducible (first|refine U_nil ?_|refine UC_sq ?_|refine UC_rg ?_|refine UC_sk ?_|refine X_nx ?_|((first|refine U_q (v:=?_) ?h1 ?_|refine U_ld (v:=?_) ?h1 ?_|refine U_alc (n:=?_) ?h1 ?_);case h1=>((try simp only[List.take_succ_cons,List.take_zero,List.drop_succ_cons,List.drop_zero,go_sem])<;>rfl))|(refine U_sto (id:=?_) (i:=?_) (j:=?_) (q:=?_) (es:=?_) (cs:=?_) (vs:=?_) (es':=?_) ?h1 ?h2 ?h3 ?h4 ?h5 ?h6 ?h7 ?_;case h1|h2|h3|h4|h5|h6|h7=>((try simp only[List.take_succ_cons,List.take_zero,List.drop_succ_cons,List.drop_zero,go_sem])<;>rfl))|(refine UC_cdf ?h1 ?_;case h1=>((try simp only[List.take_succ_cons,List.take_zero,List.drop_succ_cons,List.drop_zero,go_sem])<;>rfl)))));refine U_pc (vs:=[.ag (auC A),.i .u8 b]) (ws:=[.ag (auC A),.i .u8 b]) (Z0) (fzsU_ok ?_) (Bool.or_eq_true_iff.2 (.inl ?_)) (by simp only[cld,cfs_cl]) hB ?_
   ·simp only[List.all_cons,List.all_nil,Bool.and_true,go_sem]
   ·simp only[clos,List.all_cons,List.all_nil,Bool.and_true,go_sem]
   (repeat (with_reducible (first|refine U_nil ?_|refine UC_sq ?_|refine UC_rg ?_|refine X_nx ?_|((first|refine U_q (v:=?_) ?h1 ?_|refine U_ld (v:=?_) ?h1 ?_);case h1=>((try simp only[List.take_succ_cons,List.take_zero,List.drop_succ_cons,List.drop_zero,go_sem])<;>rfl)))));have fin:∀ e o,(∃ L:List Cf,e 11=.sl (L.map cfC)∧(∀ y∈L,∀ z∈L,y.p=z.p)∧L.length < 2147483648)→e 12=.i .i64 1→wpU true (Call F) (.lp b4_0) (fun x e o=>x=.ex 0) e o:=by
    rintro e o ⟨L,r11,hall,hlen⟩ r12;refine U_lp (fun r e o=>∃ i:Nat,i+r=L.length+1∧1≤i∧e 11=.sl (L.map cfC)∧e 12=.i .i64 i) (k:=L.length) ⟨1,by omega,by omega,r11,by rw[r12];rfl⟩ (Call_le F) ?_;clear r11 r12;rintro r e o ⟨i,hir,hi1,r11,r12⟩;dsimp only[b4_0];by_cases hi:i < L.length
    ·have hd:decide ((i:Int) < (L.length:Int))=true:=decide_eq_true (by omega);have hip:(0:Int)≤(i:Int):=by omega
     have hw:IntKind.i64.wrap ((i:Int)+1)=((i+1:Nat):Int):=by rw[wrap_i64 (by omega) (by omega)];rfl
     have gI:=cf_at hi;have h0:0 < L.length:=by omega
     have g0:=cf_at h0;have he:=hall _ (List.getElem_mem hi) _ (List.getElem_mem h0);generalize L[i]=y at gI he;generalize L[0]=z at g0 he;have c1:(y.p != z.p)=false:=by simp [he]
     have g0':(L.map cfC)[(0:Int).toNat]?=some (cfC z):=g0;(repeat (with_reducible (first|refine U_nil ?_|refine UC_sq ?_|refine UC_rg ?_|refine UC_bk ?_|refine UC_sk ?_|refine X_nx ?_|refine B_nx ?_|((first|refine U_q (v:=?_) ?h1 ?_|refine U_ld (v:=?_) ?h1 ?_|refine UC_cdt ?h1 ?_);case h1=>((try simp only[r11,r12,hd,gI,g0,g0',hip,hw,c1,Int.toNat_natCast,List.length_map,List.take_succ_cons,List.take_zero,List.drop_succ_cons,List.drop_zero,go_sem])<;>rfl))|(refine UC_cdf ?h1 ?_;case h1=>((try simp only[r11,r12,hd,gI,g0,g0',hip,hw,c1,Int.toNat_natCast,List.length_map,List.take_succ_cons,List.take_zero,List.drop_succ_cons,List.drop_zero,go_sem])<;>rfl)))))
     exact⟨r - 1,by omega,i+1,by omega,by omega,Z1 r11,Z0⟩
    ·have hd:decide ((i:Int) < (L.length:Int))=false:=decide_eq_false (by omega);(repeat (with_reducible (first|refine U_nil ?_|refine UC_sq ?_|refine UC_rg ?_|refine UC_ex ?_|refine X_nx ?_|refine X_ex ?_|(refine U_q (v:=?_) ?h1 ?_;case h1=>((try simp only[r11,r12,hd,List.length_map,go_sem])<;>rfl))|(refine UC_cdf ?h1 ?_;case h1=>((try simp only[r11,r12,hd,List.length_map,go_sem])<;>rfl)))));rfl
   by_cases hcp:c.p=0
   ·have c1:(c.p != 0)=false:=by simp [hcp]
    (repeat (with_reducible (first|refine U_nil ?_|refine UC_sq ?_|refine UC_rg ?_|refine UC_bk ?_|refine UC_sk ?_|refine X_nx ?_|(refine U_q (v:=?_) ?h1 ?_;case h1=>((try simp only[c1,List.take_succ_cons,List.take_zero,List.drop_succ_cons,List.drop_zero,go_sem])<;>rfl))|(refine UC_cdf ?h1 ?_;case h1=>((try simp only[c1,List.take_succ_cons,List.take_zero,List.drop_succ_cons,List.drop_zero,go_sem])<;>rfl)))));refine UC_cutx (fun e o=>True) (wpU_le (Call_le F) (fun x e o hx=>⟨hx,trivial⟩) (fin _ _ ⟨begF A b,Z0,fun y hy z hz=>hnb y ((sd_mem _ _).1 hy) z ((sd_mem _ _).1 hz),by have:=begF_le hW hfn b;omega⟩ (Z0))) ?_;intro e o _;(repeat (with_reducible (first|refine U_nil ?_|refine UC_sq ?_|refine UC_rg ?_|refine UC_rt ?_|refine X_nx ?_|((first|refine U_q (v:=?_) ?h1 ?_|refine E_1 (v:=?_) ?h1 ?_);case h1=>((try simp only[go_sem])<;>rfl)))));rfl
   ·have c1:(c.p != 0)=true:=by simpa using hcp
    obtain⟨L,hS,hall,hlen⟩:∃ L:List Cf,Pu F 11 [.ag (auC A),.ag (cfC c),.i .u8 b] (.sl (L.map cfC))∧(∀ y∈L,∀ z∈L,y.p=z.p)∧L.length < 2147483648:=by
     cases hr:rightB A c with
     | true =>
      have hns:=none_step hW hfd hr hb
      exact⟨_,step_pu hW hL hr hb,fun y hy z hz=>hns y ((sd_mem _ _).1 hy) z ((sd_mem _ _).1 hz),stepF_le hL c b⟩
     | false=>exact⟨[],step_no hW hr b,(fun y hy=>(List.not_mem_nil hy).elim),by simp⟩
    (repeat (with_reducible (first|refine UC_rg ?_|((first|refine U_q (v:=?_) ?h1 ?_|refine U_ld (v:=?_) ?h1 ?_|refine UC_cdt ?h1 ?_);case h1=>((try simp only[c1,List.take_succ_cons,List.take_zero,List.drop_succ_cons,List.drop_zero,go_sem])<;>rfl)))));refine U_pc (vs:=[.ag (auC A),.ag (cfC c),.i .u8 b]) (ws:=[.ag (auC A),.ag (cfC c),.i .u8 b]) (Z0) (fzsU_ok ?_) (Bool.or_eq_true_iff.2 (.inl ?_)) (by simp only[cld,cfs_cl]) hS ?_
    ·simp only[List.all_cons,List.all_nil,Bool.and_true,go_sem]
    ·simp only[clos,List.all_cons,List.all_nil,Bool.and_true,go_sem]
    (repeat (with_reducible (first|refine U_nil ?_|refine UC_sq ?_|refine UC_rg ?_|refine UC_bk ?_|refine X_nx ?_|(refine U_q (v:=?_) ?h1 ?_;case h1=>((try simp only[List.take_succ_cons,List.take_zero,List.drop_succ_cons,List.drop_zero,go_sem])<;>rfl)))));refine UC_cutx (fun e o=>True) (wpU_le (Call_le F) (fun x e o hx=>⟨hx,trivial⟩) (fin _ _ ⟨L,Z0,hall,hlen⟩ (Z0))) ?_;intro e o _;(repeat (with_reducible (first|refine U_nil ?_|refine UC_sq ?_|refine UC_rg ?_|refine UC_rt ?_|refine X_nx ?_|((first|refine U_q (v:=?_) ?h1 ?_|refine E_1 (v:=?_) ?h1 ?_);case h1=>((try simp only[go_sem])<;>rfl)))));rfl
end Go.Proofs.YtkmanhmdppfaiaaGreatDoor
