import Derived.Test.YtgiedknghbpdfaaDoorKh

namespace Go.Proofs.YtgiedknghbpdfaaDoor
set_option linter.all false
attribute [-go_sem] swpOb renOb rfOb V.cells
theorem agN_some {A:Au} {at_:Nat} {x y:Mv}:∀ (n:Nat) (c:Cf),n≤4→agN A at_ x y n=some c→c.p=at_∧(∀ j,j < n→c.c j=loX A at_ x y j∧loX A at_ x y j≤hiX A at_ x y j)∧∀ j,n≤j→j < 4→c.c j=0
 | 0,c,_,h=>by
  rw[agN] at h;cases h
  refine⟨rfl,fun j hj=>by omega,fun j _ hj=>?_⟩
  match j,hj with
  | 0,_=>rfl
  | 1,_=>rfl
  | 2,_=>rfl
  | 3,_=>rfl
 | n+1,c,hn,h=>by
  rw[agN] at h;cases hp:agN A at_ x y n with
  | none=>rw[hp] at h;cases h
  | some c' =>
   rw[hp] at h;have h:(if loX A at_ x y n > hiX A at_ x y n then none else some (c'.setC n (loX A at_ x y n)))=some c:=h;split at h
   ·cases h
   ·rename_i hle;cases h;obtain⟨g1,g2,g3⟩:=agN_some n c' (by omega) hp
    refine⟨by rw[setC_p];exact g1,fun j hj=>?_,fun j hj hj4=>?_⟩
    ·rw[setC_c _ _ _ _ (by omega)];by_cases hjn:j=n
     ·subst hjn;rw[if_pos rfl];exact⟨rfl,by omega⟩
     ·rw[if_neg hjn];exact g2 j (by omega)
    ·rw[setC_c _ _ _ _ hj4,if_neg (by omega)];exact g3 j (by omega) hj4
structure AgOk (A:Au) (at_:Nat) (x y:Mv) (c:Cf):Prop where
 p:c.p=at_
 r:rightB A c=true
 mx:(mayF A c x).isSome=true
 my:(mayF A c y).isSome=true
 b:∀ j,j < (arAt A at_).length→1≤c.c j∧c.c j≤2147483647
 no:∀ j,j < (arAt A at_).length→rightB A (c.setC j (c.c j - 1))=true→((mayF A (c.setC j (c.c j - 1)) x).isSome&&(mayF A (c.setC j (c.c j - 1)) y).isSome)=false
theorem agree_ok {A:Au} (hW:WF A) {at_:Nat} (h1:1≤at_) (hla:at_ < A.around.length) {x y:Mv} (hx:MvOk A at_ x) (hy:MvOk A at_ y) {c:Cf} (h:agreeF A at_ x y=some c):AgOk A at_ x y c:=by
 have ha4:(arAt A at_).length≤4:=hW.a4 _ (arAt_mem hla);obtain⟨g1,g2,g3⟩:=agN_some _ c ha4 h;have hl:(scAt A at_).length=(arAt A at_).length:=by simp [scAt]
 have hp:c.p.toNat=at_:=by rw[g1];rfl
 have hlo:∀ j,j < (arAt A at_).length→1≤loX A at_ x y j∧hiX A at_ x y j≤topS (scD A at_ j)∧topS (scD A at_ j)≤2147483647:=fun j hj=>by
  have hok:=scD_ok hW hla hj;have s1:=span_ok hok j x;have s2:=span_ok hok j y;have t:=topS_ok hok
  refine⟨?_,?_,t.2.1⟩
  ·unfold loX;split<;>omega
  ·unfold hiX;split<;>omega
 have hr:rightB A c=true:=by
  refine rightB_iff.2 ⟨by omega,by omega,fun i hi=>?_⟩;rw[hp];by_cases hil:i < (scAt A at_).length
  ·rw[okAt_lt hil];have k1:=g2 i (by omega);have k2:=hlo i (by omega);rw[scD,List.getElem?_eq_getElem hil] at k2;simp only[Option.getD_some] at k2;simp only[Bool.and_eq_true,decide_eq_true_eq];omega
  ·rw[okAt_ge hil,g3 i (by omega) hi];rfl
 have bnd:∀ j,j < (arAt A at_).length→(spanF (scD A at_ j) j x).1≤c.c j∧c.c j≤(spanF (scD A at_ j) j x).2∧(spanF (scD A at_ j) j y).1≤c.c j∧c.c j≤(spanF (scD A at_ j) j y).2:=fun j hj=>by
  have:=g2 j hj
  unfold loX hiX at this;split at this<;>split at this<;>omega
 refine⟨g1,hr,(may_iff hW hla hr g1 hx).2 fun j hj=>⟨(bnd j hj).1,(bnd j hj).2.1⟩,(may_iff hW hla hr g1 hy).2 fun j hj=>⟨(bnd j hj).2.2.1,(bnd j hj).2.2.2⟩,fun j hj=>?_,fun j hj hrd=>?_⟩
 ·have:=hlo j hj
  have:=g2 j hj
  omega
 ·rw[Bool.and_eq_false_iff];by_cases hxx:(mayF A (c.setC j (c.c j - 1)) x).isSome=true
  ·right
   rw[Bool.eq_false_iff];intro hyy;have k1:=(may_iff hW hla hrd (by rw[setC_p];exact g1) hx).1 hxx j hj;have k2:=(may_iff hW hla hrd (by rw[setC_p];exact g1) hy).1 hyy j hj;rw[setC_c _ _ _ _ (by omega),if_pos rfl] at k1 k2;have k3:=(g2 j hj).1;unfold loX at k3;split at k3<;>omega
  ·left
   simpa using hxx
theorem cld_agV (r:Option Cf):cld (agV r)=true:=by cases r<;>rfl
set_option maxRecDepth 5000 in
set_option maxHeartbeats 8000000 in
theorem agrees_law (n:Nd) (hs:small n) (a0 a1 a2:Nat) (h0:a0 < 256) (h1:a1 < 256) (h2:a2 < 256):Pu F 4 [.ag (cel n),.ag [.i .u8 a0,.i .u8 a1,.i .u8 a2]] (.bo true):=by
 have haw:=fawake_pu;obtain⟨A,ok,hA,hok⟩:=auto_pu n hs;have w0:IntKind.i64.wrap (a0:Int)=(a0:Int):=wrap_i64 (by omega) (by omega);have w1:IntKind.i64.wrap (a1:Int)=(a1:Int):=wrap_i64 (by omega) (by omega);have w2:IntKind.i64.wrap (a2:Int)=(a2:Int):=wrap_i64 (by omega) (by omega);refine U_pure e4 rfl rfl (by simp only[go_sem,Bool.and_true]) ?_;dsimp only[fn4,c4];(repeat (with_reducible (first|refine U_nil ?_|refine UC_sq ?_|refine UC_rg ?_|refine X_nx ?_|((first|refine U_q (v:=?_) ?h1 ?_|refine U_ld (v:=?_) ?h1 ?_);case h1=>((try simp only[List.take_succ_cons,List.take_zero,List.drop_succ_cons,List.drop_zero,go_sem])<;>rfl))|(refine U_box (cs:=?_) (cs':=?_) (n:=?_) ?h1 ?h2 ?h3 ?h4 ?_;case h1|h2|h3|h4=>((try simp only[List.take_succ_cons,List.take_zero,List.drop_succ_cons,List.drop_zero,go_sem])<;>rfl)))))
 (refine U_pcr (r:=.bo true) haw ?h1 ?h2 rfl ?_;(case h1=>((try simp only[List.take_succ_cons,List.take_zero,List.drop_succ_cons,List.drop_zero,go_sem])<;>rfl));(case h2=>simp only[List.all_cons,List.all_nil,Bool.and_true,go_sem]))
 (repeat (with_reducible (first|refine U_nil ?_|refine UC_sq ?_|refine UC_rg ?_|refine UC_sk ?_|refine X_nx ?_|((first|refine U_q (v:=?_) ?h1 ?_|refine U_ld (v:=?_) ?h1 ?_);case h1=>((try simp only[List.take_succ_cons,List.take_zero,List.drop_succ_cons,List.drop_zero,go_sem])<;>rfl))|(refine UC_cdf ?h1 ?_;case h1=>((try simp only[List.take_succ_cons,List.take_zero,List.drop_succ_cons,List.drop_zero,go_sem])<;>rfl)))));refine U_pc (vs:=[.ag (cel n)]) (ws:=[.ag (cel n)]) (Z0) (fzs_cel n _) (Bool.or_eq_true_iff.2 (.inl (clos_cel n))) (by simp only[Bool.and_true,go_sem]) hA ?_;cases ok with
 | false =>
  (repeat (with_reducible (first|refine U_nil ?_|refine UC_sq ?_|refine UC_rg ?_|refine UC_rt ?_|refine X_nx ?_|refine X_rt ?_|((first|refine U_q (v:=?_) ?h1 ?_|refine E_1 (v:=?_) ?h1 ?_|refine U_alc (n:=?_) ?h1 ?_|refine UC_cdt ?h1 ?_);case h1=>((try simp only[List.take_succ_cons,List.take_zero,List.drop_succ_cons,List.drop_zero,go_sem])<;>rfl))|(refine U_sto (id:=?_) (i:=?_) (j:=?_) (q:=?_) (es:=?_) (cs:=?_) (vs:=?_) (es':=?_) ?h1 ?h2 ?h3 ?h4 ?h5 ?h6 ?h7 ?_;case h1|h2|h3|h4|h5|h6|h7=>((try simp only[List.take_succ_cons,List.take_zero,List.drop_succ_cons,List.drop_zero,go_sem])<;>rfl))|(refine U_gs1 ?h1 ?_;case h1=>((try simp only[List.take_succ_cons,List.take_zero,List.drop_succ_cons,List.drop_zero,go_sem])<;>rfl)))));rfl
 | true =>
  obtain⟨hAm,_,hW,hL,_⟩:=hok rfl;clear hAm hok hA haw;have hml:A.moves.length≤41:=by rw[hW.lm];exact hW.n
  by_cases hl2:A.moves.length < 2
  ·have c1:decide ((A.moves.length:Int) < 2)=true:=decide_eq_true (by omega);(repeat (with_reducible (first|refine U_nil ?_|refine UC_sq ?_|refine UC_rg ?_|refine UC_rt ?_|refine X_nx ?_|refine X_rt ?_|((first|refine U_q (v:=?_) ?h1 ?_|refine U_ld (v:=?_) ?h1 ?_|refine E_1 (v:=?_) ?h1 ?_|refine U_alc (n:=?_) ?h1 ?_|refine U_gt ?h1 ?_|refine UC_cdt ?h1 ?_);case h1=>((try simp only[c1,List.length_map,List.take_succ_cons,List.take_zero,List.drop_succ_cons,List.drop_zero,go_sem])<;>rfl))|(refine U_sto (id:=?_) (i:=?_) (j:=?_) (q:=?_) (es:=?_) (cs:=?_) (vs:=?_) (es':=?_) ?h1 ?h2 ?h3 ?h4 ?h5 ?h6 ?h7 ?_;case h1|h2|h3|h4|h5|h6|h7=>((try simp only[c1,List.length_map,List.take_succ_cons,List.take_zero,List.drop_succ_cons,List.drop_zero,go_sem])<;>rfl)))));rfl
  have c1:decide ((A.moves.length:Int) < 2)=false:=decide_eq_false (by omega);obtain⟨m,hm⟩:∃ m,A.moves.length=m+2:=⟨A.moves.length - 2,by omega⟩;have k1:IntKind.i64.wrap ((A.moves.length:Int) - 1)=((m+1:Nat):Int):=by rw[wrap_i64 (by omega) (by omega)];omega
  have k2:(a0:Int).tmod ((m+1:Nat):Int)=((a0 % (m+1):Nat):Int):=tmod_nat _ _;have k3:(((m+1:Nat):Int)=0)=False:=by simp;omega
  have hlt:=Nat.mod_lt a0 (show 0 < m+1 by omega);generalize a0 % (m+1)=z at k2 hlt;obtain⟨P,hP⟩:∃ P,P=z+1:=⟨_,rfl⟩;have k4:IntKind.i64.wrap (1+(z:Int))=(P:Int):=by rw[wrap_i64 (by omega) (by omega)];omega
  have hP1:1≤P:=by omega
  have hP2:P < A.moves.length:=by omega
  have hPp:(0:Int)≤(P:Int):=by omega
  have hla:P < A.around.length:=by rw[hW.la,← hW.lm];exact hP2
  have gM:=mo_at hP2;have gR:=ar_at hla;have hll:(mvAt A P).length < 2147483648:=hL _ (by rw[mvAt,List.getElem?_eq_getElem hP2];exact List.getElem_mem hP2);have hmk:∀ v∈mvAt A P,v∈mvAt A P∧MvOk A P v:=fun v hv=>⟨hv,mv_ok hW hP2 hv⟩;have hag:=fun {x y:Mv} (hx:x∈mvAt A P) (hy:y∈mvAt A P)=>agree_pu hW hL hP1 hP2 hx hy;have ha4:(arAt A P).length≤4:=hW.a4 _ (arAt_mem hla);clear hP hlt hml hl2;by_cases he:(mvAt A P).length=0
  ·have c2:(((mvAt A P).length:Int)==0)=true:=by rw[he];rfl
   (repeat (with_reducible (first|refine U_nil ?_|refine UC_sq ?_|refine UC_rg ?_|refine UC_sk ?_|refine UC_rt ?_|refine X_nx ?_|refine X_rt ?_|((first|refine U_q (v:=?_) ?h1 ?_|refine U_ld (v:=?_) ?h1 ?_|refine E_1 (v:=?_) ?h1 ?_|refine U_alc (n:=?_) ?h1 ?_|refine U_gt ?h1 ?_|refine UC_cdt ?h1 ?_);case h1=>((try simp only[c1,c2,w0,k1,k2,k3,k4,gM,hPp,if_false,Int.toNat_natCast,List.length_map,List.take_succ_cons,List.take_zero,List.drop_succ_cons,List.drop_zero,go_sem])<;>rfl))|(refine U_sto (id:=?_) (i:=?_) (j:=?_) (q:=?_) (es:=?_) (cs:=?_) (vs:=?_) (es':=?_) ?h1 ?h2 ?h3 ?h4 ?h5 ?h6 ?h7 ?_;case h1|h2|h3|h4|h5|h6|h7=>((try simp only[c1,c2,w0,k1,k2,k3,k4,gM,hPp,if_false,Int.toNat_natCast,List.length_map,List.take_succ_cons,List.take_zero,List.drop_succ_cons,List.drop_zero,go_sem])<;>rfl))|(refine UC_cdf ?h1 ?_;case h1=>((try simp only[c1,c2,w0,k1,k2,k3,k4,gM,hPp,if_false,Int.toNat_natCast,List.length_map,List.take_succ_cons,List.take_zero,List.drop_succ_cons,List.drop_zero,go_sem])<;>rfl)))));rfl
  have c2:(((mvAt A P).length:Int)==0)=false:=by rw[beq_eq_false_iff_ne];omega
  have k5:(((mvAt A P).length:Int)=0)=False:=by simp only[eq_iff_iff,iff_false];omega
  have k6:(a1:Int).tmod ((mvAt A P).length:Int)=((a1 % (mvAt A P).length:Nat):Int):=tmod_nat _ _;have k7:(a2:Int).tmod ((mvAt A P).length:Int)=((a2 % (mvAt A P).length:Nat):Int):=tmod_nat _ _;have hi:=Nat.mod_lt a1 (show 0 < (mvAt A P).length by omega);have hk:=Nat.mod_lt a2 (show 0 < (mvAt A P).length by omega);generalize a1 % (mvAt A P).length=i at k6 hi;generalize a2 % (mvAt A P).length=k at k7 hk;have gI:=mvs_at hi;have gK:=mvs_at hk;obtain⟨hx,hx2⟩:=hmk _ (List.getElem_mem hi);obtain⟨hy,hy2⟩:=hmk _ (List.getElem_mem hk);generalize (mvAt A P)[i]=x at gI hx hx2;generalize (mvAt A P)[k]=y at gK hy hy2;have hip:(0:Int)≤(i:Int):=by omega
  have hkp:(0:Int)≤(k:Int):=by omega
  have hg:=hag hx hy;have hgo:=fun {c:Cf} (h:agreeF A P x y=some c)=>agree_ok hW hP1 hla hx2 hy2 h;have hba:=fun {l:List Cf} (h:allF A P 300=some l)=>both_agree hW hP1 hla h hx2 hy2;(repeat (with_reducible (first|refine U_nil ?_|refine UC_sq ?_|refine UC_rg ?_|refine UC_sk ?_|refine X_nx ?_|((first|refine U_q (v:=?_) ?h1 ?_|refine U_ld (v:=?_) ?h1 ?_|refine U_alc (n:=?_) ?h1 ?_|refine U_gt ?h1 ?_);case h1=>((try simp only[c1,c2,w0,w1,w2,k1,k2,k3,k4,k5,k6,k7,gM,gI,gK,hPp,hip,hkp,if_false,Int.toNat_natCast,List.length_map,List.take_succ_cons,List.take_zero,List.drop_succ_cons,List.drop_zero,go_sem])<;>rfl))|(refine U_sto (id:=?_) (i:=?_) (j:=?_) (q:=?_) (es:=?_) (cs:=?_) (vs:=?_) (es':=?_) ?h1 ?h2 ?h3 ?h4 ?h5 ?h6 ?h7 ?_;case h1|h2|h3|h4|h5|h6|h7=>((try simp only[c1,c2,w0,w1,w2,k1,k2,k3,k4,k5,k6,k7,gM,gI,gK,hPp,hip,hkp,if_false,Int.toNat_natCast,List.length_map,List.take_succ_cons,List.take_zero,List.drop_succ_cons,List.drop_zero,go_sem])<;>rfl))|(refine UC_cdf ?h1 ?_;case h1=>((try simp only[c1,c2,w0,w1,w2,k1,k2,k3,k4,k5,k6,k7,gM,gI,gK,hPp,hip,hkp,if_false,Int.toNat_natCast,List.length_map,List.take_succ_cons,List.take_zero,List.drop_succ_cons,List.drop_zero,go_sem])<;>rfl)))));refine U_pc (vs:=[.ag (auC A),.i .i64 P,.ag (mvC x),.ag (mvC y)]) (ws:=[.ag (auC A),.i .i64 P,.ag (mvC x),.ag (mvC y)]) (Z0) (fzsU_ok ?_) (Bool.or_eq_true_iff.2 (.inl ?_)) (cld_agV _) hg ?_
  ·simp only[List.all_cons,List.all_nil,Bool.and_true,go_sem]
  ·simp only[clos,List.all_cons,List.all_nil,Bool.and_true,go_sem]
  clear hag hmk hg;generalize agreeF A P x y=r at hgo hba;cases r with
  | none =>
   have hall:=all_pu hW (most:=300) hla (by omega);have hln:∀ l,allF A P 300=some l→l.length≤1000:=fun l h=>all_len (by omega) _ l h;have hrg:=fun {l:List Cf} (h:allF A P 300=some l)=>all_right hW hP1 hla h;generalize allF A P 300=al at hall hln hrg hba;dsimp only[agV,Option.getD_none,Option.isSome_none];(repeat (with_reducible (first|refine U_nil ?_|refine UC_sq ?_|refine UC_rg ?_|refine X_nx ?_|((first|refine U_q (v:=?_) ?h1 ?_|refine U_ld (v:=?_) ?h1 ?_|refine U_alc (n:=?_) ?h1 ?_|refine UC_cdt ?h1 ?_);case h1=>((try simp only[List.take_succ_cons,List.take_zero,List.drop_succ_cons,List.drop_zero,go_sem])<;>rfl))|(refine U_sto (id:=?_) (i:=?_) (j:=?_) (q:=?_) (es:=?_) (cs:=?_) (vs:=?_) (es':=?_) ?h1 ?h2 ?h3 ?h4 ?h5 ?h6 ?h7 ?_;case h1|h2|h3|h4|h5|h6|h7=>((try simp only[List.take_succ_cons,List.take_zero,List.drop_succ_cons,List.drop_zero,go_sem])<;>rfl)))));cases al with
   | none =>
    have hall:Pu F 10 [.ag (auC A),.i .i64 P,.i .i64 300] (.tp [.sl [],.bo false]):=hall;have hb:=both_pu hW (at_:=P) (l:=[]) (by simp) (fun c hc=>by cases hc) hx2 hy2;have hb:Pu F 11 [.ag (auC A),.sl [],.ag (mvC x),.ag (mvC y)] (.tp [.ag (cfC noC),.bo false]):=hb;refine U_pc (vs:=[.ag (auC A),.i .i64 P,.i .i64 300]) (ws:=[.ag (auC A),.i .i64 P,.i .i64 300]) (Z0) (fzsU_ok ?_) (Bool.or_eq_true_iff.2 (.inl ?_)) rfl hall ?_
    ·simp only[List.all_cons,List.all_nil,Bool.and_true,go_sem]
    ·simp only[clos,List.all_cons,List.all_nil,Bool.and_true,go_sem]
    (repeat (with_reducible (first|refine U_nil ?_|refine UC_sq ?_|refine UC_rg ?_|refine X_nx ?_|((first|refine U_q (v:=?_) ?h1 ?_|refine U_ld (v:=?_) ?h1 ?_);case h1=>((try simp only[gI,gK,hip,hkp,Int.toNat_natCast,List.take_succ_cons,List.take_zero,List.drop_succ_cons,List.drop_zero,go_sem])<;>rfl)))));refine U_pc (vs:=[.ag (auC A),.sl [],.ag (mvC x),.ag (mvC y)]) (ws:=[.ag (auC A),.sl [],.ag (mvC x),.ag (mvC y)]) (Z0) (fzsU_ok ?_) (Bool.or_eq_true_iff.2 (.inl ?_)) rfl hb ?_
    ·simp only[List.all_cons,List.all_nil,Bool.and_true,go_sem]
    ·simp only[clos,List.all_cons,List.all_nil,Bool.and_true,go_sem]
    (repeat (with_reducible (first|refine U_nil ?_|refine UC_sq ?_|refine UC_rg ?_|refine UC_rt ?_|refine X_nx ?_|refine X_rt ?_|((first|refine U_q (v:=?_) ?h1 ?_|refine U_ld (v:=?_) ?h1 ?_|refine E_1 (v:=?_) ?h1 ?_|refine U_alc (n:=?_) ?h1 ?_|refine U_gt ?h1 ?_);case h1=>((try simp only[noC_eqV,List.take_succ_cons,List.take_zero,List.drop_succ_cons,List.drop_zero,go_sem])<;>rfl))|(refine U_sto (id:=?_) (i:=?_) (j:=?_) (q:=?_) (es:=?_) (cs:=?_) (vs:=?_) (es':=?_) ?h1 ?h2 ?h3 ?h4 ?h5 ?h6 ?h7 ?_;case h1|h2|h3|h4|h5|h6|h7=>((try simp only[noC_eqV,List.take_succ_cons,List.take_zero,List.drop_succ_cons,List.drop_zero,go_sem])<;>rfl))|(refine U_gs1 ?h1 ?_;case h1=>((try simp only[noC_eqV,List.take_succ_cons,List.take_zero,List.drop_succ_cons,List.drop_zero,go_sem])<;>rfl)))));rfl
   | some l =>
    have hb:=both_pu hW (hln l rfl) (hrg rfl) hx2 hy2;rw[hba rfl] at hb;have hb:Pu F 11 [.ag (auC A),.sl (l.map cfC),.ag (mvC x),.ag (mvC y)] (.tp [.ag (cfC noC),.bo false]):=hb;have hall:Pu F 10 [.ag (auC A),.i .i64 P,.i .i64 300] (.tp [.sl (l.map cfC),.bo true]):=hall;refine U_pc (vs:=[.ag (auC A),.i .i64 P,.i .i64 300]) (ws:=[.ag (auC A),.i .i64 P,.i .i64 300]) (Z0) (fzsU_ok ?_) (Bool.or_eq_true_iff.2 (.inl ?_)) ?_ hall ?_
    ·simp only[List.all_cons,List.all_nil,Bool.and_true,go_sem]
    ·simp only[clos,List.all_cons,List.all_nil,Bool.and_true,go_sem]
    ·simp only[cldL,cld,cfs_cl,Bool.and_true]
    (repeat (with_reducible (first|refine U_nil ?_|refine UC_sq ?_|refine UC_rg ?_|refine X_nx ?_|((first|refine U_q (v:=?_) ?h1 ?_|refine U_ld (v:=?_) ?h1 ?_);case h1=>((try simp only[gI,gK,hip,hkp,Int.toNat_natCast,List.take_succ_cons,List.take_zero,List.drop_succ_cons,List.drop_zero,go_sem])<;>rfl)))));refine U_pc (vs:=[.ag (auC A),.sl (l.map cfC),.ag (mvC x),.ag (mvC y)]) (ws:=[.ag (auC A),.sl (l.map cfC),.ag (mvC x),.ag (mvC y)]) (Z0) (fzsU_ok ?_) (Bool.or_eq_true_iff.2 (.inl ?_)) rfl hb ?_
    ·simp only[List.all_cons,List.all_nil,Bool.and_true,go_sem]
    ·simp only[clos,List.all_cons,List.all_nil,Bool.and_true,go_sem]
    (repeat (with_reducible (first|refine U_nil ?_|refine UC_sq ?_|refine UC_rg ?_|refine UC_rt ?_|refine X_nx ?_|refine X_rt ?_|((first|refine U_q (v:=?_) ?h1 ?_|refine U_ld (v:=?_) ?h1 ?_|refine E_1 (v:=?_) ?h1 ?_|refine U_alc (n:=?_) ?h1 ?_|refine U_gt ?h1 ?_);case h1=>((try simp only[noC_eqV,List.take_succ_cons,List.take_zero,List.drop_succ_cons,List.drop_zero,go_sem])<;>rfl))|(refine U_sto (id:=?_) (i:=?_) (j:=?_) (q:=?_) (es:=?_) (cs:=?_) (vs:=?_) (es':=?_) ?h1 ?h2 ?h3 ?h4 ?h5 ?h6 ?h7 ?_;case h1|h2|h3|h4|h5|h6|h7=>((try simp only[noC_eqV,List.take_succ_cons,List.take_zero,List.drop_succ_cons,List.drop_zero,go_sem])<;>rfl)))));rfl
  | some c =>
   obtain⟨g1,g2,g3,g4,g5,g6⟩:=hgo rfl;have hcp:c.p.toNat=P:=by rw[g1];rfl
   have hm1:=rmay_pu hW g2 (m:=x) (by rw[hcp];exact hx2);have hm2:=rmay_pu hW g2 (m:=y) (by rw[hcp];exact hy2);have hr:=rright_pu hW c;rw[g2] at hr;rw[mayV_eq] at hm1 hm2;generalize mayF A c x=u1 at hm1 g3;generalize mayF A c y=u2 at hm2 g4;dsimp only[agV,Option.getD_some,Option.isSome_some];(repeat (with_reducible (first|refine U_nil ?_|refine UC_sq ?_|refine UC_rg ?_|refine UC_sk ?_|refine X_nx ?_|((first|refine U_q (v:=?_) ?h1 ?_|refine U_ld (v:=?_) ?h1 ?_|refine U_alc (n:=?_) ?h1 ?_);case h1=>((try simp only[gI,gK,hip,hkp,Int.toNat_natCast,List.take_succ_cons,List.take_zero,List.drop_succ_cons,List.drop_zero,go_sem])<;>rfl))|(refine U_sto (id:=?_) (i:=?_) (j:=?_) (q:=?_) (es:=?_) (cs:=?_) (vs:=?_) (es':=?_) ?h1 ?h2 ?h3 ?h4 ?h5 ?h6 ?h7 ?_;case h1|h2|h3|h4|h5|h6|h7=>((try simp only[gI,gK,hip,hkp,Int.toNat_natCast,List.take_succ_cons,List.take_zero,List.drop_succ_cons,List.drop_zero,go_sem])<;>rfl))|(refine UC_cdf ?h1 ?_;case h1=>((try simp only[gI,gK,hip,hkp,Int.toNat_natCast,List.take_succ_cons,List.take_zero,List.drop_succ_cons,List.drop_zero,go_sem])<;>rfl)))))
   (refine U_pcr (r:=agV u1) hm1 ?h1 ?h2 rfl ?_;(case h1=>((try simp only[List.take_succ_cons,List.take_zero,List.drop_succ_cons,List.drop_zero,go_sem])<;>rfl));(case h2=>simp only[List.all_cons,List.all_nil,Bool.and_true,go_sem]))
   dsimp only[agV];rw[g3];(repeat (with_reducible (first|refine U_nil ?_|refine UC_sq ?_|refine UC_rg ?_|refine X_nx ?_|((first|refine U_q (v:=?_) ?h1 ?_|refine U_ld (v:=?_) ?h1 ?_|refine U_alc (n:=?_) ?h1 ?_);case h1=>((try simp only[gI,gK,hip,hkp,Int.toNat_natCast,List.take_succ_cons,List.take_zero,List.drop_succ_cons,List.drop_zero,go_sem])<;>rfl))|(refine U_sto (id:=?_) (i:=?_) (j:=?_) (q:=?_) (es:=?_) (cs:=?_) (vs:=?_) (es':=?_) ?h1 ?h2 ?h3 ?h4 ?h5 ?h6 ?h7 ?_;case h1|h2|h3|h4|h5|h6|h7=>((try simp only[gI,gK,hip,hkp,Int.toNat_natCast,List.take_succ_cons,List.take_zero,List.drop_succ_cons,List.drop_zero,go_sem])<;>rfl)))))
   (refine U_pcr (r:=agV u2) hm2 ?h1 ?h2 rfl ?_;(case h1=>((try simp only[List.take_succ_cons,List.take_zero,List.drop_succ_cons,List.drop_zero,go_sem])<;>rfl));(case h2=>simp only[List.all_cons,List.all_nil,Bool.and_true,go_sem]))
   dsimp only[agV];rw[g4];(repeat (with_reducible (first|refine U_nil ?_|refine UC_sq ?_|refine UC_rg ?_|refine X_nx ?_|((first|refine U_q (v:=?_) ?h1 ?_|refine U_ld (v:=?_) ?h1 ?_|refine U_alc (n:=?_) ?h1 ?_);case h1=>((try simp only[List.take_succ_cons,List.take_zero,List.drop_succ_cons,List.drop_zero,go_sem])<;>rfl))|(refine U_sto (id:=?_) (i:=?_) (j:=?_) (q:=?_) (es:=?_) (cs:=?_) (vs:=?_) (es':=?_) ?h1 ?h2 ?h3 ?h4 ?h5 ?h6 ?h7 ?_;case h1|h2|h3|h4|h5|h6|h7=>((try simp only[List.take_succ_cons,List.take_zero,List.drop_succ_cons,List.drop_zero,go_sem])<;>rfl)))))
   (refine U_pcr (r:=.bo true) hr ?h1 ?h2 rfl ?_;(case h1=>((try simp only[List.take_succ_cons,List.take_zero,List.drop_succ_cons,List.drop_zero,go_sem])<;>rfl));(case h2=>simp only[List.all_cons,List.all_nil,Bool.and_true,go_sem]))
   (repeat (with_reducible (first|refine U_nil ?_|refine UC_sq ?_|refine UC_rg ?_|refine UC_bk ?_|refine UC_sk ?_|refine X_nx ?_|((first|refine U_q (v:=?_) ?h1 ?_|refine U_gt ?h1 ?_);case h1=>((try simp only[List.take_succ_cons,List.take_zero,List.drop_succ_cons,List.drop_zero,go_sem])<;>rfl))|(refine UC_cdf ?h1 ?_;case h1=>((try simp only[List.take_succ_cons,List.take_zero,List.drop_succ_cons,List.drop_zero,go_sem])<;>rfl)))));clear hm1 hm2 hr g3 g4;refine U_lp (fun r e o=>∃ j:Nat,j+r=(arAt A P).length∧e 8=.pt 8 0 0∧e 10=.i .i64 P∧e 11=.sl ((mvAt A P).map mvC)∧e 12=.i .i64 i∧e 13=.i .i64 k∧e 14=.pt 14 0 0∧e 24=.i .i64 j∧o 8=some (.row 15 [auC A])∧o 14=some (.row 5 [cfC c])) (k:=(arAt A P).length) ?_ (Call_le F) ?_
   ·exact⟨0,by omega,Z0,Z0,Z0,Z0,Z0,Z0,Zr0,by simp only[List.take_succ_cons,List.take_zero,List.drop_succ_cons,List.drop_zero,go_sem],by simp only[List.take_succ_cons,List.take_zero,List.drop_succ_cons,List.drop_zero,go_sem]⟩
   rintro r e o ⟨j,hjr,r8,r10,r11,r12,r13,r14,r24,o8,o14⟩;dsimp only[b4_0];by_cases hj:j < (arAt A P).length
   ·have hd:decide ((j:Int) < ((arAt A P).length:Int))=true:=decide_eq_true (by omega);have hw:=wrap1 (i:=j) (by omega);have hj4:j < 4:=by omega
    have hjp:(0:Int)≤(j:Int):=by omega
    have hjl:(j:Int) < 4:=by omega
    have hbj:=g5 j hj;have hws:IntKind.i64.wrap (c.c j - 1)=c.c j - 1:=wrap_i64 (by omega) (by omega);have hget:=cf_get c hj4;have hspl:=cf_spl c (c.c j - 1) hj4;have hno:=g6 j hj;(repeat (with_reducible (first|refine U_nil ?_|refine UC_sq ?_|refine UC_rg ?_|refine UC_bk ?_|refine UC_sk ?_|refine X_nx ?_|((first|refine U_q (v:=?_) ?h1 ?_|refine U_ld (v:=?_) ?h1 ?_|refine U_alc (n:=?_) ?h1 ?_|refine UC_cdt ?h1 ?_);case h1=>((try simp only[r8,r10,r14,r24,o8,o14,gR,hd,hPp,hjp,hjl,hget,hws,Int.toNat_natCast,Nat.mul_one,List.length_map,List.take_succ_cons,List.take_zero,List.drop_succ_cons,List.drop_zero,go_sem])<;>rfl))|(refine U_sto (id:=?_) (i:=?_) (j:=?_) (q:=?_) (es:=?_) (cs:=?_) (vs:=?_) (es':=?_) ?h1 ?h2 ?h3 ?h4 ?h5 ?h6 ?h7 ?_;case h1|h2|h3|h4|h5|h6|h7=>((try simp only[r8,r10,r14,r24,o8,o14,gR,hd,hPp,hjp,hjl,hget,hws,Int.toNat_natCast,Nat.mul_one,List.length_map,List.take_succ_cons,List.take_zero,List.drop_succ_cons,List.drop_zero,go_sem])<;>rfl)))));refine U_sto (id:=25) (i:=0) (j:=1+j) (q:=5) (es:=[cfC c]) (cs:=cfC c) (vs:=[.i .i64 (c.c j - 1)]) (es':=[cfC (c.setC j (c.c j - 1))]) (Z0) (Z0) rfl (Z0) rfl (by rw[cf_len];simp;omega) (by rw[← hspl];rfl) ?_;have hdp:(c.setC j (c.c j - 1)).p.toNat=P:=by rw[setC_p];exact hcp
    generalize c.setC j (c.c j - 1)=d at hno hdp;have hr:=rright_pu hW d;(repeat (with_reducible (first|refine U_nil ?_|refine UC_sq ?_|refine UC_rg ?_|refine X_nx ?_|(refine U_ld (v:=?_) ?h1 ?_;case h1=>((try simp only[r8,o8,List.take_succ_cons,List.take_zero,List.drop_succ_cons,List.drop_zero,go_sem])<;>rfl)))))
    (refine U_pcr (r:=.bo (rightB A d)) hr ?h1 ?h2 rfl ?_;(case h1=>((try simp only[List.take_succ_cons,List.take_zero,List.drop_succ_cons,List.drop_zero,go_sem])<;>rfl));(case h2=>simp only[List.all_cons,List.all_nil,Bool.and_true,go_sem]))
    cases hrd:rightB A d with
    | false =>
     (repeat (with_reducible (first|refine U_nil ?_|refine UC_rg ?_|refine UC_ex ?_|refine X_nx ?_|refine X_ex ?_|refine B_self ?_|((first|refine U_q (v:=?_) ?h1 ?_|refine UC_cdt ?h1 ?_);case h1=>((try simp only[r24,hw,List.take_succ_cons,List.take_zero,List.drop_succ_cons,List.drop_zero,go_sem])<;>rfl)))))
     exact⟨r - 1,by omega,j+1,by omega,Z1 r8,Z1 r10,Z1 r11,Z1 r12,Z1 r13,Z1 r14,Z0,Z1 o8,Z1 o14⟩
    | true =>
     have hno:=hno hrd;have hm1:=rmay_pu hW hrd (m:=x) (by rw[hdp];exact hx2);have hm2:=rmay_pu hW hrd (m:=y) (by rw[hdp];exact hy2);rw[mayV_eq] at hm1 hm2;generalize mayF A d x=u1 at hm1 hno;generalize mayF A d y=u2 at hm2 hno;(repeat (with_reducible (first|refine U_nil ?_|refine UC_sq ?_|refine UC_rg ?_|refine UC_sk ?_|refine X_nx ?_|((first|refine U_q (v:=?_) ?h1 ?_|refine U_ld (v:=?_) ?h1 ?_);case h1=>((try simp only[r8,r11,r12,r13,o8,gI,gK,hip,hkp,Int.toNat_natCast,List.take_succ_cons,List.take_zero,List.drop_succ_cons,List.drop_zero,go_sem])<;>rfl))|(refine UC_cdf ?h1 ?_;case h1=>((try simp only[r8,r11,r12,r13,o8,gI,gK,hip,hkp,Int.toNat_natCast,List.take_succ_cons,List.take_zero,List.drop_succ_cons,List.drop_zero,go_sem])<;>rfl)))))
     (refine U_pcr (r:=agV u1) hm1 ?h1 ?h2 rfl ?_;(case h1=>((try simp only[List.take_succ_cons,List.take_zero,List.drop_succ_cons,List.drop_zero,go_sem])<;>rfl));(case h2=>simp only[List.all_cons,List.all_nil,Bool.and_true,go_sem]))
     dsimp only[agV];(repeat (with_reducible (first|refine U_nil ?_|refine UC_sq ?_|refine UC_rg ?_|refine X_nx ?_|((first|refine U_q (v:=?_) ?h1 ?_|refine U_ld (v:=?_) ?h1 ?_);case h1=>((try simp only[r8,r11,r12,r13,o8,gI,gK,hip,hkp,Int.toNat_natCast,List.take_succ_cons,List.take_zero,List.drop_succ_cons,List.drop_zero,go_sem])<;>rfl)))))
     (refine U_pcr (r:=agV u2) hm2 ?h1 ?h2 rfl ?_;(case h1=>((try simp only[List.take_succ_cons,List.take_zero,List.drop_succ_cons,List.drop_zero,go_sem])<;>rfl));(case h2=>simp only[List.all_cons,List.all_nil,Bool.and_true,go_sem]))
     dsimp only[agV];cases e1:u1.isSome with
     | false =>
      (repeat (with_reducible (first|refine U_nil ?_|refine UC_sq ?_|refine UC_rg ?_|refine UC_sk ?_|refine X_nx ?_|refine B_nx ?_|(refine U_q (v:=?_) ?h1 ?_;case h1=>((try simp only[r24,hw,e1,List.take_succ_cons,List.take_zero,List.drop_succ_cons,List.drop_zero,go_sem])<;>rfl))|((first|refine U_gs2 ?h1 ?_|refine UC_cdf ?h1 ?_);case h1=>((try simp only[r24,hw,e1,List.take_succ_cons,List.take_zero,List.drop_succ_cons,List.drop_zero,go_sem])<;>rfl))|rw[put_some])))
      exact⟨r - 1,by omega,j+1,by omega,Z1 r8,Z1 r10,Z1 r11,Z1 r12,Z1 r13,Z1 r14,Z0,Z1 o8,Z1 o14⟩
     | true =>
      rw[e1,Bool.true_and] at hno;(repeat (with_reducible (first|refine U_nil ?_|refine UC_sq ?_|refine UC_rg ?_|refine UC_sk ?_|refine X_nx ?_|refine B_nx ?_|((first|refine U_q (v:=?_) ?h1 ?_|refine U_gt ?h1 ?_);case h1=>((try simp only[r24,hw,e1,hno,List.take_succ_cons,List.take_zero,List.drop_succ_cons,List.drop_zero,go_sem])<;>rfl))|(refine UC_cdf ?h1 ?_;case h1=>((try simp only[r24,hw,e1,hno,List.take_succ_cons,List.take_zero,List.drop_succ_cons,List.drop_zero,go_sem])<;>rfl)))))
      exact⟨r - 1,by omega,j+1,by omega,Z1 r8,Z1 r10,Z1 r11,Z1 r12,Z1 r13,Z1 r14,Z0,Z1 o8,Z1 o14⟩
   ·have hd:decide ((j:Int) < ((arAt A P).length:Int))=false:=decide_eq_false (by omega);(repeat (with_reducible (first|refine U_nil ?_|refine UC_sq ?_|refine UC_rg ?_|refine UC_ex ?_|refine UC_rt ?_|refine X_nx ?_|refine X_ex ?_|refine B_self ?_|((first|refine U_q (v:=?_) ?h1 ?_|refine U_ld (v:=?_) ?h1 ?_|refine E_1 (v:=?_) ?h1 ?_);case h1=>((try simp only[r8,r10,r24,o8,gR,hd,hPp,Int.toNat_natCast,List.length_map,List.take_succ_cons,List.take_zero,List.drop_succ_cons,List.drop_zero,go_sem])<;>rfl))|(refine UC_cdf ?h1 ?_;case h1=>((try simp only[r8,r10,r24,o8,gR,hd,hPp,Int.toNat_natCast,List.length_map,List.take_succ_cons,List.take_zero,List.drop_succ_cons,List.drop_zero,go_sem])<;>rfl)))));rfl
end Go.Proofs.YtgiedknghbpdfaaDoor
