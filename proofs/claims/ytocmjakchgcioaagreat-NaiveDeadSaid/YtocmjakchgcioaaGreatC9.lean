import Derived.Test.YtocmjakchgcioaaGreatKc
import Derived.Test.YtocmjakchgcioaaGreatA7

namespace Go.Proofs.YtocmjakchgcioaaGreat
set_option linter.all false
attribute [-go_sem] swpOb renOb rfOb V.cells
theorem spl_z5 (x:Cf) (a b c d e:V):splice 0 [a,b,c,d,e] (cfC x)=[a,b,c,d,e]:=rfl
attribute [go_sem] spl_z5
set_option maxHeartbeats 2000000 in
theorem may_pu {A:Au} (hW:WF A) {x:Cf} (hr:rightB A x=true) {m:Mv} (hm:MvOk A x.p.toNat m):Pu F 102 [.ag (auC A),.ag (cfC x),.ag (mvC m)] (mayV (mayF A x m)):=by
 obtain⟨r1,r2,r3⟩:=rightB_iff.1 hr;obtain⟨p,hp⟩:∃ p:Nat,x.p=p:=⟨x.p.toNat,by omega⟩;have hpl:p < A.around.length:=by omega
 have hpt:x.p.toNat=p:=by omega
 have hs4:(scAt A p).length≤4:=by rw[scAt_len];exact ar_4 hW hpl
 have ha:=around_pu hW hpl;have hkl:lft m≤(scAt A p).length:=by rw[scAt_len,← hpt];exact hm.keep
 have hk4:m.keep≤4:=by unfold lft at hkl;omega
 have hkp:(0:Int)≤(m.keep:Int):=by omega
 have hkc:(m.keep≤4)=True:=by simp;exact hk4
 have hsok:∀ (i:Nat) (h:i < (scAt A p).length),scOk (scAt A p)[i]∧1≤x.c i∧x.c i≤topS (scAt A p)[i]:=fun i h=>by
  have hi:i < (arAt A x.p.toNat).length:=by rw[hpt,← scAt_len];exact h
  have h1:=right_at hr hi (by omega);have h2:(scAt A p)[i]=scI A (arAt A x.p.toNat)[i]:=by simp [scAt,hpt]
  rw[h2]
  exact⟨scI_ok hW (ar_lt hW (by rw[hpt];exact hpl) (List.getElem_mem hi)),h1⟩
 refine U_pure e102 rfl rfl (by simp only[go_sem,Bool.and_true]) ?_;dsimp only[fn102,c102];(repeat (with_reducible (first|refine U_nil ?_|refine UC_sq ?_|refine UC_rg ?_|refine X_nx ?_|((first|refine U_q (v:=?_) ?h1 ?_|refine U_ld (v:=?_) ?h1 ?_|refine U_alc (n:=?_) ?h1 ?_);case h1=>((try simp only[hp,go_sem])<;>rfl))|(refine U_box (cs:=?_) (cs':=?_) (n:=?_) ?h1 ?h2 ?h3 ?h4 ?_;case h1|h2|h3|h4=>((try simp only[hp,go_sem])<;>rfl)))))
 (refine U_pc (g:=51) (r:=.sl ((scAt A p).map scC)) (vs:=?_) (ws:=?_) ?h1 ?h2 ?h3 ?h4 ?h5 ?_;(case h1=>((try simp only[go_sem])<;>rfl));(case h2=>refine fzsU_ok ?_;first|rfl|simp only[List.all_cons,List.all_nil,Bool.and_true,go_sem]);(case h5=>exact ha);(case h3=>first|exact Bool.or_eq_true_iff.2 (.inr rfl)|(refine Bool.or_eq_true_iff.2 (.inl ?_);simp only[clos,List.all_cons,List.all_nil,Bool.and_true,go_sem]));(case h4=>first|rfl|simp only[go_sem,Bool.and_true]))
 (repeat (with_reducible (first|refine U_nil ?_|refine UC_sq ?_|refine UC_rg ?_|refine X_nx ?_|((first|refine U_q (v:=?_) ?h1 ?_|refine U_ld (v:=?_) ?h1 ?_);case h1=>((try simp only[hkp,hkc,Nat.zero_le,Nat.sub_zero,Int.toNat_natCast,go_sem])<;>rfl)))));refine U_clone64 4 21 x m.keep hk4 (by rfl) (by omega) (Z0) (Z0) fun o1 k4 kl k0=>?_;have k3:o1 3=some (.row 15 [auC A]):=by rw[k0 3 (by decide) (by decide)];simp only[go_sem]
 have k5:o1 5=some (.row 3 [mvC m]):=by rw[k0 5 (by decide) (by decide)];simp only[go_sem]
 have k6:o1 6=some (.row 5 [cfC noC]):=by rw[k0 6 (by decide) (by decide)];(simp only[go_sem]<;>rfl)
 clear k0;by_cases hno:m.again=true∧nxt A x m=none
 ·obtain⟨hag,hnx⟩:=hno;have hlf:lft m=m.keep+1:=by simp [lft,hag]
  have hkl2:m.keep < (scAt A p).length:=by omega
  have hsi:=scs_at hkl2;have hxi:=cf_get x (i:=m.keep) (by omega);have hi4':((m.keep:Int) < 4)=True:=by simp;omega
  obtain⟨q1,q2,q3⟩:=hsok m.keep hkl2;have hn1:=next_pu _ (x.c m.keep) q1 q2 (by have:=(top_ok q1).2.1;omega);have hnv:nextV (scAt A p)[m.keep] (x.c m.keep)=.tp [.i .i64 0,.bo false]:=by
   unfold nxt at hnx;rw[hpt,List.getElem?_eq_getElem hkl2] at hnx;simp only[Option.getD_some] at hnx;simp [nextV,hnx]
  rw[hnv] at hn1;(repeat (with_reducible (first|refine U_nil ?_|refine UC_sq ?_|refine UC_rg ?_|refine X_nx ?_|((first|refine U_q (v:=?_) ?h1 ?_|refine U_ld (v:=?_) ?h1 ?_|refine UC_cdt ?h1 ?_);case h1=>((try simp only[hp,k3,k4,k5,k6,hag,hkp,hsi,hxi,hi4',Nat.mul_one,Int.toNat_natCast,go_sem])<;>rfl)))))
  (refine U_pcr (r:=.tp [.i .i64 0,.bo false]) hn1 ?h1 ?h2 rfl ?_;(case h1=>((try simp only[go_sem])<;>rfl));(case h2=>simp only[List.all_cons,List.all_nil,Bool.and_true,go_sem]))
  (repeat (with_reducible (first|refine U_nil ?_|refine UC_sq ?_|refine UC_rg ?_|refine UC_rt ?_|refine X_nx ?_|refine X_rt ?_|((first|refine U_q (v:=?_) ?h1 ?_|refine UC_cdt ?h1 ?_);case h1=>((try simp only[hp,k3,k4,k5,k6,go_sem])<;>rfl))|(refine U_sto (id:=?_) (i:=?_) (j:=?_) (q:=?_) (es:=?_) (cs:=?_) (vs:=?_) (es':=?_) ?h1 ?h2 ?h3 ?h4 ?h5 ?h6 ?h7 ?_;case h1|h2|h3|h4|h5|h6|h7=>((try simp only[hp,k3,k4,k5,k6,go_sem])<;>rfl))|(refine E_2 (v:=?_) (u:=?_) ?h1 ?h2 ?_;case h1|h2=>((try simp only[hp,k3,k4,k5,k6,go_sem])<;>rfl)))));rw[may_no1 hag hnx];exact fz_of rfl rfl
 obtain⟨n,hn⟩:∃ n,m.again=true→nxt A x m=some n:=by
  cases h:nxt A x m with
  | none=>exact⟨0,fun hh=>absurd ⟨hh,h⟩ hno⟩
  | some n=>exact⟨n,fun _=>rfl⟩
 rw[may_if hn,hpt];(repeat (with_reducible (first|refine U_nil ?_|refine UC_sq ?_|refine UC_rg ?_|refine X_nx ?_|((first|refine U_q (v:=?_) ?h1 ?_|refine U_ld (v:=?_) ?h1 ?_);case h1=>((try simp only[hp,k3,k4,k5,k6,hkp,Int.toNat_natCast,go_sem])<;>rfl)))));refine UC_cut (fun e o=>e 3=.pt 3 0 0∧e 4=.pt 4 0 0∧e 5=.pt 5 0 0∧e 6=.pt 6 0 0∧e 8=.sl ((scAt A p).map scC)∧e 9=ownV 21 1 ((kept x m n).map i1)∧e 10=.i .i64 (lft m)∧o 3=some (.row 15 [auC A])∧o 4=some (.row 5 [cfC x])∧o 5=some (.row 3 [mvC m])∧o 6=some (.row 5 [cfC noC])∧Own o 21 1 ((kept x m n).map i1)) ?_ ?_
 ·cases hag:m.again with
  | true =>
   have hlf:lft m=m.keep+1:=by simp [lft,hag]
   have hkl2:m.keep < (scAt A p).length:=by omega
   have hsi:=scs_at hkl2;have hxi:=cf_get x (i:=m.keep) (by omega);have hi4':((m.keep:Int) < 4)=True:=by simp;omega
   obtain⟨q1,q2,q3⟩:=hsok m.keep hkl2;have hn1:=next_pu _ (x.c m.keep) q1 q2 (by have:=(top_ok q1).2.1;omega);have hnv:nextV (scAt A p)[m.keep] (x.c m.keep)=.tp [.i .i64 n,.bo true]:=by
    have hnx:=hn hag;unfold nxt at hnx;rw[hpt,List.getElem?_eq_getElem hkl2] at hnx;simp only[Option.getD_some] at hnx;simp [nextV,hnx]
   rw[hnv] at hn1;have hke:(kept x m n).map i1=((cl4 x).take m.keep).map i1++[[.i .i64 n]]:=by simp [kept,hag];rfl
   have hw:=wrap1 (i:=m.keep) (by omega);(repeat (with_reducible (first|refine UC_sq ?_|refine UC_rg ?_|((first|refine U_q (v:=?_) ?h1 ?_|refine U_ld (v:=?_) ?h1 ?_|refine UC_cdt ?h1 ?_);case h1=>((try simp only[hp,k3,k4,k5,k6,hag,hkp,hsi,hxi,hi4',Nat.mul_one,Int.toNat_natCast,go_sem])<;>rfl)))))
   (refine U_pcr (r:=.tp [.i .i64 n,.bo true]) hn1 ?h1 ?h2 rfl ?_;(case h1=>((try simp only[go_sem])<;>rfl));(case h2=>simp only[List.all_cons,List.all_nil,Bool.and_true,go_sem]))
   (repeat (with_reducible (first|refine U_nil ?_|refine UC_sq ?_|refine UC_rg ?_|refine UC_sk ?_|refine X_nx ?_|(refine U_q (v:=?_) ?h1 ?_;case h1=>((try simp only[hp,k3,k4,k5,k6,go_sem])<;>rfl))|(refine U_bsl (es:=?_) (es':=?_) ?h1 ?h2 ?h3 ?_;case h1|h2|h3=>((try simp only[hp,k3,k4,k5,k6,go_sem])<;>rfl))|(refine UC_cdf ?h1 ?_;case h1=>((try simp only[hp,k3,k4,k5,k6,go_sem])<;>rfl)))));refine U_appo 21 (L:=((cl4 x).take m.keep).map i1) (ys:=[[.i .i64 n]]) (Z0) ?_ (by (simp only[src,go_sem]<;>rfl)) (by simp) (by simp) (by omega) ⟨by simp;omega,by omega⟩ (swpR_cls _ kl.c) rfl ?_
   ·exact Own.h (by (repeat first|with_reducible assumption|refine .up rfl ?_|refine .sw rfl ?_|refine .swN rfl ?_))
   (repeat (with_reducible (first|refine U_nil ?_|refine UC_rg ?_|refine X_nx ?_|(refine U_q (v:=?_) ?h1 ?_;case h1=>((try simp only[hw,go_sem])<;>rfl)))))
   refine⟨rfl,Z0,Z0,Z0,Z0,Z0,Z1 hke,Z1 hlf,Z1 k3,Z1 k4,Z1 k5,Z1 k6,?_⟩
   rw[hke];exact Own.to (by rw[← hke];exact List.all_eq_true.2 fun c hc=>by obtain⟨y,_,rfl⟩:=List.mem_map.1 hc;rfl)
  | false =>
   have hlf:lft m=m.keep:=by simp [lft,hag]
   have hke:kept x m n=(cl4 x).take m.keep:=by simp [kept,hag]
   rw[hke,hlf];(repeat (with_reducible (first|refine UC_sk ?_|(refine UC_cdf ?h1 ?_;case h1=>((try simp only[hag,go_sem])<;>rfl)))))
   exact⟨rfl,Z0,Z0,Z0,Z0,Z0,Z0,Z0,Z1 k3,Z1 k4,Z1 k5,Z1 k6,kl⟩
 clear k3 k4 k5 k6 kl;rintro e o ⟨r3,r4,r5,r6,r8,r9,r10,o3,o4,o5,o6,ow⟩;have hl4:(lft m≤4)=True:=by simp;omega
 have hlp:(0:Int)≤(lft m:Int):=by omega
 have hall:((scAt A p).map scC).all (fun c=>c.length==2)=true:=List.all_eq_true.2 fun c hc=>by obtain⟨y,_,rfl⟩:=List.mem_map.1 hc;rfl
 have htk:List.take (scAt A p).length ((scAt A p).map scC)=(scAt A p).map scC:=List.take_of_length_le (by simp);have hkl':(lft m≤(scAt A p).length)=True:=by simp;exact hkl
 (repeat (with_reducible (first|refine UC_sq ?_|refine UC_rg ?_|refine X_nx ?_|(refine U_q (v:=?_) ?h1 ?_;case h1=>((try simp only[r8,r10,go_sem])<;>rfl)))));refine U_q (v:=.sl (((scAt A p).drop (lft m)).map scC)) (by simp only[r8,r10,cutV,List.length_map,hlp,hkl',hall,htk,Nat.le_refl,and_self,true_and,and_true,if_true,Int.toNat_natCast,List.map_drop,go_sem]) ?_;(repeat (with_reducible (first|(refine U_q (v:=?_) ?h1 ?_;case h1=>((try simp only[r4,r10,hlp,hl4,Int.toNat_natCast,go_sem])<;>rfl)))));have hlv:=leaves_pu (l:=(scAt A p).drop (lft m)) (cs:=(cl4 x).drop (lft m)) (by simp [cl4];omega) (by simp;omega);refine U_pc (vs:=[.sl (((scAt A p).drop (lft m)).map scC),.ra 4 0 (1+lft m) (4 - lft m)]) (ws:=[.sl (((scAt A p).drop (lft m)).map scC),.sl (((cl4 x).drop (lft m)).map i1)]) (r:=.bo (leavesL ((scAt A p).drop (lft m)) ((cl4 x).drop (lft m)))) (Z0) (fzs_lv (Z1 o4) (by omega) _) (Bool.or_eq_true_iff.2 (.inr rfl)) rfl hlv ?_;cases hlb:leavesL ((scAt A p).drop (lft m)) ((cl4 x).drop (lft m)) with
 | false =>
  (repeat (with_reducible (first|refine U_nil ?_|refine UC_sq ?_|refine UC_rg ?_|refine UC_rt ?_|refine X_nx ?_|refine X_rt ?_|((first|refine U_q (v:=?_) ?h1 ?_|refine UC_cdt ?h1 ?_);case h1=>((try simp only[r6,o6,go_sem])<;>rfl))|(refine U_sto (id:=?_) (i:=?_) (j:=?_) (q:=?_) (es:=?_) (cs:=?_) (vs:=?_) (es':=?_) ?h1 ?h2 ?h3 ?h4 ?h5 ?h6 ?h7 ?_;case h1|h2|h3|h4|h5|h6|h7=>((try simp only[r6,o6,go_sem])<;>rfl))|(refine E_2 (v:=?_) (u:=?_) ?h1 ?h2 ?_;case h1|h2=>((try simp only[r6,o6,go_sem])<;>rfl)))));exact fz_of rfl rfl
 | true =>
  have hent:=enter_pu hW (p:=m.to) hm.to (kept:=kept x m n) (by rw[kept_len hk4];omega);(repeat (with_reducible (first|refine U_nil ?_|refine UC_sq ?_|refine UC_rg ?_|refine UC_sk ?_|refine X_nx ?_|((first|refine U_q (v:=?_) ?h1 ?_|refine U_ld (v:=?_) ?h1 ?_);case h1=>((try simp only[r3,r5,r9,o3,o5,go_sem])<;>rfl))|(refine UC_cdf ?h1 ?_;case h1=>((try simp only[r3,r5,r9,o3,o5,go_sem])<;>rfl)))));refine U_pc (vs:=[.ag (auC A),.i .i64 m.to,ownV 21 1 ((kept x m n).map i1)]) (ws:=[.ag (auC A),.i .i64 m.to,.sl ((kept x m n).map i1)]) (r:=.ag (cfC (enterF A m.to (kept x m n)))) (Z1 r9) (fzs_ent ow) (Bool.or_eq_true_iff.2 (.inr rfl)) (Z0) hent ?_;(repeat (with_reducible (first|refine U_nil ?_|refine UC_rt ?_|refine X_nx ?_|(refine U_q (v:=?_) ?h1 ?_;case h1=>((try simp only[r6,o6,go_sem])<;>rfl))|(refine U_sto (id:=?_) (i:=?_) (j:=?_) (q:=?_) (es:=?_) (cs:=?_) (vs:=?_) (es':=?_) ?h1 ?h2 ?h3 ?h4 ?h5 ?h6 ?h7 ?_;case h1|h2|h3|h4|h5|h6|h7=>((try simp only[r6,o6,go_sem])<;>rfl))|(refine E_2 (v:=?_) (u:=?_) ?h1 ?h2 ?_;case h1|h2=>((try simp only[r6,o6,go_sem])<;>rfl)))));exact fz_of rfl rfl
end Go.Proofs.YtocmjakchgcioaaGreat
