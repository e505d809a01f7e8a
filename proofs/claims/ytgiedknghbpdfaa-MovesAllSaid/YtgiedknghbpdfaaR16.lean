import Derived.Test.YtgiedknghbpdfaaR15

namespace Go.Proofs.Ytgiedknghbpdfaa
set_option linter.all false
attribute [-go_sem] swpOb renOb rfOb V.cells
theorem ahead_pu (x y:Mv) (h:mvCmp x y < 0):Pu F 17 [.ag (mvC x),.ag (mvC y)] (.bo true):=by
 rw[mvCmp_lt] at h;obtain⟨a,b,c⟩:=x;obtain⟨a',b',c'⟩:=y;dsimp only at h;dsimp only[mvC];refine U_pure e17 rfl rfl rfl ?_;dsimp only[fn17,c17];rcases h with h|⟨rfl,h|⟨rfl,rfl,rfl⟩⟩
 ·have c1:((a:Int) != (a':Int))=true:=by simp;omega
  have c2:decide ((a:Int) < (a':Int))=true:=decide_eq_true (by omega);(repeat (with_reducible (first|refine U_nil ?_|refine UC_sq ?_|refine UC_rg ?_|refine UC_rt ?_|refine X_nx ?_|refine X_rt ?_|((first|refine U_q (v:=?_) ?h1 ?_|refine U_ld (v:=?_) ?h1 ?_|refine E_1 (v:=?_) ?h1 ?_|refine UC_cdt ?h1 ?_);case h1=>((try simp only[c1,c2,go_sem])<;>rfl))|(refine U_box (cs:=?_) (cs':=?_) (n:=?_) ?h1 ?h2 ?h3 ?h4 ?_;case h1|h2|h3|h4=>((try simp only[c1,c2,go_sem])<;>rfl)))));rfl
 ·have c1:((a:Int) != (a:Int))=false:=by simp
  have c3:((b:Int) != (b':Int))=true:=by simp;omega
  have c4:decide ((b:Int) < (b':Int))=true:=decide_eq_true (by omega);(repeat (with_reducible (first|refine U_nil ?_|refine UC_sq ?_|refine UC_rg ?_|refine UC_sk ?_|refine UC_rt ?_|refine X_nx ?_|refine X_rt ?_|((first|refine U_q (v:=?_) ?h1 ?_|refine U_ld (v:=?_) ?h1 ?_|refine E_1 (v:=?_) ?h1 ?_|refine UC_cdt ?h1 ?_);case h1=>((try simp only[c1,c3,c4,go_sem])<;>rfl))|(refine U_box (cs:=?_) (cs':=?_) (n:=?_) ?h1 ?h2 ?h3 ?h4 ?_;case h1|h2|h3|h4=>((try simp only[c1,c3,c4,go_sem])<;>rfl))|(refine UC_cdf ?h1 ?_;case h1=>((try simp only[c1,c3,c4,go_sem])<;>rfl)))));rfl
 ·have c1:((a:Int) != (a:Int))=false:=by simp
  have c3:((b:Int) != (b:Int))=false:=by simp
  (repeat (with_reducible (first|refine U_nil ?_|refine UC_sq ?_|refine UC_rg ?_|refine UC_sk ?_|refine UC_rt ?_|refine X_nx ?_|((first|refine U_q (v:=?_) ?h1 ?_|refine U_ld (v:=?_) ?h1 ?_|refine E_1 (v:=?_) ?h1 ?_|refine U_gt ?h1 ?_);case h1=>((try simp only[c1,c3,go_sem])<;>rfl))|(refine U_box (cs:=?_) (cs':=?_) (n:=?_) ?h1 ?h2 ?h3 ?h4 ?_;case h1|h2|h3|h4=>((try simp only[c1,c3,go_sem])<;>rfl))|(refine UC_cdf ?h1 ?_;case h1=>((try simp only[c1,c3,go_sem])<;>rfl)))));rfl
theorem eqMv_t (a b:Nat) (c:Bool):eqV true [.i .i64,.i .i64,.b] (.ag [.i .i64 a,.i .i64 b,.bo c]) (.ag [.i .i64 a,.i .i64 b,.bo c])=some true:=by
 simp [eqV,eqps,lfEq,V.isAg,V.cells]
theorem eqMv_f {a b a' b':Nat} {c c':Bool} (h:¬ (⟨a,b,c⟩:Mv)=⟨a',b',c'⟩):eqV true [.i .i64,.i .i64,.b] (.ag [.i .i64 a,.i .i64 b,.bo c]) (.ag [.i .i64 a',.i .i64 b',.bo c'])=some false:=by
 simp [eqV,eqps,lfEq,V.isAg,V.cells];intro h1 h2 h3;have h1:a=a':=by omega
 have h2:b=b':=by omega
 exact h (by rw[h1,h2,h3])
set_option maxHeartbeats 2000000 in
theorem has_pu (l:List Eg) (p:Nat) (m:Mv) (hl:l.length≤36000000) (h:(p,m)∈l):Pu F 16 [.sl (l.map egC),.i .i64 p,.ag (mvC m)] (.bo true):=by
 obtain⟨a',b',c'⟩:=m;dsimp only[mvC];refine U_pure e16 rfl rfl (by simp only[go_sem,eg_cld,Bool.and_true]) ?_;dsimp only[fn16,c16];(repeat (with_reducible (first|refine U_nil ?_|refine UC_sq ?_|refine UC_rg ?_|refine UC_bk ?_|refine X_nx ?_|(refine U_q (v:=?_) ?h1 ?_;case h1=>((try simp only[go_sem])<;>rfl))|(refine U_box (cs:=?_) (cs':=?_) (n:=?_) ?h1 ?h2 ?h3 ?h4 ?_;case h1|h2|h3|h4=>((try simp only[go_sem])<;>rfl)))));refine U_lp (fun r e o=>∃ i:Nat,i+r=l.length∧(p,⟨a',b',c'⟩)∈l.drop i∧e 0=.sl (l.map egC)∧e 1=.i .i64 p∧e 5=.pt 5 0 0∧e 7=.i .i64 i∧o 5=some (.row 3 [[.i .i64 a',.i .i64 b',.bo c']])) (k:=l.length) ?_ (Call_le F) ?_
 ·exact⟨0,by omega,by rw[List.drop_zero];exact h,Z0,Z0,Z0,Zr0,Zr0⟩
 rintro r e o ⟨i,hir,hm,r0,r1,r5,r7,o5⟩;dsimp only[b16_0];have hi:i < l.length:=by
  by_cases hi:i < l.length
  ·exact hi
  ·rw[List.drop_eq_nil_of_le (by omega)] at hm;cases hm
 have hd:decide ((i:Int) < (l.length:Int))=true:=decide_eq_true (by omega);have hw:=wrapN1 (i:=i) (by omega);have hip:(0:Int)≤(i:Int):=by omega
 have gL:(l.map egC)[i]?=some (egC l[i]):=by rw[List.getElem?_map,List.getElem?_eq_getElem hi];rfl
 rw[List.drop_eq_getElem_cons hi] at hm;generalize l[i]=y at gL hm;obtain⟨q,⟨a,b,c⟩⟩:=y;dsimp only[egC,mvC] at gL;by_cases hq:q=p
 ·subst hq;have c1:((q:Int)==(q:Int))=true:=by simp
  by_cases he:(⟨a,b,c⟩:Mv)=⟨a',b',c'⟩
  ·cases he;have c2:=eqMv_t a' b' c';(repeat (with_reducible (first|refine U_nil ?_|refine UC_sq ?_|refine UC_rg ?_|refine UC_bk ?_|refine UC_sk ?_|refine UC_rt ?_|refine X_nx ?_|refine X_rt ?_|refine B_rt ?_|((first|refine U_q (v:=?_) ?h1 ?_|refine U_ld (v:=?_) ?h1 ?_|refine E_1 (v:=?_) ?h1 ?_|refine U_gt ?h1 ?_|refine UC_cdt ?h1 ?_);case h1=>((try simp only[r0,r1,r5,r7,o5,hd,hip,gL,c1,c2,Int.toNat_natCast,List.length_map,go_sem])<;>rfl)))));rfl
  ·have hm2:((q,⟨a',b',c'⟩):Eg)∈l.drop (i+1):=by
    rcases List.mem_cons.1 hm with h1|h1
    ·cases h1;exact absurd rfl he
    ·exact h1
   have c2:=eqMv_f he;(repeat (with_reducible (first|refine U_nil ?_|refine UC_sq ?_|refine UC_rg ?_|refine UC_bk ?_|refine UC_sk ?_|refine X_nx ?_|refine B_nx ?_|((first|refine U_q (v:=?_) ?h1 ?_|refine U_ld (v:=?_) ?h1 ?_|refine U_gt ?h1 ?_|refine UC_cdt ?h1 ?_);case h1=>((try simp only[r0,r1,r5,r7,o5,hd,hw,hip,gL,c1,c2,Int.toNat_natCast,List.length_map,go_sem])<;>rfl))|(refine UC_cdf ?h1 ?_;case h1=>((try simp only[r0,r1,r5,r7,o5,hd,hw,hip,gL,c1,c2,Int.toNat_natCast,List.length_map,go_sem])<;>rfl)))))
   exact⟨r - 1,by omega,i+1,by omega,hm2,Z1 r0,Z1 r1,Z1 r5,Z0,Z1 o5⟩
 ·have c1:((q:Int)==(p:Int))=false:=by simp;omega
  have hm2:((p,⟨a',b',c'⟩):Eg)∈l.drop (i+1):=by
   rcases List.mem_cons.1 hm with h1|h1
   ·cases h1;exact absurd rfl hq
   ·exact h1
  (repeat (with_reducible (first|refine U_nil ?_|refine UC_sq ?_|refine UC_rg ?_|refine UC_bk ?_|refine UC_sk ?_|refine X_nx ?_|refine B_nx ?_|((first|refine U_q (v:=?_) ?h1 ?_|refine U_ld (v:=?_) ?h1 ?_|refine UC_cdt ?h1 ?_);case h1=>((try simp only[r0,r1,r5,r7,o5,hd,hw,hip,gL,c1,Int.toNat_natCast,List.length_map,go_sem])<;>rfl))|((first|refine U_gs2 ?h1 ?_|refine UC_cdf ?h1 ?_);case h1=>((try simp only[r0,r1,r5,r7,o5,hd,hw,hip,gL,c1,Int.toNat_natCast,List.length_map,go_sem])<;>rfl))|rw[put_some])))
  exact⟨r - 1,by omega,i+1,by omega,hm2,Z1 r0,Z1 r1,Z1 r5,Z0,Z1 o5⟩
end Go.Proofs.Ytgiedknghbpdfaa
