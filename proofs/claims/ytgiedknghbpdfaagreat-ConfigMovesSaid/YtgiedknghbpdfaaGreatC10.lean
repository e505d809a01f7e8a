import Derived.Test.YtgiedknghbpdfaaGreatC9
import Derived.Test.YtgiedknghbpdfaaGreatC8

/-
  config.May; ConfigMoves answers true.
-/
namespace Go.Proofs.YtgiedknghbpdfaaGreat
set_option linter.all false
attribute [-go_sem] swpOb renOb rfOb V.cells
theorem mv_eqps (x y:Mv):eqps [.i .i64,.i .i64,.b] (mvC x) (mvC y)=some (decide (x=y)):=by
 obtain ⟨a,b,c⟩:=x
 obtain ⟨a',b',c'⟩:=y
 simp only [mvC,eqps,lfEq,and_self,if_true,Bool.and_true]
 congr 1
 rw [Bool.eq_iff_iff]
 simp only [Bool.and_eq_true,beq_iff_eq,decide_eq_true_eq,Mv.mk.injEq]
 constructor
 ·rintro ⟨h1,h2,h3⟩;exact ⟨by omega,by omega,h3⟩
 ·rintro ⟨h1,h2,h3⟩;exact ⟨by omega,by omega,h3⟩
theorem mv_eqV (x y:Mv):eqV true [.i .i64,.i .i64,.b] (.ag (mvC x)) (.ag (mvC y))=some (decide (x=y)):=mv_eqps x y
theorem noC_eqps:eqps [.i .i64,.i .i64,.i .i64,.i .i64,.i .i64] (cfC noC) [.i .i64 0,.i .i64 0,.i .i64 0,.i .i64 0,.i .i64 0]=some true:=rfl
theorem noC_eqV:eqV true [.i .i64,.i .i64,.i .i64,.i .i64,.i .i64] (.ag (cfC noC)) (.ag [.i .i64 0,.i .i64 0,.i .i64 0,.i .i64 0,.i .i64 0])=some true:=rfl
attribute [go_sem] mv_eqps mv_eqV noC_eqps noC_eqV
theorem mvs_at {l:List Mv} {i:Nat} (hi:i < l.length):(l.map mvC)[i]?=some (mvC l[i]):=by
 rw [List.getElem?_map,List.getElem?_eq_getElem hi];rfl
def idxM (m:Mv) (l:List Mv):Int:=if m∈l then ((l.findIdx (fun y=>decide (m=y)):Nat):Int) else -1
theorem idxM_at {m:Mv} {l:List Mv} {i:Nat} (hi:i < l.length) (h:l[i]=m) (hb:∀ j (hj:j < i),l[j]'(by omega)≠m):idxM m l=i:=by
 have hmem:m∈l:=by rw [← h];exact List.getElem_mem hi
 rw [idxM,if_pos hmem]
 congr 1
 refine (List.findIdx_eq hi).2 ⟨by simp [h],fun j hj=>?_⟩
 have:=hb j hj
 simpa using fun hh=>this hh.symm
theorem index_pu (m:Mv) (l:List Mv) (hl:l.length < 2147483648):Pu F 61 [.sl (l.map mvC),.ag (mvC m)] (.i .i64 (idxM m l)):=by
 refine U_pure e61 rfl rfl (by simp only [go_sem,Bool.and_true]) ?_
 dsimp only [fn61,c61]
 (repeat (with_reducible (first | refine U_nil ?_ | refine UC_sq ?_ | refine UC_rg ?_ | refine UC_bk ?_ | refine X_nx ?_ | (refine U_q (v:=?_) ?h1 ?_;case h1=>((try simp only [List.length_map,List.take_succ_cons,List.take_zero,List.drop_succ_cons,List.drop_zero,go_sem])<;>rfl)) | (refine U_box (cs:=?_) (cs':=?_) (n:=?_) ?h1 ?h2 ?h3 ?h4 ?_;case h1 | h2 | h3 | h4=>((try simp only [List.length_map,List.take_succ_cons,List.take_zero,List.drop_succ_cons,List.drop_zero,go_sem])<;>rfl)))))
 refine U_lp (fun r e o=>∃ i:Nat,i+r=l.length∧e 0=.sl (l.map mvC)∧e 3=.pt 3 0 0∧e 7=.i .i64 l.length∧e 8=.i .i64 i∧o 3=some (.row 3 [mvC m])∧∀ j (hj:j < i) (hl:j < l.length),l[j]≠m) (k:=l.length) ?_ (Call_le F) ?_
 ·exact ⟨0,by omega,by simp only [go_sem],by simp only [go_sem],by simp only [List.length_map,go_sem],by (simp only [go_sem]<;>rfl),by simp only [go_sem],fun j h=>absurd h (by omega)⟩
 rintro r e o ⟨i,hir,r0,r3,r7,r8,o3,hq⟩
 dsimp only [b61_0]
 (repeat (with_reducible (first | refine U_nil ?_ | refine UC_sq ?_ | refine UC_rg ?_ | refine X_nx ?_ | (refine U_q (v:=?_) ?h1 ?_;case h1=>((try simp only [r7,r8,go_sem])<;>rfl)))))
 refine UC_cdb (q:=decide ((i:Int) < (l.length:Int))) (by simp only [go_sem]) (fun hc=>?_) (fun hc=>?_)
 ·have hi:i < l.length:=by simpa using hc
  have hip:(0:Int)≤(i:Int):=by omega
  have hx:=mvs_at hi
  have hw:=wrap1 (i:=i) (by omega)
  (repeat (with_reducible (first | refine U_nil ?_ | refine UC_sq ?_ | refine UC_rg ?_ | refine UC_bk ?_ | refine UC_sk ?_ | refine X_nx ?_ | ((first | refine U_q (v:=?_) ?h1 ?_ | refine U_ld (v:=?_) ?h1 ?_);case h1=>((try simp only [r0,r3,r8,o3,hip,hx,Int.toNat_natCast,List.take_succ_cons,List.take_zero,List.drop_succ_cons,List.drop_zero,go_sem])<;>rfl)))))
  refine UC_cdb (q:=decide (m=l[i])) (by simp only [go_sem]) (fun hc2=>?_) (fun hc2=>?_)
  ·have he:m=l[i]:=by simpa using hc2
   (repeat (with_reducible (first | refine U_nil ?_ | refine UC_sq ?_ | refine UC_rg ?_ | refine UC_rt ?_ | refine X_nx ?_ | refine X_rt ?_ | refine B_rt ?_ | ((first | refine U_q (v:=?_) ?h1 ?_ | refine E_1 (v:=?_) ?h1 ?_);case h1=>((try simp only [go_sem])<;>rfl)))))
   rw [idxM_at hi he.symm fun j hj=>hq j hj (by omega)];exact fz_of rfl rfl
  ·have he:¬ m=l[i]:=by simpa using hc2
   (repeat (with_reducible (first | refine U_nil ?_ | refine UC_rg ?_ | refine UC_sk ?_ | refine X_nx ?_ | refine B_nx ?_ | (refine U_q (v:=?_) ?h1 ?_;case h1=>((try simp only [r8,hw,go_sem])<;>rfl)))))
   refine ⟨r - 1,by omega,i+1,by omega,by simp only [r0,go_sem],by simp only [r3,go_sem],by simp only [r7,go_sem],by simp only [go_sem],by simp only [o3,go_sem],fun j hj hl=>?_⟩
   by_cases hji:j=i
   ·subst hji;exact fun hh=>he hh.symm
   ·exact hq j (by omega) hl
 ·have hi:i=l.length:=by
   have:¬ i < l.length:=by simpa using hc
   omega
  have hno:m ∉ l:=fun hm=>by
   obtain ⟨j,hj,hh⟩:=List.mem_iff_getElem.1 hm
   exact hq j (by omega) hj hh
  have:idxM m l = -1:=by rw [idxM,if_neg hno]
  (repeat (with_reducible (first | refine U_nil ?_ | refine UC_sq ?_ | refine UC_rg ?_ | refine UC_ex ?_ | refine UC_rt ?_ | refine X_nx ?_ | refine X_ex ?_ | refine B_self ?_ | ((first | refine U_q (v:=?_) ?h1 ?_ | refine E_1 (v:=?_) ?h1 ?_);case h1=>((try simp only [go_sem])<;>rfl)))))
  rw [this];exact fz_of rfl rfl
theorem contains_pu (m:Mv) (l:List Mv) (hl:l.length < 2147483648):Pu F 42 [.sl (l.map mvC),.ag (mvC m)] (.bo (decide (m∈l))):=by
 have hI:=index_pu m l hl
 refine U_pure e42 rfl rfl (by simp only [go_sem,Bool.and_true]) ?_
 dsimp only [fn42,c42]
 (repeat (with_reducible (first | refine U_nil ?_ | refine UC_sq ?_ | refine UC_rg ?_ | refine X_nx ?_ | ((first | refine U_q (v:=?_) ?h1 ?_ | refine U_ld (v:=?_) ?h1 ?_);case h1=>((try simp only [List.take_succ_cons,List.take_zero,List.drop_succ_cons,List.drop_zero,go_sem])<;>rfl)) | (refine U_box (cs:=?_) (cs':=?_) (n:=?_) ?h1 ?h2 ?h3 ?h4 ?_;case h1 | h2 | h3 | h4=>((try simp only [List.take_succ_cons,List.take_zero,List.drop_succ_cons,List.drop_zero,go_sem])<;>rfl)))))
 (refine U_pcr (r:=.i .i64 (idxM m l)) hI ?h1 ?h2 rfl ?_;(case h1=>((try simp only [List.take_succ_cons,List.take_zero,List.drop_succ_cons,List.drop_zero,go_sem])<;>rfl));(case h2=>simp only [List.all_cons,List.all_nil,Bool.and_true,go_sem]))
 (repeat (with_reducible (first | refine U_nil ?_ | refine UC_rt ?_ | refine X_nx ?_ | ((first | refine U_q (v:=?_) ?h1 ?_ | refine E_1 (v:=?_) ?h1 ?_);case h1=>((try simp only [go_sem])<;>rfl)))))
 refine fz_of ?_ rfl
 congr 1
 rw [decide_eq_decide]
 unfold idxM
 split
 ·rename_i h;simp [h]
 ·rename_i h;simp [h]
def mvAt (A:Au) (p:Nat):List Mv:=(A.moves[p]?).getD []
theorem mo_get {A:Au} {p:Nat} (hp:p < A.moves.length):A.moves[p]?=some (mvAt A p):=by simp [mvAt,List.getElem?_eq_getElem hp]
theorem mo_at {A:Au} {p:Nat} (hp:p < A.moves.length):(A.moves.map mlC)[p]?=some [.sl ((mvAt A p).map mvC)]:=by
 rw [List.getElem?_map,mo_get hp];rfl
def mayR (A:Au) (x:Cf) (m:Mv):Option Cf:=if rightB A x=true∧m∈mvAt A x.p.toNat then mayF A x m else none
theorem flat_may (r:Option Cf):flat FZ (mayV r)=true:=by cases r<;>rfl
theorem cld_may (r:Option Cf):cld (mayV r)=true:=by cases r<;>rfl
theorem cmay_pu {A:Au} (hW:WF A) (hL:∀ l∈A.moves,l.length < 2147483648) (x:Cf) (m:Mv):Pu F 22 [.ag (auC A),.ag (cfC x),.ag (mvC m)] (mayV (mayR A x m)):=by
 have h1:=right_pu hW x
 refine U_pure e22 rfl rfl (by simp only [go_sem,Bool.and_true]) ?_
 dsimp only [fn22,c22]
 (repeat (with_reducible (first | refine U_nil ?_ | refine UC_sq ?_ | refine UC_rg ?_ | refine X_nx ?_ | ((first | refine U_q (v:=?_) ?h1 ?_ | refine U_ld (v:=?_) ?h1 ?_ | refine U_alc (n:=?_) ?h1 ?_);case h1=>((try simp only [List.take_succ_cons,List.take_zero,List.drop_succ_cons,List.drop_zero,go_sem])<;>rfl)) | (refine U_box (cs:=?_) (cs':=?_) (n:=?_) ?h1 ?h2 ?h3 ?h4 ?_;case h1 | h2 | h3 | h4=>((try simp only [List.take_succ_cons,List.take_zero,List.drop_succ_cons,List.drop_zero,go_sem])<;>rfl)))))
 (refine U_pcr (r:=.bo (rightB A x)) h1 ?h1 ?h2 rfl ?_;(case h1=>((try simp only [List.take_succ_cons,List.take_zero,List.drop_succ_cons,List.drop_zero,go_sem])<;>rfl));(case h2=>simp only [List.all_cons,List.all_nil,Bool.and_true,go_sem]))
 cases hr:rightB A x with
 | false =>
  (repeat (with_reducible (first | refine U_nil ?_ | refine UC_sq ?_ | refine UC_rg ?_ | refine UC_rt ?_ | refine X_nx ?_ | refine X_rt ?_ | (refine U_q (v:=?_) ?h1 ?_;case h1=>((try simp only [List.take_succ_cons,List.take_zero,List.drop_succ_cons,List.drop_zero,go_sem])<;>rfl)) | (refine U_sto (id:=?_) (i:=?_) (j:=?_) (q:=?_) (es:=?_) (cs:=?_) (vs:=?_) (es':=?_) ?h1 ?h2 ?h3 ?h4 ?h5 ?h6 ?h7 ?_;case h1 | h2 | h3 | h4 | h5 | h6 | h7=>((try simp only [List.take_succ_cons,List.take_zero,List.drop_succ_cons,List.drop_zero,go_sem])<;>rfl)) | (refine U_gs1 ?h1 ?_;case h1=>((try simp only [List.take_succ_cons,List.take_zero,List.drop_succ_cons,List.drop_zero,go_sem])<;>rfl)) | (refine UC_cdt ?h1 ?_;case h1=>((try simp only [List.take_succ_cons,List.take_zero,List.drop_succ_cons,List.drop_zero,go_sem])<;>rfl)) | (refine E_2 (v:=?_) (u:=?_) ?h1 ?h2 ?_;case h1 | h2=>((try simp only [List.take_succ_cons,List.take_zero,List.drop_succ_cons,List.drop_zero,go_sem])<;>rfl)))))
  have:mayR A x m=none:=by simp [mayR,hr]
  rw [this];exact fz_of rfl rfl
 | true =>
  obtain ⟨r1,r2,_⟩:=rightB_iff.1 hr
  obtain ⟨p,hp⟩:∃ p:Nat,x.p=p:=⟨x.p.toNat,by omega⟩
  have hpt:x.p.toNat=p:=by omega
  have hpp:(0:Int)≤(p:Int):=by omega
  have hpl:p < A.moves.length:=by rw [hW.lm,← hW.la];omega
  have hmo:=mo_at hpl
  have hc:=contains_pu m (mvAt A p) (hL _ (List.mem_of_getElem? (mo_get hpl)))
  (repeat (with_reducible (first | ((first | refine U_q (v:=?_) ?h1 ?_ | refine U_ld (v:=?_) ?h1 ?_);case h1=>((try simp only [hp,hmo,hpp,Int.toNat_natCast,List.take_succ_cons,List.take_zero,List.drop_succ_cons,List.drop_zero,go_sem])<;>rfl)) | (refine U_gt ?h1 ?_;case h1=>((try simp only [hp,hmo,hpp,Int.toNat_natCast,List.take_succ_cons,List.take_zero,List.drop_succ_cons,List.drop_zero,go_sem])<;>rfl)))))
  (refine U_pcr (r:=.bo (decide (m∈mvAt A p))) hc ?h1 ?h2 rfl ?_;(case h1=>((try simp only [List.take_succ_cons,List.take_zero,List.drop_succ_cons,List.drop_zero,go_sem])<;>rfl));(case h2=>simp only [List.all_cons,List.all_nil,Bool.and_true,go_sem]))
  by_cases hm:m∈mvAt A p
  ·have d1:decide (m∈mvAt A p)=true:=by simpa using hm
   have hmay:=may_pu hW hr (m:=m) (mvOk hW (mo_get (p:=x.p.toNat) (by rw [hpt];exact hpl)) (by rw [hpt];exact hm))
   have hmr:mayR A x m=mayF A x m:=by rw [mayR,if_pos ⟨hr,by rw [hpt];exact hm⟩]
   rw [hmr]
   (repeat (with_reducible (first | refine U_nil ?_ | refine UC_sq ?_ | refine UC_rg ?_ | refine UC_sk ?_ | refine X_nx ?_ | ((first | refine U_q (v:=?_) ?h1 ?_ | refine U_ld (v:=?_) ?h1 ?_);case h1=>((try simp only [d1,List.take_succ_cons,List.take_zero,List.drop_succ_cons,List.drop_zero,go_sem])<;>rfl)) | (refine U_gt ?h1 ?_;case h1=>((try simp only [d1,List.take_succ_cons,List.take_zero,List.drop_succ_cons,List.drop_zero,go_sem])<;>rfl)) | (refine UC_cdf ?h1 ?_;case h1=>((try simp only [d1,List.take_succ_cons,List.take_zero,List.drop_succ_cons,List.drop_zero,go_sem])<;>rfl)))))
   refine U_pc (vs:=[.ag (auC A),.ag (cfC x),.ag (mvC m)]) (ws:=[.ag (auC A),.ag (cfC x),.ag (mvC m)]) (r:=mayV (mayF A x m)) (by simp only [go_sem]) (fzsU_ok (by simp only [List.all_cons,List.all_nil,Bool.and_true,go_sem])) (Bool.or_eq_true_iff.2 (.inr (flat_may _))) (cld_may _) hmay ?_
   cases mayF A x m with
   | none =>
    simp only [mayV]
    (repeat (with_reducible (first | refine U_nil ?_ | refine UC_rt ?_ | refine X_nx ?_ | (refine U_q (v:=?_) ?h1 ?_;case h1=>((try simp only [List.take_succ_cons,List.take_zero,List.drop_succ_cons,List.drop_zero,go_sem])<;>rfl)) | (refine U_sto (id:=?_) (i:=?_) (j:=?_) (q:=?_) (es:=?_) (cs:=?_) (vs:=?_) (es':=?_) ?h1 ?h2 ?h3 ?h4 ?h5 ?h6 ?h7 ?_;case h1 | h2 | h3 | h4 | h5 | h6 | h7=>((try simp only [List.take_succ_cons,List.take_zero,List.drop_succ_cons,List.drop_zero,go_sem])<;>rfl)) | (refine E_2 (v:=?_) (u:=?_) ?h1 ?h2 ?_;case h1 | h2=>((try simp only [List.take_succ_cons,List.take_zero,List.drop_succ_cons,List.drop_zero,go_sem])<;>rfl)))))
    exact fz_of rfl rfl
   | some y =>
    simp only [mayV]
    (repeat (with_reducible (first | refine U_nil ?_ | refine UC_rt ?_ | refine X_nx ?_ | (refine U_q (v:=?_) ?h1 ?_;case h1=>((try simp only [List.take_succ_cons,List.take_zero,List.drop_succ_cons,List.drop_zero,go_sem])<;>rfl)) | (refine U_sto (id:=?_) (i:=?_) (j:=?_) (q:=?_) (es:=?_) (cs:=?_) (vs:=?_) (es':=?_) ?h1 ?h2 ?h3 ?h4 ?h5 ?h6 ?h7 ?_;case h1 | h2 | h3 | h4 | h5 | h6 | h7=>((try simp only [List.take_succ_cons,List.take_zero,List.drop_succ_cons,List.drop_zero,go_sem])<;>rfl)) | (refine E_2 (v:=?_) (u:=?_) ?h1 ?h2 ?_;case h1 | h2=>((try simp only [List.take_succ_cons,List.take_zero,List.drop_succ_cons,List.drop_zero,go_sem])<;>rfl)))))
    exact fz_of rfl rfl
  ·have d1:decide (m∈mvAt A p)=false:=by simpa using hm
   have hmr:mayR A x m=none:=by rw [mayR,if_neg (by rw [hpt];exact fun h=>hm h.2)]
   rw [hmr]
   (repeat (with_reducible (first | refine U_nil ?_ | refine UC_sq ?_ | refine UC_rg ?_ | refine UC_rt ?_ | refine X_nx ?_ | refine X_rt ?_ | (refine U_q (v:=?_) ?h1 ?_;case h1=>((try simp only [d1,List.take_succ_cons,List.take_zero,List.drop_succ_cons,List.drop_zero,go_sem])<;>rfl)) | (refine U_sto (id:=?_) (i:=?_) (j:=?_) (q:=?_) (es:=?_) (cs:=?_) (vs:=?_) (es':=?_) ?h1 ?h2 ?h3 ?h4 ?h5 ?h6 ?h7 ?_;case h1 | h2 | h3 | h4 | h5 | h6 | h7=>((try simp only [d1,List.take_succ_cons,List.take_zero,List.drop_succ_cons,List.drop_zero,go_sem])<;>rfl)) | (refine U_gt ?h1 ?_;case h1=>((try simp only [d1,List.take_succ_cons,List.take_zero,List.drop_succ_cons,List.drop_zero,go_sem])<;>rfl)) | (refine UC_cdt ?h1 ?_;case h1=>((try simp only [d1,List.take_succ_cons,List.take_zero,List.drop_succ_cons,List.drop_zero,go_sem])<;>rfl)) | (refine E_2 (v:=?_) (u:=?_) ?h1 ?h2 ?_;case h1 | h2=>((try simp only [d1,List.take_succ_cons,List.take_zero,List.drop_succ_cons,List.drop_zero,go_sem])<;>rfl)))))
   exact fz_of rfl rfl
theorem step_no {A:Au} (hW:WF A) {x:Cf} (hr:rightB A x=false) (b:Nat):Pu F 20 [.ag (auC A),.ag (cfC x),.i .u8 b] (.sl []):=by
 have h1:=right_pu hW x
 rw [hr] at h1
 refine U_pure e20 rfl rfl (by simp only [go_sem,Bool.and_true]) ?_
 dsimp only [fn20,c20]
 (repeat (with_reducible (first | refine U_nil ?_ | refine UC_sq ?_ | refine UC_rg ?_ | refine X_nx ?_ | ((first | refine U_q (v:=?_) ?h1 ?_ | refine U_ld (v:=?_) ?h1 ?_);case h1=>((try simp only [List.take_succ_cons,List.take_zero,List.drop_succ_cons,List.drop_zero,go_sem])<;>rfl)) | (refine U_box (cs:=?_) (cs':=?_) (n:=?_) ?h1 ?h2 ?h3 ?h4 ?_;case h1 | h2 | h3 | h4=>((try simp only [List.take_succ_cons,List.take_zero,List.drop_succ_cons,List.drop_zero,go_sem])<;>rfl)))))
 (refine U_pcr (r:=.bo false) h1 ?h1 ?h2 rfl ?_;(case h1=>((try simp only [List.take_succ_cons,List.take_zero,List.drop_succ_cons,List.drop_zero,go_sem])<;>rfl));(case h2=>simp only [List.all_cons,List.all_nil,Bool.and_true,go_sem]))
 (repeat (with_reducible (first | refine U_nil ?_ | refine UC_sq ?_ | refine UC_rg ?_ | refine UC_rt ?_ | refine X_nx ?_ | refine X_rt ?_ | ((first | refine U_q (v:=?_) ?h1 ?_ | refine E_1 (v:=?_) ?h1 ?_);case h1=>((try simp only [List.take_succ_cons,List.take_zero,List.drop_succ_cons,List.drop_zero,go_sem])<;>rfl)) | (refine UC_cdt ?h1 ?_;case h1=>((try simp only [List.take_succ_cons,List.take_zero,List.drop_succ_cons,List.drop_zero,go_sem])<;>rfl)))))
 rfl
end Go.Proofs.YtgiedknghbpdfaaGreat
