import Derived.Test.YtgiedknghbpdfaaDoorA6

namespace Go.Proofs.YtgiedknghbpdfaaDoor
set_option linter.all false
def lft (m:Mv):Nat:=m.keep+(if m.again then 1 else 0)
structure MvOk (A:Au) (p:Nat) (m:Mv):Prop where
 to:m.to < A.around.length
 to1:1≤m.to
 keep:lft m≤(arAt A p).length
 keep2:lft m≤(arAt A m.to).length
 pre:∀ k,k < lft m→(arAt A p)[k]?=(arAt A m.to)[k]?
theorem mvOk {A:Au} (hW:WF A) {p:Nat} {l:List Mv} (h:A.moves[p]?=some l) {m:Mv} (hm:m∈l):MvOk A p m:=by
 obtain⟨h1,h2,h3,h4,lp,lt,pre,h5,h6,h7,h8,h9⟩:=hW.mv p l h m hm;dsimp only at h1 h2 h3 h4 h5 h6 h7 h8 h9;have e1:arAt A p=lp:=by simp [arAt,h5]
 have e2:arAt A m.to=lt:=by simp [arAt,h6]
 have l1:=h7.length_le;have l2:=h8.length_le
 refine⟨(List.getElem?_eq_some_iff.1 h6).1,h3,by rw[e1];unfold lft;omega,by rw[e2];unfold lft;omega,fun k hk=>?_⟩
 have hk':k < pre.length:=by unfold lft at hk;omega
 rw[e1,e2,pre_get h7 (List.getElem?_eq_getElem hk'),pre_get h8 (List.getElem?_eq_getElem hk')]
theorem leaves_drop {l:List (Int × Int)} {cs:List Int} {k:Nat}:leavesL (l.drop k) (cs.drop k)=true↔∀ j,k≤j→j < l.length→low l j≤(cs[j]?).getD 0:=by
 simp only[leavesL,decide_eq_true_eq,List.length_drop,low,List.getElem?_drop];constructor
 ·intro h j h1 h2
  have:=h (j - k) (by omega)
  rwa [show k+(j - k)=j by omega] at this
 ·intro h j hj;exact h (k+j) (by omega) (by omega)
def nxt (A:Au) (x:Cf) (m:Mv):Option Int:=nextS (((scAt A x.p.toNat)[m.keep]?).getD (0,0)) (x.c m.keep)
def kept (x:Cf) (m:Mv) (n:Int):List Int:=(cl4 x).take m.keep++(if m.again then [n] else [])
theorem may_some {A:Au} {x:Cf} {m:Mv} {n:Int} (h1:m.again=true→nxt A x m=some n) (h2:∀ j,lft m≤j→j < (scAt A x.p.toNat).length→low (scAt A x.p.toNat) j≤x.c j) (h4:(scAt A x.p.toNat).length≤4):mayF A x m=some (enterF A m.to (kept x m n)):=by
 have hl:leavesL ((scAt A x.p.toNat).drop (lft m)) ((cl4 x).drop (lft m))=true:=leaves_drop.2 fun j g1 g2=>by
  rw[cl4_get x (by omega)];exact h2 j g1 g2
 cases hm:m.again with
 | true =>
  have h1:=h1 hm;unfold nxt at h1;have hlf:lft m=m.keep+1:=by simp [lft,hm]
  rw[hlf] at hl;simp only[mayF,hm,if_true,h1,hl,kept]
 | false =>
  have hlf:lft m=m.keep:=by simp [lft,hm]
  rw[hlf] at hl;simp [mayF,hm,hl,kept]
theorem may_no1 {A:Au} {x:Cf} {m:Mv} (h:m.again=true) (h1:nxt A x m=none):mayF A x m=none:=by
 unfold nxt at h1;simp only[mayF,h,if_true,h1]
theorem may_no2 {A:Au} {x:Cf} {m:Mv} {j:Nat} (g1:lft m≤j) (g2:j < (scAt A x.p.toNat).length) (g3:x.c j < low (scAt A x.p.toNat) j) (h4:(scAt A x.p.toNat).length≤4):mayF A x m=none:=by
 have hl:leavesL ((scAt A x.p.toNat).drop (lft m)) ((cl4 x).drop (lft m))=false:=by
  rw[Bool.eq_false_iff];intro h
  have:=leaves_drop.1 h j g1 g2
  rw[cl4_get x (by omega)] at this;simp at this;omega
 cases hm:m.again with
 | true =>
  have hlf:lft m=m.keep+1:=by simp [lft,hm]
  rw[hlf] at hl;simp only[mayF,hm,if_true,hl];split<;>rfl
 | false =>
  have hlf:lft m=m.keep:=by simp [lft,hm]
  rw[hlf] at hl;simp [mayF,hm,hl]
theorem right_at {A:Au} {x:Cf} (hr:rightB A x=true) {i:Nat} (hi:i < (arAt A x.p.toNat).length) (h4:i < 4):1≤x.c i∧x.c i≤topS (scI A (arAt A x.p.toNat)[i]):=by
 have:=(rightB_iff.1 hr).2.2 i h4
 rw[okAt,scAt_get hi] at this;simpa using this
theorem cl4_take (x:Cf) {k i:Nat} (hk:k≤4) (hi:i < k):((cl4 x).take k)[i]?=some (x.c i):=by
 rw[List.getElem?_take_of_lt hi,cl4_get x (by omega)]
def rmC (A:Au) (x:Cf) (m:Mv) (n:Int) (i:Nat):Cf:=mkCf m.to fun j =>
 if j < i∧j < m.keep then x.c j else if j < i∧j=m.keep∧m.again=true then n else if j < (arAt A m.to).length then 1 else 0
theorem rm_c {A:Au} {x:Cf} {m:Mv} {n:Int} {i j:Nat} (h:j < 4):(rmC A x m n i).c j=if j < i∧j < m.keep then x.c j else if j < i∧j=m.keep∧m.again=true then n else if j < (arAt A m.to).length then 1 else 0:=mkCf_c _ _ h
theorem rm_keep {A:Au} {x:Cf} {m:Mv} {n:Int} {i j:Nat} (hj:j < 4) (h:i < m.keep):(if j=i then x.c i else (rmC A x m n i).c j)=(rmC A x m n (i+1)).c j:=by
 rw[rm_c hj,rm_c hj];by_cases hji:j=i
 ·subst hji;rw[if_pos rfl,if_pos ⟨by omega,h⟩]
 ·rw[if_neg hji];have e1:(j < i)=(j < i+1):=by simp;omega
  simp only[e1]
theorem rm_again {A:Au} {x:Cf} {m:Mv} {n:Int} {i j:Nat} (hj:j < 4) (h:i=m.keep) (ha:m.again=true):(if j=i then n else (rmC A x m n i).c j)=(rmC A x m n (i+1)).c j:=by
 rw[rm_c hj,rm_c hj];by_cases hji:j=i
 ·subst hji;rw[if_pos rfl,if_neg (by omega),if_pos ⟨by omega,h,ha⟩]
 ·rw[if_neg hji];have e1:(j < i)=(j < i+1):=by simp;omega
  simp only[e1]
theorem rm_skip {A:Au} {x:Cf} {m:Mv} {n:Int} {i j:Nat} (hj:j < 4) (h:lft m≤i):(rmC A x m n i).c j=(rmC A x m n (i+1)).c j:=by
 rw[rm_c hj,rm_c hj];unfold lft at h;by_cases hji:j=i
 ·subst hji;have g1:¬ (j < j∧j < m.keep):=by omega
  have g2:¬ (j < j∧j=m.keep∧m.again=true):=by omega
  have g3:¬ (j < j+1∧j < m.keep):=by omega
  have g4:¬ (j < j+1∧j=m.keep∧m.again=true):=fun hh=>by rw[if_pos hh.2.2] at h;omega
  rw[if_neg g1,if_neg g2,if_neg g3,if_neg g4]
 ·have e1:(j < i)=(j < i+1):=by simp;omega
  simp only[e1]
theorem rm_end {A:Au} {x:Cf} {m:Mv} {n:Int} {i j:Nat} (hj:j < 4) (h:lft m≤i) (hk:m.keep≤4):(rmC A x m n i).c j=(enterF A m.to (kept x m n)).c j:=by
 rw[rm_c hj,enterF,mkCf_c _ _ hj];unfold lft at h;unfold entN kept;have hl3:((cl4 x).take m.keep).length=m.keep:=by rw[List.length_take];show min m.keep 4=_;omega
 by_cases hjk:j < m.keep
 ·rw[if_pos ⟨by omega,hjk⟩,List.getElem?_append_left (by omega),cl4_take x hk hjk]
 ·rw[if_neg (by omega),List.getElem?_append_right (by omega),hl3];cases ha:m.again with
  | true =>
   rw[ha] at h;simp only[if_true] at h ⊢;by_cases hje:j=m.keep
   ·subst hje;rw[if_pos (by refine⟨by omega,?_⟩;simp),Nat.sub_self];rfl
   ·rw[if_neg (fun hh=>hje hh.2.1),List.getElem?_eq_none (by simp;omega)]
  | false=>simp
end Go.Proofs.YtgiedknghbpdfaaDoor
