import Derived.Test.YtocmjakchgcioaaGreatA6

namespace Go.Proofs.YtocmjakchgcioaaGreat
set_option linter.all false
variable {A:Au} {p k j i:Nat} {m:Mv} {x:Cf} {n:Int}
def lft (m:Mv):Nat:=m.keep+(if m.again then 1 else 0)
structure MvOk (A:Au) (p:Nat) (m:Mv):Prop where
 to:m.to < A.around.length
 to1:1≤m.to
 keep:lft m≤(arAt A p).length
 keep2:lft m≤(arAt A m.to).length
 pre:∀ k,k < lft m→(arAt A p)[k]?=(arAt A m.to)[k]?
def mvOk (hW:WF A) {l:List Mv} (h:A.moves[p]?=some l) (hm:m∈l):MvOk A p m:=by
 obtain⟨h1,h2,h3,h4,lp,lt,pre,h5,h6,h7,h8,h9⟩:=hW.mv p l h m hm;dsimp only at h1 h2 h3 h4 h5 h6 h7 h8 h9;have e1:arAt A p=lp:=by simp [arAt,h5]
 have e2:arAt A m.to=lt:=by simp [arAt,h6]
 have l1:=h7.length_le;have l2:=h8.length_le
 refine⟨(List.getElem?_eq_some_iff.1 h6).1,h3,by rw[e1];unfold lft;omega,by rw[e2];unfold lft;omega,fun k hk=>?_⟩
 have hk':k < pre.length:=by unfold lft at hk;omega
 rw[e1,e2,WJ h7 (List.getElem?_eq_getElem hk'),WJ h8 (List.getElem?_eq_getElem hk')]
def Xt {l:List (Int × Int)} {cs:List Int}:Q3 (l.drop k) (cs.drop k)=true↔∀ j,k≤j→j < l.length→low l j≤(cs[j]?).getD 0:=by
 simp only[Q3,decide_eq_true_eq,List.length_drop,low,List.getElem?_drop];constructor
 ·intro h j h1 h2
  have:=h (j - k) OM
  rwa [show k+(j - k)=j by omega] at this
 ·intro h j hj;exact h (k+j) OM OM
def nxt (A:Au) (x:Cf) (m:Mv):Option Int:=JE (((scAt A x.p.toNat)[m.keep]?).getD (0,0)) (x.c m.keep)
def kept (x:Cf) (m:Mv) (n:Int):List Int:=(cl4 x).take m.keep++(if m.again then [n] else [])
def QdY (h1:m.again=true→nxt A x m=some n) (h2:∀ j,lft m≤j→j < (scAt A x.p.toNat).length→low (scAt A x.p.toNat) j≤x.c j) (h4:(scAt A x.p.toNat).length≤4):mayF A x m=some (QD A m.to (kept x m n)):=by
 have hl:Q3 ((scAt A x.p.toNat).drop (lft m)) ((cl4 x).drop (lft m))=true:=Xt.2 fun j g1 g2=>by
  rw[JZ x OM];exact h2 j g1 g2
 cases hm:m.again with
 | true =>
  have h1:=h1 hm;unfold nxt at h1;have hlf:lft m=m.keep+1:=by simp [lft,hm]
  rw[hlf] at hl;simp only[mayF,hm,if_true,h1,hl,kept]
 | false =>
  have hlf:lft m=m.keep:=by simp [lft,hm]
  rw[hlf] at hl;simp [mayF,hm,hl,kept]
def QcR (h:m.again=true) (h1:nxt A x m=none):mayF A x m=none:=by
 unfold nxt at h1;simp only[mayF,h,if_true,h1]
def Qga (g1:lft m≤j) (g2:j < (scAt A x.p.toNat).length) (g3:x.c j < low (scAt A x.p.toNat) j) (h4:(scAt A x.p.toNat).length≤4):mayF A x m=none:=by
 have hl:Q3 ((scAt A x.p.toNat).drop (lft m)) ((cl4 x).drop (lft m))=false:=by
  rw[Bool.eq_false_iff];intro h
  have:=Xt.1 h j g1 g2
  rw[JZ x OM] at this;simp at this;omega
 cases hm:m.again with
 | true =>
  have hlf:lft m=m.keep+1:=by simp [lft,hm]
  rw[hlf] at hl;simp only[mayF,hm,if_true,hl];split<;>rfl
 | false =>
  have hlf:lft m=m.keep:=by simp [lft,hm]
  rw[hlf] at hl;simp [mayF,hm,hl]
def Qll (h1:m.again=true→nxt A x m=some n):mayF A x m=if Q3 ((scAt A x.p.toNat).drop (lft m)) ((cl4 x).drop (lft m)) then some (QD A m.to (kept x m n)) else none:=by
 cases hm:m.again with
 | true =>
  have h1:=h1 hm;unfold nxt at h1;have hlf:lft m=m.keep+1:=by simp [lft,hm]
  rw[hlf];simp only[mayF,hm,if_true,h1,kept]
 | false =>
  have hlf:lft m=m.keep:=by simp [lft,hm]
  rw[hlf];simp [mayF,hm,kept]
def Qew {s:Int × Int} {c:Int} (hs:scOk s) (h1:1≤c) (h2:c≤topS s) (h:JE s c=some n):1≤n∧n≤topS s:=by
 unfold scOk topS JE at *;split at h
 ·rename_i h0;rw[if_pos h0] at h2 ⊢;cases h;split<;>omega
 ·rename_i h0;rw[if_neg h0] at h2 ⊢;split at h
  ·cases h
  ·cases h;omega
def Kn (hr:Qx A x=true) (hi:i < (arAt A x.p.toNat).length) (h4:i < 4):1≤x.c i∧x.c i≤topS (scI A (arAt A x.p.toNat)[i]):=by
 have:=(QH.1 hr).2.2 i h4
 rw[okAt,Ws hi] at this;simpa using this
def QfT (hW:WF A) (h1:1≤p) (hp:p < A.around.length) {K:List Int} (hK:K.length≤(arAt A p).length) (h:∀ (i:Nat) (n:Int) (hi:i < (arAt A p).length),K[i]?=some n→1≤n∧n≤topS (scI A (arAt A p)[i])):Qx A (QD A p K)=true:=by
 have hpe:(QD A p K).p=p:=rfl;rw[QH,hpe]
 refine⟨OM,OM,fun i hi=>?_⟩
 rw[show ((p:Int)).toNat=p by omega];have hc:(QD A p K).c i=entN (arAt A p).length K i:=Y6 _ _ hi;unfold okAt;rw[hc];by_cases hl:i < (arAt A p).length
 ·rw[Ws hl];cases hk:K[i]? with
  | some n =>
   have:=h i n hl hk
   simp [entN,hk,this.1,this.2]
  | none =>
   have:=DZ (K4 hW (Qar hW hp (List.getElem_mem hl)))
   simp [entN,hk,hl,this.1]
 ·have hk:K[i]?=none:=List.getElem?_eq_none OM;rw[List.getElem?_eq_none (by rw[Z4];omega)];simp [entN,hk,hl]
def Qa9 (hW:WF A) (h1:1≤p) (hp:p < A.around.length):Qx A (QD A p [])=true:=QfT hW h1 hp SM (fun i n hi h=>by simp at h)
def DJ (x:Cf) (hk:k≤4) (hi:i < k):((cl4 x).take k)[i]?=some (x.c i):=by
 rw[List.getElem?_take_of_lt hi,JZ x OM]
def Kz (h:m.keep≤4):(kept x m n).length=lft m:=by
 unfold kept lft;rw[List.length_append,List.length_take]
 have:(cl4 x).length=4:=rfl
 split<;>simp<;>omega
def QcA (hW:WF A) {y:Cf} (hr:Qx A x=true) (hm:MvOk A x.p.toNat m) (h:mayF A x m=some y):Qx A y=true∧y.p=m.to:=by
 obtain⟨r1,r2,_⟩:=QH.1 hr;have hp:x.p.toNat < A.around.length:=by omega
 have h4:=ar_4 hW hp;have hk4:m.keep≤4:=by have:=hm.keep;unfold lft at this;split at this<;>omega
 have main:∀ n,(m.again=true→nxt A x m=some n)→Qx A (QD A m.to (kept x m n))=true:=fun n hn=>by
  refine QfT hW hm.to1 hm.to (by rw[Kz hk4];exact hm.keep2) fun i v hi hv=>?_;have hil:i < lft m:=by rw[← Kz (x:=x) (n:=n) hk4];exact (List.getElem?_eq_some_iff.1 hv).1
  have hip:i < (arAt A x.p.toNat).length:=by have:=hm.keep;omega
  have hsame:(arAt A x.p.toNat)[i]=(arAt A m.to)[i]:=by
   have:=hm.pre i hil
   rw[List.getElem?_eq_getElem hip,List.getElem?_eq_getElem hi] at this;exact Option.some.inj this
  have hx:=Kn hr hip OM;rw[← hsame];unfold kept at hv;by_cases hik:i < m.keep
  ·rw[List.getElem?_append_left (by rw[List.length_take];show i < min m.keep 4;omega),DJ x hk4 hik] at hv;cases hv;exact hx
  ·have hl3:((cl4 x).take m.keep).length=m.keep:=by rw[List.length_take];show min m.keep 4=_;omega
   rw[List.getElem?_append_right OM,hl3] at hv;cases ha:m.again with
   | false=>simp [lft,ha] at hil;omega
   | true =>
    have hie:i=m.keep:=by simp [lft,ha] at hil;omega
    subst hie;rw[ha,if_pos rfl,Nat.sub_self] at hv;simp at hv;subst hv;have hn:=hn ha;unfold nxt at hn;rw[Ws hip] at hn;exact Qew (K4 hW (Qar hW hp (List.getElem_mem hip))) hx.1 hx.2 hn
 unfold mayF at h;dsimp only at h;split at h
 ·rename_i ha;split at h
  ·cases h
  ·rename_i n hn;split at h
   ·cases h
    have:=main n fun _=>hn
    simp only[kept,ha,if_true] at this
    exact⟨this,rfl⟩
   ·cases h
 ·rename_i ha;split at h
  ·cases h
   have:=main 0 fun hh=>absurd hh ha
   simp only[kept,ha] at this
   exact⟨by simpa using this,rfl⟩
  ·cases h
def rmC (A:Au) (x:Cf) (m:Mv) (n:Int) (i:Nat):Cf:=mkCf m.to fun j =>
 if j < i∧j < m.keep then x.c j else if j < i∧j=m.keep∧m.again=true then n else if j < (arAt A m.to).length then 1 else 0
def rm_c (h:j < 4):(rmC A x m n i).c j=if j < i∧j < m.keep then x.c j else if j < i∧j=m.keep∧m.again=true then n else if j < (arAt A m.to).length then 1 else 0:=Y6 _ _ h
def Qgq (hj:j < 4) (h:i < m.keep):(if j=i then x.c i else (rmC A x m n i).c j)=(rmC A x m n (i+1)).c j:=by
 rw[rm_c hj,rm_c hj];by_cases hji:j=i
 ·subst hji;rw[if_pos rfl,if_pos ⟨OM,h⟩]
 ·rw[if_neg hji];have e1:(j < i)=(j < i+1):=by simp;omega
  simp only[e1]
def Qd5 (hj:j < 4) (h:i=m.keep) (ha:m.again=true):(if j=i then n else (rmC A x m n i).c j)=(rmC A x m n (i+1)).c j:=by
 rw[rm_c hj,rm_c hj];by_cases hji:j=i
 ·subst hji;rw[if_pos rfl,if_neg OM,if_pos ⟨OM,h,ha⟩]
 ·rw[if_neg hji];have e1:(j < i)=(j < i+1):=by simp;omega
  simp only[e1]
def Qim (hj:j < 4) (h:lft m≤i):(rmC A x m n i).c j=(rmC A x m n (i+1)).c j:=by
 rw[rm_c hj,rm_c hj];unfold lft at h;by_cases hji:j=i
 ·subst hji;have g1:¬ (j < j∧j < m.keep):=by omega
  have g2:¬ (j < j∧j=m.keep∧m.again=true):=by omega
  have g3:¬ (j < j+1∧j < m.keep):=by omega
  have g4:¬ (j < j+1∧j=m.keep∧m.again=true):=fun hh=>by rw[if_pos hh.2.2] at h;omega
  rw[if_neg g1,if_neg g2,if_neg g3,if_neg g4]
 ·have e1:(j < i)=(j < i+1):=by simp;omega
  simp only[e1]
def Qjd (hj:j < 4) (h:lft m≤i) (hk:m.keep≤4):(rmC A x m n i).c j=(QD A m.to (kept x m n)).c j:=by
 rw[rm_c hj,QD,Y6 _ _ hj];unfold lft at h;unfold entN kept;have hl3:((cl4 x).take m.keep).length=m.keep:=by rw[List.length_take];show min m.keep 4=_;omega
 by_cases hjk:j < m.keep
 ·rw[if_pos ⟨OM,hjk⟩,List.getElem?_append_left OM,DJ x hk hjk]
 ·rw[if_neg OM,List.getElem?_append_right OM,hl3];cases ha:m.again with
  | true =>
   rw[ha] at h;simp only[if_true] at h ⊢;by_cases hje:j=m.keep
   ·subst hje;rw[if_pos (by refine⟨OM,?_⟩;simp),Nat.sub_self];rfl
   ·rw[if_neg (fun hh=>hje hh.2.1),List.getElem?_eq_none (by simp;omega)]
  | false=>simp
end Go.Proofs.YtocmjakchgcioaaGreat
