import Derived.Test.YtklbhcjmaeedhaaGreatDoorA6

namespace Go.Proofs.YtklbhcjmaeedhaaGreatDoor
set_option linter.all false
variable {A:Au} {p i:Nat} {m:Mv} {x:Cf} {n:Int}
def lft (m:Mv):Nat:=m.keep+(if m.again then 1 else 0)
structure MvOk (A:Au) (p:Nat) (m:Mv):Prop where
 to:m.to < A.around.length
 to1:1≤m.to
 keep:lft m≤(arAt A p).length
 keep2:lft m≤(arAt A m.to).length
 pre:∀ k,k < lft m→(arAt A p)[k]?=(arAt A m.to)[k]?
def mvOk (hW:WF A) {l:List Mv} (h:A.moves[p]?=some l) (hm:m∈l):MvOk A p m:=by
 obtain⟨h1,h2,h3,h4,lp,lt,pre,h5,h6,h7,h8,h9⟩:=hW.mv p l h m hm;dsimp only at h1 h2 h3 h4 h5 h6 h7 h8 h9;have e1:arAt A p=lp:=by simp [arAt,h5]
 have e2:arAt A m.to=lt:=by simp [arAt,h6]
 have l1:=h7.length_le;have l2:=h8.length_le
 refine⟨(List.getElem?_eq_some_iff.1 h6).1,h3,by rw[e1];unfold lft;omega,by rw[e2];unfold lft;omega,fun k hk=>?_⟩
 have hk':k < pre.length:=by unfold lft at hk;omega
 rw[e1,e2,Zb h7 (List.getElem?_eq_getElem hk'),Zb h8 (List.getElem?_eq_getElem hk')]
def nxt (A:Au) (x:Cf) (m:Mv):Option Int:=ZY (((scAt A x.p.toNat)[m.keep]?).getD (0,0)) (x.c m.keep)
def kept (x:Cf) (m:Mv) (n:Int):List Int:=(cl4 x).take m.keep++(if m.again then [n] else [])
def Qin (h:m.again=true) (h1:nxt A x m=none):mayF A x m=none:=by
 unfold nxt at h1;simp only[mayF,h,if_true,h1]
def Qk9 (h1:m.again=true→nxt A x m=some n):mayF A x m=if Qw ((scAt A x.p.toNat).drop (lft m)) ((cl4 x).drop (lft m)) then some (QG A m.to (kept x m n)) else none:=by
 cases hm:m.again with
 | true =>
  have h1:=h1 hm;unfold nxt at h1;have hlf:lft m=m.keep+1:=by simp [lft,hm]
  rw[hlf];simp only[mayF,hm,if_true,h1,kept]
 | false =>
  have hlf:lft m=m.keep:=by simp [lft,hm]
  rw[hlf];simp [mayF,hm,kept]
def QeR {s:Int × Int} {c:Int} (hs:scOk s) (h1:1≤c) (h2:c≤topS s) (h:ZY s c=some n):1≤n∧n≤topS s:=by
 unfold scOk topS ZY at *;split at h
 ·rename_i h0;rw[if_pos h0] at h2 ⊢;cases h;split<;>omega
 ·rename_i h0;rw[if_neg h0] at h2 ⊢;split at h
  ·cases h
  ·cases h;omega
def DD (hr:Qr A x=true) (hi:i < (arAt A x.p.toNat).length) (h4:i < 4):1≤x.c i∧x.c i≤topS (scI A (arAt A x.p.toNat)[i]):=by
 have:=(QL.1 hr).2.2 i h4
 rw[okAt,KY hi] at this;simpa using this
def QfI (hW:WF A) (h1:1≤p) (hp:p < A.around.length) {K:List Int} (hK:K.length≤(arAt A p).length) (h:∀ (i:Nat) (n:Int) (hi:i < (arAt A p).length),K[i]?=some n→1≤n∧n≤topS (scI A (arAt A p)[i])):Qr A (QG A p K)=true:=by
 have hpe:(QG A p K).p=p:=rfl;rw[QL,hpe]
 refine⟨OM,OM,fun i hi=>?_⟩
 rw[show ((p:Int)).toNat=p by omega];have hc:(QG A p K).c i=entN (arAt A p).length K i:=X7 _ _ hi;unfold okAt;rw[hc];by_cases hl:i < (arAt A p).length
 ·rw[KY hl];cases hk:K[i]? with
  | some n =>
   have:=h i n hl hk
   simp [entN,hk,this.1,this.2]
  | none =>
   have:=Qcp (Hk hW (Qbf hW hp (List.getElem_mem hl)))
   simp [entN,hk,hl,this.1]
 ·have hk:K[i]?=none:=List.getElem?_eq_none OM;rw[List.getElem?_eq_none (by rw[JL];omega)];simp [entN,hk,hl]
def Hi (hW:WF A) (h1:1≤p) (hp:p < A.around.length):Qr A (QG A p [])=true:=QfI hW h1 hp SM (fun i n hi h=>by simp at h)
def Qej (x:Cf) {k:Nat} (hk:k≤4) (hi:i < k):((cl4 x).take k)[i]?=some (x.c i):=by
 rw[List.getElem?_take_of_lt hi,YC x OM]
def KX (h:m.keep≤4):(kept x m n).length=lft m:=by
 unfold kept lft;rw[List.length_append,List.length_take]
 have:(cl4 x).length=4:=rfl
 split<;>simp<;>omega
def Ve (hW:WF A) {y:Cf} (hr:Qr A x=true) (hm:MvOk A x.p.toNat m) (h:mayF A x m=some y):Qr A y=true∧y.p=m.to:=by
 obtain⟨r1,r2,_⟩:=QL.1 hr;have hp:x.p.toNat < A.around.length:=by omega
 have h4:=ar_4 hW hp;have hk4:m.keep≤4:=by have:=hm.keep;unfold lft at this;split at this<;>omega
 have main:∀ n,(m.again=true→nxt A x m=some n)→Qr A (QG A m.to (kept x m n))=true:=fun n hn=>by
  refine QfI hW hm.to1 hm.to (by rw[KX hk4];exact hm.keep2) fun i v hi hv=>?_;have hil:i < lft m:=by rw[← KX (x:=x) (n:=n) hk4];exact (List.getElem?_eq_some_iff.1 hv).1
  have hip:i < (arAt A x.p.toNat).length:=by have:=hm.keep;omega
  have hsame:(arAt A x.p.toNat)[i]=(arAt A m.to)[i]:=by
   have:=hm.pre i hil
   rw[List.getElem?_eq_getElem hip,List.getElem?_eq_getElem hi] at this;exact Option.some.inj this
  have hx:=DD hr hip OM;rw[← hsame];unfold kept at hv;by_cases hik:i < m.keep
  ·rw[List.getElem?_append_left (by rw[List.length_take];show i < min m.keep 4;omega),Qej x hk4 hik] at hv;cases hv;exact hx
  ·have hl3:((cl4 x).take m.keep).length=m.keep:=by rw[List.length_take];show min m.keep 4=_;omega
   rw[List.getElem?_append_right OM,hl3] at hv;cases ha:m.again with
   | false=>simp [lft,ha] at hil;omega
   | true =>
    have hie:i=m.keep:=by simp [lft,ha] at hil;omega
    subst hie;rw[ha,if_pos rfl,Nat.sub_self] at hv;simp at hv;subst hv;have hn:=hn ha;unfold nxt at hn;rw[KY hip] at hn;exact QeR (Hk hW (Qbf hW hp (List.getElem_mem hip))) hx.1 hx.2 hn
 unfold mayF at h;dsimp only at h;split at h
 ·rename_i ha;split at h
  ·cases h
  ·rename_i n hn;split at h
   ·cases h
    have:=main n fun _=>hn
    simp only[kept,ha,if_true] at this
    exact⟨this,rfl⟩
   ·cases h
 ·rename_i ha;split at h
  ·cases h
   have:=main 0 fun hh=>absurd hh ha
   simp only[kept,ha] at this
   exact⟨by simpa using this,rfl⟩
  ·cases h
def rmC (A:Au) (x:Cf) (m:Mv) (n:Int) (i:Nat):Cf:=mkCf m.to fun j =>
 if j < i∧j < m.keep then x.c j else if j < i∧j=m.keep∧m.again=true then n else if j < (arAt A m.to).length then 1 else 0
end Go.Proofs.YtklbhcjmaeedhaaGreatDoor
