import Derived.Test.YtgiedknghbpdfaaDoorKf

namespace Go.Proofs.YtgiedknghbpdfaaDoor
set_option linter.all false
def scD (A:Au) (at_ j:Nat):Int × Int:=(scAt A at_)[j]?.getD (0,0)
def loX (A:Au) (at_:Nat) (x y:Mv) (j:Nat):Int:=if (spanF (scD A at_ j) j x).1 < (spanF (scD A at_ j) j y).1 then (spanF (scD A at_ j) j y).1 else (spanF (scD A at_ j) j x).1
def hiX (A:Au) (at_:Nat) (x y:Mv) (j:Nat):Int:=if (spanF (scD A at_ j) j y).2 < (spanF (scD A at_ j) j x).2 then (spanF (scD A at_ j) j y).2 else (spanF (scD A at_ j) j x).2
def PX (A:Au) (at_:Nat) (x y:Mv) (n:Nat) (c:Cf):Bool:=decide (∀ j,j < n→loX A at_ x y j≤c.c j∧c.c j≤hiX A at_ x y j)
theorem scD_ok {A:Au} (hW:WF A) {at_ j:Nat} (hla:at_ < A.around.length) (hj:j < (arAt A at_).length):scOk (scD A at_ j):=by
 have hs:(arAt A at_)[j] < A.scopes.length:=hW.ai _ (arAt_mem hla) _ (List.getElem_mem hj)
 have:scD A at_ j=scI A (arAt A at_)[j]:=by simp [scD,scAt,List.getElem?_eq_getElem hj]
 rw[this,scI,List.getElem?_eq_getElem hs];exact hW.sc _ (List.getElem_mem hs)
theorem span_ok {s:Int × Int} (h:scOk s) (i:Nat) (m:Mv):1≤(spanF s i m).1∧(spanF s i m).2≤topS s:=by
 obtain⟨h1,h2,h3⟩:=h;unfold spanF topS
 refine⟨by dsimp only;split<;>omega,?_⟩
 dsimp only;rcases h3 with⟨h3,h4⟩|⟨h3,h4,h5⟩
 ·rw[if_neg (by rintro⟨_,_,h⟩;exact h h3),if_pos h3,if_pos (by omega)];omega
 ·rw[if_neg (by omega:¬ s.2 < 0)];split
  ·omega
  ·rw[if_neg (by omega)];omega
theorem find_map {α β:Type} (f:α→β) (p:β→Bool):∀ l:List α,(l.map f).find? p=(l.find? fun a=>p (f a)).map f
 | []=>rfl
 | a::l=>by
  rw[List.map_cons,List.find?_cons,List.find?_cons,find_map f p l];cases p (f a)<;>rfl
theorem find_flat {α β:Type} (f:α→List β) (p:β→Bool):∀ l:List α,(l.flatMap f).find? p=l.findSome? fun a=>(f a).find? p
 | []=>rfl
 | a::l=>by
  rw[List.flatMap_cons,List.find?_append,List.findSome?_cons,find_flat f p l];cases (f a).find? p<;>rfl
theorem find_congr {α:Type} {p q:α→Bool}:∀ {l:List α},(∀ c∈l,p c=q c)→l.find? p=l.find? q
 | [],_=>rfl
 | a::l,h=>by
  rw[List.find?_cons,List.find?_cons,h a (by simp),find_congr fun c hc=>h c (by simp [hc])]
theorem fs_congr {α β:Type} {f g:α→Option β}:∀ {l:List α},(∀ c∈l,f c=g c)→l.findSome? f=l.findSome? g
 | [],_=>rfl
 | a::l,h=>by
  rw[List.findSome?_cons,List.findSome?_cons,h a (by simp),fs_congr fun c hc=>h c (by simp [hc])]
theorem fs_if {α β:Type} (p:α→Bool) (g:α→Option β) (b:Bool) (hg:∀ a,(g a).isSome=b):∀ l:List α,(l.findSome? fun a=>if p a then g a else none)=match l.find? p with|none=>none|some c=>g c
 | []=>rfl
 | a::l=>by
  have ih:=fs_if p g b hg l;rw[List.findSome?_cons,List.find?_cons];cases hp:p a with
  | false=>simp only[Bool.false_eq_true,if_false];exact ih
  | true =>
   simp only[if_true];cases hga:g a with
   | some y=>rfl
   | none =>
    have hb:b=false:=by rw[← hg a,hga];rfl
    dsimp only;rw[ih];cases l.find? p with
    | none=>rfl
    | some c =>
     have:=hg c
     rw[hb] at this;cases hgc:g c with
     | none=>exact hgc
     | some z=>rw[hgc] at this;cases this
theorem all_mem {A:Au} (hW:WF A) {at_ most:Nat} (hla:at_ < A.around.length):∀ (n:Nat) (out:List Cf),n≤(arAt A at_).length→allN A at_ most n=some out →
  ∀ c∈out,c.p=at_∧(∀ j,j < n→1≤c.c j∧c.c j≤topS (scD A at_ j))∧∀ j,n≤j→j < 4→c.c j=0
 | 0,out,_,h,c,hc=>by
  rw[allN] at h;cases h;rw[List.mem_singleton] at hc;subst hc
  refine⟨rfl,fun j hj=>by omega,fun j _ hj=>?_⟩
  match j,hj with
  | 0,_=>rfl
  | 1,_=>rfl
  | 2,_=>rfl
  | 3,_=>rfl
 | n+1,out,hn,h,c,hc=>by
  have ha4:(arAt A at_).length≤4:=hW.a4 _ (arAt_mem hla);rw[allN] at h;cases hp:allN A at_ most n with
  | none=>rw[hp] at h;cases h
  | some prev =>
   rw[hp] at h;dsimp only at h;split at h
   ·cases h
   ·cases h;obtain⟨c',hc',hcc⟩:=List.mem_flatMap.1 hc;obtain⟨k,hk,rfl⟩:=List.mem_map.1 hcc;rw[List.mem_range] at hk;obtain⟨g1,g2,g3⟩:=all_mem hW hla n prev (by omega) hp c' hc'
    refine⟨by rw[setC_p];exact g1,fun j hj=>?_,fun j hj hj4=>?_⟩
    ·rw[setC_c _ _ _ _ (by omega)];by_cases hjn:j=n
     ·subst hjn;rw[if_pos rfl];show _∧_≤topS ((scAt A at_)[j]?.getD (0,0));omega
     ·rw[if_neg hjn];exact g2 j (by omega)
    ·rw[setC_c _ _ _ _ hj4,if_neg (by omega)];exact g3 j (by omega) hj4
theorem all_right {A:Au} (hW:WF A) {at_ most:Nat} (h1:1≤at_) (hla:at_ < A.around.length) {l:List Cf} (h:allF A at_ most=some l):∀ c∈l,rightB A c=true∧c.p=at_:=by
 intro c hc;obtain⟨g1,g2,g3⟩:=all_mem hW hla _ l (Nat.le_refl _) h c hc;have hl:(scAt A at_).length=(arAt A at_).length:=by simp [scAt]
 have hp:c.p.toNat=at_:=by rw[g1];rfl
 refine⟨rightB_iff.2 ⟨by omega,by omega,fun i hi=>?_⟩,g1⟩
 rw[hp];by_cases hil:i < (scAt A at_).length
 ·rw[okAt_lt hil]
  have:=g2 i (by omega)
  rw[scD,List.getElem?_eq_getElem hil] at this;simpa using this
 ·rw[okAt_ge hil,g3 i (by omega) hi];rfl
theorem PX_set {A:Au} {at_ n:Nat} {x y:Mv} {c:Cf} {v:Int} (hn:n < 4):PX A at_ x y (n+1) (c.setC n v)=(PX A at_ x y n c&&decide (loX A at_ x y n≤v∧v≤hiX A at_ x y n)):=by
 rw[Bool.eq_iff_iff,Bool.and_eq_true,PX,PX,decide_eq_true_eq,decide_eq_true_eq,decide_eq_true_eq];constructor
 ·intro h
  refine⟨fun j hj=>?_,?_⟩
  ·have:=h j (by omega)
   rwa [setC_c _ _ _ _ (by omega),if_neg (by omega)] at this
  ·have:=h n (by omega)
   rwa [setC_c _ _ _ _ hn,if_pos rfl] at this
 ·rintro⟨h1,h2⟩ j hj
  rw[setC_c _ _ _ _ (by omega)];by_cases hjn:j=n
  ·subst hjn;rw[if_pos rfl];exact h2
  ·rw[if_neg hjn];exact h1 j (by omega)
theorem row_find {A:Au} {at_ n T:Nat} {x y:Mv} {c:Cf} (hn:n < 4) (h1:1≤loX A at_ x y n) (h2:hiX A at_ x y n≤T) :
  (rowF n T c).find? (PX A at_ x y (n+1))=if PX A at_ x y n c then (if loX A at_ x y n > hiX A at_ x y n then none else some (c.setC n (loX A at_ x y n))) else none:=by
 rw[rowF,find_map];have e1:(fun k:Nat=>PX A at_ x y (n+1) (c.setC n ((k+1:Nat):Int)))=fun k:Nat=>PX A at_ x y n c&&decide (loX A at_ x y n≤((k+1:Nat):Int)∧((k+1:Nat):Int)≤hiX A at_ x y n):=funext fun k=>PX_set hn;rw[e1];cases PX A at_ x y n c with
 | false =>
  simp only[Bool.false_and,Bool.false_eq_true,if_false];rw[List.find?_eq_none.2 (by simp)];rfl
 | true =>
  simp only[Bool.true_and,if_true];by_cases hgt:loX A at_ x y n > hiX A at_ x y n
  ·rw[if_pos hgt,List.find?_eq_none.2 (by intro k _;simp;omega)];rfl
  ·rw[if_neg hgt];obtain⟨m,hm⟩:∃ m:Nat,loX A at_ x y n=((m+1:Nat):Int):=⟨(loX A at_ x y n - 1).toNat,by omega⟩;have hf:(List.range T).find? (fun k:Nat=>decide (loX A at_ x y n≤((k+1:Nat):Int)∧((k+1:Nat):Int)≤hiX A at_ x y n))=some m:=by
    rw[List.find?_range_eq_some]
    refine⟨by simp only[decide_eq_true_eq];omega,List.mem_range.2 (by omega),fun j hj=>?_⟩
    simp only[Bool.not_eq_true',decide_eq_false_iff_not];omega
   rw[hf,Option.map_some,hm]
theorem all_find {A:Au} (hW:WF A) {at_ most:Nat} (hla:at_ < A.around.length) (x y:Mv):∀ (n:Nat) (out:List Cf),n≤(arAt A at_).length→allN A at_ most n=some out→out.find? (PX A at_ x y n)=agN A at_ x y n
 | 0,out,_,h=>by
  rw[allN] at h;cases h;rw[agN,List.find?_cons]
  have:PX A at_ x y 0 ⟨at_,0,0,0,0⟩=true:=by rw[PX,decide_eq_true_eq];intro j hj;omega
  rw[this]
 | n+1,out,hn,h=>by
  have ha4:(arAt A at_).length≤4:=hW.a4 _ (arAt_mem hla);rw[allN] at h;cases hp:allN A at_ most n with
  | none=>rw[hp] at h;cases h
  | some prev =>
   rw[hp] at h;dsimp only at h;split at h
   ·cases h
   ·cases h;have ih:=all_find hW hla x y n prev (by omega) hp;have hok:=scD_ok hW hla (j:=n) (by omega);obtain⟨t1,t2,t3⟩:=topS_ok hok;have s1:=span_ok hok n x;have s2:=span_ok hok n y;have hlo:1≤loX A at_ x y n:=by unfold loX;split<;>omega
    have hhi:hiX A at_ x y n≤((topS (scD A at_ n)).toNat:Int):=by unfold hiX;split<;>omega
    have e1:(scAt A at_)[n]?.getD (0,0)=scD A at_ n:=rfl;rw[find_flat,e1];have e2:(fun a=>(rowF n (topS (scD A at_ n)).toNat a).find? (PX A at_ x y (n+1)))=fun a=>if PX A at_ x y n a then (if loX A at_ x y n > hiX A at_ x y n then none else some (a.setC n (loX A at_ x y n))) else none:=funext fun a=>row_find (by omega) hlo hhi
    rw[e2,fs_if (PX A at_ x y n) (fun a=>if loX A at_ x y n > hiX A at_ x y n then none else some (a.setC n (loX A at_ x y n))) (!decide (loX A at_ x y n > hiX A at_ x y n)) (fun a=>by by_cases h:loX A at_ x y n > hiX A at_ x y n<;>simp [h]),ih,agN];cases agN A at_ x y n<;>rfl
theorem may_iff {A:Au} (hW:WF A) {at_:Nat} (hla:at_ < A.around.length) {c:Cf} (hr:rightB A c=true) (hc:c.p=at_) {m:Mv} (hm:MvOk A at_ m) :
  (mayF A c m).isSome=true↔∀ j,j < (arAt A at_).length→(spanF (scD A at_ j) j m).1≤c.c j∧c.c j≤(spanF (scD A at_ j) j m).2:=by
 have hp:c.p.toNat=at_:=by rw[hc];rfl
 have ha4:(arAt A at_).length≤4:=hW.a4 _ (arAt_mem hla);have hl:(scAt A at_).length=(arAt A at_).length:=by simp [scAt]
 obtain⟨_,_,hri⟩:=rightB_iff.1 hr;rw[hp] at hri;have hin:∀ j,j < (arAt A at_).length→1≤c.c j∧c.c j≤topS (scD A at_ j):=fun j hj=>by
  have:=hri j (by omega)
  rw[okAt_lt (by rw[hl];exact hj)] at this;rw[scD,List.getElem?_eq_getElem (by rw[hl];exact hj)];simpa using this
 have hlv:∀ k,leavesL ((scAt A at_).drop k) ((cl4 c).drop k)=true↔∀ j,k≤j→j < (arAt A at_).length→(scD A at_ j).1≤c.c j:=fun k=>by
  rw[leavesL,decide_eq_true_eq];constructor
  ·intro h j hkj hj
   have:=h (j - k) (by rw[List.length_drop,hl];omega)
   rw[low,List.getElem?_drop,List.getElem?_drop,show k+(j - k)=j by omega,cl4_get c (by omega)] at this;exact this
  ·intro h j hj;rw[List.length_drop,hl] at hj;rw[low,List.getElem?_drop,List.getElem?_drop,cl4_get c (by omega)];exact h (k+j) (by omega) (by omega)
 have hsc:∀ j,j < (arAt A at_).length→scOk (scD A at_ j):=fun j hj=>scD_ok hW hla hj;have hkp:=hm.keep;unfold lft at hkp;rw[mayF,hp];cases hag:m.again with
 | false =>
  simp only[Bool.false_eq_true,if_false];have e1:(if leavesL ((scAt A at_).drop m.keep) ((cl4 c).drop m.keep)=true then some (enterF A m.to ((cl4 c).take m.keep)) else none).isSome=true↔leavesL ((scAt A at_).drop m.keep) ((cl4 c).drop m.keep)=true:=by
   split<;>simp_all
  rw[e1,hlv];constructor
  ·intro h j hj;have h1:=hin j hj;have h2:=hsc j hj;have h3:=fun hk=>h j hk hj;unfold spanF;unfold topS at h1;unfold scOk at h2;rw[hag];simp only[Bool.false_eq_true,and_false,false_and,if_false,or_false];split<;>split<;>(try split at h1)<;>omega
  ·intro h j hk hj
   have:=h j hj
   unfold spanF at this;rw[hag] at this;simp only[Bool.false_eq_true,and_false,false_and,if_false,or_false] at this;rw[if_neg (by omega)] at this;exact this.1
 | true =>
  rw[hag] at hkp;simp only[if_true] at hkp ⊢;have hk:m.keep < (arAt A at_).length:=by omega
  have hsk:=hsc _ hk;have e0:((scAt A at_)[m.keep]?).getD (0,0)=scD A at_ m.keep:=rfl;rw[e0];have es:(spanF (scD A at_ m.keep) m.keep m).2=if (scD A at_ m.keep).2 = -1 then (scD A at_ m.keep).1 else (scD A at_ m.keep).2 - 1:=by
   unfold spanF;rw[hag];by_cases h:(scD A at_ m.keep).2 = -1<;>simp [h]
  have hnx:(nextS (scD A at_ m.keep) (c.c m.keep)).isSome=true↔c.c m.keep≤(spanF (scD A at_ m.keep) m.keep m).2:=by
   have h1:=hin _ hk;rw[es];unfold nextS;unfold topS at h1;unfold scOk at hsk;by_cases hneg:(scD A at_ m.keep).2 = -1
   ·rw[if_pos (by omega)] at h1;rw[if_pos (by omega),if_pos hneg];simp only[Option.isSome_some,true_iff];exact h1.2
   ·rw[if_neg (by omega),if_neg hneg];by_cases hge:c.c m.keep≥(scD A at_ m.keep).2
    ·rw[if_pos hge];simp only[Option.isSome_none,Bool.false_eq_true,false_iff];omega
    ·rw[if_neg hge];simp only[Option.isSome_some,true_iff];omega
  cases hn:nextS (scD A at_ m.keep) (c.c m.keep) with
  | none =>
   rw[hn] at hnx;simp only[Option.isSome_none,Bool.false_eq_true,false_iff] at hnx ⊢;intro h;exact hnx (h _ hk).2
  | some n =>
   rw[hn] at hnx;have hnx:c.c m.keep≤(spanF (scD A at_ m.keep) m.keep m).2:=hnx.1 rfl;dsimp only;have e1:(if leavesL ((scAt A at_).drop (m.keep+1)) ((cl4 c).drop (m.keep+1))=true then some (enterF A m.to ((cl4 c).take m.keep++[n])) else none).isSome=true↔leavesL ((scAt A at_).drop (m.keep+1)) ((cl4 c).drop (m.keep+1))=true:=by
    split<;>simp_all
   rw[e1,hlv];constructor
   ·intro h j hj;by_cases hjk:j=m.keep
    ·subst hjk
     refine⟨?_,hnx⟩
     have h1:=hin _ hj;unfold spanF;rw[hag];simp only[true_and];rw[if_pos (.inr trivial)];exact h1.1
    ·have h1:=hin j hj;have h2:=hsc j hj;have h3:=fun hk=>h j hk hj;unfold spanF;unfold topS at h1;unfold scOk at h2;rw[hag];simp only[hjk,false_and,if_false,or_false];split<;>split<;>(try split at h1)<;>omega
   ·intro h j hkj hj
    have:=h j hj
    unfold spanF at this;rw[hag] at this;have hjk:¬ j=m.keep:=by omega
    simp only[hjk,false_and,if_false,or_false] at this;rw[if_neg (by omega)] at this;exact this.1
theorem both_agree {A:Au} (hW:WF A) {at_ most:Nat} (h1:1≤at_) (hla:at_ < A.around.length) {l:List Cf} (h:allF A at_ most=some l) {x y:Mv} (hx:MvOk A at_ x) (hy:MvOk A at_ y):bothF A l x y=agreeF A at_ x y:=by
 rw[agreeF,← all_find hW hla x y _ l (Nat.le_refl _) h,bothF];refine find_congr fun c hc=>?_;obtain⟨g1,g2⟩:=all_right hW h1 hla h c hc;rw[Bool.eq_iff_iff,Bool.and_eq_true,may_iff hW hla g1 g2 hx,may_iff hW hla g1 g2 hy,PX,decide_eq_true_eq];constructor
 ·rintro⟨a,b⟩ j hj
  have:=a j hj
  have:=b j hj
  unfold loX hiX;split<;>split<;>omega
 ·intro a
  refine⟨fun j hj=>?_,fun j hj=>?_⟩ <;>
  ·have:=a j hj
   unfold loX hiX at this;split at this<;>split at this<;>omega
end Go.Proofs.YtgiedknghbpdfaaDoor
namespace Go.Proofs.YtgiedknghbpdfaaDoor
set_option linter.all false
attribute [-go_sem] swpOb renOb rfOb V.cells
def rbh1 (A:Au) (l:List Cf) (x y:Mv):Option Fk:=match shB A x.to y.to,bothF A l x y with
 | some b,some c=>if x.to≠y.to then some (c,x.to,y.to,b) else none
 | _,_=>none
def rfA (A:Au):Nat→Nat→Option Fk × Bool
 | 0,_=>(none,true)
 | n+1,at_=>match allF A at_ 300 with
  | none=>(none,false)
  | some l=>match prF (rbh1 A l) (mvAt A at_) with
   | some f=>(some f,true)
   | none=>rfA A n (at_+1)
def rfindF (A:Au):Option Fk × Bool:=match firstF A with
 | some f=>(some f,true)
 | none=>rfA A (A.moves.length - 1) 1
def rfV (r:Option Fk × Bool):V:=.tp [.ag (fkL r.1),.bo r.1.isSome,.bo r.2]
theorem pr_congr {α β:Type} {f g:α→α→Option β}:∀ {l:List α},(∀ x∈l,∀ y∈l,f x y=g x y)→prF f l=prF g l
 | [],_=>rfl
 | x::l,h=>by
  rw[prF,prF,pr_congr fun a ha b hb=>h a (by simp [ha]) b (by simp [hb]),fs_congr fun y hy=>h x (by simp) y (by simp [hy])]
theorem mv_ok {A:Au} (hW:WF A) {at_:Nat} {m:Mv} (h1:at_ < A.moves.length) (h:m∈mvAt A at_):MvOk A at_ m:=mvOk hW (mo_get h1) h
theorem behind_same {A:Au} (hW:WF A) {at_:Nat} (h0:1≤at_) (h1:at_ < A.moves.length) {l:List Cf} (h:allF A at_ 300=some l):prF (rbh1 A l) (mvAt A at_)=behindF A at_:=by
 have hla:at_ < A.around.length:=by rw[hW.la,← hW.lm];exact h1
 refine pr_congr fun x hx y hy=>?_;rw[rbh1,bhd1,both_agree hW h0 hla h (mv_ok hW h1 hx) (mv_ok hW h1 hy)];cases shB A x.to y.to<;>cases agreeF A at_ x y<;>rfl
theorem rfA_same {A:Au} (hW:WF A):∀ (n at_:Nat),1≤at_→at_+n=A.moves.length→(rfA A n at_).2=true→(rfA A n at_).1=((List.range A.moves.length).drop at_).findSome? (behindF A)
 | 0,at_,_,hn,_=>by
  rw[List.drop_eq_nil_of_le (by simp;omega)];rfl
 | n+1,at_,h0,hn,h=>by
  have h1:at_ < A.moves.length:=by omega
  rw[range_drop h1,List.findSome?_cons];rw[rfA] at h ⊢;cases hal:allF A at_ 300 with
  | none=>rw[hal] at h;cases h
  | some l =>
   rw[hal] at h;dsimp only at h ⊢;rw[behind_same hW h0 h1 hal] at h ⊢;cases hb:behindF A at_ with
   | some f=>rfl
   | none =>
    rw[hb] at h;exact rfA_same hW n (at_+1) (by omega) (by omega) h
theorem find_same {A:Au} (hW:WF A) (h:(rfindF A).2=true):(rfindF A).1=findF A:=by
 unfold rfindF at h ⊢;unfold findF;cases hf:firstF A with
 | some f=>rfl
 | none =>
  rw[hf] at h;dsimp only at h ⊢;have hml:1≤A.moves.length:=by rw[hW.lm];exact hW.n0
  rw[rfA_same hW _ 1 (by omega) (by omega) h,Option.none_or];have h0:behindF A 0=none:=by
   have:mvAt A 0=[]:=List.eq_nil_iff_forall_not_mem.2 fun m hm=>mv_at0 hW hm
   rw[behindF,this];rfl
  have e:=range_drop (n:=A.moves.length) (i:=0) (by omega);rw[List.drop_zero] at e;rw[show (List.range A.moves.length).findSome? (behindF A)=((0::(List.range A.moves.length).drop (0+1)).findSome? (behindF A)) by rw[← e],List.findSome?_cons,h0]
end Go.Proofs.YtgiedknghbpdfaaDoor
namespace Go.Proofs.YtgiedknghbpdfaaDoor
set_option linter.all false
theorem E_3g {s t u:Rs} {v w z:V} {K:V→O→Prop} {e:E} {o:O} (h1:resV e o s=some v) (h2:resV e o t=some w) (h3:resV e o u=some z) (h:K (.tp [v,w,z]) o):endX [s,t,u] K .rt e o:=⟨[v,w,z],by simp [h1,h2,h3],h⟩
theorem u8_wrap {b:Nat} (h:b < 256):IntKind.u8.wrap (b:Int)=(b:Int):=by
 show (b:Int) % 256=_;omega
theorem all_len {A:Au} {at_ most:Nat} (hm:most≤1000):∀ (n:Nat) (out:List Cf),allN A at_ most n=some out→out.length≤1000
 | 0,out,h=>by rw[allN] at h;cases h;simp
 | n+1,out,h=>by
  rw[allN] at h;cases hp:allN A at_ most n with
  | none=>rw[hp] at h;cases h
  | some prev =>
   rw[hp] at h;dsimp only at h;generalize topS ((scAt A at_)[n]?.getD (0,0))=top at h;split at h
   ·cases h
   ·rename_i hc;cases h;rw[flat_len];rcases Int.le_total 0 top with h0|h0
    ·obtain⟨T,rfl⟩:∃ T:Nat,top=(T:Int):=⟨top.toNat,by omega⟩;rw[Int.toNat_natCast];have hcast:(prev.length:Int)*(T:Int)=((prev.length*T:Nat):Int):=by push_cast;rfl
     rw[hcast] at hc;omega
    ·rw[Int.toNat_eq_zero.2 h0,Nat.mul_zero];omega
set_option maxRecDepth 5000 in
set_option maxHeartbeats 8000000 in
theorem rfind_pu {A:Au} (hW:WF A) (hf:A.first.length≤1000) (hL:∀ l∈A.moves,l.length < 2147483648):Pu F 8 [.ag (auC A)] (rfV (rfindF A)):=by
 have hlt:∀ p∈A.first,p < A.sets.length:=fun p hp=>(hW.f p hp).2;have hml:A.moves.length≤41:=by rw[hW.lm];exact hW.n
 have hml1:1≤A.moves.length:=by rw[hW.lm];exact hW.n0
 refine U_pure e8 rfl rfl (by simp only[go_sem,Bool.and_true]) ?_;dsimp only[fn8,c8];(repeat (with_reducible (first|refine U_nil ?_|refine UC_sq ?_|refine UC_rg ?_|refine UC_bk ?_|refine X_nx ?_|((first|refine U_q (v:=?_) ?h1 ?_|refine U_alc (n:=?_) ?h1 ?_);case h1=>((try simp only[List.take_succ_cons,List.take_zero,List.drop_succ_cons,List.drop_zero,go_sem])<;>rfl))|(refine U_box (cs:=?_) (cs':=?_) (n:=?_) ?h1 ?h2 ?h3 ?h4 ?_;case h1|h2|h3|h4=>((try simp only[List.take_succ_cons,List.take_zero,List.drop_succ_cons,List.drop_zero,go_sem])<;>rfl)))));refine UC_cutr (fun e o=>firstF A=none∧e 1=.pt 1 0 0∧e 2=.pt 2 0 0∧o 1=some (.row 15 [auC A])∧o 2=some (.row 8 [[.i .i64 0,.i .i64 0,.i .i64 0,.i .i64 0,.i .i64 0,.i .i64 0,.i .i64 0,.i .u8 0]])) ?_ ?_
 ·unfold rfindF firstF;generalize hfl:A.first=l at hf hlt;refine U_lp (fun r e o=>∃ i:Nat,i+r=l.length∧prF (fst1 A) (l.drop i)=prF (fst1 A) l∧e 1=.pt 1 0 0∧e 2=.pt 2 0 0∧e 5=.i .i64 i∧o 1=some (.row 15 [auC A])∧o 2=some (.row 8 [[.i .i64 0,.i .i64 0,.i .i64 0,.i .i64 0,.i .i64 0,.i .i64 0,.i .i64 0,.i .u8 0]])) (k:=l.length) ?_ (Call_le F) ?_
  ·exact⟨0,by omega,by rw[List.drop_zero],Z0,Z0,Zr0,by simp only[List.take_succ_cons,List.take_zero,List.drop_succ_cons,List.drop_zero,go_sem],by simp only[List.take_succ_cons,List.take_zero,List.drop_succ_cons,List.drop_zero,go_sem]⟩
  rintro r e o ⟨i,hir,hpr,r1,r2,r5,o1,o2⟩;dsimp only[b8_1];by_cases hi:i < l.length
  ·have hd:decide ((i:Int) < (l.length:Int))=true:=decide_eq_true (by omega);have hip:(0:Int)≤(i:Int):=by omega
   have hw:=wrap1 (i:=i) (by omega);have gI:=in_at hi;have hpl:=hlt _ (List.getElem_mem hi);rw[List.drop_eq_getElem_cons hi,prF] at hpr;generalize l[i]=p at gI hpl hpr;(repeat (with_reducible (first|refine U_nil ?_|refine UC_sq ?_|refine UC_rg ?_|refine UC_bk ?_|refine UC_sk ?_|refine X_nx ?_|((first|refine U_q (v:=?_) ?h1 ?_|refine U_ld (v:=?_) ?h1 ?_|refine UC_cdt ?h1 ?_);case h1=>((try simp only[r1,r5,o1,hd,hw,hfl,List.length_map,List.take_succ_cons,List.take_zero,List.drop_succ_cons,List.drop_zero,go_sem])<;>rfl)))));refine UC_cutr (fun e o=>prF (fst1 A) (l.drop (i+1))=prF (fst1 A) l∧e 1=.pt 1 0 0∧e 2=.pt 2 0 0∧e 5=.i .i64 i∧o 1=some (.row 15 [auC A])∧o 2=some (.row 8 [[.i .i64 0,.i .i64 0,.i .i64 0,.i .i64 0,.i .i64 0,.i .i64 0,.i .i64 0,.i .u8 0]])) ?_ ?_
   ·refine U_lp (fun r e o=>∃ j:Nat,j+r=l.length∧((l.drop j).findSome? (fst1 A p)).or (prF (fst1 A) (l.drop (i+1)))=prF (fst1 A) l∧e 1=.pt 1 0 0∧e 2=.pt 2 0 0∧e 5=.i .i64 i∧e 6=.i .i64 j∧o 1=some (.row 15 [auC A])∧o 2=some (.row 8 [[.i .i64 0,.i .i64 0,.i .i64 0,.i .i64 0,.i .i64 0,.i .i64 0,.i .i64 0,.i .u8 0]])) (k:=l.length - (i+1)) ?_ (Call_le F) ?_
    ·exact⟨i+1,by omega,hpr,Z1 r1,Z1 r2,Z1 r5,Z0,Z1 o1,Z1 o2⟩
    clear r1 r2 r5 o1 o2 hpr;rintro r' e o ⟨j,hjr,hpr,r1,r2,r5,r6,o1,o2⟩;dsimp only[b8_0];by_cases hj:j < l.length
    ·have hd2:decide ((j:Int) < (l.length:Int))=true:=decide_eq_true (by omega);have hjp:(0:Int)≤(j:Int):=by omega
     have hw2:=wrap1 (i:=j) (by omega);have gJ:=in_at hj;have hql:=hlt _ (List.getElem_mem hj);rw[List.drop_eq_getElem_cons hj,List.findSome?_cons] at hpr;generalize l[j]=q at gJ hql hpr;have hs:=rleast_pu hW hpl hql;have hb8:∀ b,shB A p q=some b→b < 256:=fun b hb=>shB_lt hb;have hff:fst1 A p q=(shB A p q).map fun b=>(noC,p,q,b):=rfl;rw[hff] at hpr;generalize shB A p q=sh at hs hpr hb8;(repeat (with_reducible (first|refine U_nil ?_|refine UC_sq ?_|refine UC_rg ?_|refine UC_bk ?_|refine UC_sk ?_|refine X_nx ?_|((first|refine U_q (v:=?_) ?h1 ?_|refine U_ld (v:=?_) ?h1 ?_|refine UC_cdt ?h1 ?_);case h1=>((try simp only[r1,r5,r6,o1,hd2,hfl,gI,gJ,hip,hjp,Int.toNat_natCast,List.length_map,List.take_succ_cons,List.take_zero,List.drop_succ_cons,List.drop_zero,go_sem])<;>rfl)))))
     (refine U_pcr (r:=.i .i64 (lsI sh)) hs ?h1 ?h2 rfl ?_;(case h1=>((try simp only[List.take_succ_cons,List.take_zero,List.drop_succ_cons,List.drop_zero,go_sem])<;>rfl));(case h2=>simp only[List.all_cons,List.all_nil,Bool.and_true,go_sem]))
     cases sh with
     | none =>
      have c1:decide ((-1:Int)≥0)=false:=rfl;dsimp only[lsI,Option.map_none] at hpr ⊢;(repeat (with_reducible (first|refine U_nil ?_|refine UC_sq ?_|refine UC_rg ?_|refine UC_sk ?_|refine X_nx ?_|refine B_nx ?_|(refine U_q (v:=?_) ?h1 ?_;case h1=>((try simp only[r6,c1,hw2,go_sem])<;>rfl))|(refine UC_cdf ?h1 ?_;case h1=>((try simp only[r6,c1,hw2,go_sem])<;>rfl)))))
      exact⟨r' - 1,by omega,j+1,by omega,hpr,Z1 r1,Z1 r2,Z1 r5,Z0,Z1 o1,Z1 o2⟩
     | some b =>
      have hb:=hb8 b rfl;have c1:decide ((b:Int)≥0)=true:=decide_eq_true (by omega);have c2:=u8_wrap hb;dsimp only[lsI,Option.map_some] at hpr ⊢;rw[Option.some_or] at hpr;rw[← hpr];(repeat (with_reducible (first|refine U_nil ?_|refine UC_sq ?_|refine UC_rg ?_|refine UC_rt ?_|refine X_nx ?_|refine X_rt ?_|refine B_rt ?_|((first|refine U_q (v:=?_) ?h1 ?_|refine U_ld (v:=?_) ?h1 ?_|refine UC_cdt ?h1 ?_);case h1=>((try simp only[r1,r2,r5,r6,o1,o2,hfl,gI,gJ,hip,hjp,c1,c2,Int.toNat_natCast,List.take_succ_cons,List.take_zero,List.drop_succ_cons,List.drop_zero,go_sem])<;>rfl))|(refine U_sto (id:=?_) (i:=?_) (j:=?_) (q:=?_) (es:=?_) (cs:=?_) (vs:=?_) (es':=?_) ?h1 ?h2 ?h3 ?h4 ?h5 ?h6 ?h7 ?_;case h1|h2|h3|h4|h5|h6|h7=>((try simp only[r1,r2,r5,r6,o1,o2,hfl,gI,gJ,hip,hjp,c1,c2,Int.toNat_natCast,List.take_succ_cons,List.take_zero,List.drop_succ_cons,List.drop_zero,go_sem])<;>rfl)))));refine .inr ⟨rfl,?_⟩;(repeat (with_reducible (first|refine X_rt ?_|refine B_rt ?_)));refine .inr ⟨rfl,?_⟩;(repeat (with_reducible (first|refine X_rt ?_)));refine E_3g (v:=.ag (fkL (some (noC,p,q,b)))) (w:=.bo true) (z:=.bo true) ?_ ?_ ?_ (fz_of rfl rfl)
      ·(simp only[r2,List.take_succ_cons,List.take_zero,List.drop_succ_cons,List.drop_zero,go_sem]<;>rfl)
      ·(simp only[go_sem]<;>rfl)
      ·(simp only[go_sem]<;>rfl)
    ·have hd2:decide ((j:Int) < (l.length:Int))=false:=decide_eq_false (by omega);rw[List.drop_eq_nil_of_le (by omega),List.findSome?_nil,Option.none_or] at hpr;(repeat (with_reducible (first|refine U_nil ?_|refine UC_sq ?_|refine UC_rg ?_|refine UC_ex ?_|refine X_nx ?_|refine X_ex ?_|((first|refine U_q (v:=?_) ?h1 ?_|refine U_ld (v:=?_) ?h1 ?_);case h1=>((try simp only[r1,r6,o1,hfl,hd2,List.length_map,List.take_succ_cons,List.take_zero,List.drop_succ_cons,List.drop_zero,go_sem])<;>rfl))|(refine UC_cdf ?h1 ?_;case h1=>((try simp only[r1,r6,o1,hfl,hd2,List.length_map,List.take_succ_cons,List.take_zero,List.drop_succ_cons,List.drop_zero,go_sem])<;>rfl)))));exact .inl ⟨rfl,hpr,Z1 r1,Z1 r2,Z1 r5,Z1 o1,Z1 o2⟩
   clear r1 r2 r5 o1 o2 hpr;rintro e o ⟨hpr,r1,r2,r5,o1,o2⟩;(repeat (with_reducible (first|refine U_nil ?_|refine UC_rg ?_|refine X_nx ?_|refine B_nx ?_|(refine U_q (v:=?_) ?h1 ?_;case h1=>((try simp only[r5,hw,go_sem])<;>rfl)))))
   exact⟨r - 1,by omega,i+1,by omega,hpr,Z1 r1,Z1 r2,Z0,Z1 o1,Z1 o2⟩
  ·have hd:decide ((i:Int) < (l.length:Int))=false:=decide_eq_false (by omega);rw[List.drop_eq_nil_of_le (by omega),prF] at hpr;(repeat (with_reducible (first|refine U_nil ?_|refine UC_sq ?_|refine UC_rg ?_|refine UC_ex ?_|refine X_nx ?_|refine X_ex ?_|((first|refine U_q (v:=?_) ?h1 ?_|refine U_ld (v:=?_) ?h1 ?_);case h1=>((try simp only[r1,r5,o1,hfl,hd,List.length_map,List.take_succ_cons,List.take_zero,List.drop_succ_cons,List.drop_zero,go_sem])<;>rfl))|(refine UC_cdf ?h1 ?_;case h1=>((try simp only[r1,r5,o1,hfl,hd,List.length_map,List.take_succ_cons,List.take_zero,List.drop_succ_cons,List.drop_zero,go_sem])<;>rfl)))));exact .inl ⟨rfl,hpr.symm,Z1 r1,Z1 r2,Z1 o1,Z1 o2⟩
 rintro e o ⟨hfn,r1,r2,o1,o2⟩;rw[rfindF,hfn];dsimp only;have hmt:∀ m,∀ {at_:Nat},m∈mvAt A at_→m.to < A.sets.length:=fun m at_ h=>mv_to hW h;(repeat (with_reducible (first|refine U_nil ?_|refine UC_sq ?_|refine UC_rg ?_|refine UC_bk ?_|refine X_nx ?_|(refine U_q (v:=?_) ?h1 ?_;case h1=>((try simp only[go_sem])<;>rfl)))));refine UC_cutr (fun e o=>rfA A (A.moves.length - 1) 1=(none,true)∧e 1=.pt 1 0 0∧e 2=.pt 2 0 0∧o 1=some (.row 15 [auC A])∧o 2=some (.row 8 [[.i .i64 0,.i .i64 0,.i .i64 0,.i .i64 0,.i .i64 0,.i .i64 0,.i .i64 0,.i .u8 0]])) ?_ ?_
 ·refine U_lp (fun r e o=>∃ at_:Nat,at_+r=A.moves.length∧1≤at_∧rfA A (A.moves.length - at_) at_=rfA A (A.moves.length - 1) 1∧e 1=.pt 1 0 0∧e 2=.pt 2 0 0∧e 8=.i .i64 at_∧o 1=some (.row 15 [auC A])∧o 2=some (.row 8 [[.i .i64 0,.i .i64 0,.i .i64 0,.i .i64 0,.i .i64 0,.i .i64 0,.i .i64 0,.i .u8 0]])) (k:=A.moves.length - 1) ?_ (Call_le F) ?_
  ·exact⟨1,by omega,by omega,rfl,Z1 r1,Z1 r2,Zr0,Z1 o1,Z1 o2⟩
  clear r1 r2 o1 o2;rintro r e o ⟨at_,har,h0,hrf,r1,r2,r8,o1,o2⟩;dsimp only[b8_4];by_cases ha:at_ < A.moves.length
  ·have hd:decide ((at_:Int) < (A.moves.length:Int))=true:=decide_eq_true (by omega);have hap:(0:Int)≤(at_:Int):=by omega
   have hw:=wrap1 (i:=at_) (by omega);have hla:at_ < A.around.length:=by rw[hW.la,← hW.lm];exact ha
   have gM:=mo_at ha;have hall:=all_pu hW (most:=300) hla (by omega);have hmn:A.moves.length - at_=(A.moves.length - (at_+1))+1:=by omega
   rw[hmn,rfA] at hrf;have hrg:=fun {l:List Cf} (h:allF A at_ 300=some l)=>all_right hW h0 hla h;have hms:∀ m∈mvAt A at_,m.to < A.sets.length∧MvOk A at_ m:=fun m hm=>⟨hmt m hm,mv_ok hW ha hm⟩;have hll:(mvAt A at_).length < 2147483648:=hL _ (by rw[mvAt,List.getElem?_eq_getElem ha];exact List.getElem_mem ha);have hln:∀ l,allF A at_ 300=some l→l.length≤1000:=fun l h=>all_len (by omega) _ l h;generalize allF A at_ 300=al at hall hrf hrg hln;generalize mvAt A at_=ms at gM hrf hms hll;cases al with
   | none =>
    have hall:Pu F 10 [.ag (auC A),.i .i64 at_,.i .i64 300] (.tp [.sl [],.bo false]):=hall;dsimp only at hrf;rw[← hrf];(repeat (with_reducible (first|refine U_nil ?_|refine UC_sq ?_|refine UC_rg ?_|refine UC_bk ?_|refine UC_sk ?_|refine X_nx ?_|((first|refine U_q (v:=?_) ?h1 ?_|refine U_ld (v:=?_) ?h1 ?_|refine UC_cdt ?h1 ?_);case h1=>((try simp only[r1,r8,o1,hd,List.length_map,List.take_succ_cons,List.take_zero,List.drop_succ_cons,List.drop_zero,go_sem])<;>rfl)))));refine U_pc (vs:=[.ag (auC A),.i .i64 at_,.i .i64 300]) (ws:=[.ag (auC A),.i .i64 at_,.i .i64 300]) (Z0) (fzsU_ok ?_) (Bool.or_eq_true_iff.2 (.inl ?_)) rfl hall ?_
    ·simp only[List.all_cons,List.all_nil,Bool.and_true,go_sem]
    ·simp only[clos,List.all_cons,List.all_nil,Bool.and_true,go_sem]
    (repeat (with_reducible (first|refine U_nil ?_|refine UC_sq ?_|refine UC_rg ?_|refine UC_rt ?_|refine X_nx ?_|refine X_rt ?_|refine B_rt ?_|((first|refine U_q (v:=?_) ?h1 ?_|refine UC_cdt ?h1 ?_);case h1=>((try simp only[r2,o2,List.take_succ_cons,List.take_zero,List.drop_succ_cons,List.drop_zero,go_sem])<;>rfl))|(refine U_sto (id:=?_) (i:=?_) (j:=?_) (q:=?_) (es:=?_) (cs:=?_) (vs:=?_) (es':=?_) ?h1 ?h2 ?h3 ?h4 ?h5 ?h6 ?h7 ?_;case h1|h2|h3|h4|h5|h6|h7=>((try simp only[r2,o2,List.take_succ_cons,List.take_zero,List.drop_succ_cons,List.drop_zero,go_sem])<;>rfl)))));refine .inr ⟨rfl,?_⟩;(repeat (with_reducible (first|refine X_rt ?_)));refine E_3g (v:=.ag [.i .i64 0,.i .i64 0,.i .i64 0,.i .i64 0,.i .i64 0,.i .i64 0,.i .i64 0,.i .u8 0]) (w:=.bo false) (z:=.bo false) ?_ ?_ ?_ (fz_of rfl rfl)
    ·(simp only[r2,List.take_succ_cons,List.take_zero,List.drop_succ_cons,List.drop_zero,go_sem]<;>rfl)
    ·(simp only[go_sem]<;>rfl)
    ·(simp only[go_sem]<;>rfl)
   | some l =>
    have hl:=hln l rfl;have hrl:=hrg rfl;have hall:Pu F 10 [.ag (auC A),.i .i64 at_,.i .i64 300] (.tp [.sl (l.map cfC),.bo true]):=hall;dsimp only at hrf;(repeat (with_reducible (first|refine U_nil ?_|refine UC_sq ?_|refine UC_rg ?_|refine UC_bk ?_|refine UC_sk ?_|refine X_nx ?_|((first|refine U_q (v:=?_) ?h1 ?_|refine U_ld (v:=?_) ?h1 ?_|refine UC_cdt ?h1 ?_);case h1=>((try simp only[r1,r8,o1,hd,List.length_map,List.take_succ_cons,List.take_zero,List.drop_succ_cons,List.drop_zero,go_sem])<;>rfl)))));refine U_pc (vs:=[.ag (auC A),.i .i64 at_,.i .i64 300]) (ws:=[.ag (auC A),.i .i64 at_,.i .i64 300]) (Z0) (fzsU_ok ?_) (Bool.or_eq_true_iff.2 (.inl ?_)) ?_ hall ?_
    ·simp only[List.all_cons,List.all_nil,Bool.and_true,go_sem]
    ·simp only[clos,List.all_cons,List.all_nil,Bool.and_true,go_sem]
    ·simp only[cldL,cld,cfs_cl,Bool.and_true]
    (repeat (with_reducible (first|refine U_nil ?_|refine UC_sq ?_|refine UC_rg ?_|refine UC_bk ?_|refine UC_sk ?_|refine X_nx ?_|((first|refine U_q (v:=?_) ?h1 ?_|refine U_ld (v:=?_) ?h1 ?_);case h1=>((try simp only[r1,r8,o1,gM,hap,Int.toNat_natCast,List.take_succ_cons,List.take_zero,List.drop_succ_cons,List.drop_zero,go_sem])<;>rfl))|(refine UC_cdf ?h1 ?_;case h1=>((try simp only[r1,r8,o1,gM,hap,Int.toNat_natCast,List.take_succ_cons,List.take_zero,List.drop_succ_cons,List.drop_zero,go_sem])<;>rfl)))));refine UC_cutr (fun e o=>prF (rbh1 A l) ms=none∧e 1=.pt 1 0 0∧e 2=.pt 2 0 0∧e 8=.i .i64 at_∧e 9=.sl (l.map cfC)∧e 11=.sl (ms.map mvC)∧o 1=some (.row 15 [auC A])∧o 2=some (.row 8 [[.i .i64 0,.i .i64 0,.i .i64 0,.i .i64 0,.i .i64 0,.i .i64 0,.i .i64 0,.i .u8 0]])) ?_ ?_
    ·refine U_lp (fun r e o=>∃ i:Nat,i+r=ms.length∧prF (rbh1 A l) (ms.drop i)=prF (rbh1 A l) ms∧e 1=.pt 1 0 0∧e 2=.pt 2 0 0∧e 8=.i .i64 at_∧e 9=.sl (l.map cfC)∧e 11=.sl (ms.map mvC)∧e 12=.i .i64 i∧o 1=some (.row 15 [auC A])∧o 2=some (.row 8 [[.i .i64 0,.i .i64 0,.i .i64 0,.i .i64 0,.i .i64 0,.i .i64 0,.i .i64 0,.i .u8 0]])) (k:=ms.length) ?_ (Call_le F) ?_
     ·exact⟨0,by omega,by rw[List.drop_zero],Z1 r1,Z1 r2,Z1 r8,Z0,Z0,Zr0,Z1 o1,Z1 o2⟩
     clear r1 r2 r8 o1 o2;rintro r' e o ⟨i,hir,hpr,r1,r2,r8,r9,r11,r12,o1,o2⟩;dsimp only[b8_3];by_cases hi:i < ms.length
     ·have hd2:decide ((i:Int) < (ms.length:Int))=true:=decide_eq_true (by omega);have hip:(0:Int)≤(i:Int):=by omega
      have hw2:IntKind.i64.wrap ((i:Int)+1)=((i+1:Nat):Int):=by rw[wrap_i64 (by omega) (by omega)];rfl
      have gI:=mvs_at hi;obtain⟨hx1,hx2⟩:=hms _ (List.getElem_mem hi);rw[List.drop_eq_getElem_cons hi,prF] at hpr;generalize ms[i]=x at gI hx1 hx2 hpr;(repeat (with_reducible (first|refine U_nil ?_|refine UC_sq ?_|refine UC_rg ?_|refine UC_bk ?_|refine UC_sk ?_|refine X_nx ?_|((first|refine U_q (v:=?_) ?h1 ?_|refine UC_cdt ?h1 ?_);case h1=>((try simp only[r11,r12,hd2,hw2,List.length_map,go_sem])<;>rfl)))));refine UC_cutr (fun e o=>prF (rbh1 A l) (ms.drop (i+1))=prF (rbh1 A l) ms∧e 1=.pt 1 0 0∧e 2=.pt 2 0 0∧e 8=.i .i64 at_∧e 9=.sl (l.map cfC)∧e 11=.sl (ms.map mvC)∧e 12=.i .i64 i∧o 1=some (.row 15 [auC A])∧o 2=some (.row 8 [[.i .i64 0,.i .i64 0,.i .i64 0,.i .i64 0,.i .i64 0,.i .i64 0,.i .i64 0,.i .u8 0]])) ?_ ?_
      ·refine U_lp (fun r e o=>∃ j:Nat,j+r=ms.length∧((ms.drop j).findSome? (rbh1 A l x)).or (prF (rbh1 A l) (ms.drop (i+1)))=prF (rbh1 A l) ms∧e 1=.pt 1 0 0∧e 2=.pt 2 0 0∧e 8=.i .i64 at_∧e 9=.sl (l.map cfC)∧e 11=.sl (ms.map mvC)∧e 12=.i .i64 i∧e 13=.i .i64 j∧o 1=some (.row 15 [auC A])∧o 2=some (.row 8 [[.i .i64 0,.i .i64 0,.i .i64 0,.i .i64 0,.i .i64 0,.i .i64 0,.i .i64 0,.i .u8 0]])) (k:=ms.length - (i+1)) ?_ (Call_le F) ?_
       ·exact⟨i+1,by omega,hpr,Z1 r1,Z1 r2,Z1 r8,Z1 r9,Z1 r11,Z1 r12,Z0,Z1 o1,Z1 o2⟩
       clear r1 r2 r8 r9 r11 r12 o1 o2 hpr;rintro r'' e o ⟨j,hjr,hpr,r1,r2,r8,r9,r11,r12,r13,o1,o2⟩;dsimp only[b8_2];by_cases hj:j < ms.length
       ·have hd3:decide ((j:Int) < (ms.length:Int))=true:=decide_eq_true (by omega);have hjp:(0:Int)≤(j:Int):=by omega
        have hw3:IntKind.i64.wrap ((j:Int)+1)=((j+1:Nat):Int):=by rw[wrap_i64 (by omega) (by omega)];rfl
        have gJ:=mvs_at hj;obtain⟨hy1,hy2⟩:=hms _ (List.getElem_mem hj);rw[List.drop_eq_getElem_cons hj,List.findSome?_cons] at hpr;generalize ms[j]=y at gJ hy1 hy2 hpr;have hs:=rleast_pu hW hx1 hy1;have hg:=both_pu hW hl hrl hx2 hy2;have hb8:∀ b,shB A x.to y.to=some b→b < 256:=fun b hb=>shB_lt hb;have hff:rbh1 A l x y=match shB A x.to y.to,bothF A l x y with
         | some b,some c=>if x.to≠y.to then some (c,x.to,y.to,b) else none
         | _,_=>none:=rfl
        generalize rbh1 A l x y=bb at hff hpr;generalize shB A x.to y.to=sh at hs hff hb8;generalize bothF A l x y=ag at hg hff;(repeat (with_reducible (first|refine U_nil ?_|refine UC_sq ?_|refine UC_rg ?_|refine UC_bk ?_|refine UC_sk ?_|refine X_nx ?_|((first|refine U_q (v:=?_) ?h1 ?_|refine U_ld (v:=?_) ?h1 ?_|refine UC_cdt ?h1 ?_);case h1=>((try simp only[r1,r11,r12,r13,o1,hd3,gI,gJ,hip,hjp,Int.toNat_natCast,List.length_map,List.take_succ_cons,List.take_zero,List.drop_succ_cons,List.drop_zero,go_sem])<;>rfl)))))
        (refine U_pcr (r:=.i .i64 (lsI sh)) hs ?h1 ?h2 rfl ?_;(case h1=>((try simp only[List.take_succ_cons,List.take_zero,List.drop_succ_cons,List.drop_zero,go_sem])<;>rfl));(case h2=>simp only[List.all_cons,List.all_nil,Bool.and_true,go_sem]))
        (repeat (with_reducible (first|refine U_nil ?_|refine UC_sq ?_|refine UC_rg ?_|refine X_nx ?_|((first|refine U_q (v:=?_) ?h1 ?_|refine U_ld (v:=?_) ?h1 ?_);case h1=>((try simp only[r1,r9,r11,r12,r13,o1,gI,gJ,hip,hjp,Int.toNat_natCast,List.take_succ_cons,List.take_zero,List.drop_succ_cons,List.drop_zero,go_sem])<;>rfl)))));refine U_pc (vs:=[.ag (auC A),.sl (l.map cfC),.ag (mvC x),.ag (mvC y)]) (ws:=[.ag (auC A),.sl (l.map cfC),.ag (mvC x),.ag (mvC y)]) (Z1 r9) (fzsU_ok ?_) (Bool.or_eq_true_iff.2 (.inl ?_)) ?_ hg ?_
        ·simp only[List.all_cons,List.all_nil,Bool.and_true,go_sem]
        ·simp only[clos,List.all_cons,List.all_nil,Bool.and_true,go_sem]
        ·cases ag<;>rfl
        dsimp only[agV];by_cases hne:x.to=y.to
        ·have c1:((x.to:Int) != (y.to:Int))=false:=by simp;omega
         have hbb:bb=none:=by rw[hff];cases sh<;>cases ag<;>simp [hne]
         rw[hbb] at hpr;(repeat (with_reducible (first|refine U_nil ?_|refine UC_sq ?_|refine UC_rg ?_|refine UC_sk ?_|refine X_nx ?_|refine B_nx ?_|((first|refine U_q (v:=?_) ?h1 ?_|refine U_ld (v:=?_) ?h1 ?_|refine U_alc (n:=?_) ?h1 ?_);case h1=>((try simp only[r11,r12,r13,gI,gJ,hip,hjp,c1,hw3,Int.toNat_natCast,List.take_succ_cons,List.take_zero,List.drop_succ_cons,List.drop_zero,go_sem])<;>rfl))|(refine U_sto (id:=?_) (i:=?_) (j:=?_) (q:=?_) (es:=?_) (cs:=?_) (vs:=?_) (es':=?_) ?h1 ?h2 ?h3 ?h4 ?h5 ?h6 ?h7 ?_;case h1|h2|h3|h4|h5|h6|h7=>((try simp only[r11,r12,r13,gI,gJ,hip,hjp,c1,hw3,Int.toNat_natCast,List.take_succ_cons,List.take_zero,List.drop_succ_cons,List.drop_zero,go_sem])<;>rfl))|((first|refine U_gs2 ?h1 ?_|refine UC_cdf ?h1 ?_);case h1=>((try simp only[r11,r12,r13,gI,gJ,hip,hjp,c1,hw3,Int.toNat_natCast,List.take_succ_cons,List.take_zero,List.drop_succ_cons,List.drop_zero,go_sem])<;>rfl))|rw[put_some])))
         exact⟨r'' - 1,by omega,j+1,by omega,hpr,Z1 r1,Z1 r2,Z1 r8,Z1 r9,Z1 r11,Z1 r12,Z0,Z1 o1,Z1 o2⟩
        ·have c1:((x.to:Int) != (y.to:Int))=true:=by simp;omega
         cases sh with
         | none =>
          have c2:decide ((-1:Int)≥0)=false:=rfl;have hbb:bb=none:=hff;rw[hbb] at hpr;dsimp only[lsI];(repeat (with_reducible (first|refine U_nil ?_|refine UC_sq ?_|refine UC_rg ?_|refine UC_sk ?_|refine X_nx ?_|refine B_nx ?_|((first|refine U_q (v:=?_) ?h1 ?_|refine U_ld (v:=?_) ?h1 ?_|refine U_alc (n:=?_) ?h1 ?_|refine U_gt ?h1 ?_);case h1=>((try simp only[r11,r12,r13,gI,gJ,hip,hjp,c1,c2,hw3,Int.toNat_natCast,List.take_succ_cons,List.take_zero,List.drop_succ_cons,List.drop_zero,go_sem])<;>rfl))|(refine U_sto (id:=?_) (i:=?_) (j:=?_) (q:=?_) (es:=?_) (cs:=?_) (vs:=?_) (es':=?_) ?h1 ?h2 ?h3 ?h4 ?h5 ?h6 ?h7 ?_;case h1|h2|h3|h4|h5|h6|h7=>((try simp only[r11,r12,r13,gI,gJ,hip,hjp,c1,c2,hw3,Int.toNat_natCast,List.take_succ_cons,List.take_zero,List.drop_succ_cons,List.drop_zero,go_sem])<;>rfl))|((first|refine U_gs2 ?h1 ?_|refine UC_cdf ?h1 ?_);case h1=>((try simp only[r11,r12,r13,gI,gJ,hip,hjp,c1,c2,hw3,Int.toNat_natCast,List.take_succ_cons,List.take_zero,List.drop_succ_cons,List.drop_zero,go_sem])<;>rfl))|rw[put_some])))
          exact⟨r'' - 1,by omega,j+1,by omega,hpr,Z1 r1,Z1 r2,Z1 r8,Z1 r9,Z1 r11,Z1 r12,Z0,Z1 o1,Z1 o2⟩
         | some b =>
          have c2:decide ((b:Int)≥0)=true:=decide_eq_true (by omega);have c3:=u8_wrap (hb8 b rfl);cases ag with
          | none =>
           have hbb:bb=none:=hff;rw[hbb] at hpr;dsimp only[lsI];(repeat (with_reducible (first|refine U_nil ?_|refine UC_sq ?_|refine UC_rg ?_|refine UC_sk ?_|refine X_nx ?_|refine B_nx ?_|((first|refine U_q (v:=?_) ?h1 ?_|refine U_ld (v:=?_) ?h1 ?_|refine U_alc (n:=?_) ?h1 ?_|refine U_gt ?h1 ?_);case h1=>((try simp only[r11,r12,r13,gI,gJ,hip,hjp,c1,c2,hw3,Option.isSome_none,Int.toNat_natCast,List.take_succ_cons,List.take_zero,List.drop_succ_cons,List.drop_zero,go_sem])<;>rfl))|(refine U_sto (id:=?_) (i:=?_) (j:=?_) (q:=?_) (es:=?_) (cs:=?_) (vs:=?_) (es':=?_) ?h1 ?h2 ?h3 ?h4 ?h5 ?h6 ?h7 ?_;case h1|h2|h3|h4|h5|h6|h7=>((try simp only[r11,r12,r13,gI,gJ,hip,hjp,c1,c2,hw3,Option.isSome_none,Int.toNat_natCast,List.take_succ_cons,List.take_zero,List.drop_succ_cons,List.drop_zero,go_sem])<;>rfl))|(refine UC_cdf ?h1 ?_;case h1=>((try simp only[r11,r12,r13,gI,gJ,hip,hjp,c1,c2,hw3,Option.isSome_none,Int.toNat_natCast,List.take_succ_cons,List.take_zero,List.drop_succ_cons,List.drop_zero,go_sem])<;>rfl)))))
           exact⟨r'' - 1,by omega,j+1,by omega,hpr,Z1 r1,Z1 r2,Z1 r8,Z1 r9,Z1 r11,Z1 r12,Z0,Z1 o1,Z1 o2⟩
          | some c =>
           have hbb:bb=some (c,x.to,y.to,b):=by rw[hff];simp [hne]
           rw[hbb,Option.some_or] at hpr;rw[← hpr] at hrf;dsimp only at hrf;rw[← hrf];obtain⟨ca,cb,cc,cd,ce⟩:=c;dsimp only[lsI];(repeat (with_reducible (first|refine U_nil ?_|refine UC_sq ?_|refine UC_rg ?_|refine UC_rt ?_|refine X_nx ?_|refine X_rt ?_|refine B_rt ?_|((first|refine U_q (v:=?_) ?h1 ?_|refine U_ld (v:=?_) ?h1 ?_|refine U_alc (n:=?_) ?h1 ?_|refine U_gt ?h1 ?_|refine UC_cdt ?h1 ?_);case h1=>((try simp only[r2,r11,r12,r13,o2,gI,gJ,hip,hjp,c1,c2,c3,Option.isSome_some,Option.getD_some,cfC,Int.toNat_natCast,List.take_succ_cons,List.take_zero,List.drop_succ_cons,List.drop_zero,go_sem])<;>rfl))|(refine U_sto (id:=?_) (i:=?_) (j:=?_) (q:=?_) (es:=?_) (cs:=?_) (vs:=?_) (es':=?_) ?h1 ?h2 ?h3 ?h4 ?h5 ?h6 ?h7 ?_;case h1|h2|h3|h4|h5|h6|h7=>((try simp only[r2,r11,r12,r13,o2,gI,gJ,hip,hjp,c1,c2,c3,Option.isSome_some,Option.getD_some,cfC,Int.toNat_natCast,List.take_succ_cons,List.take_zero,List.drop_succ_cons,List.drop_zero,go_sem])<;>rfl)))));refine .inr ⟨rfl,?_⟩;(repeat (with_reducible (first|refine X_rt ?_|refine B_rt ?_)));refine .inr ⟨rfl,?_⟩;(repeat (with_reducible (first|refine X_rt ?_|refine B_rt ?_)));refine .inr ⟨rfl,?_⟩;(repeat (with_reducible (first|refine X_rt ?_)));refine E_3g (v:=.ag [.i .i64 ca,.i .i64 cb,.i .i64 cc,.i .i64 cd,.i .i64 ce,.i .i64 x.to,.i .i64 y.to,.i .u8 b]) (w:=.bo true) (z:=.bo true) ?_ ?_ ?_ (fz_of rfl rfl)
           ·(simp only[r2,List.take_succ_cons,List.take_zero,List.drop_succ_cons,List.drop_zero,go_sem]<;>rfl)
           ·(simp only[go_sem]<;>rfl)
           ·(simp only[go_sem]<;>rfl)
       ·have hd3:decide ((j:Int) < (ms.length:Int))=false:=decide_eq_false (by omega);rw[List.drop_eq_nil_of_le (by omega),List.findSome?_nil,Option.none_or] at hpr;(repeat (with_reducible (first|refine U_nil ?_|refine UC_sq ?_|refine UC_rg ?_|refine UC_ex ?_|refine X_nx ?_|refine X_ex ?_|(refine U_q (v:=?_) ?h1 ?_;case h1=>((try simp only[r11,r13,hd3,List.length_map,go_sem])<;>rfl))|(refine UC_cdf ?h1 ?_;case h1=>((try simp only[r11,r13,hd3,List.length_map,go_sem])<;>rfl)))));exact .inl ⟨rfl,hpr,Z1 r1,Z1 r2,Z1 r8,Z1 r9,Z1 r11,Z1 r12,Z1 o1,Z1 o2⟩
      clear r1 r2 r8 r9 r11 r12 o1 o2 hpr;rintro e o ⟨hpr,r1,r2,r8,r9,r11,r12,o1,o2⟩;(repeat (with_reducible (first|refine U_nil ?_|refine UC_rg ?_|refine X_nx ?_|refine B_nx ?_|(refine U_q (v:=?_) ?h1 ?_;case h1=>((try simp only[r12,hw2,go_sem])<;>rfl)))))
      exact⟨r' - 1,by omega,i+1,by omega,hpr,Z1 r1,Z1 r2,Z1 r8,Z1 r9,Z1 r11,Z0,Z1 o1,Z1 o2⟩
     ·have hd2:decide ((i:Int) < (ms.length:Int))=false:=decide_eq_false (by omega);rw[List.drop_eq_nil_of_le (by omega),prF] at hpr;(repeat (with_reducible (first|refine U_nil ?_|refine UC_sq ?_|refine UC_rg ?_|refine UC_ex ?_|refine X_nx ?_|refine X_ex ?_|(refine U_q (v:=?_) ?h1 ?_;case h1=>((try simp only[r11,r12,hd2,List.length_map,go_sem])<;>rfl))|(refine UC_cdf ?h1 ?_;case h1=>((try simp only[r11,r12,hd2,List.length_map,go_sem])<;>rfl)))));exact .inl ⟨rfl,hpr.symm,Z1 r1,Z1 r2,Z1 r8,Z1 r9,Z1 r11,Z1 o1,Z1 o2⟩
    clear r1 r2 r8 o1 o2;rintro e o ⟨hpn,r1,r2,r8,r9,r11,o1,o2⟩;rw[hpn] at hrf;dsimp only at hrf;(repeat (with_reducible (first|refine U_nil ?_|refine UC_rg ?_|refine X_nx ?_|refine B_nx ?_|(refine U_q (v:=?_) ?h1 ?_;case h1=>((try simp only[r8,hw,go_sem])<;>rfl)))))
    exact⟨r - 1,by omega,at_+1,by omega,by omega,hrf,Z1 r1,Z1 r2,Z0,Z1 o1,Z1 o2⟩
  ·have hd:decide ((at_:Int) < (A.moves.length:Int))=false:=decide_eq_false (by omega);have hz:A.moves.length - at_=0:=by omega
   rw[hz,rfA] at hrf;(repeat (with_reducible (first|refine U_nil ?_|refine UC_sq ?_|refine UC_rg ?_|refine UC_ex ?_|refine X_nx ?_|refine X_ex ?_|((first|refine U_q (v:=?_) ?h1 ?_|refine U_ld (v:=?_) ?h1 ?_);case h1=>((try simp only[r1,r8,o1,hd,List.length_map,List.take_succ_cons,List.take_zero,List.drop_succ_cons,List.drop_zero,go_sem])<;>rfl))|(refine UC_cdf ?h1 ?_;case h1=>((try simp only[r1,r8,o1,hd,List.length_map,List.take_succ_cons,List.take_zero,List.drop_succ_cons,List.drop_zero,go_sem])<;>rfl)))));exact .inl ⟨rfl,hrf.symm,Z1 r1,Z1 r2,Z1 o1,Z1 o2⟩
 clear r1 r2 o1 o2;rintro e o ⟨hrn,r1,r2,o1,o2⟩;rw[hrn];(repeat (with_reducible (first|refine U_nil ?_|refine UC_sq ?_|refine UC_rg ?_|refine UC_rt ?_|refine X_nx ?_|(refine U_q (v:=?_) ?h1 ?_;case h1=>((try simp only[r2,o2,List.take_succ_cons,List.take_zero,List.drop_succ_cons,List.drop_zero,go_sem])<;>rfl))|(refine U_sto (id:=?_) (i:=?_) (j:=?_) (q:=?_) (es:=?_) (cs:=?_) (vs:=?_) (es':=?_) ?h1 ?h2 ?h3 ?h4 ?h5 ?h6 ?h7 ?_;case h1|h2|h3|h4|h5|h6|h7=>((try simp only[r2,o2,List.take_succ_cons,List.take_zero,List.drop_succ_cons,List.drop_zero,go_sem])<;>rfl)))));refine E_3g (v:=.ag [.i .i64 0,.i .i64 0,.i .i64 0,.i .i64 0,.i .i64 0,.i .i64 0,.i .i64 0,.i .u8 0]) (w:=.bo false) (z:=.bo true) ?_ ?_ ?_ (fz_of rfl rfl)
 ·(simp only[r2,List.take_succ_cons,List.take_zero,List.drop_succ_cons,List.drop_zero,go_sem]<;>rfl)
 ·(simp only[go_sem]<;>rfl)
 ·(simp only[go_sem]<;>rfl)
end Go.Proofs.YtgiedknghbpdfaaDoor
namespace Go.Proofs.YtgiedknghbpdfaaDoor
set_option linter.all false
theorem spl_fk8 (r:Option Fk) (a b c d e f g h:V):splice 0 (fkL r) [a,b,c,d,e,f,g,h]=fkL r:=spl_fk r _ rfl
theorem okf_fk (r:Option Fk):okf FZ (.ag (fkL r))=true:=by rcases r with _|⟨c,p,q,b⟩<;>rfl
theorem fk_eqV (r:Option Fk):eqV true [.i .i64,.i .i64,.i .i64,.i .i64,.i .i64,.i .i64,.i .i64,.i .u8] (.ag (fkL r)) (.ag (fkL r))=some true:=by
 rcases r with _|⟨⟨a,b,c,d,e⟩,p,q,x⟩
 ·rfl
 ·simp [fkL,cfC,eqV,eqps,lfEq,V.isAg,V.cells]
attribute [go_sem] fk_len fk_tk fk_cl fk_sw spl_fk8 okf_fk fk_eqV
theorem cld_fkV (r:Option Fk):cld (fkV r)=true:=by rcases r with _|⟨c,p,q,b⟩<;>rfl
theorem cld_rfV (r:Option Fk × Bool):cld (rfV r)=true:=by rcases r with⟨_|⟨c,p,q,b⟩,s⟩<;>rfl
def fkT:Nd:=.mk 2 zSet [.mk 4 zSet [twoT] 2 3,twoT] 0 0
def fkR:Option Fk:=some (⟨1,2,0,0,0⟩,1,2,1)
theorem zSet_w:W64 zSet:=fun j _=>by simp [zSet]
theorem fk_ok:okN fkT:=⟨⟨zSet_w,by simp,⟨zSet_w,by simp,two_ok.1,trivial⟩,two_ok.1,trivial⟩,rfl⟩
theorem fk_simple:simpleN fkT=fkT:=by rfl
theorem fk_wk:wk fkT 0 0 []=⟨[1],[2],false,2,[((1,⟨1,0,true⟩),1),((1,⟨2,0,false⟩),1)]⟩:=rfl
theorem fk_pl:plT fkT=⟨[zSet,twoS,twoS],[(2,3)],[[],[0],[]]⟩:=rfl
theorem fk_wf:WF (makeT fkT):=makeT_wf _ rfl fk_ok.1 rfl
theorem fk_auto:Pu F 6 [.ag (cel fkT)] (.tp [.ag (auC (makeT fkT)),.bo true]):=by
 have:=auto_of fkT fk_ok.1 (by decide) (make_ok fkT fk_ok (by decide) rfl)
 rw[fk_simple] at this;exact this
theorem fk_first:(makeT fkT).first=[1]:=by
 have h1:srtN [1]=[1]:=by simp [srtN]
 simp only[makeT,fk_wk,h1]
theorem fk_mv0:mvAt (makeT fkT) 0=[]:=by
 have:movesOf [((1,(⟨1,0,true⟩:Mv)),(1:Int)),((1,⟨2,0,false⟩),1)] 0=[]:=rfl
 simp [mvAt,makeT,fk_wk,fk_pl,this,srtM]
theorem fk_mv1:mvAt (makeT fkT) 1=[⟨1,0,true⟩,⟨2,0,false⟩]:=by
 have h0:movesOf [((1,(⟨1,0,true⟩:Mv)),(1:Int)),((1,⟨2,0,false⟩),1)] 1=[⟨1,0,true⟩,⟨2,0,false⟩]:=rfl;have h1:srtM [⟨1,0,true⟩,⟨2,0,false⟩]=[⟨1,0,true⟩,⟨2,0,false⟩]:=List.mergeSort_of_pairwise (by simp [mvCmp]);simp only[mvAt,makeT,fk_wk,fk_pl,List.getElem?_map,List.length_cons,List.length_nil,List.getElem?_range,Option.map_some,Option.getD_some,h0,h1];simp [h0,h1]
theorem fk_sh:shB (makeT fkT) 1 2=some 1:=leastF_some (by omega) rfl fun j hj=>by
 have:j=0:=by omega
 subst this;rfl
theorem fk_ag:agreeF (makeT fkT) 1 ⟨1,0,true⟩ ⟨2,0,false⟩=some ⟨1,2,0,0,0⟩:=rfl
theorem fk_find:findF (makeT fkT)=fkR:=by
 have h1:firstF (makeT fkT)=none:=by rw[firstF,fk_first];rfl
 have h2:(makeT fkT).moves.length=3:=rfl;have h3:behindF (makeT fkT) 0=none:=by rw[behindF,fk_mv0];rfl
 have h4:behindF (makeT fkT) 1=fkR:=by
  have e1:bhd1 (makeT fkT) 1 ⟨1,0,true⟩ ⟨2,0,false⟩=fkR:=by
   rw[bhd1,fk_sh,fk_ag];rfl
  rw[behindF,fk_mv1,prF,List.findSome?_cons,e1];rfl
 rw[findF,h1,h2,Option.none_or];show List.findSome? _ [0,1,2]=_;rw[List.findSome?_cons,h3,List.findSome?_cons,h4];rfl
set_option maxHeartbeats 2000000 in
theorem fawake_pu:Pu F 5 [] (.bo true):=by
 have hA:=fk_auto;have hF:=find_pu fk_wf (by rw[fk_first];simp) (fun l hl=>by
  have:=makeT_len fkT (by decide) l hl
  exact this)
 rw[fk_find] at hF;have hF:Pu F 7 [.ag (auC (makeT fkT))] (.tp [.ag [.i .i64 1,.i .i64 2,.i .i64 0,.i .i64 0,.i .i64 0,.i .i64 1,.i .i64 2,.i .u8 1],.bo true]):=hF;have hcel:V.ag (cel fkT)=.ag [.i .i64 2,.i .u64 0,.i .u64 0,.i .u64 0,.i .u64 0,.sl [[.i .i64 4,.i .u64 0,.i .u64 0,.i .u64 0,.i .u64 0,.sl [[.i .i64 1,.i .u64 2,.i .u64 0,.i .u64 0,.i .u64 0,.sl [],.i .i64 0,.i .i64 0]],.i .i64 2,.i .i64 3],[.i .i64 1,.i .u64 2,.i .u64 0,.i .u64 0,.i .u64 0,.sl [],.i .i64 0,.i .i64 0]],.i .i64 0,.i .i64 0]:=rfl;rw[hcel] at hA;generalize makeT fkT=A at hA hF;refine U_pure e5 rfl rfl (by simp only[go_sem,Bool.and_true]) ?_;dsimp only[fn5,c5];(repeat (with_reducible (first|refine U_nil ?_|refine UC_sq ?_|refine UC_rg ?_|refine X_nx ?_|((first|refine U_q (v:=?_) ?h1 ?_|refine U_ld (v:=?_) ?h1 ?_|refine U_alc (n:=?_) ?h1 ?_);case h1=>((try simp only[List.take_succ_cons,List.take_zero,List.drop_succ_cons,List.drop_zero,go_sem])<;>rfl))|(refine U_sto (id:=?_) (i:=?_) (j:=?_) (q:=?_) (es:=?_) (cs:=?_) (vs:=?_) (es':=?_) ?h1 ?h2 ?h3 ?h4 ?h5 ?h6 ?h7 ?_;case h1|h2|h3|h4|h5|h6|h7=>((try simp only[List.take_succ_cons,List.take_zero,List.drop_succ_cons,List.drop_zero,go_sem])<;>rfl)))));refine U_q (v:=.sl [[.i .i64 1,.i .u64 2,.i .u64 0,.i .u64 0,.i .u64 0,.sl [],.i .i64 0,.i .i64 0]]) (by (simp only[litV,List.take_succ_cons,List.take_zero,List.drop_succ_cons,List.drop_zero,go_sem]<;>rfl)) ?_;(repeat (with_reducible (first|((first|refine U_q (v:=?_) ?h1 ?_|refine U_ld (v:=?_) ?h1 ?_);case h1=>((try simp only[List.take_succ_cons,List.take_zero,List.drop_succ_cons,List.drop_zero,go_sem])<;>rfl)))));refine U_q (v:=.sl [[.i .i64 4,.i .u64 0,.i .u64 0,.i .u64 0,.i .u64 0,.sl [[.i .i64 1,.i .u64 2,.i .u64 0,.i .u64 0,.i .u64 0,.sl [],.i .i64 0,.i .i64 0]],.i .i64 2,.i .i64 3],[.i .i64 1,.i .u64 2,.i .u64 0,.i .u64 0,.i .u64 0,.sl [],.i .i64 0,.i .i64 0]]) (by (simp only[litV,List.take_succ_cons,List.take_zero,List.drop_succ_cons,List.drop_zero,go_sem]<;>rfl)) ?_;(repeat (with_reducible (first|(refine U_q (v:=?_) ?h1 ?_;case h1=>((try simp only[List.take_succ_cons,List.take_zero,List.drop_succ_cons,List.drop_zero,go_sem])<;>rfl)))));refine U_pc (ws:=[.ag [.i .i64 2,.i .u64 0,.i .u64 0,.i .u64 0,.i .u64 0,.sl [[.i .i64 4,.i .u64 0,.i .u64 0,.i .u64 0,.i .u64 0,.sl [[.i .i64 1,.i .u64 2,.i .u64 0,.i .u64 0,.i .u64 0,.sl [],.i .i64 0,.i .i64 0]],.i .i64 2,.i .i64 3],[.i .i64 1,.i .u64 2,.i .u64 0,.i .u64 0,.i .u64 0,.sl [],.i .i64 0,.i .i64 0]],.i .i64 0,.i .i64 0]]) (Zr0) rfl (Bool.or_eq_true_iff.2 (.inl ?_)) ?_ hA ?_
 ·rfl
 ·simp only[Bool.and_true,go_sem]
 (repeat (with_reducible (first|refine U_nil ?_|refine UC_sq ?_|refine UC_rg ?_|refine X_nx ?_|((first|refine U_q (v:=?_) ?h1 ?_|refine U_ld (v:=?_) ?h1 ?_|refine U_alc (n:=?_) ?h1 ?_);case h1=>((try simp only[List.take_succ_cons,List.take_zero,List.drop_succ_cons,List.drop_zero,go_sem])<;>rfl))|(refine U_sto (id:=?_) (i:=?_) (j:=?_) (q:=?_) (es:=?_) (cs:=?_) (vs:=?_) (es':=?_) ?h1 ?h2 ?h3 ?h4 ?h5 ?h6 ?h7 ?_;case h1|h2|h3|h4|h5|h6|h7=>((try simp only[List.take_succ_cons,List.take_zero,List.drop_succ_cons,List.drop_zero,go_sem])<;>rfl)))))
 (refine U_pcr (r:=.tp [.ag [.i .i64 1,.i .i64 2,.i .i64 0,.i .i64 0,.i .i64 0,.i .i64 1,.i .i64 2,.i .u8 1],.bo true]) hF ?h1 ?h2 rfl ?_;(case h1=>((try simp only[List.take_succ_cons,List.take_zero,List.drop_succ_cons,List.drop_zero,go_sem])<;>rfl));(case h2=>simp only[List.all_cons,List.all_nil,Bool.and_true,go_sem]))
 (repeat (with_reducible (first|refine U_nil ?_|refine UC_sq ?_|refine UC_rg ?_|refine UC_rt ?_|refine X_nx ?_|((first|refine U_q (v:=?_) ?h1 ?_|refine U_ld (v:=?_) ?h1 ?_|refine E_1 (v:=?_) ?h1 ?_|refine U_alc (n:=?_) ?h1 ?_|refine U_gt ?h1 ?_);case h1=>((try simp only[List.take_succ_cons,List.take_zero,List.drop_succ_cons,List.drop_zero,go_sem])<;>rfl))|(refine U_sto (id:=?_) (i:=?_) (j:=?_) (q:=?_) (es:=?_) (cs:=?_) (vs:=?_) (es':=?_) ?h1 ?h2 ?h3 ?h4 ?h5 ?h6 ?h7 ?_;case h1|h2|h3|h4|h5|h6|h7=>((try simp only[List.take_succ_cons,List.take_zero,List.drop_succ_cons,List.drop_zero,go_sem])<;>rfl)))));rfl
set_option maxHeartbeats 2000000 in
theorem finds_law (n:Nd) (hs:small n):Pu F 3 [.ag (cel n)] (.bo true):=by
 have haw:=fawake_pu;obtain⟨A,ok,hA,hok⟩:=auto_pu n hs;refine U_pure e3 rfl rfl (by simp only[go_sem,Bool.and_true]) ?_;dsimp only[fn3,c3];(repeat (with_reducible (first|refine U_nil ?_|refine UC_sq ?_|refine UC_rg ?_|refine X_nx ?_|(refine U_q (v:=?_) ?h1 ?_;case h1=>((try simp only[List.take_succ_cons,List.take_zero,List.drop_succ_cons,List.drop_zero,go_sem])<;>rfl))|(refine U_box (cs:=?_) (cs':=?_) (n:=?_) ?h1 ?h2 ?h3 ?h4 ?_;case h1|h2|h3|h4=>((try simp only[List.take_succ_cons,List.take_zero,List.drop_succ_cons,List.drop_zero,go_sem])<;>rfl)))))
 (refine U_pcr (r:=.bo true) haw ?h1 ?h2 rfl ?_;(case h1=>((try simp only[List.take_succ_cons,List.take_zero,List.drop_succ_cons,List.drop_zero,go_sem])<;>rfl));(case h2=>simp only[List.all_cons,List.all_nil,Bool.and_true,go_sem]))
 (repeat (with_reducible (first|refine U_nil ?_|refine UC_sq ?_|refine UC_rg ?_|refine UC_sk ?_|refine X_nx ?_|((first|refine U_q (v:=?_) ?h1 ?_|refine U_ld (v:=?_) ?h1 ?_);case h1=>((try simp only[List.take_succ_cons,List.take_zero,List.drop_succ_cons,List.drop_zero,go_sem])<;>rfl))|(refine UC_cdf ?h1 ?_;case h1=>((try simp only[List.take_succ_cons,List.take_zero,List.drop_succ_cons,List.drop_zero,go_sem])<;>rfl)))));refine U_pc (vs:=[.ag (cel n)]) (ws:=[.ag (cel n)]) (Z0) (fzs_cel n _) (Bool.or_eq_true_iff.2 (.inl (clos_cel n))) (by simp only[Bool.and_true,go_sem]) hA ?_;cases ok with
 | false =>
  (repeat (with_reducible (first|refine U_nil ?_|refine UC_sq ?_|refine UC_rg ?_|refine UC_rt ?_|refine X_nx ?_|refine X_rt ?_|((first|refine U_q (v:=?_) ?h1 ?_|refine E_1 (v:=?_) ?h1 ?_|refine U_alc (n:=?_) ?h1 ?_|refine UC_cdt ?h1 ?_);case h1=>((try simp only[List.take_succ_cons,List.take_zero,List.drop_succ_cons,List.drop_zero,go_sem])<;>rfl))|(refine U_sto (id:=?_) (i:=?_) (j:=?_) (q:=?_) (es:=?_) (cs:=?_) (vs:=?_) (es':=?_) ?h1 ?h2 ?h3 ?h4 ?h5 ?h6 ?h7 ?_;case h1|h2|h3|h4|h5|h6|h7=>((try simp only[List.take_succ_cons,List.take_zero,List.drop_succ_cons,List.drop_zero,go_sem])<;>rfl)))));rfl
 | true =>
  obtain⟨hAm,_,hW,hL,_⟩:=hok rfl;have hf:A.first.length≤1000:=by
   have hfn:A.first.Nodup:=by rw[hAm];exact first_nodup _
   have:=nodup_len A.first (List.range 41) hfn fun p hp=>List.mem_range.2 (by have:=(hW.f p hp).2;have:=hW.n;omega)
   simp at this;omega
  have h1:=find_pu hW hf hL;have h2:=rfind_pu hW hf hL;have h3:=find_same hW;generalize findF A=fd at h1 h3;generalize rfindF A=rf at h2 h3;obtain⟨f1,sm⟩:=rf;dsimp only at h3;(repeat (with_reducible (first|refine U_nil ?_|refine UC_sq ?_|refine UC_rg ?_|refine UC_sk ?_|refine X_nx ?_|((first|refine U_q (v:=?_) ?h1 ?_|refine U_ld (v:=?_) ?h1 ?_|refine U_alc (n:=?_) ?h1 ?_);case h1=>((try simp only[List.take_succ_cons,List.take_zero,List.drop_succ_cons,List.drop_zero,go_sem])<;>rfl))|(refine U_sto (id:=?_) (i:=?_) (j:=?_) (q:=?_) (es:=?_) (cs:=?_) (vs:=?_) (es':=?_) ?h1 ?h2 ?h3 ?h4 ?h5 ?h6 ?h7 ?_;case h1|h2|h3|h4|h5|h6|h7=>((try simp only[List.take_succ_cons,List.take_zero,List.drop_succ_cons,List.drop_zero,go_sem])<;>rfl))|(refine UC_cdf ?h1 ?_;case h1=>((try simp only[List.take_succ_cons,List.take_zero,List.drop_succ_cons,List.drop_zero,go_sem])<;>rfl)))));refine U_pc (vs:=[.ag (auC A)]) (ws:=[.ag (auC A)]) (Z0) (fzsU_ok ?_) (Bool.or_eq_true_iff.2 (.inl ?_)) (cld_fkV _) h1 ?_
  ·simp only[List.all_cons,List.all_nil,Bool.and_true,go_sem]
  ·simp only[clos,List.all_cons,List.all_nil,Bool.and_true,go_sem]
  dsimp only[fkV];(repeat (with_reducible (first|refine U_nil ?_|refine UC_sq ?_|refine UC_rg ?_|refine X_nx ?_|((first|refine U_q (v:=?_) ?h1 ?_|refine U_ld (v:=?_) ?h1 ?_|refine U_alc (n:=?_) ?h1 ?_);case h1=>((try simp only[List.take_succ_cons,List.take_zero,List.drop_succ_cons,List.drop_zero,go_sem])<;>rfl))|(refine U_sto (id:=?_) (i:=?_) (j:=?_) (q:=?_) (es:=?_) (cs:=?_) (vs:=?_) (es':=?_) ?h1 ?h2 ?h3 ?h4 ?h5 ?h6 ?h7 ?_;case h1|h2|h3|h4|h5|h6|h7=>((try simp only[List.take_succ_cons,List.take_zero,List.drop_succ_cons,List.drop_zero,go_sem])<;>rfl)))));refine U_pc (vs:=[.ag (auC A)]) (ws:=[.ag (auC A)]) (Z0) (fzsU_ok ?_) (Bool.or_eq_true_iff.2 (.inl ?_)) (cld_rfV _) h2 ?_
  ·simp only[List.all_cons,List.all_nil,Bool.and_true,go_sem]
  ·simp only[clos,List.all_cons,List.all_nil,Bool.and_true,go_sem]
  dsimp only[rfV];cases sm with
  | false =>
   (repeat (with_reducible (first|refine U_nil ?_|refine UC_sq ?_|refine UC_rg ?_|refine UC_rt ?_|refine X_nx ?_|((first|refine U_q (v:=?_) ?h1 ?_|refine E_1 (v:=?_) ?h1 ?_|refine U_alc (n:=?_) ?h1 ?_);case h1=>((try simp only[List.take_succ_cons,List.take_zero,List.drop_succ_cons,List.drop_zero,go_sem])<;>rfl))|(refine U_sto (id:=?_) (i:=?_) (j:=?_) (q:=?_) (es:=?_) (cs:=?_) (vs:=?_) (es':=?_) ?h1 ?h2 ?h3 ?h4 ?h5 ?h6 ?h7 ?_;case h1|h2|h3|h4|h5|h6|h7=>((try simp only[List.take_succ_cons,List.take_zero,List.drop_succ_cons,List.drop_zero,go_sem])<;>rfl))|(refine U_gs1 ?h1 ?_;case h1=>((try simp only[List.take_succ_cons,List.take_zero,List.drop_succ_cons,List.drop_zero,go_sem])<;>rfl))|(refine U_gj (vs:=?_) ?h1 ?_;case h1=>((try simp only[List.take_succ_cons,List.take_zero,List.drop_succ_cons,List.drop_zero,go_sem])<;>rfl)))));rfl
  | true =>
   have h3:=h3 rfl;subst h3;have c1:((f1.isSome==f1.isSome) != false)=true:=by simp
   (repeat (with_reducible (first|refine U_nil ?_|refine UC_sq ?_|refine UC_rg ?_|refine UC_rt ?_|refine X_nx ?_|((first|refine U_q (v:=?_) ?h1 ?_|refine U_ld (v:=?_) ?h1 ?_|refine E_1 (v:=?_) ?h1 ?_|refine U_alc (n:=?_) ?h1 ?_|refine U_gt ?h1 ?_);case h1=>((try simp only[c1,List.take_succ_cons,List.take_zero,List.drop_succ_cons,List.drop_zero,go_sem])<;>rfl))|(refine U_sto (id:=?_) (i:=?_) (j:=?_) (q:=?_) (es:=?_) (cs:=?_) (vs:=?_) (es':=?_) ?h1 ?h2 ?h3 ?h4 ?h5 ?h6 ?h7 ?_;case h1|h2|h3|h4|h5|h6|h7=>((try simp only[c1,List.take_succ_cons,List.take_zero,List.drop_succ_cons,List.drop_zero,go_sem])<;>rfl)))));rfl
end Go.Proofs.YtgiedknghbpdfaaDoor
