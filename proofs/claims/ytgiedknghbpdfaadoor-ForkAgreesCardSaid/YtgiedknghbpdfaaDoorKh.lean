import Derived.Test.YtgiedknghbpdfaaDoorKf

namespace Go.Proofs.YtgiedknghbpdfaaDoor
set_option linter.all false
def scD (A:Au) (at_ j:Nat):Int × Int:=(scAt A at_)[j]?.getD (0,0)
def loX (A:Au) (at_:Nat) (x y:Mv) (j:Nat):Int:=if (spanF (scD A at_ j) j x).1 < (spanF (scD A at_ j) j y).1 then (spanF (scD A at_ j) j y).1 else (spanF (scD A at_ j) j x).1
def hiX (A:Au) (at_:Nat) (x y:Mv) (j:Nat):Int:=if (spanF (scD A at_ j) j y).2 < (spanF (scD A at_ j) j x).2 then (spanF (scD A at_ j) j y).2 else (spanF (scD A at_ j) j x).2
def PX (A:Au) (at_:Nat) (x y:Mv) (n:Nat) (c:Cf):Bool:=decide (∀ j,j < n→loX A at_ x y j≤c.c j∧c.c j≤hiX A at_ x y j)
theorem scD_ok {A:Au} (hW:WF A) {at_ j:Nat} (hla:at_ < A.around.length) (hj:j < (arAt A at_).length):scOk (scD A at_ j):=by
 have hs:(arAt A at_)[j] < A.scopes.length:=hW.ai _ (arAt_mem hla) _ (List.getElem_mem hj)
 have:scD A at_ j=scI A (arAt A at_)[j]:=by simp [scD,scAt,List.getElem?_eq_getElem hj]
 rw[this,scI,List.getElem?_eq_getElem hs];exact hW.sc _ (List.getElem_mem hs)
theorem span_ok {s:Int × Int} (h:scOk s) (i:Nat) (m:Mv):1≤(spanF s i m).1∧(spanF s i m).2≤topS s:=by
 obtain⟨h1,h2,h3⟩:=h;unfold spanF topS
 refine⟨by dsimp only;split<;>omega,?_⟩
 dsimp only;rcases h3 with⟨h3,h4⟩|⟨h3,h4,h5⟩
 ·rw[if_neg (by rintro⟨_,_,h⟩;exact h h3),if_pos h3,if_pos (by omega)];omega
 ·rw[if_neg (by omega:¬ s.2 < 0)];split
  ·omega
  ·rw[if_neg (by omega)];omega
theorem find_map {α β:Type} (f:α→β) (p:β→Bool):∀ l:List α,(l.map f).find? p=(l.find? fun a=>p (f a)).map f
 | []=>rfl
 | a::l=>by
  rw[List.map_cons,List.find?_cons,List.find?_cons,find_map f p l];cases p (f a)<;>rfl
theorem find_flat {α β:Type} (f:α→List β) (p:β→Bool):∀ l:List α,(l.flatMap f).find? p=l.findSome? fun a=>(f a).find? p
 | []=>rfl
 | a::l=>by
  rw[List.flatMap_cons,List.find?_append,List.findSome?_cons,find_flat f p l];cases (f a).find? p<;>rfl
theorem find_congr {α:Type} {p q:α→Bool}:∀ {l:List α},(∀ c∈l,p c=q c)→l.find? p=l.find? q
 | [],_=>rfl
 | a::l,h=>by
  rw[List.find?_cons,List.find?_cons,h a (by simp),find_congr fun c hc=>h c (by simp [hc])]
theorem fs_if {α β:Type} (p:α→Bool) (g:α→Option β) (b:Bool) (hg:∀ a,(g a).isSome=b):∀ l:List α,(l.findSome? fun a=>if p a then g a else none)=match l.find? p with|none=>none|some c=>g c
 | []=>rfl
 | a::l=>by
  have ih:=fs_if p g b hg l;rw[List.findSome?_cons,List.find?_cons];cases hp:p a with
  | false=>simp only[Bool.false_eq_true,if_false];exact ih
  | true =>
   simp only[if_true];cases hga:g a with
   | some y=>rfl
   | none =>
    have hb:b=false:=by rw[← hg a,hga];rfl
    dsimp only;rw[ih];cases l.find? p with
    | none=>rfl
    | some c =>
     have:=hg c
     rw[hb] at this;cases hgc:g c with
     | none=>exact hgc
     | some z=>rw[hgc] at this;cases this
theorem all_mem {A:Au} (hW:WF A) {at_ most:Nat} (hla:at_ < A.around.length):∀ (n:Nat) (out:List Cf),n≤(arAt A at_).length→allN A at_ most n=some out →
  ∀ c∈out,c.p=at_∧(∀ j,j < n→1≤c.c j∧c.c j≤topS (scD A at_ j))∧∀ j,n≤j→j < 4→c.c j=0
 | 0,out,_,h,c,hc=>by
  rw[allN] at h;cases h;rw[List.mem_singleton] at hc;subst hc
  refine⟨rfl,fun j hj=>by omega,fun j _ hj=>?_⟩
  match j,hj with
  | 0,_=>rfl
  | 1,_=>rfl
  | 2,_=>rfl
  | 3,_=>rfl
 | n+1,out,hn,h,c,hc=>by
  have ha4:(arAt A at_).length≤4:=hW.a4 _ (arAt_mem hla);rw[allN] at h;cases hp:allN A at_ most n with
  | none=>rw[hp] at h;cases h
  | some prev =>
   rw[hp] at h;dsimp only at h;split at h
   ·cases h
   ·cases h;obtain⟨c',hc',hcc⟩:=List.mem_flatMap.1 hc;obtain⟨k,hk,rfl⟩:=List.mem_map.1 hcc;rw[List.mem_range] at hk;obtain⟨g1,g2,g3⟩:=all_mem hW hla n prev (by omega) hp c' hc'
    refine⟨by rw[setC_p];exact g1,fun j hj=>?_,fun j hj hj4=>?_⟩
    ·rw[setC_c _ _ _ _ (by omega)];by_cases hjn:j=n
     ·subst hjn;rw[if_pos rfl];show _∧_≤topS ((scAt A at_)[j]?.getD (0,0));omega
     ·rw[if_neg hjn];exact g2 j (by omega)
    ·rw[setC_c _ _ _ _ hj4,if_neg (by omega)];exact g3 j (by omega) hj4
theorem all_right {A:Au} (hW:WF A) {at_ most:Nat} (h1:1≤at_) (hla:at_ < A.around.length) {l:List Cf} (h:allF A at_ most=some l):∀ c∈l,rightB A c=true∧c.p=at_:=by
 intro c hc;obtain⟨g1,g2,g3⟩:=all_mem hW hla _ l (Nat.le_refl _) h c hc;have hl:(scAt A at_).length=(arAt A at_).length:=by simp [scAt]
 have hp:c.p.toNat=at_:=by rw[g1];rfl
 refine⟨rightB_iff.2 ⟨by omega,by omega,fun i hi=>?_⟩,g1⟩
 rw[hp];by_cases hil:i < (scAt A at_).length
 ·rw[okAt_lt hil]
  have:=g2 i (by omega)
  rw[scD,List.getElem?_eq_getElem hil] at this;simpa using this
 ·rw[okAt_ge hil,g3 i (by omega) hi];rfl
theorem PX_set {A:Au} {at_ n:Nat} {x y:Mv} {c:Cf} {v:Int} (hn:n < 4):PX A at_ x y (n+1) (c.setC n v)=(PX A at_ x y n c&&decide (loX A at_ x y n≤v∧v≤hiX A at_ x y n)):=by
 rw[Bool.eq_iff_iff,Bool.and_eq_true,PX,PX,decide_eq_true_eq,decide_eq_true_eq,decide_eq_true_eq];constructor
 ·intro h
  refine⟨fun j hj=>?_,?_⟩
  ·have:=h j (by omega)
   rwa [setC_c _ _ _ _ (by omega),if_neg (by omega)] at this
  ·have:=h n (by omega)
   rwa [setC_c _ _ _ _ hn,if_pos rfl] at this
 ·rintro⟨h1,h2⟩ j hj
  rw[setC_c _ _ _ _ (by omega)];by_cases hjn:j=n
  ·subst hjn;rw[if_pos rfl];exact h2
  ·rw[if_neg hjn];exact h1 j (by omega)
theorem row_find {A:Au} {at_ n T:Nat} {x y:Mv} {c:Cf} (hn:n < 4) (h1:1≤loX A at_ x y n) (h2:hiX A at_ x y n≤T) :
  (rowF n T c).find? (PX A at_ x y (n+1))=if PX A at_ x y n c then (if loX A at_ x y n > hiX A at_ x y n then none else some (c.setC n (loX A at_ x y n))) else none:=by
 rw[rowF,find_map];have e1:(fun k:Nat=>PX A at_ x y (n+1) (c.setC n ((k+1:Nat):Int)))=fun k:Nat=>PX A at_ x y n c&&decide (loX A at_ x y n≤((k+1:Nat):Int)∧((k+1:Nat):Int)≤hiX A at_ x y n):=funext fun k=>PX_set hn;rw[e1];cases PX A at_ x y n c with
 | false =>
  simp only[Bool.false_and,Bool.false_eq_true,if_false];rw[List.find?_eq_none.2 (by simp)];rfl
 | true =>
  simp only[Bool.true_and,if_true];by_cases hgt:loX A at_ x y n > hiX A at_ x y n
  ·rw[if_pos hgt,List.find?_eq_none.2 (by intro k _;simp;omega)];rfl
  ·rw[if_neg hgt];obtain⟨m,hm⟩:∃ m:Nat,loX A at_ x y n=((m+1:Nat):Int):=⟨(loX A at_ x y n - 1).toNat,by omega⟩;have hf:(List.range T).find? (fun k:Nat=>decide (loX A at_ x y n≤((k+1:Nat):Int)∧((k+1:Nat):Int)≤hiX A at_ x y n))=some m:=by
    rw[List.find?_range_eq_some]
    refine⟨by simp only[decide_eq_true_eq];omega,List.mem_range.2 (by omega),fun j hj=>?_⟩
    simp only[Bool.not_eq_true',decide_eq_false_iff_not];omega
   rw[hf,Option.map_some,hm]
theorem all_find {A:Au} (hW:WF A) {at_ most:Nat} (hla:at_ < A.around.length) (x y:Mv):∀ (n:Nat) (out:List Cf),n≤(arAt A at_).length→allN A at_ most n=some out→out.find? (PX A at_ x y n)=agN A at_ x y n
 | 0,out,_,h=>by
  rw[allN] at h;cases h;rw[agN,List.find?_cons]
  have:PX A at_ x y 0 ⟨at_,0,0,0,0⟩=true:=by rw[PX,decide_eq_true_eq];intro j hj;omega
  rw[this]
 | n+1,out,hn,h=>by
  have ha4:(arAt A at_).length≤4:=hW.a4 _ (arAt_mem hla);rw[allN] at h;cases hp:allN A at_ most n with
  | none=>rw[hp] at h;cases h
  | some prev =>
   rw[hp] at h;dsimp only at h;split at h
   ·cases h
   ·cases h;have ih:=all_find hW hla x y n prev (by omega) hp;have hok:=scD_ok hW hla (j:=n) (by omega);obtain⟨t1,t2,t3⟩:=topS_ok hok;have s1:=span_ok hok n x;have s2:=span_ok hok n y;have hlo:1≤loX A at_ x y n:=by unfold loX;split<;>omega
    have hhi:hiX A at_ x y n≤((topS (scD A at_ n)).toNat:Int):=by unfold hiX;split<;>omega
    have e1:(scAt A at_)[n]?.getD (0,0)=scD A at_ n:=rfl;rw[find_flat,e1];have e2:(fun a=>(rowF n (topS (scD A at_ n)).toNat a).find? (PX A at_ x y (n+1)))=fun a=>if PX A at_ x y n a then (if loX A at_ x y n > hiX A at_ x y n then none else some (a.setC n (loX A at_ x y n))) else none:=funext fun a=>row_find (by omega) hlo hhi
    rw[e2,fs_if (PX A at_ x y n) (fun a=>if loX A at_ x y n > hiX A at_ x y n then none else some (a.setC n (loX A at_ x y n))) (!decide (loX A at_ x y n > hiX A at_ x y n)) (fun a=>by by_cases h:loX A at_ x y n > hiX A at_ x y n<;>simp [h]),ih,agN];cases agN A at_ x y n<;>rfl
theorem may_iff {A:Au} (hW:WF A) {at_:Nat} (hla:at_ < A.around.length) {c:Cf} (hr:rightB A c=true) (hc:c.p=at_) {m:Mv} (hm:MvOk A at_ m) :
  (mayF A c m).isSome=true↔∀ j,j < (arAt A at_).length→(spanF (scD A at_ j) j m).1≤c.c j∧c.c j≤(spanF (scD A at_ j) j m).2:=by
 have hp:c.p.toNat=at_:=by rw[hc];rfl
 have ha4:(arAt A at_).length≤4:=hW.a4 _ (arAt_mem hla);have hl:(scAt A at_).length=(arAt A at_).length:=by simp [scAt]
 obtain⟨_,_,hri⟩:=rightB_iff.1 hr;rw[hp] at hri;have hin:∀ j,j < (arAt A at_).length→1≤c.c j∧c.c j≤topS (scD A at_ j):=fun j hj=>by
  have:=hri j (by omega)
  rw[okAt_lt (by rw[hl];exact hj)] at this;rw[scD,List.getElem?_eq_getElem (by rw[hl];exact hj)];simpa using this
 have hlv:∀ k,leavesL ((scAt A at_).drop k) ((cl4 c).drop k)=true↔∀ j,k≤j→j < (arAt A at_).length→(scD A at_ j).1≤c.c j:=fun k=>by
  rw[leavesL,decide_eq_true_eq];constructor
  ·intro h j hkj hj
   have:=h (j - k) (by rw[List.length_drop,hl];omega)
   rw[low,List.getElem?_drop,List.getElem?_drop,show k+(j - k)=j by omega,cl4_get c (by omega)] at this;exact this
  ·intro h j hj;rw[List.length_drop,hl] at hj;rw[low,List.getElem?_drop,List.getElem?_drop,cl4_get c (by omega)];exact h (k+j) (by omega) (by omega)
 have hsc:∀ j,j < (arAt A at_).length→scOk (scD A at_ j):=fun j hj=>scD_ok hW hla hj;have hkp:=hm.keep;unfold lft at hkp;rw[mayF,hp];cases hag:m.again with
 | false =>
  simp only[Bool.false_eq_true,if_false];have e1:(if leavesL ((scAt A at_).drop m.keep) ((cl4 c).drop m.keep)=true then some (enterF A m.to ((cl4 c).take m.keep)) else none).isSome=true↔leavesL ((scAt A at_).drop m.keep) ((cl4 c).drop m.keep)=true:=by
   split<;>simp_all
  rw[e1,hlv];constructor
  ·intro h j hj;have h1:=hin j hj;have h2:=hsc j hj;have h3:=fun hk=>h j hk hj;unfold spanF;unfold topS at h1;unfold scOk at h2;rw[hag];simp only[Bool.false_eq_true,and_false,false_and,if_false,or_false];split<;>split<;>(try split at h1)<;>omega
  ·intro h j hk hj
   have:=h j hj
   unfold spanF at this;rw[hag] at this;simp only[Bool.false_eq_true,and_false,false_and,if_false,or_false] at this;rw[if_neg (by omega)] at this;exact this.1
 | true =>
  rw[hag] at hkp;simp only[if_true] at hkp ⊢;have hk:m.keep < (arAt A at_).length:=by omega
  have hsk:=hsc _ hk;have e0:((scAt A at_)[m.keep]?).getD (0,0)=scD A at_ m.keep:=rfl;rw[e0];have es:(spanF (scD A at_ m.keep) m.keep m).2=if (scD A at_ m.keep).2 = -1 then (scD A at_ m.keep).1 else (scD A at_ m.keep).2 - 1:=by
   unfold spanF;rw[hag];by_cases h:(scD A at_ m.keep).2 = -1<;>simp [h]
  have hnx:(nextS (scD A at_ m.keep) (c.c m.keep)).isSome=true↔c.c m.keep≤(spanF (scD A at_ m.keep) m.keep m).2:=by
   have h1:=hin _ hk;rw[es];unfold nextS;unfold topS at h1;unfold scOk at hsk;by_cases hneg:(scD A at_ m.keep).2 = -1
   ·rw[if_pos (by omega)] at h1;rw[if_pos (by omega),if_pos hneg];simp only[Option.isSome_some,true_iff];exact h1.2
   ·rw[if_neg (by omega),if_neg hneg];by_cases hge:c.c m.keep≥(scD A at_ m.keep).2
    ·rw[if_pos hge];simp only[Option.isSome_none,Bool.false_eq_true,false_iff];omega
    ·rw[if_neg hge];simp only[Option.isSome_some,true_iff];omega
  cases hn:nextS (scD A at_ m.keep) (c.c m.keep) with
  | none =>
   rw[hn] at hnx;simp only[Option.isSome_none,Bool.false_eq_true,false_iff] at hnx ⊢;intro h;exact hnx (h _ hk).2
  | some n =>
   rw[hn] at hnx;have hnx:c.c m.keep≤(spanF (scD A at_ m.keep) m.keep m).2:=hnx.1 rfl;dsimp only;have e1:(if leavesL ((scAt A at_).drop (m.keep+1)) ((cl4 c).drop (m.keep+1))=true then some (enterF A m.to ((cl4 c).take m.keep++[n])) else none).isSome=true↔leavesL ((scAt A at_).drop (m.keep+1)) ((cl4 c).drop (m.keep+1))=true:=by
    split<;>simp_all
   rw[e1,hlv];constructor
   ·intro h j hj;by_cases hjk:j=m.keep
    ·subst hjk
     refine⟨?_,hnx⟩
     have h1:=hin _ hj;unfold spanF;rw[hag];simp only[true_and];rw[if_pos (.inr trivial)];exact h1.1
    ·have h1:=hin j hj;have h2:=hsc j hj;have h3:=fun hk=>h j hk hj;unfold spanF;unfold topS at h1;unfold scOk at h2;rw[hag];simp only[hjk,false_and,if_false,or_false];split<;>split<;>(try split at h1)<;>omega
   ·intro h j hkj hj
    have:=h j hj
    unfold spanF at this;rw[hag] at this;have hjk:¬ j=m.keep:=by omega
    simp only[hjk,false_and,if_false,or_false] at this;rw[if_neg (by omega)] at this;exact this.1
theorem both_agree {A:Au} (hW:WF A) {at_ most:Nat} (h1:1≤at_) (hla:at_ < A.around.length) {l:List Cf} (h:allF A at_ most=some l) {x y:Mv} (hx:MvOk A at_ x) (hy:MvOk A at_ y):bothF A l x y=agreeF A at_ x y:=by
 rw[agreeF,← all_find hW hla x y _ l (Nat.le_refl _) h,bothF];refine find_congr fun c hc=>?_;obtain⟨g1,g2⟩:=all_right hW h1 hla h c hc;rw[Bool.eq_iff_iff,Bool.and_eq_true,may_iff hW hla g1 g2 hx,may_iff hW hla g1 g2 hy,PX,decide_eq_true_eq];constructor
 ·rintro⟨a,b⟩ j hj
  have:=a j hj
  have:=b j hj
  unfold loX hiX;split<;>split<;>omega
 ·intro a
  refine⟨fun j hj=>?_,fun j hj=>?_⟩ <;>
  ·have:=a j hj
   unfold loX hiX at this;split at this<;>split at this<;>omega
end Go.Proofs.YtgiedknghbpdfaaDoor
namespace Go.Proofs.YtgiedknghbpdfaaDoor
set_option linter.all false
attribute [-go_sem] swpOb renOb rfOb V.cells
def rbh1 (A:Au) (l:List Cf) (x y:Mv):Option Fk:=match shB A x.to y.to,bothF A l x y with
 | some b,some c=>if x.to≠y.to then some (c,x.to,y.to,b) else none
 | _,_=>none
def rfA (A:Au):Nat→Nat→Option Fk × Bool
 | 0,_=>(none,true)
 | n+1,at_=>match allF A at_ 300 with
  | none=>(none,false)
  | some l=>match prF (rbh1 A l) (mvAt A at_) with
   | some f=>(some f,true)
   | none=>rfA A n (at_+1)
def rfindF (A:Au):Option Fk × Bool:=match firstF A with
 | some f=>(some f,true)
 | none=>rfA A (A.moves.length - 1) 1
def rfV (r:Option Fk × Bool):V:=.tp [.ag (fkL r.1),.bo r.1.isSome,.bo r.2]
theorem mv_ok {A:Au} (hW:WF A) {at_:Nat} {m:Mv} (h1:at_ < A.moves.length) (h:m∈mvAt A at_):MvOk A at_ m:=mvOk hW (mo_get h1) h
end Go.Proofs.YtgiedknghbpdfaaDoor
namespace Go.Proofs.YtgiedknghbpdfaaDoor
set_option linter.all false
theorem all_len {A:Au} {at_ most:Nat} (hm:most≤1000):∀ (n:Nat) (out:List Cf),allN A at_ most n=some out→out.length≤1000
 | 0,out,h=>by rw[allN] at h;cases h;simp
 | n+1,out,h=>by
  rw[allN] at h;cases hp:allN A at_ most n with
  | none=>rw[hp] at h;cases h
  | some prev =>
   rw[hp] at h;dsimp only at h;generalize topS ((scAt A at_)[n]?.getD (0,0))=top at h;split at h
   ·cases h
   ·rename_i hc;cases h;rw[flat_len];rcases Int.le_total 0 top with h0|h0
    ·obtain⟨T,rfl⟩:∃ T:Nat,top=(T:Int):=⟨top.toNat,by omega⟩;rw[Int.toNat_natCast];have hcast:(prev.length:Int)*(T:Int)=((prev.length*T:Nat):Int):=by push_cast;rfl
     rw[hcast] at hc;omega
    ·rw[Int.toNat_eq_zero.2 h0,Nat.mul_zero];omega
end Go.Proofs.YtgiedknghbpdfaaDoor
namespace Go.Proofs.YtgiedknghbpdfaaDoor
set_option linter.all false
theorem spl_fk8 (r:Option Fk) (a b c d e f g h:V):splice 0 (fkL r) [a,b,c,d,e,f,g,h]=fkL r:=spl_fk r _ rfl
theorem okf_fk (r:Option Fk):okf FZ (.ag (fkL r))=true:=by rcases r with _|⟨c,p,q,b⟩<;>rfl
theorem fk_eqV (r:Option Fk):eqV true [.i .i64,.i .i64,.i .i64,.i .i64,.i .i64,.i .i64,.i .i64,.i .u8] (.ag (fkL r)) (.ag (fkL r))=some true:=by
 rcases r with _|⟨⟨a,b,c,d,e⟩,p,q,x⟩
 ·rfl
 ·simp [fkL,cfC,eqV,eqps,lfEq,V.isAg,V.cells]
attribute [go_sem] fk_len fk_tk fk_cl fk_sw spl_fk8 okf_fk fk_eqV
def fkT:Nd:=.mk 2 zSet [.mk 4 zSet [twoT] 2 3,twoT] 0 0
def fkR:Option Fk:=some (⟨1,2,0,0,0⟩,1,2,1)
theorem zSet_w:W64 zSet:=fun j _=>by simp [zSet]
theorem fk_ok:okN fkT:=⟨⟨zSet_w,by simp,⟨zSet_w,by simp,two_ok.1,trivial⟩,two_ok.1,trivial⟩,rfl⟩
theorem fk_simple:simpleN fkT=fkT:=by rfl
theorem fk_wk:wk fkT 0 0 []=⟨[1],[2],false,2,[((1,⟨1,0,true⟩),1),((1,⟨2,0,false⟩),1)]⟩:=rfl
theorem fk_pl:plT fkT=⟨[zSet,twoS,twoS],[(2,3)],[[],[0],[]]⟩:=rfl
theorem fk_wf:WF (makeT fkT):=makeT_wf _ rfl fk_ok.1 rfl
theorem fk_auto:Pu F 6 [.ag (cel fkT)] (.tp [.ag (auC (makeT fkT)),.bo true]):=by
 have:=auto_of fkT fk_ok.1 (by decide) (make_ok fkT fk_ok (by decide) rfl)
 rw[fk_simple] at this;exact this
theorem fk_first:(makeT fkT).first=[1]:=by
 have h1:srtN [1]=[1]:=by simp [srtN]
 simp only[makeT,fk_wk,h1]
theorem fk_mv0:mvAt (makeT fkT) 0=[]:=by
 have:movesOf [((1,(⟨1,0,true⟩:Mv)),(1:Int)),((1,⟨2,0,false⟩),1)] 0=[]:=rfl
 simp [mvAt,makeT,fk_wk,fk_pl,this,srtM]
theorem fk_mv1:mvAt (makeT fkT) 1=[⟨1,0,true⟩,⟨2,0,false⟩]:=by
 have h0:movesOf [((1,(⟨1,0,true⟩:Mv)),(1:Int)),((1,⟨2,0,false⟩),1)] 1=[⟨1,0,true⟩,⟨2,0,false⟩]:=rfl;have h1:srtM [⟨1,0,true⟩,⟨2,0,false⟩]=[⟨1,0,true⟩,⟨2,0,false⟩]:=List.mergeSort_of_pairwise (by simp [mvCmp]);simp only[mvAt,makeT,fk_wk,fk_pl,List.getElem?_map,List.length_cons,List.length_nil,List.getElem?_range,Option.map_some,Option.getD_some,h0,h1];simp [h0,h1]
theorem fk_sh:shB (makeT fkT) 1 2=some 1:=leastF_some (by omega) rfl fun j hj=>by
 have:j=0:=by omega
 subst this;rfl
theorem fk_ag:agreeF (makeT fkT) 1 ⟨1,0,true⟩ ⟨2,0,false⟩=some ⟨1,2,0,0,0⟩:=rfl
theorem fk_find:findF (makeT fkT)=fkR:=by
 have h1:firstF (makeT fkT)=none:=by rw[firstF,fk_first];rfl
 have h2:(makeT fkT).moves.length=3:=rfl;have h3:behindF (makeT fkT) 0=none:=by rw[behindF,fk_mv0];rfl
 have h4:behindF (makeT fkT) 1=fkR:=by
  have e1:bhd1 (makeT fkT) 1 ⟨1,0,true⟩ ⟨2,0,false⟩=fkR:=by
   rw[bhd1,fk_sh,fk_ag];rfl
  rw[behindF,fk_mv1,prF,List.findSome?_cons,e1];rfl
 rw[findF,h1,h2,Option.none_or];show List.findSome? _ [0,1,2]=_;rw[List.findSome?_cons,h3,List.findSome?_cons,h4];rfl
set_option maxHeartbeats 2000000 in
theorem fawake_pu:Pu F 5 [] (.bo true):=by
 have hA:=fk_auto;have hF:=find_pu fk_wf (by rw[fk_first];simp) (fun l hl=>by
  have:=makeT_len fkT (by decide) l hl
  exact this)
 rw[fk_find] at hF;have hF:Pu F 7 [.ag (auC (makeT fkT))] (.tp [.ag [.i .i64 1,.i .i64 2,.i .i64 0,.i .i64 0,.i .i64 0,.i .i64 1,.i .i64 2,.i .u8 1],.bo true]):=hF;have hcel:V.ag (cel fkT)=.ag [.i .i64 2,.i .u64 0,.i .u64 0,.i .u64 0,.i .u64 0,.sl [[.i .i64 4,.i .u64 0,.i .u64 0,.i .u64 0,.i .u64 0,.sl [[.i .i64 1,.i .u64 2,.i .u64 0,.i .u64 0,.i .u64 0,.sl [],.i .i64 0,.i .i64 0]],.i .i64 2,.i .i64 3],[.i .i64 1,.i .u64 2,.i .u64 0,.i .u64 0,.i .u64 0,.sl [],.i .i64 0,.i .i64 0]],.i .i64 0,.i .i64 0]:=rfl;rw[hcel] at hA;generalize makeT fkT=A at hA hF;refine U_pure e5 rfl rfl (by simp only[go_sem,Bool.and_true]) ?_;dsimp only[fn5,c5];(repeat (with_reducible (first|refine U_nil ?_|refine UC_sq ?_|refine UC_rg ?_|refine X_nx ?_|((first|refine U_q (v:=?_) ?h1 ?_|refine U_ld (v:=?_) ?h1 ?_|refine U_alc (n:=?_) ?h1 ?_);case h1=>((try simp only[List.take_succ_cons,List.take_zero,List.drop_succ_cons,List.drop_zero,go_sem])<;>rfl))|(refine U_sto (id:=?_) (i:=?_) (j:=?_) (q:=?_) (es:=?_) (cs:=?_) (vs:=?_) (es':=?_) ?h1 ?h2 ?h3 ?h4 ?h5 ?h6 ?h7 ?_;case h1|h2|h3|h4|h5|h6|h7=>((try simp only[List.take_succ_cons,List.take_zero,List.drop_succ_cons,List.drop_zero,go_sem])<;>rfl)))));refine U_q (v:=.sl [[.i .i64 1,.i .u64 2,.i .u64 0,.i .u64 0,.i .u64 0,.sl [],.i .i64 0,.i .i64 0]]) (by (simp only[litV,List.take_succ_cons,List.take_zero,List.drop_succ_cons,List.drop_zero,go_sem]<;>rfl)) ?_;(repeat (with_reducible (first|((first|refine U_q (v:=?_) ?h1 ?_|refine U_ld (v:=?_) ?h1 ?_);case h1=>((try simp only[List.take_succ_cons,List.take_zero,List.drop_succ_cons,List.drop_zero,go_sem])<;>rfl)))));refine U_q (v:=.sl [[.i .i64 4,.i .u64 0,.i .u64 0,.i .u64 0,.i .u64 0,.sl [[.i .i64 1,.i .u64 2,.i .u64 0,.i .u64 0,.i .u64 0,.sl [],.i .i64 0,.i .i64 0]],.i .i64 2,.i .i64 3],[.i .i64 1,.i .u64 2,.i .u64 0,.i .u64 0,.i .u64 0,.sl [],.i .i64 0,.i .i64 0]]) (by (simp only[litV,List.take_succ_cons,List.take_zero,List.drop_succ_cons,List.drop_zero,go_sem]<;>rfl)) ?_;(repeat (with_reducible (first|(refine U_q (v:=?_) ?h1 ?_;case h1=>((try simp only[List.take_succ_cons,List.take_zero,List.drop_succ_cons,List.drop_zero,go_sem])<;>rfl)))));refine U_pc (ws:=[.ag [.i .i64 2,.i .u64 0,.i .u64 0,.i .u64 0,.i .u64 0,.sl [[.i .i64 4,.i .u64 0,.i .u64 0,.i .u64 0,.i .u64 0,.sl [[.i .i64 1,.i .u64 2,.i .u64 0,.i .u64 0,.i .u64 0,.sl [],.i .i64 0,.i .i64 0]],.i .i64 2,.i .i64 3],[.i .i64 1,.i .u64 2,.i .u64 0,.i .u64 0,.i .u64 0,.sl [],.i .i64 0,.i .i64 0]],.i .i64 0,.i .i64 0]]) (Zr0) rfl (Bool.or_eq_true_iff.2 (.inl ?_)) ?_ hA ?_
 ·rfl
 ·simp only[Bool.and_true,go_sem]
 (repeat (with_reducible (first|refine U_nil ?_|refine UC_sq ?_|refine UC_rg ?_|refine X_nx ?_|((first|refine U_q (v:=?_) ?h1 ?_|refine U_ld (v:=?_) ?h1 ?_|refine U_alc (n:=?_) ?h1 ?_);case h1=>((try simp only[List.take_succ_cons,List.take_zero,List.drop_succ_cons,List.drop_zero,go_sem])<;>rfl))|(refine U_sto (id:=?_) (i:=?_) (j:=?_) (q:=?_) (es:=?_) (cs:=?_) (vs:=?_) (es':=?_) ?h1 ?h2 ?h3 ?h4 ?h5 ?h6 ?h7 ?_;case h1|h2|h3|h4|h5|h6|h7=>((try simp only[List.take_succ_cons,List.take_zero,List.drop_succ_cons,List.drop_zero,go_sem])<;>rfl)))))
 (refine U_pcr (r:=.tp [.ag [.i .i64 1,.i .i64 2,.i .i64 0,.i .i64 0,.i .i64 0,.i .i64 1,.i .i64 2,.i .u8 1],.bo true]) hF ?h1 ?h2 rfl ?_;(case h1=>((try simp only[List.take_succ_cons,List.take_zero,List.drop_succ_cons,List.drop_zero,go_sem])<;>rfl));(case h2=>simp only[List.all_cons,List.all_nil,Bool.and_true,go_sem]))
 (repeat (with_reducible (first|refine U_nil ?_|refine UC_sq ?_|refine UC_rg ?_|refine UC_rt ?_|refine X_nx ?_|((first|refine U_q (v:=?_) ?h1 ?_|refine U_ld (v:=?_) ?h1 ?_|refine E_1 (v:=?_) ?h1 ?_|refine U_alc (n:=?_) ?h1 ?_|refine U_gt ?h1 ?_);case h1=>((try simp only[List.take_succ_cons,List.take_zero,List.drop_succ_cons,List.drop_zero,go_sem])<;>rfl))|(refine U_sto (id:=?_) (i:=?_) (j:=?_) (q:=?_) (es:=?_) (cs:=?_) (vs:=?_) (es':=?_) ?h1 ?h2 ?h3 ?h4 ?h5 ?h6 ?h7 ?_;case h1|h2|h3|h4|h5|h6|h7=>((try simp only[List.take_succ_cons,List.take_zero,List.drop_succ_cons,List.drop_zero,go_sem])<;>rfl)))));rfl
end Go.Proofs.YtgiedknghbpdfaaDoor
