import Derived.Test.YtkmanhmdppfaiaaGreatDoorKf

namespace Go.Proofs.YtkmanhmdppfaiaaGreatDoor
set_option linter.all false
def scD (A:Au) (at_ j:Nat):Int × Int:=(scAt A at_)[j]?.getD (0,0)
def loX (A:Au) (at_:Nat) (x y:Mv) (j:Nat):Int:=if (spanF (scD A at_ j) j x).1 < (spanF (scD A at_ j) j y).1 then (spanF (scD A at_ j) j y).1 else (spanF (scD A at_ j) j x).1
def hiX (A:Au) (at_:Nat) (x y:Mv) (j:Nat):Int:=if (spanF (scD A at_ j) j y).2 < (spanF (scD A at_ j) j x).2 then (spanF (scD A at_ j) j y).2 else (spanF (scD A at_ j) j x).2
def PX (A:Au) (at_:Nat) (x y:Mv) (n:Nat) (c:Cf):Bool:=decide (∀ j,j < n→loX A at_ x y j≤c.c j∧c.c j≤hiX A at_ x y j)
theorem scD_ok {A:Au} (hW:WF A) {at_ j:Nat} (hla:at_ < A.around.length) (hj:j < (arAt A at_).length):scOk (scD A at_ j):=by
 have hs:(arAt A at_)[j] < A.scopes.length:=hW.ai _ (arAt_mem hla) _ (List.getElem_mem hj)
 have:scD A at_ j=scI A (arAt A at_)[j]:=by simp [scD,scAt,List.getElem?_eq_getElem hj]
 rw[this,scI,List.getElem?_eq_getElem hs];exact hW.sc _ (List.getElem_mem hs)
theorem may_iff {A:Au} (hW:WF A) {at_:Nat} (hla:at_ < A.around.length) {c:Cf} (hr:rightB A c=true) (hc:c.p=at_) {m:Mv} (hm:MvOk A at_ m) :
  (mayF A c m).isSome=true↔∀ j,j < (arAt A at_).length→(spanF (scD A at_ j) j m).1≤c.c j∧c.c j≤(spanF (scD A at_ j) j m).2:=by
 have hp:c.p.toNat=at_:=by rw[hc];rfl
 have ha4:(arAt A at_).length≤4:=hW.a4 _ (arAt_mem hla);have hl:(scAt A at_).length=(arAt A at_).length:=by simp [scAt]
 obtain⟨_,_,hri⟩:=rightB_iff.1 hr;rw[hp] at hri;have hin:∀ j,j < (arAt A at_).length→1≤c.c j∧c.c j≤topS (scD A at_ j):=fun j hj=>by
  have:=hri j (by omega)
  rw[okAt_lt (by rw[hl];exact hj)] at this;rw[scD,List.getElem?_eq_getElem (by rw[hl];exact hj)];simpa using this
 have hlv:∀ k,leavesL ((scAt A at_).drop k) ((cl4 c).drop k)=true↔∀ j,k≤j→j < (arAt A at_).length→(scD A at_ j).1≤c.c j:=fun k=>by
  rw[leavesL,decide_eq_true_eq];constructor
  ·intro h j hkj hj
   have:=h (j - k) (by rw[List.length_drop,hl];omega)
   rw[low,List.getElem?_drop,List.getElem?_drop,show k+(j - k)=j by omega,cl4_get c (by omega)] at this;exact this
  ·intro h j hj;rw[List.length_drop,hl] at hj;rw[low,List.getElem?_drop,List.getElem?_drop,cl4_get c (by omega)];exact h (k+j) (by omega) (by omega)
 have hsc:∀ j,j < (arAt A at_).length→scOk (scD A at_ j):=fun j hj=>scD_ok hW hla hj;have hkp:=hm.keep;unfold lft at hkp;rw[mayF,hp];cases hag:m.again with
 | false =>
  simp only[Bool.false_eq_true,if_false];have e1:(if leavesL ((scAt A at_).drop m.keep) ((cl4 c).drop m.keep)=true then some (enterF A m.to ((cl4 c).take m.keep)) else none).isSome=true↔leavesL ((scAt A at_).drop m.keep) ((cl4 c).drop m.keep)=true:=by
   split<;>simp_all
  rw[e1,hlv];constructor
  ·intro h j hj;have h1:=hin j hj;have h2:=hsc j hj;have h3:=fun hk=>h j hk hj;unfold spanF;unfold topS at h1;unfold scOk at h2;rw[hag];simp only[Bool.false_eq_true,and_false,false_and,if_false,or_false];split<;>split<;>(try split at h1)<;>omega
  ·intro h j hk hj
   have:=h j hj
   unfold spanF at this;rw[hag] at this;simp only[Bool.false_eq_true,and_false,false_and,if_false,or_false] at this;rw[if_neg (by omega)] at this;exact this.1
 | true =>
  rw[hag] at hkp;simp only[if_true] at hkp ⊢;have hk:m.keep < (arAt A at_).length:=by omega
  have hsk:=hsc _ hk;have e0:((scAt A at_)[m.keep]?).getD (0,0)=scD A at_ m.keep:=rfl;rw[e0];have es:(spanF (scD A at_ m.keep) m.keep m).2=if (scD A at_ m.keep).2 = -1 then (scD A at_ m.keep).1 else (scD A at_ m.keep).2 - 1:=by
   unfold spanF;rw[hag];by_cases h:(scD A at_ m.keep).2 = -1<;>simp [h]
  have hnx:(nextS (scD A at_ m.keep) (c.c m.keep)).isSome=true↔c.c m.keep≤(spanF (scD A at_ m.keep) m.keep m).2:=by
   have h1:=hin _ hk;rw[es];unfold nextS;unfold topS at h1;unfold scOk at hsk;by_cases hneg:(scD A at_ m.keep).2 = -1
   ·rw[if_pos (by omega)] at h1;rw[if_pos (by omega),if_pos hneg];simp only[Option.isSome_some,true_iff];exact h1.2
   ·rw[if_neg (by omega),if_neg hneg];by_cases hge:c.c m.keep≥(scD A at_ m.keep).2
    ·rw[if_pos hge];simp only[Option.isSome_none,Bool.false_eq_true,false_iff];omega
    ·rw[if_neg hge];simp only[Option.isSome_some,true_iff];omega
  cases hn:nextS (scD A at_ m.keep) (c.c m.keep) with
  | none =>
   rw[hn] at hnx;simp only[Option.isSome_none,Bool.false_eq_true,false_iff] at hnx ⊢;intro h;exact hnx (h _ hk).2
  | some n =>
   rw[hn] at hnx;have hnx:c.c m.keep≤(spanF (scD A at_ m.keep) m.keep m).2:=hnx.1 rfl;dsimp only;have e1:(if leavesL ((scAt A at_).drop (m.keep+1)) ((cl4 c).drop (m.keep+1))=true then some (enterF A m.to ((cl4 c).take m.keep++[n])) else none).isSome=true↔leavesL ((scAt A at_).drop (m.keep+1)) ((cl4 c).drop (m.keep+1))=true:=by
    split<;>simp_all
   rw[e1,hlv];constructor
   ·intro h j hj;by_cases hjk:j=m.keep
    ·subst hjk
     refine⟨?_,hnx⟩
     have h1:=hin _ hj;unfold spanF;rw[hag];simp only[true_and];rw[if_pos (.inr trivial)];exact h1.1
    ·have h1:=hin j hj;have h2:=hsc j hj;have h3:=fun hk=>h j hk hj;unfold spanF;unfold topS at h1;unfold scOk at h2;rw[hag];simp only[hjk,false_and,if_false,or_false];split<;>split<;>(try split at h1)<;>omega
   ·intro h j hkj hj
    have:=h j hj
    unfold spanF at this;rw[hag] at this;have hjk:¬ j=m.keep:=by omega
    simp only[hjk,false_and,if_false,or_false] at this;rw[if_neg (by omega)] at this;exact this.1
end Go.Proofs.YtkmanhmdppfaiaaGreatDoor
namespace Go.Proofs.YtkmanhmdppfaiaaGreatDoor
set_option linter.all false
attribute [-go_sem] swpOb renOb rfOb V.cells
def rbh1 (A:Au) (l:List Cf) (x y:Mv):Option Fk:=match shB A x.to y.to,bothF A l x y with
 | some b,some c=>if x.to≠y.to then some (c,x.to,y.to,b) else none
 | _,_=>none
def rfA (A:Au):Nat→Nat→Option Fk × Bool
 | 0,_=>(none,true)
 | n+1,at_=>match allF A at_ 300 with
  | none=>(none,false)
  | some l=>match prF (rbh1 A l) (mvAt A at_) with
   | some f=>(some f,true)
   | none=>rfA A n (at_+1)
def rfindF (A:Au):Option Fk × Bool:=match firstF A with
 | some f=>(some f,true)
 | none=>rfA A (A.moves.length - 1) 1
def rfV (r:Option Fk × Bool):V:=.tp [.ag (fkL r.1),.bo r.1.isSome,.bo r.2]
theorem mv_ok {A:Au} (hW:WF A) {at_:Nat} {m:Mv} (h1:at_ < A.moves.length) (h:m∈mvAt A at_):MvOk A at_ m:=mvOk hW (mo_get h1) h
end Go.Proofs.YtkmanhmdppfaiaaGreatDoor
namespace Go.Proofs.YtkmanhmdppfaiaaGreatDoor
set_option linter.all false
end Go.Proofs.YtkmanhmdppfaiaaGreatDoor
namespace Go.Proofs.YtkmanhmdppfaiaaGreatDoor
set_option linter.all false
theorem spl_fk8 (r:Option Fk) (a b c d e f g h:V):splice 0 (fkL r) [a,b,c,d,e,f,g,h]=fkL r:=spl_fk r _ rfl
theorem okf_fk (r:Option Fk):okf FZ (.ag (fkL r))=true:=by rcases r with _|⟨c,p,q,b⟩<;>rfl
theorem fk_eqV (r:Option Fk):eqV true [.i .i64,.i .i64,.i .i64,.i .i64,.i .i64,.i .i64,.i .i64,.i .u8] (.ag (fkL r)) (.ag (fkL r))=some true:=by
 rcases r with _|⟨⟨a,b,c,d,e⟩,p,q,x⟩
 ·rfl
 ·simp [fkL,cfC,eqV,eqps,lfEq,V.isAg,V.cells]
attribute [go_sem] fk_len fk_tk fk_cl fk_sw spl_fk8 okf_fk fk_eqV
def fkT:Nd:=.mk 2 zSet [.mk 4 zSet [twoT] 2 3,twoT] 0 0
def fkR:Option Fk:=some (⟨1,2,0,0,0⟩,1,2,1)
theorem zSet_w:W64 zSet:=fun j _=>by simp [zSet]
theorem fk_ok:okN fkT:=⟨⟨zSet_w,by simp,⟨zSet_w,by simp,two_ok.1,trivial⟩,two_ok.1,trivial⟩,rfl⟩
theorem fk_simple:simpleN fkT=fkT:=by rfl
theorem fk_wk:wk fkT 0 0 []=⟨[1],[2],false,2,[((1,⟨1,0,true⟩),1),((1,⟨2,0,false⟩),1)]⟩:=rfl
theorem fk_pl:plT fkT=⟨[zSet,twoS,twoS],[(2,3)],[[],[0],[]]⟩:=rfl
theorem fk_wf:WF (makeT fkT):=makeT_wf _ rfl fk_ok.1 rfl
theorem fk_auto:Pu F 6 [.ag (cel fkT)] (.tp [.ag (auC (makeT fkT)),.bo true]):=by
 have:=auto_of fkT fk_ok.1 (by decide) (make_ok fkT fk_ok (by decide) rfl)
 rw[fk_simple] at this;exact this
theorem fk_first:(makeT fkT).first=[1]:=by
 have h1:srtN [1]=[1]:=by simp [srtN]
 simp only[makeT,fk_wk,h1]
theorem fk_mv0:mvAt (makeT fkT) 0=[]:=by
 have:movesOf [((1,(⟨1,0,true⟩:Mv)),(1:Int)),((1,⟨2,0,false⟩),1)] 0=[]:=rfl
 simp [mvAt,makeT,fk_wk,fk_pl,this,srtM]
theorem fk_mv1:mvAt (makeT fkT) 1=[⟨1,0,true⟩,⟨2,0,false⟩]:=by
 have h0:movesOf [((1,(⟨1,0,true⟩:Mv)),(1:Int)),((1,⟨2,0,false⟩),1)] 1=[⟨1,0,true⟩,⟨2,0,false⟩]:=rfl;have h1:srtM [⟨1,0,true⟩,⟨2,0,false⟩]=[⟨1,0,true⟩,⟨2,0,false⟩]:=List.mergeSort_of_pairwise (by simp [mvCmp]);simp only[mvAt,makeT,fk_wk,fk_pl,List.getElem?_map,List.length_cons,List.length_nil,List.getElem?_range,Option.map_some,Option.getD_some,h0,h1];simp [h0,h1]
theorem fk_sh:shB (makeT fkT) 1 2=some 1:=leastF_some (by omega) rfl fun j hj=>by
 have:j=0:=by omega
 subst this;rfl
theorem fk_ag:agreeF (makeT fkT) 1 ⟨1,0,true⟩ ⟨2,0,false⟩=some ⟨1,2,0,0,0⟩:=rfl
theorem fk_find:findF (makeT fkT)=fkR:=by
 have h1:firstF (makeT fkT)=none:=by rw[firstF,fk_first];rfl
 have h2:(makeT fkT).moves.length=3:=rfl;have h3:behindF (makeT fkT) 0=none:=by rw[behindF,fk_mv0];rfl
 have h4:behindF (makeT fkT) 1=fkR:=by
  have e1:bhd1 (makeT fkT) 1 ⟨1,0,true⟩ ⟨2,0,false⟩=fkR:=by
   rw[bhd1,fk_sh,fk_ag];rfl
  rw[behindF,fk_mv1,prF,List.findSome?_cons,e1];rfl
 rw[findF,h1,h2,Option.none_or];show List.findSome? _ [0,1,2]=_;rw[List.findSome?_cons,h3,List.findSome?_cons,h4];rfl
set_option maxHeartbeats 2000000 in
theorem fawake_pu:Pu F 5 [] (.bo true):=by
 have hA:=fk_auto;have hF:=find_pu fk_wf (by rw[fk_first];simp) (fun l hl=>by
  have:=makeT_len fkT (by decide) l hl
  exact this)
 rw[fk_find] at hF;have hF:Pu F 7 [.ag (auC (makeT fkT))] (.tp [.ag [.i .i64 1,.i .i64 2,.i .i64 0,.i .i64 0,.i .i64 0,.i .i64 1,.i .i64 2,.i .u8 1],.bo true]):=hF;have hcel:V.ag (cel fkT)=.ag [.i .i64 2,.i .u64 0,.i .u64 0,.i .u64 0,.i .u64 0,.sl [[.i .i64 4,.i .u64 0,.i .u64 0,.i .u64 0,.i .u64 0,.sl [[.i .i64 1,.i .u64 2,.i .u64 0,.i .u64 0,.i .u64 0,.sl [],.i .i64 0,.i .i64 0]],.i .i64 2,.i .i64 3],[.i .i64 1,.i .u64 2,.i .u64 0,.i .u64 0,.i .u64 0,.sl [],.i .i64 0,.i .i64 0]],.i .i64 0,.i .i64 0]:=rfl;rw[hcel] at hA;generalize makeT fkT=A at hA hF;refine U_pure e5 rfl rfl (by simp only[go_sem,Bool.and_true]) ?_;dsimp only[fn5,c5];(repeat (with_reducible (first|refine U_nil ?_|refine UC_sq ?_|refine UC_rg ?_|refine X_nx ?_|((first|refine U_q (v:=?_) ?h1 ?_|refine U_ld (v:=?_) ?h1 ?_|refine U_alc (n:=?_) ?h1 ?_);case h1=>((try simp only[List.take_succ_cons,List.take_zero,List.drop_succ_cons,List.drop_zero,go_sem])<;>rfl))|(refine U_sto (id:=?_) (i:=?_) (j:=?_) (q:=?_) (es:=?_) (cs:=?_) (vs:=?_) (es':=?_) ?h1 ?h2 ?h3 ?h4 ?h5 ?h6 ?h7 ?_;case h1|h2|h3|h4|h5|h6|h7=>((try simp only[List.take_succ_cons,List.take_zero,List.drop_succ_cons,List.drop_zero,go_sem])<;>rfl)))));refine U_q (v:=.sl [[.i .i64 1,.i .u64 2,.i .u64 0,.i .u64 0,.i .u64 0,.sl [],.i .i64 0,.i .i64 0]]) (by (simp only[litV,List.take_succ_cons,List.take_zero,List.drop_succ_cons,List.drop_zero,go_sem]<;>rfl)) ?_;(repeat (with_reducible (first|((first|refine U_q (v:=?_) ?h1 ?_|refine U_ld (v:=?_) ?h1 ?_);case h1=>((try simp only[List.take_succ_cons,List.take_zero,List.drop_succ_cons,List.drop_zero,go_sem])<;>rfl)))));refine U_q (v:=.sl [[.i .i64 4,.i .u64 0,.i .u64 0,.i .u64 0,.i .u64 0,.sl [[.i .i64 1,.i .u64 2,.i .u64 0,.i .u64 0,.i .u64 0,.sl [],.i .i64 0,.i .i64 0]],.i .i64 2,.i .i64 3],[.i .i64 1,.i .u64 2,.i .u64 0,.i .u64 0,.i .u64 0,.sl [],.i .i64 0,.i .i64 0]]) (by (simp only[litV,List.take_succ_cons,List.take_zero,List.drop_succ_cons,List.drop_zero,go_sem]<;>rfl)) ?_;(repeat (with_reducible (first|(refine U_q (v:=?_) ?h1 ?_;case h1=>((try simp only[List.take_succ_cons,List.take_zero,List.drop_succ_cons,List.drop_zero,go_sem])<;>rfl)))));refine U_pc (ws:=[.ag [.i .i64 2,.i .u64 0,.i .u64 0,.i .u64 0,.i .u64 0,.sl [[.i .i64 4,.i .u64 0,.i .u64 0,.i .u64 0,.i .u64 0,.sl [[.i .i64 1,.i .u64 2,.i .u64 0,.i .u64 0,.i .u64 0,.sl [],.i .i64 0,.i .i64 0]],.i .i64 2,.i .i64 3],[.i .i64 1,.i .u64 2,.i .u64 0,.i .u64 0,.i .u64 0,.sl [],.i .i64 0,.i .i64 0]],.i .i64 0,.i .i64 0]]) (Zr0) rfl (Bool.or_eq_true_iff.2 (.inl ?_)) ?_ hA ?_
 ·rfl
 ·simp only[Bool.and_true,go_sem]
 (repeat (with_reducible (first|refine U_nil ?_|refine UC_sq ?_|refine UC_rg ?_|refine X_nx ?_|((first|refine U_q (v:=?_) ?h1 ?_|refine U_ld (v:=?_) ?h1 ?_|refine U_alc (n:=?_) ?h1 ?_);case h1=>((try simp only[List.take_succ_cons,List.take_zero,List.drop_succ_cons,List.drop_zero,go_sem])<;>rfl))|(refine U_sto (id:=?_) (i:=?_) (j:=?_) (q:=?_) (es:=?_) (cs:=?_) (vs:=?_) (es':=?_) ?h1 ?h2 ?h3 ?h4 ?h5 ?h6 ?h7 ?_;case h1|h2|h3|h4|h5|h6|h7=>((try simp only[List.take_succ_cons,List.take_zero,List.drop_succ_cons,List.drop_zero,go_sem])<;>rfl)))))
 (refine U_pcr (r:=.tp [.ag [.i .i64 1,.i .i64 2,.i .i64 0,.i .i64 0,.i .i64 0,.i .i64 1,.i .i64 2,.i .u8 1],.bo true]) hF ?h1 ?h2 rfl ?_;(case h1=>((try simp only[List.take_succ_cons,List.take_zero,List.drop_succ_cons,List.drop_zero,go_sem])<;>rfl));(case h2=>simp only[List.all_cons,List.all_nil,Bool.and_true,go_sem]))
 (repeat (with_reducible (first|refine U_nil ?_|refine UC_sq ?_|refine UC_rg ?_|refine UC_rt ?_|refine X_nx ?_|((first|refine U_q (v:=?_) ?h1 ?_|refine U_ld (v:=?_) ?h1 ?_|refine E_1 (v:=?_) ?h1 ?_|refine U_alc (n:=?_) ?h1 ?_|refine U_gt ?h1 ?_);case h1=>((try simp only[List.take_succ_cons,List.take_zero,List.drop_succ_cons,List.drop_zero,go_sem])<;>rfl))|(refine U_sto (id:=?_) (i:=?_) (j:=?_) (q:=?_) (es:=?_) (cs:=?_) (vs:=?_) (es':=?_) ?h1 ?h2 ?h3 ?h4 ?h5 ?h6 ?h7 ?_;case h1|h2|h3|h4|h5|h6|h7=>((try simp only[List.take_succ_cons,List.take_zero,List.drop_succ_cons,List.drop_zero,go_sem])<;>rfl)))));rfl
end Go.Proofs.YtkmanhmdppfaiaaGreatDoor
namespace Go.Proofs.YtkmanhmdppfaiaaGreatDoor
set_option linter.all false
structure AgOk (A:Au) (at_:Nat) (x y:Mv) (c:Cf):Prop where
 p:c.p=at_
 r:rightB A c=true
 mx:(mayF A c x).isSome=true
 my:(mayF A c y).isSome=true
 b:∀ j,j < (arAt A at_).length→1≤c.c j∧c.c j≤2147483647
 no:∀ j,j < (arAt A at_).length→rightB A (c.setC j (c.c j - 1))=true→((mayF A (c.setC j (c.c j - 1)) x).isSome&&(mayF A (c.setC j (c.c j - 1)) y).isSome)=false
end Go.Proofs.YtkmanhmdppfaiaaGreatDoor
namespace Go.Proofs.YtkmanhmdppfaiaaGreatDoor
set_option linter.all false
theorem pr_none {α β:Type} {f:α→α→Option β}:∀ {l:List α},prF f l=none→l.Pairwise fun x y=>f x y=none
 | [],_=>List.Pairwise.nil
 | x::l,h=>by
  rw[prF,Option.or_eq_none_iff] at h;exact List.Pairwise.cons (fun y hy=>List.findSome?_eq_none_iff.1 h.1 y hy) (pr_none h.2)
theorem least_no {f:Nat→Bool} (h:leastF f=none) {b:Nat} (hb:b < 256):f b=false:=by
 rw[leastF,List.find?_range_eq_none] at h;simpa using h b hb
theorem find_none {A:Au} (h:findF A=none):firstF A=none∧∀ at_,at_ < A.moves.length→behindF A at_=none:=by
 rw[findF,Option.or_eq_none_iff] at h
 exact⟨h.1,fun at_ ha=>List.findSome?_eq_none_iff.1 h.2 at_ (List.mem_range.2 ha)⟩
theorem none_beg {A:Au} (h:findF A=none) {b:Nat} (hb:b < 256):∀ y∈begL A b A.first,∀ z∈begL A b A.first,y.p=z.p:=by
 have hp:=pr_none (find_none h).1;intro y hy z hz;obtain⟨p,hp1,rfl⟩:=List.mem_map.1 hy;obtain⟨q,hq1,rfl⟩:=List.mem_map.1 hz;rw[List.mem_filter] at hp1 hq1;show ((p:Nat):Int)=((q:Nat):Int);by_cases hpq:p=q
 ·rw[hpq]
 exfalso;obtain⟨i,hi,rfl⟩:=List.mem_iff_getElem.1 hp1.1;obtain⟨k,hk,rfl⟩:=List.mem_iff_getElem.1 hq1.1;have key:∀ (i k:Nat) (hi:i < A.first.length) (hk:k < A.first.length),i < k→bitOf (stAt A A.first[i]) b=true→bitOf (stAt A A.first[k]) b=true→False:=fun i k hi hk hik g1 g2=>by
  have h1:=List.pairwise_iff_getElem.1 hp i k hi hk hik;have h2:shB A A.first[i] A.first[k]=none:=by
   rw[fst1] at h1;exact Option.map_eq_none_iff.1 h1
  have h3:=least_no h2 hb;rw[g1,g2] at h3;cases h3
 rcases Nat.lt_trichotomy i k with h1|h1|h1
 ·exact key i k hi hk h1 hp1.2 hq1.2
 ·subst h1;exact hpq rfl
 ·exact key k i hk hi h1 hq1.2 hp1.2
theorem agN_ex {A:Au} {at_:Nat} {x y:Mv}:∀ n,(∀ j,j < n→loX A at_ x y j≤hiX A at_ x y j)→∃ c,agN A at_ x y n=some c
 | 0,_=>⟨_,rfl⟩
 | n+1,h=>by
  obtain⟨c,hc⟩:=agN_ex n fun j hj=>h j (by omega)
  refine⟨c.setC n (loX A at_ x y n),?_⟩
  rw[agN,hc];show (if loX A at_ x y n > hiX A at_ x y n then none else some (c.setC n (loX A at_ x y n)))=_;rw[if_neg (by have:=h n (by omega);omega)]
theorem both_ag {A:Au} (hW:WF A) {x:Cf} (hr:rightB A x=true) {at_:Nat} (hp:x.p=at_) {m m':Mv} (h1:MvOk A at_ m) (h2:MvOk A at_ m') (e1:(mayF A x m).isSome=true) (e2:(mayF A x m').isSome=true):∃ c,agreeF A at_ m m'=some c:=by
 obtain⟨_,hla,_⟩:=rightB_iff.1 hr;have hla:at_ < A.around.length:=by omega
 refine agN_ex _ fun j hj=>?_;have k1:=(may_iff hW hla hr hp h1).1 e1 j hj;have k2:=(may_iff hW hla hr hp h2).1 e2 j hj;unfold loX hiX;split<;>split<;>omega
theorem none_step {A:Au} (hW:WF A) (h:findF A=none) {x:Cf} (hr:rightB A x=true) {b:Nat} (hb:b < 256):∀ y∈stepL A x b (mvAt A x.p.toNat),∀ z∈stepL A x b (mvAt A x.p.toNat),y.p=z.p:=by
 obtain⟨r1,r2,_⟩:=rightB_iff.1 hr;obtain⟨at_,ha⟩:∃ at_:Nat,x.p=at_:=⟨x.p.toNat,by omega⟩;have hp:x.p.toNat=at_:=by omega
 rw[hp];have hm:at_ < A.moves.length:=by rw[hW.lm,← hW.la];omega
 have hpw:=pr_none ((find_none h).2 at_ hm);intro y hy z hz;obtain⟨m,hm1,hm2⟩:=List.mem_filterMap.1 hy;obtain⟨m',hm3,hm4⟩:=List.mem_filterMap.1 hz;have hk:∀ {m:Mv} {y:Cf},m∈mvAt A at_→(if bitOf (stAt A m.to) b=true then mayF A x m else none)=some y→bitOf (stAt A m.to) b=true∧(mayF A x m).isSome=true∧y.p=m.to∧MvOk A at_ m:=fun {m y} hm1 hm2=>by
  split at hm2
  ·rename_i hbt;have hmk:=mv_ok hW hm hm1
   exact⟨hbt,by rw[hm2];rfl,(may_right hW hr (by rw[hp];exact hmk) hm2).2,hmk⟩
  ·cases hm2
 obtain⟨a1,a2,a3,a4⟩:=hk hm1 hm2;obtain⟨b1,b2,b3,b4⟩:=hk hm3 hm4;rw[a3,b3];by_cases hto:m.to=m'.to
 ·rw[hto]
 exfalso;obtain⟨i,hi,rfl⟩:=List.mem_iff_getElem.1 hm1;obtain⟨k,hk',rfl⟩:=List.mem_iff_getElem.1 hm3;have key:∀ {u v:Mv},bhd1 A at_ u v=none→bitOf (stAt A u.to) b=true→bitOf (stAt A v.to) b=true→(mayF A x u).isSome=true→(mayF A x v).isSome=true→MvOk A at_ u→MvOk A at_ v→u.to≠v.to→False:=fun {u v} hn g1 g2 g3 g4 g5 g6 hne=>by
  obtain⟨c,hc⟩:=both_ag hW hr ha g5 g6 g3 g4;cases hs:shB A u.to v.to with
  | none =>
   have:=least_no hs hb
   rw[g1,g2] at this;cases this
  | some b' =>
   rw[bhd1,hs,hc] at hn;dsimp only at hn;rw[if_pos hne] at hn;cases hn
 rcases Nat.lt_trichotomy i k with h1|h1|h1
 ·exact key (List.pairwise_iff_getElem.1 hpw i k hi hk' h1) a1 b1 a2 b2 a4 b4 hto
 ·subst h1;exact hto rfl
 ·exact key (List.pairwise_iff_getElem.1 hpw k i hk' hi h1) b1 a1 b2 a2 b4 a4 fun e=>hto e.symm
structure FkOk (A:Au) (c:Cf) (p q b:Nat):Prop where
 ne:p≠q
 p1:1≤p∧p < A.sets.length
 q1:1≤q∧q < A.sets.length
 lb:b < 256
 bp:bitOf (stAt A p) b=true
 bq:bitOf (stAt A q) b=true
 at_:(c=noC∧(∃ y∈begL A b A.first,y.p=p)∧∃ y∈begL A b A.first,y.p=q)∨(c≠noC∧rightB A c=true∧(∃ y∈stepL A c b (mvAt A c.p.toNat),y.p=p)∧∃ y∈stepL A c b (mvAt A c.p.toNat),y.p=q)
end Go.Proofs.YtkmanhmdppfaiaaGreatDoor
