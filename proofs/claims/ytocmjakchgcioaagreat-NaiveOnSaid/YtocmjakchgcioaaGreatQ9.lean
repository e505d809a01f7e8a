import Derived.Test.YtocmjakchgcioaaGreatKr

namespace Go.Proofs.YtocmjakchgcioaaGreat
set_option linter.all false
attribute [-go_sem] QE Qn rfOb V.cells
structure OnAt (A:Au) (b:Nat) (Y:List Cf) (L:List Cf):Prop where
 nd:L.Nodup
 mem:∀ y,y∈L↔∃ x∈Y,y∈YE A x b
theorem QdR {A:Au} {w:List Nat} {k:Nat} (hk:k < w.length) (h0:k≠0):bhF A w (k+1)=(bhF A (w.take k) k).flatMap fun x=>YE A x w[k]:=by
 have h1:bhF A w k=bhF A (w.take k) k:=by
  have:=Qcy A (w.take k) (w.drop k) k (by rw[List.length_take];omega)
  rw[List.take_append_drop] at this;exact this
 rw[bhF,List.getElem?_eq_getElem hk,h1];simp only[if_neg h0]
theorem Qg1 {A:Au} (x:Cf) (b:Nat) (y:Cf):y∈rstL A x b (mvAt A x.p.toNat)↔y∈YE A x b:=by
 obtain⟨_,_,k3⟩:=Ky A x b (mvAt A x.p.toNat) [] List.nodup_nil;rw[YE,Jh]
 have:=k3 y
 simpa [rstL] using this
theorem QfZ {A:Au} (hL:∀ l∈A.moves,l.length < 2147483648) (x:Cf) (b:Nat):(rstL A x b (mvAt A x.p.toNat)).length < 4294967296:=by
 obtain⟨_,k2,_⟩:=Ky A x b (mvAt A x.p.toNat) [] List.nodup_nil;have h3:(mvAt A x.p.toNat).length < 2147483648:=by
  unfold mvAt;cases h:A.moves[x.p.toNat]? with
  | none=>simp
  | some l=>exact hL l (List.mem_of_getElem? h)
 unfold rstL;rw[List.length_nil] at k2;omega
theorem QcB {o:O} {s:Nat} {want L:List Cf} (h:Own o s 5 (L.map cfC)):fzsU o [.sl (want.map cfC),ownV s 5 (L.map cfC)]=some [.sl (want.map cfC),.sl (L.map cfC)]:=by
 have h1:fzU o (ownV s 5 (L.map cfC))=some (.sl (L.map cfC)):=Yh h (Ht L) 22;have h2:fzU o (.sl (want.map cfC))=some (.sl (want.map cfC)):=Y6 rfl;simp [fzsU,h1,h2]
set_option maxHeartbeats 4000000 in
theorem Qkr (n:Nd) (hs:ZO n) (w:List Nat) (hw:∀ b∈w,b < 256):Pu F 6 [.ag (cel n),wdV w] (.bo true):=by
 have haw:=Qbx;obtain⟨A,ok,hA,hok⟩:=Qht n hs;refine Qr e6 rfl rfl (by simp only[go_sem,Bool.and_true,wdV]) ?_;dsimp only[fn6,c6];(repeat (with_reducible (first|refine Qa ?_|refine Qc ?_|refine Qb ?_|refine X_nx ?_|(refine U_q (v:=?_) ?h1 ?_;case h1=>((try simp only[wdV,List.take_succ_cons,List.take_zero,List.drop_succ_cons,List.drop_zero,go_sem])<;>rfl))|(refine QC (cs:=?_) (cs':=?_) (n:=?_) ?h1 ?h2 ?h3 ?h4 ?_;case h1|h2|h3|h4=>((try simp only[wdV,List.take_succ_cons,List.take_zero,List.drop_succ_cons,List.drop_zero,go_sem])<;>rfl)))))
 (refine ZU (r:=.bo true) haw ?h1 ?h2 rfl ?_;(case h1=>((try simp only[List.take_succ_cons,List.take_zero,List.drop_succ_cons,List.drop_zero,go_sem])<;>rfl));(case h2=>simp only[List.all_cons,List.all_nil,Bool.and_true,go_sem]))
 by_cases hl:w.length≤40∧2≤w.length
 case neg =>
  by_cases h1:w.length≤40
  ·have c1:decide ((w.length:Int) > 40)=false:=decide_eq_false (by omega);have c2:decide ((w.length:Int) < 2)=true:=decide_eq_true (by omega);(repeat (with_reducible (first|refine Qa ?_|refine Qc ?_|refine Qb ?_|refine X_nx ?_|((first|refine U_q (v:=?_) ?h1 ?_|refine U_gt ?h1 ?_|refine Qm ?h1 ?_);case h1=>((try simp only[wdV,c1,c2,List.length_map,List.take_succ_cons,List.take_zero,List.drop_succ_cons,List.drop_zero,go_sem])<;>rfl)))))
   (refine ZU (r:=.bo true) haw ?h1 ?h2 rfl ?_;(case h1=>((try simp only[List.take_succ_cons,List.take_zero,List.drop_succ_cons,List.drop_zero,go_sem])<;>rfl));(case h2=>simp only[List.all_cons,List.all_nil,Bool.and_true,go_sem]))
   (repeat (with_reducible (first|refine Qa ?_|refine Qf ?_|refine X_nx ?_|refine X_rt ?_|((first|refine U_q (v:=?_) ?h1 ?_|refine E_1 (v:=?_) ?h1 ?_);case h1=>((try simp only[List.take_succ_cons,List.take_zero,List.drop_succ_cons,List.drop_zero,go_sem])<;>rfl)))));rfl
  ·have c1:decide ((w.length:Int) > 40)=true:=decide_eq_true (by omega);(repeat (with_reducible (first|refine Qa ?_|refine Qc ?_|refine Qb ?_|refine X_nx ?_|((first|refine U_q (v:=?_) ?h1 ?_|refine U_gt ?h1 ?_|refine Qm ?h1 ?_);case h1=>((try simp only[wdV,c1,List.length_map,List.take_succ_cons,List.take_zero,List.drop_succ_cons,List.drop_zero,go_sem])<;>rfl))|(refine XK ?h1 ?_;case h1=>((try simp only[wdV,c1,List.length_map,List.take_succ_cons,List.take_zero,List.drop_succ_cons,List.drop_zero,go_sem])<;>rfl))|rw[Qd])))
   (refine ZU (r:=.bo true) haw ?h1 ?h2 rfl ?_;(case h1=>((try simp only[List.take_succ_cons,List.take_zero,List.drop_succ_cons,List.drop_zero,go_sem])<;>rfl));(case h2=>simp only[List.all_cons,List.all_nil,Bool.and_true,go_sem]))
   (repeat (with_reducible (first|refine Qa ?_|refine Qf ?_|refine X_nx ?_|refine X_rt ?_|((first|refine U_q (v:=?_) ?h1 ?_|refine E_1 (v:=?_) ?h1 ?_);case h1=>((try simp only[List.take_succ_cons,List.take_zero,List.drop_succ_cons,List.drop_zero,go_sem])<;>rfl)))));rfl
 case pos =>
  obtain⟨h1,h2⟩:=hl;have c1:decide ((w.length:Int) > 40)=false:=decide_eq_false (by omega);have c2:decide ((w.length:Int) < 2)=false:=decide_eq_false (by omega);(repeat (with_reducible (first|refine Qa ?_|refine Qc ?_|refine Qb ?_|refine Qg ?_|refine X_nx ?_|((first|refine U_q (v:=?_) ?h1 ?_|refine U_ld (v:=?_) ?h1 ?_|refine U_gt ?h1 ?_);case h1=>((try simp only[wdV,c1,c2,List.length_map,List.take_succ_cons,List.take_zero,List.drop_succ_cons,List.drop_zero,go_sem])<;>rfl))|(refine Qk ?h1 ?_;case h1=>((try simp only[wdV,c1,c2,List.length_map,List.take_succ_cons,List.take_zero,List.drop_succ_cons,List.drop_zero,go_sem])<;>rfl)))));refine U_pc (vs:=[.ag (cel n)]) (ws:=[.ag (cel n)]) (Z0) (Qbc n _) (Bool.or_eq_true_iff.2 (.inl (Dh n))) (by simp only[Bool.and_true,go_sem]) hA ?_;cases ok with
  | false =>
   (repeat (with_reducible (first|refine Qa ?_|refine Qc ?_|refine Qb ?_|refine Qf ?_|refine X_nx ?_|refine X_rt ?_|((first|refine U_q (v:=?_) ?h1 ?_|refine E_1 (v:=?_) ?h1 ?_|refine QK (n:=?_) ?h1 ?_|refine Qm ?h1 ?_);case h1=>((try simp only[List.take_succ_cons,List.take_zero,List.drop_succ_cons,List.drop_zero,go_sem])<;>rfl))|(refine Qq (id:=?_) (i:=?_) (j:=?_) (q:=?_) (es:=?_) (cs:=?_) (vs:=?_) (es':=?_) ?h1 ?h2 ?h3 ?h4 ?h5 ?h6 ?h7 ?_;case h1|h2|h3|h4|h5|h6|h7=>((try simp only[List.take_succ_cons,List.take_zero,List.drop_succ_cons,List.drop_zero,go_sem])<;>rfl)))));rfl
  | true =>
   obtain⟨hAm,_,hW,hL,_⟩:=hok rfl;have hfn:A.first.Nodup:=by rw[hAm];exact H3 _
   have hf:A.first.length≤1000:=by
    have:=Ja A.first (List.range 41) hfn fun p hp=>List.mem_range.2 (by have:=(hW.f p hp).2;have:=hW.n;omega)
    have:A.first.length≤41:=by simpa using this
    omega
   clear hAm;obtain⟨k,hk⟩:∃ k,w.length=k+1:=⟨w.length - 1,by omega⟩;have hkw:k < w.length:=by omega
   have hk0:k≠0:=by omega
   have hb:=hw w[k] (List.getElem_mem hkw);have hxk:=Qit hkw;have hsn:=QdR (A:=A) hkw hk0;have hwk:∀ b∈w.take k,b < 256:=fun b hb=>hw b (List.mem_of_mem_take hb);have htl:(w.take k).length=k:=by rw[List.length_take];omega
   have hB1:Pu F 10 [.ag (auC A),.sl ((w.map fun b:Nat=>[V.i .u8 (b:Int)]).take k)] (.sl ((bhS A (w.take k)).map cfC)):=by
    have:=Jx hW hf hL (w.take k) hwk (by omega)
    rw[wdV,List.map_take] at this;exact this
   have hB2:Pu F 10 [.ag (auC A),.sl (w.map fun b:Nat=>[V.i .u8 (b:Int)])] (.sl ((bhS A w).map cfC)):=Jx hW hf hL w hw (by omega);have hX:∀ x,x∈bhS A (w.take k)↔x∈bhF A (w.take k) k:=fun x=>by rw[bhS,Jh,htl]
   have hXr:∀ x∈bhS A (w.take k),QM A x=true:=fun x hx=>JS hW _ _ x ((hX x).1 hx);have hXl:=HV hW (w.take k) (by omega);have hS:∀ y,y∈bhF A w w.length↔∃ x∈bhS A (w.take k),y∈YE A x w[k]:=fun y=>by
    rw[hk,hsn,List.mem_flatMap];constructor
    ·rintro⟨x,h1,h2⟩;exact⟨x,(hX x).2 h1,h2⟩
    ·rintro⟨x,h1,h2⟩;exact⟨x,(hX x).1 h1,h2⟩
   have hSl:∀ L:List Cf,L.Nodup→(∀ y∈L,∃ x∈bhS A (w.take k),y∈YE A x w[k])→L.length≤130691232:=fun L h1 h2=>H5 hW (w:=w) (k:=w.length) (by omega) h1 fun y hy=>(hS y).2 (h2 y hy);have hfin:∀ L,OnAt A w[k] (bhS A (w.take k)) L→Pu F 15 [.sl ((bhS A w).map cfC),.sl (L.map cfC)] (.bo true):=fun L hLo=>by
    refine Qae (l:=bhS A w) (want:=L) (by have:=HV hW w (by omega);omega) (Qk0 hLo.nd fun y=>by rw[hLo.mem,hS]) (fun y hy=>?_) (QgZ _);rw[hLo.mem,← hS];exact (Jh _ y).1 hy
   clear hX hS hsn hok;generalize bhS A (w.take k)=X at hB1 hXr hXl hSl hfin;generalize w[k]=b at hb hxk hSl hfin;have hkI:IntKind.i64.wrap ((w.length:Int) - 1)=(k:Int):=by rw[Qt (by omega) (by omega)];omega
   have hkp:(0:Int)≤(k:Int):=by omega
   have hkl:((k:Int) < (w.length:Int))=True:=by simp;omega
   have hcut:cutV 1 0 k none (.sl (w.map fun b:Nat=>[V.i .u8 (b:Int)]))=some (.sl ((w.map fun b:Nat=>[V.i .u8 (b:Int)]).take k)):=by
    have h3:(w.map fun b:Nat=>[V.i .u8 (b:Int)]).all (fun c=>c.length==1)=true:=List.all_eq_true.2 fun c hc=>by rw[wd_1 w c hc];rfl
    have h4:k≤(w.map fun b:Nat=>[V.i .u8 (b:Int)]).length:=by rw[List.length_map];omega
    simp only[cutV];rw[if_pos ⟨Nat.zero_le _,h4,h3⟩,List.drop_zero]
   (repeat (with_reducible (first|refine Qa ?_|refine Qc ?_|refine Qb ?_|refine Qg ?_|refine X_nx ?_|((first|refine U_q (v:=?_) ?h1 ?_|refine U_ld (v:=?_) ?h1 ?_|refine QK (n:=?_) ?h1 ?_);case h1=>((try simp only[wdV,hkI,List.length_map,hcut,hkp,Int.toNat_natCast,List.take_succ_cons,List.take_zero,List.drop_succ_cons,List.drop_zero,go_sem])<;>rfl))|(refine Qq (id:=?_) (i:=?_) (j:=?_) (q:=?_) (es:=?_) (cs:=?_) (vs:=?_) (es':=?_) ?h1 ?h2 ?h3 ?h4 ?h5 ?h6 ?h7 ?_;case h1|h2|h3|h4|h5|h6|h7=>((try simp only[wdV,hkI,List.length_map,hcut,hkp,Int.toNat_natCast,List.take_succ_cons,List.take_zero,List.drop_succ_cons,List.drop_zero,go_sem])<;>rfl))|(refine Qk ?h1 ?_;case h1=>((try simp only[wdV,hkI,List.length_map,hcut,hkp,Int.toNat_natCast,List.take_succ_cons,List.take_zero,List.drop_succ_cons,List.drop_zero,go_sem])<;>rfl)))))
   (refine U_pc (g:=10) (r:=.sl (X.map cfC)) (vs:=?_) (ws:=?_) ?h1 ?h2 ?h3 ?h4 ?h5 ?_;(case h1=>((try simp only[wdV,List.take_succ_cons,List.take_zero,List.drop_succ_cons,List.drop_zero,go_sem])<;>rfl));(case h2=>refine Qj ?_;first|rfl|simp only[wdV,List.all_cons,List.all_nil,Bool.and_true,go_sem]);(case h5=>exact hB1);(case h3=>first|exact Bool.or_eq_true_iff.2 (.inr rfl)|(refine Bool.or_eq_true_iff.2 (.inl ?_);simp only[clos,wdV,List.all_cons,List.all_nil,Bool.and_true,go_sem]));(case h4=>first|rfl|simp only[wdV,go_sem,Bool.and_true]))
   (repeat (with_reducible (first|refine Qa ?_|refine Qc ?_|refine Qb ?_|refine Ql ?_|refine X_nx ?_|(refine U_q (v:=?_) ?h1 ?_;case h1=>((try simp only[List.take_succ_cons,List.take_zero,List.drop_succ_cons,List.drop_zero,go_sem])<;>rfl)))));refine U_lp (fun r e o=>∃ (i:Nat) (L:List Cf),i+r=X.length∧e 1=wdV w∧e 5=.pt 5 0 0∧e 7=.sl (X.map cfC)∧e 8=ownV 76 5 (L.map cfC)∧Own o 76 5 (L.map cfC)∧e 9=.i .i64 i∧o 5=some (.row 15 [auC A])∧OnAt A b (X.take i) L) (k:=X.length) ?_ (Qh F) ?_
   ·exact⟨0,[],by omega,by simp only[wdV,go_sem],Z0,Z0,Zr0,⟨rfl,fun h=>absurd rfl h⟩,Zr0,Z0,⟨List.nodup_nil,by simp⟩⟩
   rintro r e o ⟨i,L,hir,r1,r5,r7,r8,ho,r9,m5,hLo⟩;dsimp only[b6_1];(repeat (with_reducible (first|refine Qa ?_|refine Qc ?_|refine Qb ?_|refine X_nx ?_|(refine U_q (v:=?_) ?h1 ?_;case h1=>((try simp only[r7,r9,List.length_map,go_sem])<;>rfl)))));refine Qe (q:=decide ((i:Int) < (X.length:Int))) (Z0) (fun hc=>?_) (fun hc=>?_)
   ·have hi:i < X.length:=by simpa using hc
    have hip:(0:Int)≤(i:Int):=by omega
    have hx:=Ji hi;have hw1:=Yc (i:=i) (by omega);have hxr:=hXr X[i] (List.getElem_mem hi);have hst:=Qeb hW hL hxr hb;have hrm:=Qg1 (A:=A) X[i] b;have hrl:=QfZ hL X[i] b;have htk:X.take (i+1)=X.take i++[X[i]]:=by rw[List.take_add_one,List.getElem?_eq_getElem hi];rfl
    have hXi:∀ x∈X.take (i+1),x∈X:=fun x hx=>List.mem_of_mem_take hx;generalize X[i]=x at hx hst hrm hrl htk;generalize rstL A x b (mvAt A x.p.toNat)=R at hst hrm hrl;(repeat (with_reducible (first|refine Qc ?_|refine Qb ?_|refine Ql ?_|refine Qg ?_|refine X_nx ?_|((first|refine U_q (v:=?_) ?h1 ?_|refine U_ld (v:=?_) ?h1 ?_);case h1=>((try simp only[r1,r5,r7,r9,m5,wdV,hip,hx,hkI,hkp,hkl,hxk,List.length_map,Int.toNat_natCast,List.take_succ_cons,List.take_zero,List.drop_succ_cons,List.drop_zero,go_sem])<;>rfl)))))
    (refine U_pc (g:=13) (r:=.sl (R.map cfC)) (vs:=?_) (ws:=?_) ?h1 ?h2 ?h3 ?h4 ?h5 ?_;(case h1=>((try simp only[List.take_succ_cons,List.take_zero,List.drop_succ_cons,List.drop_zero,r5,m5,go_sem])<;>rfl));(case h2=>refine Qj ?_;first|rfl|simp only[r5,m5,List.all_cons,List.all_nil,Bool.and_true,go_sem]);(case h5=>exact hst);(case h3=>first|exact Bool.or_eq_true_iff.2 (.inr rfl)|(refine Bool.or_eq_true_iff.2 (.inl ?_);simp only[clos,r5,m5,List.all_cons,List.all_nil,Bool.and_true,go_sem]));(case h4=>first|rfl|simp only[r5,m5,go_sem,Bool.and_true]))
    (repeat (with_reducible (first|refine Qa ?_|refine Qc ?_|refine Qb ?_|refine Ql ?_|refine X_nx ?_|(refine U_q (v:=?_) ?h1 ?_;case h1=>((try simp only[List.take_succ_cons,List.take_zero,List.drop_succ_cons,List.drop_zero,go_sem])<;>rfl)))));refine U_lp (fun q e o=>∃ (j:Nat) (L':List Cf),j+q=R.length∧e 1=wdV w∧e 5=.pt 5 0 0∧e 7=.sl (X.map cfC)∧e 8=ownV 76 5 (L'.map cfC)∧Own o 76 5 (L'.map cfC)∧e 9=.i .i64 i∧e 10=.sl (R.map cfC)∧e 11=.i .i64 j∧o 5=some (.row 15 [auC A])∧L'.Nodup∧∀ y,y∈L'↔(∃ x∈X.take i,y∈YE A x b)∨y∈R.take j) (k:=R.length) ?_ (Qh F) ?_
    ·exact⟨0,L,by omega,Z1 r1,Z1 r5,Z1 r7,Z1 r8,by (repeat first|with_reducible assumption|refine .up rfl ?_|refine .sw rfl ?_|refine .swN rfl ?_),Z1 r9,Z0,Zr0,Z1 m5,hLo.nd,fun y=>by rw[hLo.mem];simp⟩
    clear r1 r5 r7 r8 ho r9 m5 hLo;rintro q e o ⟨j,L',hjq,r1,r5,r7,r8,ho,r9,r10,r11,m5,hn,hm⟩;dsimp only[b6_0];have hLl:L'.length≤130691232:=hSl L' hn fun y hy=>by
     rcases (hm y).1 hy with⟨x',h1,h2⟩|h
     ·exact⟨x',List.mem_of_mem_take h1,h2⟩
     ·exact⟨x,hXi x (by rw[htk];simp),(hrm y).1 (List.mem_of_mem_take h)⟩
    (repeat (with_reducible (first|refine Qa ?_|refine Qc ?_|refine Qb ?_|refine X_nx ?_|(refine U_q (v:=?_) ?h1 ?_;case h1=>((try simp only[r10,r11,List.length_map,go_sem])<;>rfl)))));refine Qe (q:=decide ((j:Int) < (R.length:Int))) (Z0) (fun hc2=>?_) (fun hc2=>?_)
    ·have hj:j < R.length:=by simpa using hc2
     have hjp:(0:Int)≤(j:Int):=by omega
     have hxj:=Ji hj;have hwj:=Yc (i:=j) (by omega);have htj:R.take (j+1)=R.take j++[R[j]]:=by rw[List.take_add_one,List.getElem?_eq_getElem hj];rfl
     generalize R[j]=y at hxj htj;have hhc:=Vc y L' (by omega);(repeat (with_reducible (first|refine Qc ?_|refine Qb ?_|refine Ql ?_|refine Qg ?_|refine X_nx ?_|((first|refine U_q (v:=?_) ?h1 ?_|refine U_ld (v:=?_) ?h1 ?_);case h1=>((try simp only[r8,r10,r11,hjp,hxj,Int.toNat_natCast,List.take_succ_cons,List.take_zero,List.drop_succ_cons,List.drop_zero,go_sem])<;>rfl)))));refine U_pc (vs:=[ownV 76 5 (L'.map cfC),.ag (cfC y)]) (ws:=[.sl (L'.map cfC),.ag (cfC y)]) (r:=.bo (decide (y∈L'))) (Z1 r8) (Dt (by (repeat first|with_reducible assumption|refine .up rfl ?_|refine .sw rfl ?_|refine .swN rfl ?_))) (Bool.or_eq_true_iff.2 (.inr rfl)) rfl hhc ?_;by_cases hy:y∈L'
     ·have d1:decide (y∈L')=true:=by simpa using hy
      (repeat (with_reducible (first|refine Qa ?_|refine Qb ?_|refine Qg ?_|refine X_nx ?_|refine B_nx ?_|(refine U_q (v:=?_) ?h1 ?_;case h1=>((try simp only[d1,r11,hwj,List.take_succ_cons,List.take_zero,List.drop_succ_cons,List.drop_zero,go_sem])<;>rfl))|(refine Qk ?h1 ?_;case h1=>((try simp only[d1,r11,hwj,List.take_succ_cons,List.take_zero,List.drop_succ_cons,List.drop_zero,go_sem])<;>rfl)))))
      refine⟨q - 1,by omega,j+1,L',by omega,Z1 r1,Z1 r5,Z1 r7,Z1 r8,by (repeat first|with_reducible assumption|refine .up rfl ?_|refine .sw rfl ?_|refine .swN rfl ?_),Z1 r9,Z1 r10,Z0,Z1 m5,hn,fun z=>?_⟩
      rw[hm,htj,List.mem_append,List.mem_singleton];constructor
      ·rintro (h|h)
       ·exact .inl h
       ·exact .inr (.inl h)
      ·rintro (h|h|h)
       ·exact .inl h
       ·exact .inr h
       ·subst h;exact (hm z).1 hy
     ·have d1:decide (y∈L')=false:=by simpa using hy
      (repeat (with_reducible (first|refine Qa ?_|refine Qb ?_|refine X_nx ?_|((first|refine U_q (v:=?_) ?h1 ?_|refine U_ld (v:=?_) ?h1 ?_|refine Qm ?h1 ?_);case h1=>((try simp only[d1,r8,r10,r11,hjp,hxj,Int.toNat_natCast,List.take_succ_cons,List.take_zero,List.drop_succ_cons,List.drop_zero,go_sem])<;>rfl))|(refine Yu (es:=?_) (es':=?_) ?h1 ?h2 ?h3 ?_;case h1|h2|h3=>((try simp only[d1,r8,r10,r11,hjp,hxj,Int.toNat_natCast,List.take_succ_cons,List.take_zero,List.drop_succ_cons,List.drop_zero,go_sem])<;>rfl)))));refine YR 76 (L:=L'.map cfC) (ys:=[cfC y]) (Z1 r8) ?_ (by (simp only[src,List.take_succ_cons,List.take_zero,List.drop_succ_cons,List.drop_zero,go_sem]<;>rfl)) (by simp [XB]) (by simp) (by omega) ⟨by simp;omega,by omega⟩ (Zj _ ho.c) rfl ?_
      ·exact Own.h (by (repeat first|with_reducible assumption|refine .up rfl ?_|refine .sw rfl ?_|refine .swN rfl ?_))
      (repeat (with_reducible (first|refine Qa ?_|refine Qb ?_|refine X_nx ?_|refine B_nx ?_|(refine U_q (v:=?_) ?h1 ?_;case h1=>((try simp only[r11,hwj,go_sem])<;>rfl)))))
      refine⟨q - 1,by omega,j+1,L'++[y],by omega,by simp only[r1,wdV,go_sem],Z1 r5,Z1 r7,by simp only[List.map_append,go_sem],?_,Z1 r9,Z1 r10,Z0,by simp only[m5,Qkh,go_sem],?_,fun z=>?_⟩
      ·rw[List.map_append];exact Own.to (by have:=XE (L'++[y]);rw[List.map_append] at this;exact this)
      ·exact List.nodup_append.2 ⟨hn,by simp,fun a ha c hc=>by simp at hc;subst hc;intro hh;subst hh;exact hy ha⟩
      ·rw[List.mem_append,List.mem_singleton,hm,htj,List.mem_append,List.mem_singleton,or_assoc]
    ·have hj:j=R.length:=by
      have:¬ j < R.length:=by simpa using hc2
      omega
     subst hj;(repeat (with_reducible (first|refine Qa ?_|refine Qb ?_|refine QW ?_|refine X_nx ?_|refine X_ex ?_|refine B_nx ?_|refine Qi ?_|(refine U_q (v:=?_) ?h1 ?_;case h1=>((try simp only[r9,hw1,go_sem])<;>rfl)))))
     refine⟨r - 1,by omega,i+1,L',by omega,Z1 r1,Z1 r5,Z1 r7,Z1 r8,by (repeat first|with_reducible assumption|refine .up rfl ?_|refine .sw rfl ?_|refine .swN rfl ?_),Z0,Z1 m5,⟨hn,fun y=>?_⟩⟩
     rw[hm,List.take_length,htk];constructor
     ·rintro (⟨x',h1,h2⟩|h)
      ·exact⟨x',List.mem_append_left _ h1,h2⟩
      ·exact⟨x,by simp,(hrm y).1 h⟩
     ·rintro⟨x',h1,h2⟩
      rcases List.mem_append.1 h1 with h1|h1
      ·exact .inl ⟨x',h1,h2⟩
      ·rw[List.mem_singleton.1 h1] at h2;exact .inr ((hrm y).2 h2)
   ·have hi:i=X.length:=by
     have:¬ i < X.length:=by simpa using hc
     omega
    subst hi;rw[List.take_length] at hLo;(repeat (with_reducible (first|refine Qc ?_|refine Qb ?_|refine QW ?_|refine X_nx ?_|refine X_ex ?_|refine Qi ?_|((first|refine U_q (v:=?_) ?h1 ?_|refine U_ld (v:=?_) ?h1 ?_);case h1=>((try simp only[r1,r5,m5,wdV,List.take_succ_cons,List.take_zero,List.drop_succ_cons,List.drop_zero,go_sem])<;>rfl)))))
    (refine U_pc (g:=10) (r:=.sl ((bhS A w).map cfC)) (vs:=?_) (ws:=?_) ?h1 ?h2 ?h3 ?h4 ?h5 ?_;(case h1=>((try simp only[List.take_succ_cons,List.take_zero,List.drop_succ_cons,List.drop_zero,r1,r5,m5,wdV,go_sem])<;>rfl));(case h2=>refine Qj ?_;first|rfl|simp only[r1,r5,m5,wdV,List.all_cons,List.all_nil,Bool.and_true,go_sem]);(case h5=>exact hB2);(case h3=>first|exact Bool.or_eq_true_iff.2 (.inr rfl)|(refine Bool.or_eq_true_iff.2 (.inl ?_);simp only[clos,r1,r5,m5,wdV,List.all_cons,List.all_nil,Bool.and_true,go_sem]));(case h4=>first|rfl|simp only[r1,r5,m5,wdV,go_sem,Bool.and_true]))
    (repeat (with_reducible (first|(refine U_q (v:=?_) ?h1 ?_;case h1=>((try simp only[r8,List.take_succ_cons,List.take_zero,List.drop_succ_cons,List.drop_zero,go_sem])<;>rfl)))));refine U_pc (vs:=[.sl ((bhS A w).map cfC),ownV 76 5 (L.map cfC)]) (ws:=[.sl ((bhS A w).map cfC),.sl (L.map cfC)]) (r:=.bo true) (Z1 r8) (QcB (by (repeat first|with_reducible assumption|refine .up rfl ?_|refine .sw rfl ?_|refine .swN rfl ?_))) (Bool.or_eq_true_iff.2 (.inr rfl)) rfl (hfin L hLo) ?_;(repeat (with_reducible (first|refine Qa ?_|refine Qf ?_|refine X_nx ?_|((first|refine U_q (v:=?_) ?h1 ?_|refine E_1 (v:=?_) ?h1 ?_);case h1=>((try simp only[List.take_succ_cons,List.take_zero,List.drop_succ_cons,List.drop_zero,go_sem])<;>rfl)))));rfl
end Go.Proofs.YtocmjakchgcioaaGreat
