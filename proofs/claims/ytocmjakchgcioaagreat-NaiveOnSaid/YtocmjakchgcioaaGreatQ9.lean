import Derived.Test.YtocmjakchgcioaaGreatKr

namespace Go.Proofs.YtocmjakchgcioaaGreat
set_option linter.all false
variable {A:Au}
attribute [-go_sem] Qr Qb rfOb V.cells
structure OnAt (A:Au) (b:Nat) (Y:List Cf) (L:List Cf):Prop where
 nd:L.Nodup
 mem:∀ y,y∈L↔∃ x∈Y,y∈Yf A x b
def Qdl {w:List Nat} {k:Nat} (hk:k < w.length) (h0:k≠0):bhF A w (k+1)=(bhF A (w.take k) k).flatMap fun x=>Yf A x w[k]:=by
 have h1:bhF A w k=bhF A (w.take k) k:=by
  have:=QcC A (w.take k) (w.drop k) k (by rw[List.length_take];omega)
  rw[List.take_append_drop] at this;exact this
 rw[bhF,List.getElem?_eq_getElem hk,h1];simp only[if_neg h0]
def QhM (x:Cf) (b:Nat) (y:Cf):y∈rstL A x b (mvAt A x.p.toNat)↔y∈Yf A x b:=by
 obtain⟨_,_,k3⟩:=Km A x b (mvAt A x.p.toNat) [] List.nodup_nil;rw[Yf,YZ]
 have:=k3 y
 simpa [rstL] using this
def Qgs (hL:∀ l∈A.moves,l.length < 2147483648) (x:Cf) (b:Nat):(rstL A x b (mvAt A x.p.toNat)).length < 4294967296:=by
 obtain⟨_,k2,_⟩:=Km A x b (mvAt A x.p.toNat) [] List.nodup_nil;have h3:(mvAt A x.p.toNat).length < 2147483648:=by
  unfold mvAt;cases h:A.moves[x.p.toNat]? with
  | none=>simp
  | some l=>exact hL l (List.mem_of_getElem? h)
 unfold rstL;rw[List.length_nil] at k2;omega
def Qbb {o:O} {s:Nat} {want L:List Cf} (h:Own o s 5 (L.map cfC)):fzsU o [.sl (want.map cfC),ownV s 5 (L.map cfC)]=some [.sl (want.map cfC),.sl (L.map cfC)]:=by
 have h1:fzU o (ownV s 5 (L.map cfC))=some (.sl (L.map cfC)):=ZJ h (Hd L) 22;have h2:fzU o (.sl (want.map cfC))=some (.sl (want.map cfC)):=YR rfl;simp [fzsU,h1,h2]
set_option maxHeartbeats 4000000 in
def QkT (n:Nd) (hs:Zz n) (w:List Nat) (hw:∀ b∈w,b < 256):Pu F 6 [.ag (cel n),wdV w] (.bo true):=by
 have haw:=QbK;obtain⟨A,ok,hA,hok⟩:=QgA n hs;refine Qe e6 rfl rfl (by simp only[go_sem,Bool.and_true,wdV]) ?_;dsimp only[fn6,c6];refine RT wdV.eq_1 ?_;refine PRT trivial (r:=.bo true) haw ?_;by_cases hl:w.length≤40∧2≤w.length
 case neg =>
  by_cases h1:w.length≤40
  ·have c1:decide ((w.length:Int) > 40)=false:=decide_eq_false OM;have c2:decide ((w.length:Int) < 2)=true:=decide_eq_true OM;refine RT (Ad3 wdV.eq_1 c1 c2) ?_;refine PRT trivial (r:=.bo true) haw ?_;refine RT trivial ?_;rfl
  ·have c1:decide ((w.length:Int) > 40)=true:=decide_eq_true OM;refine RT (Ad2 wdV.eq_1 c1) ?_;refine PRT trivial (r:=.bo true) haw ?_;refine RT trivial ?_;rfl
 case pos =>
  obtain⟨h1,h2⟩:=hl;have c1:decide ((w.length:Int) > 40)=false:=decide_eq_false OM;have c2:decide ((w.length:Int) < 2)=false:=decide_eq_false OM;refine RT (Ad3 wdV.eq_1 c1 c2) ?_;refine U_pc (vs:=[.ag (cel n)]) (ws:=[.ag (cel n)]) (Z0) (Qbg n _) (Bool.or_eq_true_iff.2 (.inl (DU n))) (by simp only[Bool.and_true,go_sem]) hA ?_;cases ok with
  | false =>
   refine RT trivial ?_;rfl
  | true =>
   obtain⟨hAm,_,hW,hL,_⟩:=hok rfl;have hfn:A.first.Nodup:=by rw[hAm];exact HO _
   have hf:A.first.length≤1000:=by
    have:=YI A.first (List.range 41) hfn fun p hp=>List.mem_range.2 (by have:=(hW.f p hp).2;have:=hW.n;omega)
    have:A.first.length≤41:=by simpa using this
    omega
   clear hAm;obtain⟨k,hk⟩:∃ k,w.length=k+1:=⟨w.length - 1,OM⟩;have hkw:k < w.length:=by omega
   have hk0:k≠0:=by omega
   have hb:=hw w[k] (List.getElem_mem hkw);have hxk:=QkO hkw;have hsn:=Qdl (A:=A) hkw hk0;have hwk:∀ b∈w.take k,b < 256:=fun b hb=>hw b (List.mem_of_mem_take hb);have htl:(w.take k).length=k:=by rw[List.length_take];omega
   have hB1:Pu F 10 [.ag (auC A),.sl ((w.map fun b:Nat=>[V.i .u8 (b:Int)]).take k)] (.sl ((bhS A (w.take k)).map cfC)):=by
    have:=Je hW hf hL (w.take k) hwk OM
    rw[wdV,List.map_take] at this;exact this
   have hB2:Pu F 10 [.ag (auC A),.sl (w.map fun b:Nat=>[V.i .u8 (b:Int)])] (.sl ((bhS A w).map cfC)):=Je hW hf hL w hw OM;have hX:∀ x,x∈bhS A (w.take k)↔x∈bhF A (w.take k) k:=fun x=>by rw[bhS,YZ,htl]
   have hXr:∀ x∈bhS A (w.take k),Qy A x=true:=fun x hx=>Ju hW _ _ x ((hX x).1 hx);have hXl:=Vu hW (w.take k) OM;have hS:∀ y,y∈bhF A w w.length↔∃ x∈bhS A (w.take k),y∈Yf A x w[k]:=fun y=>by
    rw[hk,hsn,List.mem_flatMap];constructor
    ·rintro⟨x,h1,h2⟩;exact⟨x,(hX x).2 h1,h2⟩
    ·rintro⟨x,h1,h2⟩;exact⟨x,(hX x).1 h1,h2⟩
   have hSl:∀ L:List Cf,L.Nodup→(∀ y∈L,∃ x∈bhS A (w.take k),y∈Yf A x w[k])→L.length≤130691232:=fun L h1 h2=>Vn hW (w:=w) (k:=w.length) OM h1 fun y hy=>(hS y).2 (h2 y hy);have hfin:∀ L,OnAt A w[k] (bhS A (w.take k)) L→Pu F 15 [.sl ((bhS A w).map cfC),.sl (L.map cfC)] (.bo true):=fun L hLo=>by
    refine D7 (l:=bhS A w) (want:=L) (by have:=Vu hW w OM;omega) (QiJ hLo.nd fun y=>by rw[hLo.mem,hS]) (fun y hy=>?_) (QhL _);rw[hLo.mem,← hS];exact (YZ _ y).1 hy
   clear hX hS hsn hok;generalize bhS A (w.take k)=X at hB1 hXr hXl hSl hfin;generalize w[k]=b at hb hxk hSl hfin;have hkI:IntKind.i64.wrap ((w.length:Int) - 1)=(k:Int):=by rw[Qg OM OM];omega
   have hkp:(0:Int)≤(k:Int):=by omega
   have hkl:((k:Int) < (w.length:Int))=True:=by simp;omega
   have hcut:cutV 1 0 k none (.sl (w.map fun b:Nat=>[V.i .u8 (b:Int)]))=some (.sl ((w.map fun b:Nat=>[V.i .u8 (b:Int)]).take k)):=by
    have h3:(w.map fun b:Nat=>[V.i .u8 (b:Int)]).all (fun c=>c.length==1)=true:=List.all_eq_true.2 fun c hc=>by rw[wd_1 w c hc];rfl
    have h4:k≤(w.map fun b:Nat=>[V.i .u8 (b:Int)]).length:=by rw[List.length_map];omega
    simp only[cutV];rw[if_pos ⟨Nat.zero_le _,h4,h3⟩,List.drop_zero]
   refine RT (Ad4 wdV.eq_1 hkI hcut hkp) ?_;refine PCT wdV.eq_1 (r:=.sl (X.map cfC)) hB1 ?_;refine RT trivial ?_;refine U_lp (fun r e o=>∃ (i:Nat) (L:List Cf),i+r=X.length∧e 1=wdV w∧e 5=.pt 5 0 0∧e 7=.sl (X.map cfC)∧e 8=ownV 76 5 (L.map cfC)∧Own o 76 5 (L.map cfC)∧e 9=.i .i64 i∧o 5=some (.row 15 [auC A])∧OnAt A b (X.take i) L) (k:=X.length) ?_ (Qa F) ?_
   ·exact⟨0,[],OM,by simp only[wdV,go_sem],Z0,Z0,Zr0,⟨rfl,fun h=>absurd rfl h⟩,Zr0,Z0,⟨List.nodup_nil,SM⟩⟩
   rintro r e o ⟨i,L,hir,r1,r5,r7,r8,ho,r9,m5,hLo⟩;dsimp only[b6_1];refine RT (Ad2 r7 r9) ?_;refine Qk (q:=decide ((i:Int) < (X.length:Int))) (Z0) (fun hc=>?_) (fun hc=>?_)
   ·have hi:i < X.length:=by simpa using hc
    have hip:(0:Int)≤(i:Int):=by omega
    have hx:=Y1 hi;have hw1:=ZP (i:=i) OM;have hxr:=hXr X[i] (List.getElem_mem hi);have hst:=QdY hW hL hxr hb;have hrm:=QhM (A:=A) X[i] b;have hrl:=Qgs hL X[i] b;have htk:X.take (i+1)=X.take i++[X[i]]:=by rw[List.take_add_one,List.getElem?_eq_getElem hi];rfl
    have hXi:∀ x∈X.take (i+1),x∈X:=fun x hx=>List.mem_of_mem_take hx;generalize X[i]=x at hx hst hrm hrl htk;generalize rstL A x b (mvAt A x.p.toNat)=R at hst hrm hrl;refine RT (Ad4 r1 r5 r7 (Ad5 r9 m5 wdV.eq_1 hip (Ad5 hx hkI hkp hkl hxk))) ?_;refine PCT (Ad2 r5 m5) (r:=.sl (R.map cfC)) hst ?_;refine RT trivial ?_;refine U_lp (fun q e o=>∃ (j:Nat) (L':List Cf),j+q=R.length∧e 1=wdV w∧e 5=.pt 5 0 0∧e 7=.sl (X.map cfC)∧e 8=ownV 76 5 (L'.map cfC)∧Own o 76 5 (L'.map cfC)∧e 9=.i .i64 i∧e 10=.sl (R.map cfC)∧e 11=.i .i64 j∧o 5=some (.row 15 [auC A])∧L'.Nodup∧∀ y,y∈L'↔(∃ x∈X.take i,y∈Yf A x b)∨y∈R.take j) (k:=R.length) ?_ (Qa F) ?_
    ·exact⟨0,L,OM,Z1 r1,Z1 r5,Z1 r7,Z1 r8,by (repeat first|with_reducible assumption|refine .up rfl ?_|refine .sw rfl ?_|refine .swN rfl ?_),Z1 r9,Z0,Zr0,Z1 m5,hLo.nd,fun y=>by rw[hLo.mem];simp⟩
    clear r1 r5 r7 r8 ho r9 m5 hLo;rintro q e o ⟨j,L',hjq,r1,r5,r7,r8,ho,r9,r10,r11,m5,hn,hm⟩;dsimp only[b6_0];have hLl:L'.length≤130691232:=hSl L' hn fun y hy=>by
     rcases (hm y).1 hy with⟨x',h1,h2⟩|h
     ·exact⟨x',List.mem_of_mem_take h1,h2⟩
     ·exact⟨x,hXi x (by rw[htk];simp),(hrm y).1 (List.mem_of_mem_take h)⟩
    refine RT (Ad2 r10 r11) ?_;refine Qk (q:=decide ((j:Int) < (R.length:Int))) (Z0) (fun hc2=>?_) (fun hc2=>?_)
    ·have hj:j < R.length:=by simpa using hc2
     have hjp:(0:Int)≤(j:Int):=by omega
     have hxj:=Y1 hj;have hwj:=ZP (i:=j) OM;have htj:R.take (j+1)=R.take j++[R[j]]:=by rw[List.take_add_one,List.getElem?_eq_getElem hj];rfl
     generalize R[j]=y at hxj htj;have hhc:=HT y L' OM;refine RT (Ad5 r8 r10 r11 hjp hxj) ?_;refine U_pc (vs:=[ownV 76 5 (L'.map cfC),.ag (cfC y)]) (ws:=[.sl (L'.map cfC),.ag (cfC y)]) (r:=.bo (decide (y∈L'))) (Z1 r8) (Vy (by (repeat first|with_reducible assumption|refine .up rfl ?_|refine .sw rfl ?_|refine .swN rfl ?_))) (Bool.or_eq_true_iff.2 (.inr rfl)) rfl hhc ?_;by_cases hy:y∈L'
     ·have d1:decide (y∈L')=true:=by simpa using hy
      refine RT (Ad3 d1 r11 hwj) ?_
      refine⟨q - 1,OM,j+1,L',OM,Z1 r1,Z1 r5,Z1 r7,Z1 r8,by (repeat first|with_reducible assumption|refine .up rfl ?_|refine .sw rfl ?_|refine .swN rfl ?_),Z1 r9,Z1 r10,Z0,Z1 m5,hn,fun z=>?_⟩
      rw[hm,htj,List.mem_append,List.mem_singleton];constructor
      ·rintro (h|h)
       ·exact .inl h
       ·exact .inr (.inl h)
      ·rintro (h|h|h)
       ·exact .inl h
       ·exact .inr h
       ·subst h;exact (hm z).1 hy
     ·have d1:decide (y∈L')=false:=by simpa using hy
      refine RT (Ad2 d1 (Ad5 r8 r10 r11 hjp hxj)) ?_;refine Yx 76 (L:=L'.map cfC) (ys:=[cfC y]) (Z1 r8) ?_ (by (simp only[src,List.take_succ_cons,List.take_zero,List.drop_succ_cons,List.drop_zero,go_sem]<;>rfl)) (by simp [WL]) SM OM ⟨by simp;omega,OM⟩ (QY _ ho.c) rfl ?_
      ·exact Own.h (by (repeat first|with_reducible assumption|refine .up rfl ?_|refine .sw rfl ?_|refine .swN rfl ?_))
      refine RN (Ad2 r11 hwj) ?_
      refine⟨q - 1,OM,j+1,L'++[y],OM,by simp only[r1,wdV,go_sem],Z1 r5,Z1 r7,by simp only[List.map_append,go_sem],?_,Z1 r9,Z1 r10,Z0,by simp only[m5,Qi9,go_sem],?_,fun z=>?_⟩
      ·rw[List.map_append];exact Own.to (by have:=WT (L'++[y]);rw[List.map_append] at this;exact this)
      ·exact List.nodup_append.2 ⟨hn,SM,fun a ha c hc=>by simp at hc;subst hc;intro hh;subst hh;exact hy ha⟩
      ·rw[List.mem_append,List.mem_singleton,hm,htj,List.mem_append,List.mem_singleton,or_assoc]
    ·have hj:j=R.length:=by
      have:¬ j < R.length:=by simpa using hc2
      omega
     subst hj;refine RN (Ad2 r9 hw1) ?_
     refine⟨r - 1,OM,i+1,L',OM,Z1 r1,Z1 r5,Z1 r7,Z1 r8,by (repeat first|with_reducible assumption|refine .up rfl ?_|refine .sw rfl ?_|refine .swN rfl ?_),Z0,Z1 m5,⟨hn,fun y=>?_⟩⟩
     rw[hm,List.take_length,htk];constructor
     ·rintro (⟨x',h1,h2⟩|h)
      ·exact⟨x',List.mem_append_left _ h1,h2⟩
      ·exact⟨x,SM,(hrm y).1 h⟩
     ·rintro⟨x',h1,h2⟩
      rcases List.mem_append.1 h1 with h1|h1
      ·exact .inl ⟨x',h1,h2⟩
      ·rw[List.mem_singleton.1 h1] at h2;exact .inr ((hrm y).2 h2)
   ·have hi:i=X.length:=by
     have:¬ i < X.length:=by simpa using hc
     omega
    subst hi;rw[List.take_length] at hLo;refine RT (Ad4 r1 r5 m5 wdV.eq_1) ?_;refine PCT (Ad4 r1 r5 m5 wdV.eq_1) (r:=.sl ((bhS A w).map cfC)) hB2 ?_;refine RT r8 ?_;refine U_pc (vs:=[.sl ((bhS A w).map cfC),ownV 76 5 (L.map cfC)]) (ws:=[.sl ((bhS A w).map cfC),.sl (L.map cfC)]) (r:=.bo true) (Z1 r8) (Qbb (by (repeat first|with_reducible assumption|refine .up rfl ?_|refine .sw rfl ?_|refine .swN rfl ?_))) (Bool.or_eq_true_iff.2 (.inr rfl)) rfl (hfin L hLo) ?_;refine RT trivial ?_;rfl
end Go.Proofs.YtocmjakchgcioaaGreat
