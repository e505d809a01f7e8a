import Derived.Test.YtocmjakchgcioaaGreatC12

namespace Go.Proofs.YtocmjakchgcioaaGreat
set_option linter.all false
variable {A:Au} {b:Nat}
attribute [-go_sem] Qp Qb rfOb V.cells
def Qah (A:Au) (p:Nat):entI p (arAt A p).length=QD A p []:=XP rfl fun j hj=>by
 rw[entI,QD,Y6 _ _ hj,Y6 _ _ hj];simp [entN]
def Qch (A:Au) (b:Nat) (ps:List Nat) (p:Nat):begL A b (ps++[p])=begL A b ps++(if Q0 (stAt A p) b then [QD A p []] else []):=by
 simp only[begL,List.filter_append,List.map_append];congr 1;by_cases h:Q0 (stAt A p) b=true
 ·simp [h]
 ·simp [h]
set_option maxHeartbeats 2000000 in
def Qbt (hW:WF A) (hf:A.first.length≤1000) (hb:b < 256):Pu F 32 [.ag (auC A),.i .u8 b] (.sl ((begL A b A.first).map cfC)):=by
 have hlt:∀ p∈A.first,p < A.sets.length:=fun p hp=>(hW.f p hp).2;have hwb:IntKind.i64.wrap (b:Int)=b:=Qg OM OM;generalize hfl:A.first=l at hf hlt;refine Qe e32 rfl rfl (by simp only[go_sem,Bool.and_true]) ?_;dsimp only[fn32,c32];refine RN trivial ?_;refine U_lp (fun r e o=>∃ i:Nat,i+r=l.length∧e 1=.i .u8 b∧e 2=.pt 2 0 0∧e 6=.i .i64 i∧e 5=ownV 54 5 ((begL A b (l.take i)).map cfC)∧Own o 54 5 ((begL A b (l.take i)).map cfC)∧o 2=some (.row 15 [auC A])) (k:=l.length) ?_ (Qa F) ?_
 ·exact⟨0,OM,Z0,Z0,Zr0,Zr0,⟨rfl,fun h=>absurd rfl h⟩,Z0⟩
 rintro r e o ⟨i,hir,r1,r2,r6,r5,ho,o2⟩;dsimp only[Qlc];have hln:(begL A b (l.take i)).length≤i:=by
  have h1:=List.length_filter_le (fun p=>Q0 (stAt A p) b) (l.take i);simp only[begL,List.length_map];rw[List.length_take] at h1;omega
 refine RT (Ad4 hfl r2 r6 o2) ?_;refine Qh (q:=decide ((i:Int) < (l.length:Int))) (Z0) (fun hc=>?_) (fun hc=>?_)
 ·have hi:i < l.length:=by simpa using hc
  have hip:(0:Int)≤(i:Int):=by omega
  have hxi:=QeL hi;have hpl:=hlt l[i] (List.getElem_mem hi);have hw:=Zs (i:=i) OM;have htk:begL A b (l.take (i+1))=begL A b (l.take i)++(if Q0 (stAt A l[i]) b then [QD A l[i] []] else []):=by
   rw[← Qch,List.take_add_one,List.getElem?_eq_getElem hi];rfl
  generalize l[i]=p at hxi hpl htk;have hxp:(0:Int)≤(p:Int):=by omega
  have hst:=Qdw hpl;have hhas:=QcM (stAt A p) (st_w hW hpl) b hb;have hra:=Qc0 (A:=A) (p:=p) (by rw[hW.la];exact hpl);have h4:=ar_4 hW (p:=p) (by rw[hW.la];exact hpl);have hee:=Qah A p;refine RT (Ad2 hfl (Ad5 hwb r1 r2 r6 (Ad5 o2 hip hxi hxp hst))) ?_;refine PRN (Ad2 hwb r1) (r:=.bo (Q0 (stAt A p) b)) hhas ?_;cases hbt:Q0 (stAt A p) b with
  | false =>
   rw[hbt] at htk;have htk:begL A b (l.take (i+1))=begL A b (l.take i):=by rw[htk];simp
   refine RN (Ad2 r6 hw) ?_
   exact⟨r - 1,OM,i+1,OM,Z1 r1,Z1 r2,Z0,by rw[htk];simp only[r5,go_sem],by rw[htk];exact ho,Z1 o2⟩
  | true =>
   rw[hbt,if_pos rfl] at htk;generalize hal:arAt A p=al at hra h4 hee;refine RT (Ad2 hfl (Ad5 r2 r6 o2 hip hxi)) ?_;refine Yd (fun e o=>e 1=.i .u8 b∧e 2=.pt 2 0 0∧e 6=.i .i64 i∧e 5=ownV 54 5 ((begL A b (l.take i)).map cfC)∧e 7=.pt 7 0 0∧Own o 54 5 ((begL A b (l.take i)).map cfC)∧o 2=some (.row 15 [auC A])∧o 7=some (.row 5 [cfC (QD A p [])])) ?_ ?_
   ·refine U_lp (fun r e o=>∃ k:Nat,k+r=al.length∧e 1=.i .u8 b∧e 2=.pt 2 0 0∧e 6=.i .i64 i∧e 5=ownV 54 5 ((begL A b (l.take i)).map cfC)∧e 7=.pt 7 0 0∧e 8=.i .i64 k∧Own o 54 5 ((begL A b (l.take i)).map cfC)∧o 2=some (.row 15 [auC A])∧o 7=some (.row 5 [cfC (entI p k)])) (k:=al.length) ?_ (Qa F) ?_
    ·exact⟨0,OM,Z1 r1,Z1 r2,Z1 r6,Z1 r5,Z0,Zr0,by (repeat first|with_reducible assumption|refine .up rfl ?_|refine .sw rfl ?_|refine .swN rfl ?_),Z1 o2,Zr0⟩
    clear r1 r2 r6 r5 ho o2;rintro r' e o ⟨k,hkr,r1,r2,r6,r5,r7,r8,ho,o2,o7⟩;dsimp only[QjC];have e7:(cfC (entI p k))[0]?=some (.i .i64 (p:Int)):=rfl;have ep:(entI p k).p=p:=rfl;refine RT (Ad4 ep r2 r7 (Ad5 r8 o2 o7 hra hxp)) ?_;refine Qh (q:=decide ((k:Int) < (al.length:Int))) (Z0) (fun hc2=>?_) (fun hc2=>?_)
    ·have hk:k < al.length:=by simpa using hc2
     have hk4:k < 4:=by omega
     have hkp:(0:Int)≤(k:Int):=by omega
     have hk4':((k:Int) < 4)=True:=by simp;omega
     have hspl:=HJ (entI p k) 1 hk4;rw[KO p k hk4] at hspl;have hle:1+k+1≤5:=by omega
     have hwk:=Zs (i:=k) OM;refine RT (Ad4 r7 r8 o7 (Ad5 hkp hk4' hspl hle hwk)) ?_
     exact⟨r' - 1,OM,k+1,OM,Z1 r1,Z1 r2,Z1 r6,Z1 r5,Z1 r7,Z0,by (repeat first|with_reducible assumption|refine .up rfl ?_|refine .sw rfl ?_|refine .swN rfl ?_),Z1 o2,Z0⟩
    ·have hk:k=al.length:=by
      have:¬ k < al.length:=by simpa using hc2
      omega
     subst hk;rw[hee] at o7;refine RN trivial ?_
     exact⟨rfl,Z1 r1,Z1 r2,Z1 r6,Z1 r5,Z1 r7,ho,o2,o7⟩
   clear r1 r2 r6 r5 ho o2;rintro e o ⟨r1,r2,r6,r5,r7,ho,o2,o7⟩;refine RN (Ad3 r5 r7 o7) ?_;refine Yi 54 (L:=(begL A b (l.take i)).map cfC) (ys:=[cfC (QD A p [])]) (Z1 r5) ?_ (by (simp only[src,go_sem]<;>rfl)) (by simp [Wh]) SM OM ⟨by simp;omega,OM⟩ (QY _ ho.c) rfl ?_
   ·exact Own.h (by (repeat first|with_reducible assumption|refine .up rfl ?_|refine .sw rfl ?_|refine .swN rfl ?_))
   refine RN (Ad2 r6 hw) ?_
   refine⟨r - 1,OM,i+1,OM,Z1 r1,Z1 r2,Z0,by simp only[htk,List.map_append,go_sem],?_,Z1 o2⟩
   rw[htk,List.map_append];exact Own.to (by have:=J8 (begL A b (l.take i)++[QD A p []]);rw[List.map_append] at this;exact this)
 ·have hi:i=l.length:=by
   have:¬ i < l.length:=by simpa using hc
   omega
  subst hi;rw[List.take_length] at r5 ho;refine RN r5 ?_;exact ZV ho (Hf _) 22
def rst1 (A:Au) (x:Cf) (b:Nat) (out:List Cf) (m:Mv):List Cf:=match mayF A x m with
 | some y=>if Q0 (stAt A m.to) b=true∧y ∉ out then out++[y] else out
 | none=>out
def rstL (A:Au) (x:Cf) (b:Nat) (ms:List Mv):List Cf:=ms.foldl (rst1 A x b) []
theorem Kd (A:Au) (x:Cf) (b:Nat):∀ (ms:List Mv) (out:List Cf),out.Nodup→(ms.foldl (rst1 A x b) out).Nodup∧(ms.foldl (rst1 A x b) out).length≤out.length+ms.length∧∀ y,y∈ms.foldl (rst1 A x b) out↔y∈out∨y∈Zy A x b ms
 | [],out,h=>⟨h,SM,fun y=>by simp [Zy]⟩
 | m::ms,out,h=>by
  have h1:(rst1 A x b out m).Nodup∧(rst1 A x b out m).length≤out.length+1∧∀ y,y∈rst1 A x b out m↔y∈out∨(if Q0 (stAt A m.to) b then mayF A x m else none)=some y:=by
   unfold rst1;cases hv:mayF A x m with
   | none=>exact⟨h,SM,fun y=>by simp⟩
   | some z =>
    dsimp only;by_cases hb:Q0 (stAt A m.to) b=true
    ·by_cases hz:z∈out
     ·rw[if_neg (fun hh=>hh.2 hz)]
      refine⟨h,OM,fun y=>?_⟩
      rw[if_pos hb];constructor
      ·exact .inl
      ·rintro (hh|hh)
       ·exact hh
       ·cases hh;exact hz
     ·rw[if_pos ⟨hb,hz⟩]
      refine⟨List.nodup_append.2 ⟨h,SM,fun a ha c hc e=>?_⟩,SM,fun y=>?_⟩
      ·rw[List.mem_singleton.1 hc] at e;rw[e] at ha;exact hz ha
      ·rw[if_pos hb,List.mem_append,List.mem_singleton];constructor
       ·rintro (hh|hh)
        ·exact .inl hh
        ·exact .inr (by rw[hh])
       ·rintro (hh|hh)
        ·exact .inl hh
        ·exact .inr (Option.some.inj hh).symm
    ·rw[if_neg (fun hh=>hb hh.1)]
     exact⟨h,OM,fun y=>by simp [hb]⟩
  obtain⟨g1,g2,g3⟩:=Kd A x b ms (rst1 A x b out m) h1.1;rw[List.foldl_cons]
  refine⟨g1,by simp only[List.length_cons];omega,fun y=>?_⟩
  rw[g3,h1.2.2];have hs:y∈Zy A x b (m::ms)↔(if Q0 (stAt A m.to) b then mayF A x m else none)=some y∨y∈Zy A x b ms:=by
   unfold Zy;rw[List.filterMap_cons];cases hv:(if Q0 (stAt A m.to) b then mayF A x m else none) with
   | none=>simp
   | some z =>
    simp only[List.mem_cons,Option.some.injEq];constructor
    ·rintro (h|h)
     ·exact .inl h.symm
     ·exact .inr h
    ·rintro (h|h)
     ·exact .inl h.symm
     ·exact .inr h
  rw[hs,or_assoc]
def D4 {o:O} {s:Nat} {L:List Cf} {y:Cf} (h:Own o s 5 (L.map cfC)):fzsU o [ownV s 5 (L.map cfC),.ag (cfC y)]=some [.sl (L.map cfC),.ag (cfC y)]:=by
 have h1:fzU o (ownV s 5 (L.map cfC))=some (.sl (L.map cfC)):=ZV h (Hf L) 22;have h2:fzU o (.ag (cfC y))=some (.ag (cfC y)):=Ja (Qfn y);simp [fzsU,h1,h2]
set_option maxHeartbeats 2000000 in
def QdU (hW:WF A) (hL:∀ l∈A.moves,l.length < 2147483648) {x:Cf} (hr:Qx A x=true) (hb:b < 256):Pu F 13 [.ag (auC A),.ag (cfC x),.i .u8 b] (.sl ((rstL A x b (mvAt A x.p.toNat)).map cfC)):=by
 obtain⟨r1,r2,_⟩:=QH.1 hr;obtain⟨p,hp⟩:∃ p:Nat,x.p=p:=⟨x.p.toNat,OM⟩;have hpt:x.p.toNat=p:=by omega
 have hpp:(0:Int)≤(p:Int):=by omega
 have hpl:p < A.moves.length:=by rw[hW.lm,← hW.la];omega
 have hmo:=Qja hpl;have hml:=hL _ (List.mem_of_getElem? (XS hpl));have hmk:∀ m∈mvAt A p,MvOk A x.p.toNat m:=fun m hm=>mvOk hW (XS (p:=x.p.toNat) (by rw[hpt];exact hpl)) (by rw[hpt];exact hm);have hwb:IntKind.i64.wrap (b:Int)=b:=Qg OM OM;rw[hpt];generalize mvAt A p=l at hmo hml hmk;refine Qe e13 rfl rfl (by simp only[go_sem,Bool.and_true]) ?_;dsimp only[fn13,c13];refine RN trivial ?_;refine U_lp (fun r e o=>∃ i:Nat,i+r=l.length∧e 2=.i .u8 b∧e 3=.pt 3 0 0∧e 4=.pt 4 0 0∧e 8=.i .i64 i∧e 7=ownV 61 5 ((rstL A x b (l.take i)).map cfC)∧Own o 61 5 ((rstL A x b (l.take i)).map cfC)∧o 3=some (.row 15 [auC A])∧o 4=some (.row 5 [cfC x])) (k:=l.length) ?_ (Qa F) ?_
 ·exact⟨0,OM,Z0,Z0,Z0,Zr0,Zr0,⟨rfl,fun h=>absurd rfl h⟩,Z0,Z0⟩
 rintro r e o ⟨i,hir,r2,r3,r4,r8,r7,ho,o3,o4⟩;dsimp only[QjR];have hln:=(Kd A x b (l.take i) [] List.nodup_nil).2.1;rw[List.length_take,List.length_nil] at hln;have hln:(rstL A x b (l.take i)).length≤i:=by unfold rstL;omega
 refine RT (Ad4 hp r3 r4 (Ad5 r8 o3 o4 hmo hpp)) ?_;refine Qh (q:=decide ((i:Int) < (l.length:Int))) (Z0) (fun hc=>?_) (fun hc=>?_)
 ·have hi:i < l.length:=by simpa using hc
  have hip:(0:Int)≤(i:Int):=by omega
  have hxi:=Qfi hi;have hw:=Zs (i:=i) OM;have htk:rstL A x b (l.take (i+1))=rst1 A x b (rstL A x b (l.take i)) l[i]:=by
   rw[List.take_add_one,List.getElem?_eq_getElem hi];simp only[rstL,Option.toList_some,List.foldl_append,List.foldl_cons,List.foldl_nil]
  have hmi:=hmk l[i] (List.getElem_mem hi);generalize l[i]=m at hxi htk hmi;generalize rstL A x b (l.take i)=L at r7 ho hln htk;have hto:m.to < A.sets.length:=by rw[← hW.la];exact hmi.to
  have hst:=Qdw hto;have htp:(0:Int)≤(m.to:Int):=by omega
  have hhas:=QcM (stAt A m.to) (st_w hW hto) b hb;have hmay:=QhA hW hr hmi;cases hv:mayF A x m with
  | none =>
   rw[hv] at hmay;have htk:rstL A x b (l.take (i+1))=L:=by rw[htk];simp [rst1,hv]
   refine RT (Ad2 hp (Ad5 r3 r4 r8 o3 (Ad5 o4 hmo hpp hip hxi))) ?_;refine PRN (Ad2 r3 r4) (r:=.tp [.ag (cfC noC),.bo false]) hmay ?_;refine RN (Ad2 r8 hw) ?_
   refine⟨r - 1,OM,i+1,OM,Z1 r2,Z1 r3,Z1 r4,Z0,by rw[htk];simp only[r7,go_sem],?_,Z1 o3,Z1 o4⟩
   rw[htk];(repeat first|with_reducible assumption|refine .up rfl ?_|refine .sw rfl ?_|refine .swN rfl ?_)
  | some y =>
   rw[hv] at hmay;refine RT (Ad2 hp (Ad5 r3 r4 r8 o3 (Ad5 o4 hmo hpp hip hxi))) ?_;refine PRN (Ad2 r3 r4) (r:=.tp [.ag (cfC y),.bo true]) hmay ?_;refine RT (Ad2 r2 (Ad5 r3 o3 htp hst hwb)) ?_;refine PRN (Ad2 hwb r2) (r:=.bo (Q0 (stAt A m.to) b)) hhas ?_;cases hbt:Q0 (stAt A m.to) b with
   | false =>
    have htk:rstL A x b (l.take (i+1))=L:=by rw[htk];simp [rst1,hv,hbt]
    refine RN (Ad2 r8 hw) ?_
    refine⟨r - 1,OM,i+1,OM,Z1 r2,Z1 r3,Z1 r4,Z0,by rw[htk];simp only[r7,go_sem],?_,Z1 o3,Z1 o4⟩
    rw[htk];(repeat first|with_reducible assumption|refine .up rfl ?_|refine .sw rfl ?_|refine .swN rfl ?_)
   | true =>
    have hhc:=Ve y L OM;refine RN r7 ?_;refine U_pc (vs:=[ownV 61 5 (L.map cfC),.ag (cfC y)]) (ws:=[.sl (L.map cfC),.ag (cfC y)]) (r:=.bo (decide (y∈L))) (Z1 r7) (D4 (by (repeat first|with_reducible assumption|refine .up rfl ?_|refine .sw rfl ?_|refine .swN rfl ?_))) (Bool.or_eq_true_iff.2 (.inr rfl)) rfl hhc ?_;by_cases hy:y∈L
    ·have d1:decide (y∈L)=true:=by simpa using hy
     have htk:rstL A x b (l.take (i+1))=L:=by rw[htk];simp [rst1,hv,hy]
     refine RN (Ad3 d1 r8 hw) ?_
     refine⟨r - 1,OM,i+1,OM,Z1 r2,Z1 r3,Z1 r4,Z0,by rw[htk];simp only[r7,go_sem],?_,Z1 o3,Z1 o4⟩
     rw[htk];(repeat first|with_reducible assumption|refine .up rfl ?_|refine .sw rfl ?_|refine .swN rfl ?_)
    ·have d1:decide (y∈L)=false:=by simpa using hy
     have htk:rstL A x b (l.take (i+1))=L++[y]:=by rw[htk];simp [rst1,hv,hbt,hy]
     refine RN (Ad2 d1 r7) ?_;refine Yi 61 (L:=L.map cfC) (ys:=[cfC y]) (Z1 r7) ?_ (by (simp only[src,go_sem]<;>rfl)) (by simp [Wh]) SM OM ⟨by simp;omega,OM⟩ (QY _ ho.c) rfl ?_
     ·exact Own.h (by (repeat first|with_reducible assumption|refine .up rfl ?_|refine .sw rfl ?_|refine .swN rfl ?_))
     refine RN (Ad2 r8 hw) ?_
     refine⟨r - 1,OM,i+1,OM,Z1 r2,Z1 r3,Z1 r4,Z0,by simp only[htk,List.map_append,go_sem],?_,Z1 o3,Z1 o4⟩
     rw[htk,List.map_append];exact Own.to (by have:=J8 (L++[y]);rw[List.map_append] at this;exact this)
 ·have hi:i=l.length:=by
   have:¬ i < l.length:=by simpa using hc
   omega
  subst hi;rw[List.take_length] at r7 ho;refine RN r7 ?_;exact ZV ho (Hf _) 22
end Go.Proofs.YtocmjakchgcioaaGreat
