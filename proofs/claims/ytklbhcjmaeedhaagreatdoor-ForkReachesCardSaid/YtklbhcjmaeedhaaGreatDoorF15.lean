import Derived.Test.YtklbhcjmaeedhaaGreatDoorKh
import Derived.Test.YtklbhcjmaeedhaaGreatDoorC13
import Derived.Test.YtklbhcjmaeedhaaGreatDoorKg

namespace Go.Proofs.YtklbhcjmaeedhaaGreatDoor
set_option linter.all false
variable {A:Au} {b:Nat}
attribute [-go_sem] Qy Qj rfOb V.cells
structure Fq (A:Au) (T:Nat) (B:List Cf) (e:E) (o:O):Prop where
 r3:e 3=.pt 3 0 0
 r5:e 5=.i .i64 T
 r9:e 9=ownV 97 5 (B.map cfC)
 o3:o 3=some (.row 15 [auC A])
 ow:Own o 97 5 (B.map cfC)
def QaX (hW:WF A) {y:Cf} (h:y∈begF A b):Qr A y=true:=by
 rw[begF,Qf3] at h;obtain⟨p,hp,rfl⟩:=List.mem_map.1 h;obtain⟨h1,h2⟩:=hW.f p (List.mem_filter.1 hp).1;exact Hi hW h1 (by rw[hW.la];exact h2)
def Qhj (l:List Cf):(sdC l).length≤l.length:=by rw[sdC,cmpC];exact Nat.le_trans (Qcq _ _) (Nat.le_of_eq (Hj l).length_eq)
def Qed:(begF A b).length≤A.first.length:=by
 refine Nat.le_trans (Qhj _) ?_;rw[begL,List.length_map];exact List.length_filter_le _ _
def QcE (L:List Cf):cld (.sl (L.map cfC))=true:=by rw[cld];exact DC L
set_option maxHeartbeats 2000000 in
def Qjy (A:Au) (T i:Nat) (hB:∀ B,gdB A B→B.length≤200) (l:List Cf) (hl:∀ y∈l,Qr A y=true) (hll:l.length < 2147483648) (B:List Cf) (hg:gdB A B) (e:E) (o:O) (h:Fq A T B e o) (r10:e 10=.i .i64 i) (r12:e 12=.sl (l.map cfC)) (r13:e 13=.i .i64 0) :
  wpU true (Call F) (.lp b3_1) (fun x e o=>x=.ex 4∧∃ B',Fq A T B' e o∧e 10=.i .i64 i∧gdB A B'∧(∀ c∈B,c∈B')∧∀ c∈l,c∈B') e o:=by
 refine U_lp (fun r e o=>∃ (k:Nat) (B1:List Cf),k+r=l.length∧Fq A T B1 e o∧e 10=.i .i64 i∧e 12=.sl (l.map cfC)∧e 13=.i .i64 k∧gdB A B1∧(∀ c∈B,c∈B1)∧∀ c∈l.take k,c∈B1) (k:=l.length) ⟨0,B,OM,h,r10,r12,r13,hg,fun _ h=>h,SM⟩ (Qa F) ?_;clear h r10 r12 r13;rintro r e o ⟨k,B1,hkr,⟨r3,r5,r9,o3,ow⟩,r10,r12,r13,g1,g2,g3⟩;dsimp only[b3_1];by_cases hk:k < l.length
 ·have hd:decide ((k:Int) < (l.length:Int))=true:=decide_eq_true OM;have hkp:(0:Int)≤(k:Int):=by omega
  have hx:=HH hk;have hw:=Zu (i:=k) OM;have hr:=hl _ (List.getElem_mem hk);have htk:l.take (k+1)=l.take k++[l[k]]:=by rw[List.take_add_one,List.getElem?_eq_getElem hk];rfl
  generalize l[k]=y at hx hr htk;have hBl:=hB B1 g1;have hhc:=Qc9 y B1 OM;refine RT (Ad2 r9 (Ad5 r12 r13 hd hkp hx)) ?_;refine U_pc (vs:=[ownV 97 5 (B1.map cfC),.ag (cfC y)]) (ws:=[.sl (B1.map cfC),.ag (cfC y)]) (r:=.bo (decide (y∈B1))) (Z1 r9) (QaJ (by (repeat first|with_reducible assumption|refine .up rfl ?_|refine .sw rfl ?_|refine .swN rfl ?_))) (Bool.or_eq_true_iff.2 (.inr rfl)) rfl hhc ?_;by_cases hy:y∈B1
  ·have d1:decide (y∈B1)=true:=by simpa using hy
   refine RT (Ad3 d1 r13 hw) ?_
   refine⟨r - 1,OM,k+1,B1,OM,⟨Z1 r3,Z1 r5,Z1 r9,Z1 o3,by (repeat first|with_reducible assumption|refine .up rfl ?_|refine .sw rfl ?_|refine .swN rfl ?_)⟩,Z1 r10,Z1 r12,Z0,g1,g2,fun c hc=>?_⟩
   rw[htk] at hc;rcases List.mem_append.1 hc with hc|hc
   ·exact g3 c hc
   ·rw[List.mem_singleton.1 hc];exact hy
  ·have d1:decide (y∈B1)=false:=by simpa using hy
   have hmap:(B1++[y]).map cfC=B1.map cfC++[cfC y]:=by simp
   refine RT (Ad2 d1 (Ad5 r9 r12 r13 hkp hx)) ?_;refine YO 97 (L:=B1.map cfC) (ys:=[cfC y]) (Z1 r9) ?_ (by (simp only[src,List.take_succ_cons,List.take_zero,List.drop_succ_cons,List.drop_zero,go_sem]<;>rfl)) (by simp [J0]) SM OM ⟨by simp;omega,OM⟩ (Q4 _ ow.c) rfl ?_
   ·exact Own.h (by (repeat first|with_reducible assumption|refine .up rfl ?_|refine .sw rfl ?_|refine .swN rfl ?_))
   refine RN (Ad2 r13 hw) ?_
   refine⟨r - 1,OM,k+1,B1++[y],OM,⟨Z1 r3,Z1 r5,by rw[hmap];simp only[go_sem],Z1 o3,?_⟩,Z1 r10,Z1 r12,Z0,g1.add hy hr,fun c hc=>List.mem_append_left _ (g2 c hc),fun c hc=>?_⟩
   ·rw[hmap];exact Own.to (by rw[← hmap];exact Kh (B1++[y]))
   ·rw[htk] at hc;rcases List.mem_append.1 hc with hc|hc
    ·exact List.mem_append_left _ (g3 c hc)
    ·exact List.mem_append_right _ hc
 ·have hd:decide ((k:Int) < (l.length:Int))=false:=decide_eq_false OM;rw[List.take_of_length_le OM] at g3;refine RT (Ad3 r12 r13 hd) ?_
  exact⟨rfl,B1,⟨Z1 r3,Z1 r5,Z1 r9,Z1 o3,by (repeat first|with_reducible assumption|refine .up rfl ?_|refine .sw rfl ?_|refine .swN rfl ?_)⟩,Z1 r10,g1,g2,g3⟩
set_option maxHeartbeats 4000000 in
def Qfg {t:Nd} (T:Nat) (hW:WF (Qf t)) (hf:(Qf t).first.length≤1000) (hB:∀ B,gdB (Qf t) B→B.length≤200) (e:E) (o:O) (h:Fq (Qf t) T [] e o) (r10:e 10=.i .i64 0) :
  wpU true (Call F) (.lp b3_2) (fun x e o=>x=.ex 2∧∃ B,Fq (Qf t) T B e o∧gdB (Qf t) B∧∀ p∈(Qf t).first,QG (Qf t) p []∈B) e o:=by
 have hfi:=hW.f;have hpb:=fun p (h1:0 < p) (h2:p < (Qf t).sets.length)=>QeW hW h1 h2;have hadd:=fun i=>Qjy (Qf t) T i hB;have hbr:=fun (b:Nat) (y:Cf) (h:y∈begF (Qf t) b)=>(QaX hW h:Qr (Qf t) y=true);generalize Qf t=A at *;generalize hfl:A.first=l at hf hfi;refine U_lp (fun r e o=>∃ (i:Nat) (B:List Cf),i+r=l.length∧Fq A T B e o∧e 10=.i .i64 i∧gdB A B∧∀ p∈l.take i,QG A p []∈B) (k:=l.length) ⟨0,[],OM,h,r10,⟨SM,SM⟩,SM⟩ (Qa F) ?_;clear h r10;rintro r e o ⟨i,B,hir,⟨r3,r5,r9,o3,ow⟩,r10,g1,g2⟩;dsimp only[b3_2];by_cases hi:i < l.length
 ·have hd:decide ((i:Int) < (l.length:Int))=true:=decide_eq_true OM;have hip:(0:Int)≤(i:Int):=by omega
  have hxi:=VV hi;have hw:=Zu (i:=i) OM;have htk:l.take (i+1)=l.take i++[l[i]]:=by rw[List.take_add_one,List.getElem?_eq_getElem hi];rfl
  have hp:=hfi _ (List.getElem_mem hi);have hpm:l[i]∈A.first:=by rw[hfl];exact List.getElem_mem hi
  generalize l[i]=p at hxi htk hp hpm;have hle:=Qct hW hp.2 hp.2;obtain⟨b0,hb0,hb1⟩:=hpb p hp.1 hp.2;obtain⟨b,hsb,hb,hbt⟩:∃ b,shB A p p=some b∧b < 256∧QA (stAt A p) b=true:=by
   cases hs:shB A p p with
   | none =>
    exfalso;rw[shB,YP,List.find?_range_eq_none] at hs
    have:=hs b0 hb0
    rw[hb1] at this;cases this
   | some b =>
    have hs':=hs;rw[shB,YP,List.find?_range_eq_some] at hs'
    exact⟨b,rfl,Qj9 hs,by simpa using hs'.1⟩
  rw[hsb] at hle;have hle:Pu F 8 [.ag (auC A),.i .i64 p,.i .i64 p] (.i .i64 (b:Nat)):=hle;have hwb:IntKind.u8.wrap (b:Int)=b:=by simp [IntKind.wrap,IntKind.bits,IntKind.signed];omega
  have hbg:=Qe1 hW (by rw[hfl];exact hf) hb;have hbm:QG A p []∈begF A b:=by
   rw[begF,Qf3];exact List.mem_map.2 ⟨p,List.mem_filter.2 ⟨hpm,hbt⟩,rfl⟩
  have hbl:(begF A b).length < 2147483648:=by
   have:=Qed (A:=A) (b:=b);rw[hfl] at this;omega
  have hbr:=hbr b;generalize begF A b=L at hbg hbm hbl hbr;refine RT (Ad3 hfl r3 (Ad5 r10 o3 hd hip hxi)) ?_;refine PRT trivial (r:=.i .i64 (b:Nat)) hle ?_;refine RT (Ad3 r3 o3 hwb) ?_;refine U_pc (vs:=[.ag (auC A),.i .u8 b]) (ws:=[.ag (auC A),.i .u8 b]) (Z1 hwb) (Zp (by simp only[List.all_cons,List.all_nil,Bool.and_true,go_sem])) (Bool.or_eq_true_iff.2 (.inl (by simp only[clos,List.all_cons,List.all_nil,Bool.and_true,go_sem]))) (QcE L) hbg ?_;refine RT trivial ?_;refine Z4 (fun e o=>∃ B',Fq A T B' e o∧e 10=.i .i64 i∧gdB A B'∧(∀ c∈B,c∈B')∧∀ c∈L,c∈B') (hadd i L hbr hbl B g1 _ _ ⟨Z1 r3,Z1 r5,Z1 r9,Z1 o3,by (repeat first|with_reducible assumption|refine .up rfl ?_|refine .sw rfl ?_|refine .swN rfl ?_)⟩ (Z1 r10) (Z0) (Z0)) ?_;clear r3 r5 r9 o3 ow r10;rintro e o ⟨B',⟨r3,r5,r9,o3,ow⟩,r10,k1,k2,k3⟩;refine RT (Ad2 r10 hw) ?_
  refine⟨r - 1,OM,i+1,B',OM,⟨Z1 r3,Z1 r5,Z1 r9,Z1 o3,by (repeat first|with_reducible assumption|refine .up rfl ?_|refine .sw rfl ?_|refine .swN rfl ?_)⟩,Z0,k1,fun q hq=>?_⟩
  rw[htk] at hq;rcases List.mem_append.1 hq with hq|hq
  ·exact k2 _ (g2 q hq)
  ·rw[List.mem_singleton.1 hq];exact k3 _ hbm
 ·have hd:decide ((i:Int) < (l.length:Int))=false:=decide_eq_false OM;rw[List.take_of_length_le OM] at g2;refine RT (Ad5 hfl r3 r10 o3 hd) ?_
  exact⟨rfl,B,⟨Z1 r3,Z1 r5,Z1 r9,Z1 o3,by (repeat first|with_reducible assumption|refine .up rfl ?_|refine .sw rfl ?_|refine .swN rfl ?_)⟩,g1,g2⟩
def DO {s sz:Nat} {L:List (List V)} (h:L≠[]):ownV s sz L=.rw s sz 0 L.length:=by rw[ownV,if_neg h]
set_option maxHeartbeats 4000000 in
def QmU (A:Au) (hW:WF A) (hL:∀ l∈A.moves,l.length < 2147483648) (T i:Nat) (hB:∀ B,gdB A B→B.length≤200) {x:Cf} (hx:Qr A x=true) (ms:List Mv) (hms:ms=mvAt A x.p.toNat) (B:List Cf) (hg:gdB A B) (hi:B[i]?=some x) (e:E) (o:O) (h:Fq A T B e o) (r14:e 14=.i .i64 i) (r15:e 15=.sl (ms.map mvC)) (r16:e 16=.i .i64 0) :
  wpU true (Call F) (.lp b3_3) (fun z e o=>z=.ex 8∧∃ B',Fq A T B' e o∧e 14=.i .i64 i∧gdB A B'∧B <+: B'∧∀ m∈ms,∀ y,mayF A x m=some y→y∈B') e o:=by
 have hpl:x.p.toNat < A.moves.length:=by have:=(QS hx).2;rw[hW.lm,← hW.la];exact this
 have hmk:∀ m∈ms,MvOk A x.p.toNat m:=fun m hm=>mvOk hW (XR hpl) (hms ▸ hm);have hml:ms.length < 2147483648:=by rw[hms];exact hL _ (List.mem_of_getElem? (XR hpl))
 refine U_lp (fun r e o=>∃ (k:Nat) (B1:List Cf),k+r=ms.length∧Fq A T B1 e o∧e 14=.i .i64 i∧e 15=.sl (ms.map mvC)∧e 16=.i .i64 k∧gdB A B1∧B <+: B1∧∀ m∈ms.take k,∀ y,mayF A x m=some y→y∈B1) (k:=ms.length) ⟨0,B,OM,h,r14,r15,r16,hg,List.prefix_rfl,SM⟩ (Qa F) ?_;clear h r14 r15 r16;rintro r e o ⟨k,B1,hkr,⟨r3,r5,r9,o3,ow⟩,r14,r15,r16,g1,g2,g3⟩;dsimp only[b3_3];by_cases hk:k < ms.length
 ·have hd:decide ((k:Int) < (ms.length:Int))=true:=decide_eq_true OM;have hkp:(0:Int)≤(k:Int):=by omega
  have hip:(0:Int)≤(i:Int):=by omega
  have hmx:=QaE hk;have hw:=Zu (i:=k) OM;have htk:ms.take (k+1)=ms.take k++[ms[k]]:=by rw[List.take_add_one,List.getElem?_eq_getElem hk];rfl
  have hmem:=List.getElem_mem hk;generalize ms[k]=m at hmx htk hmem;have hmo:=hmk m hmem;have hBl:=hB B1 g1;have hi1:=Zb g2 hi;have hne:B1.map cfC≠[]:=by intro h;rw[List.map_eq_nil_iff.1 h] at hi1;cases hi1
  have r9':=r9;rw[DO hne,List.length_map] at r9';have o97:=ow.h hne;have hib:i < B1.length:=(List.getElem?_eq_some_iff.1 hi1).1;have hxi:(B1.map cfC)[i]?=some (cfC x):=by rw[List.getElem?_map,hi1];rfl
  have hlt:((i:Int) < (B1.length:Int))=True:=by simp only[eq_iff_iff,iff_true];omega
  have hltn:(i < B1.length)=True:=by simp only[eq_iff_iff,iff_true];omega
  have hmay:=QgG hW hL x m;rw[mayR,if_pos ⟨hx,hms ▸ hmem⟩] at hmay;refine RT (Ad2 r3 (Ad5 r9' r14 r15 r16 (Ad5 o3 o97 hd hkp (Ad5 hip hmx hxi hlt hltn)))) ?_;cases hv:mayF A x m with
  | none =>
   rw[hv] at hmay;have hmay:Pu F 11 [.ag (auC A),.ag (cfC x),.ag (mvC m)] (.tp [.ag (cfC noC),.bo false]):=hmay;refine PRT trivial (r:=.tp [.ag (cfC noC),.bo false]) hmay ?_;refine RT (Ad2 r16 hw) ?_
   refine⟨r - 1,OM,k+1,B1,OM,⟨Z1 r3,Z1 r5,Z1 r9,Z1 o3,by (repeat first|with_reducible assumption|refine .up rfl ?_|refine .sw rfl ?_|refine .swN rfl ?_)⟩,Z1 r14,Z1 r15,Z0,g1,g2,fun m' hm' y hy=>?_⟩
   rw[htk] at hm';rcases List.mem_append.1 hm' with hm'|hm'
   ·exact g3 m' hm' y hy
   ·rw[List.mem_singleton.1 hm',hv] at hy;cases hy
  | some y =>
   rw[hv] at hmay;have hmay:Pu F 11 [.ag (auC A),.ag (cfC x),.ag (mvC m)] (.tp [.ag (cfC y),.bo true]):=hmay;have hyr:=(Ve hW hx hmo hv).1;have hhc:=Qc9 y B1 OM;refine PRT trivial (r:=.tp [.ag (cfC y),.bo true]) hmay ?_;refine RT r9 ?_;refine U_pc (vs:=[ownV 97 5 (B1.map cfC),.ag (cfC y)]) (ws:=[.sl (B1.map cfC),.ag (cfC y)]) (r:=.bo (decide (y∈B1))) (Z1 r9) (QaJ (by (repeat first|with_reducible assumption|refine .up rfl ?_|refine .sw rfl ?_|refine .swN rfl ?_))) (Bool.or_eq_true_iff.2 (.inr rfl)) rfl hhc ?_;by_cases hy:y∈B1
   ·have d1:decide (y∈B1)=true:=by simpa using hy
    refine RT (Ad3 d1 r16 hw) ?_
    refine⟨r - 1,OM,k+1,B1,OM,⟨Z1 r3,Z1 r5,Z1 r9,Z1 o3,by (repeat first|with_reducible assumption|refine .up rfl ?_|refine .sw rfl ?_|refine .swN rfl ?_)⟩,Z1 r14,Z1 r15,Z0,g1,g2,fun m' hm' y' hy'=>?_⟩
    rw[htk] at hm';rcases List.mem_append.1 hm' with hm'|hm'
    ·exact g3 m' hm' y' hy'
    ·rw[List.mem_singleton.1 hm',hv] at hy';cases hy';exact hy
   ·have d1:decide (y∈B1)=false:=by simpa using hy
    have hmap:(B1++[y]).map cfC=B1.map cfC++[cfC y]:=by simp
    refine RT (Ad2 d1 r9) ?_;refine YO 97 (L:=B1.map cfC) (ys:=[cfC y]) (Z1 r9) ?_ (by (simp only[src,List.take_succ_cons,List.take_zero,List.drop_succ_cons,List.drop_zero,go_sem]<;>rfl)) (by simp [J0]) SM OM ⟨by simp;omega,OM⟩ (Q4 _ ow.c) rfl ?_
    ·exact Own.h (by (repeat first|with_reducible assumption|refine .up rfl ?_|refine .sw rfl ?_|refine .swN rfl ?_))
    refine RN (Ad2 r16 hw) ?_
    refine⟨r - 1,OM,k+1,B1++[y],OM,⟨Z1 r3,Z1 r5,by rw[hmap];simp only[go_sem],Z1 o3,?_⟩,Z1 r14,Z1 r15,Z0,g1.add hy hyr,Ya g2 (List.prefix_append _ _),fun m' hm' y' hy'=>?_⟩
    ·rw[hmap];exact Own.to (by rw[← hmap];exact Kh (B1++[y]))
    ·rw[htk] at hm';rcases List.mem_append.1 hm' with hm'|hm'
     ·exact List.mem_append_left _ (g3 m' hm' y' hy')
     ·rw[List.mem_singleton.1 hm',hv] at hy';cases hy';simp
 ·have hd:decide ((k:Int) < (ms.length:Int))=false:=decide_eq_false OM;rw[List.take_of_length_le OM] at g3;refine RT (Ad3 r15 r16 hd) ?_
  exact⟨rfl,B1,⟨Z1 r3,Z1 r5,Z1 r9,Z1 o3,by (repeat first|with_reducible assumption|refine .up rfl ?_|refine .sw rfl ?_|refine .swN rfl ?_)⟩,Z1 r14,g1,g2,g3⟩
def clB (A:Au) (B:List Cf):Prop:=∀ x∈B,∀ m∈mvAt A x.p.toNat,∀ y,mayF A x m=some y→y∈B
set_option maxHeartbeats 4000000 in
def QiM (A:Au) (hW:WF A) (hL:∀ l∈A.moves,l.length < 2147483648) (T:Nat) (hB:∀ B,gdB A B→B.length≤200) (B0:List Cf) (hg:gdB A B0) (e:E) (o:O) (h:Fq A T B0 e o) (r14:e 14=.i .i64 0) :
  wpU true (Call F) (.lp b3_4) (fun z e o=>z=.ex 6∧∃ B,Fq A T B e o∧gdB A B∧(∀ c∈B0,c∈B)∧clB A B) e o:=by
 refine U_lp (fun r e o=>∃ (i:Nat) (B:List Cf),i+r=300∧i≤B.length∧Fq A T B e o∧e 14=.i .i64 i∧gdB A B∧(∀ c∈B0,c∈B)∧∀ j x,j < i→B[j]?=some x→∀ m∈mvAt A x.p.toNat,∀ y,mayF A x m=some y→y∈B) (k:=300) ⟨0,B0,OM,OM,h,r14,hg,fun _ h=>h,fun j x hj=>by omega⟩ (Qa F) ?_;clear h r14;rintro r e o ⟨i,B,hir,hib,⟨r3,r5,r9,o3,ow⟩,r14,g1,g2,g3⟩;dsimp only[b3_4];have hBl:=hB B g1;by_cases hi:i < B.length
 ·have hne:B.map cfC≠[]:=by intro h;rw[List.map_eq_nil_iff.1 h] at hi;cases hi
  have r9':=r9;rw[DO hne,List.length_map] at r9';have o97:=ow.h hne;have d1:decide ((i:Int) < (B.length:Int))=true:=decide_eq_true OM;have d2:decide ((i:Int) < 300)=true:=decide_eq_true OM;have hip:(0:Int)≤(i:Int):=by omega
  have hlt:((i:Int) < (B.length:Int))=True:=by simp only[eq_iff_iff,iff_true];omega
  have hxe:B[i]?=some B[i]:=List.getElem?_eq_getElem hi;have hxr:=g1.2 _ (List.getElem_mem hi);generalize B[i]=x at hxe hxr;have hxi:(B.map cfC)[i]?=some (cfC x):=by rw[List.getElem?_map,hxe];rfl
  obtain⟨p1,p2⟩:=QS hxr;have hpl:x.p.toNat < A.moves.length:=by rw[hW.lm,← hW.la];exact p2
  have hmo:=Qfj hpl;have hp:x.p=(x.p.toNat:Int):=by omega
  have hmv:=fun e o h=>QmU A hW hL T i hB hxr (mvAt A x.p.toNat) rfl B g1 hxe e o h;generalize hms:mvAt A x.p.toNat=ms at hmo hmv;generalize hpq:x.p.toNat=p at hp hmo;have hpp:(0:Int)≤(p:Int):=by omega
  have hw:=Zu (i:=i) OM;refine RT (Ad5 hp r3 r9' r14 (Ad5 o3 o97 d1 d2 (Ad5 hip hlt hxi hmo hpp))) ?_;refine Z4 (fun e o=>∃ B',Fq A T B' e o∧e 14=.i .i64 i∧gdB A B'∧B <+: B'∧∀ m∈ms,∀ y,mayF A x m=some y→y∈B') (hmv _ _ ⟨Z1 r3,Z1 r5,Z1 r9,Z1 o3,by (repeat first|with_reducible assumption|refine .up rfl ?_|refine .sw rfl ?_|refine .swN rfl ?_)⟩ (Z1 r14) (Z0) (Z0)) ?_;clear r3 r5 r9 r9' o3 ow r14 o97;rintro e o ⟨B',⟨r3,r5,r9,o3,ow⟩,r14,k1,k2,k3⟩;have hkl:=k2.length_le;refine RT (Ad2 r14 hw) ?_
  refine⟨r - 1,OM,i+1,B',OM,OM,⟨Z1 r3,Z1 r5,Z1 r9,Z1 o3,by (repeat first|with_reducible assumption|refine .up rfl ?_|refine .sw rfl ?_|refine .swN rfl ?_)⟩,Z0,k1,fun c hc=>k2.subset (g2 c hc),fun j x' hj hx' m hm y hy=>?_⟩
  by_cases hji:j=i
  ·subst hji;rw[Zb k2 hxe] at hx';injection hx' with hx';subst hx'
   exact k3 m (hms ▸ hm) y hy
  ·have hjl:j < B.length:=by omega
   have:=Zb k2 (List.getElem?_eq_getElem hjl)
   rw[this] at hx';injection hx' with hx'
   exact k2.subset (g3 j x' OM (by rw[← hx'];exact List.getElem?_eq_getElem hjl) m hm y hy)
 ·have hie:i=B.length:=by omega
  have hcl:clB A B:=fun x hx m hm y hy=>by
   obtain⟨j,hj,rfl⟩:=List.mem_iff_getElem.1 hx;exact g3 j _ OM (List.getElem?_eq_getElem hj) m hm y hy
  by_cases hne0:B=[]
  ·have r9n:e 9=.nil:=by rw[r9,hne0];rfl
   have hi0:i=0:=by rw[hie,hne0];rfl
   have d1:decide ((i:Int) < 0)=false:=decide_eq_false OM;refine RT (Ad3 r9n r14 d1) ?_
   exact⟨rfl,B,⟨Z1 r3,Z1 r5,Z1 r9,Z1 o3,by (repeat first|with_reducible assumption|refine .up rfl ?_|refine .sw rfl ?_|refine .swN rfl ?_)⟩,g1,g2,hcl⟩
  ·have hne:B.map cfC≠[]:=by intro h;exact hne0 (List.map_eq_nil_iff.1 h)
   have r9':=r9;rw[DO hne,List.length_map] at r9';have d1:decide ((i:Int) < (B.length:Int))=false:=decide_eq_false OM;refine RT (Ad3 r9' r14 d1) ?_
   exact⟨rfl,B,⟨Z1 r3,Z1 r5,Z1 r9,Z1 o3,by (repeat first|with_reducible assumption|refine .up rfl ?_|refine .sw rfl ?_|refine .swN rfl ?_)⟩,g1,g2,hcl⟩
def Qew (n:Nd) (hs:Zv n):∃ (A:Au) (ok:Bool),Pu F 6 [.ag (cel n)] (.tp [.ag (auC A),.bo ok])∧(ok=true→Qe n=true∧A=Qf (Qb n)∧Qe (Qb n)=true∧WF A∧(∀ l∈A.moves,l.length < 2147483648)):=by
 by_cases hb:Q6 n 80 > 80
 ·exact⟨noA,false,QeK n hs hb,fun h=>by cases h⟩
 ·have hc:cntN n≤80:=by
   have:=Hq n 80 OM OM
   omega
  obtain⟨A,er,hM,h⟩:=Qhs n hs OM
  refine⟨A,er==0,Qcu n hs hb hM,fun h0=>?_⟩
  rcases h with⟨h1,_⟩|⟨h1,h2,h3,h4,h5,h6⟩
  ·exact absurd (by simpa using h0) h1
  ·exact⟨h2,h4,h3,h5,h6⟩
def QaT {n:Nd} (hf:Qe n=true) (hf':Qe (Qb n)=true) (hW:WF (Qf (Qb n))) {B:List Cf} (h0:∀ p∈(Qf (Qb n)).first,QG (Qf (Qb n)) p []∈B) (hc:clB (Qf (Qb n)) B):∀ x,Qr (Qf (Qb n)) x=true→x∈B:=by
 cases hv:QD n with
 | false=>exact QbI hf' (Jr n hf) (Xn n hf hv) hW (fun x=>x∈B) h0 fun x m y hx _ hm hy=>hc x hx m hm y hy
 | true =>
  have e:Qb n=.mk 1 zSet [] 0 0:=by
   obtain⟨k,s,ps,lo,hi⟩:=n;rw[Qb,if_pos hv]
  intro x hx;have h:=(QS hx);rw[e] at h
  have:(Qf (.mk 1 zSet [] 0 0)).around.length=1:=rfl
  omega
set_option maxHeartbeats 4000000 in
def Qjt (A:Au) (hW:WF A) (e:E) (o:O) (r3:e 3=.pt 3 0 0) (r5:e 5=.i .i64 0) (r6:e 6=.i .i64 1) (o3:o 3=some (.row 15 [auC A])) :
  wpU true (Call F) (.lp b3_0) (fun z e o=>(z=.ex 0∧e 3=.pt 3 0 0∧e 5=.i .i64 (totL A 200 (A.around.length - 1)).length∧o 3=some (.row 15 [auC A])∧∀ i,1≤i→i < A.around.length→(allF A i 200).isSome=true)∨(z=.rt∧e 2=.bo true)) e o:=by
 have hal:A.around.length=A.moves.length:=by rw[hW.la,hW.lm]
 have hm1:1≤A.moves.length:=by rw[hW.lm];exact hW.n0
 have hm2:A.moves.length≤41:=by rw[hW.lm];exact hW.n
 refine U_lp (fun r e o=>∃ j:Nat,j+1+r=A.moves.length∧(∀ i,1≤i→i≤j→(allF A i 200).isSome=true)∧(totL A 200 j).length≤1000*j∧e 3=.pt 3 0 0∧e 5=.i .i64 (totL A 200 j).length∧e 6=.i .i64 (j+1:Nat)∧o 3=some (.row 15 [auC A])) (k:=A.moves.length - 1) ⟨0,OM,fun i a b=>by omega,by simp [totL],r3,r5,r6,o3⟩ (Qa F) ?_;clear r3 r5 r6 o3;rintro r e o ⟨j,hjr,hs,hln,r3,r5,r6,o3⟩;dsimp only[b3_0];by_cases hj:j+1 < A.moves.length
 ·have hd:decide (((j+1:Nat):Int) < (A.moves.length:Int))=true:=decide_eq_true OM;have hw:=Zu (i:=j+1) OM;have hla:j+1 < A.around.length:=by omega
  have hall:=Qj3 hW (most:=200) hla OM;have hl1:∀ l,allF A (j+1) 200=some l→l.length≤1000:=fun l h=>QgX OM _ l h;have htn:totL A 200 (j+1)=totL A 200 j++(allF A (j+1) 200).getD []:=rfl;cases hv:allF A (j+1) 200 with
  | none =>
   rw[hv] at hall;have hall:Pu F 7 [.ag (auC A),.i .i64 (j+1:Nat),.i .i64 200] (.tp [.sl [],.bo false]):=hall;generalize j+1=J at hall r6 hd;refine RT (Ad4 r3 r6 o3 hd) ?_;refine U_pc (vs:=[.ag (auC A),.i .i64 J,.i .i64 200]) (ws:=[.ag (auC A),.i .i64 J,.i .i64 200]) (Z0) (Zp ?_) (Bool.or_eq_true_iff.2 (.inl ?_)) rfl hall ?_
   ·simp only[List.all_cons,List.all_nil,Bool.and_true,go_sem]
   ·simp only[clos,List.all_cons,List.all_nil,Bool.and_true,go_sem]
   refine RT trivial ?_;exact .inr ⟨rfl,Z0⟩
  | some l =>
   have hl:=hl1 l hv;rw[hv] at hall htn;rw[Option.getD_some] at htn;have hall:Pu F 7 [.ag (auC A),.i .i64 (j+1:Nat),.i .i64 200] (.tp [.sl (l.map cfC),.bo true]):=hall;have htl:(totL A 200 (j+1)).length=(totL A 200 j).length+l.length:=by rw[htn,List.length_append]
   have hwT:IntKind.i64.wrap (((totL A 200 j).length:Int)+(l.length:Int))=((totL A 200 (j+1)).length:Int):=by
    rw[htl,Qi OM OM];omega
   have hs':∀ i,1≤i→i≤j+1→(allF A i 200).isSome=true:=fun i a b=>by
    by_cases h:i=j+1
    ·rw[h,hv];rfl
    ·exact hs i a OM
   have hln':(totL A 200 (j+1)).length≤1000*(j+1):=by omega
   generalize (totL A 200 j).length=a at r5 hwT;clear htl htn hl1 hs hln;refine RT (Ad4 r3 r6 o3 hd) ?_;refine U_pc (vs:=[.ag (auC A),.i .i64 (j+1:Nat),.i .i64 200]) (ws:=[.ag (auC A),.i .i64 (j+1:Nat),.i .i64 200]) (Z0) (Zp ?_) (Bool.or_eq_true_iff.2 (.inl ?_)) ?_ hall ?_
   ·simp only[List.all_cons,List.all_nil,Bool.and_true,go_sem]
   ·simp only[clos,List.all_cons,List.all_nil,Bool.and_true,go_sem]
   ·rw[cld,cldL,QcE];rfl
   refine RT (Ad4 r5 r6 hwT hw) ?_
   exact⟨r - 1,OM,j+1,OM,hs',hln',Z1 r3,Z0,Z0,Z1 o3⟩
 ·have hd:decide (((j+1:Nat):Int) < (A.moves.length:Int))=false:=decide_eq_false OM;have hj1:A.around.length - 1=j:=by omega
  refine RT (Ad4 r3 r6 o3 hd) ?_;exact .inl ⟨rfl,Z1 r3,by rw[hj1];simp only[r5,go_sem],Z1 o3,fun i a b=>hs i a OM⟩
set_option maxRecDepth 20000 in
set_option maxHeartbeats 8000000 in
def Qa7 (n:Nd) (hs:Zv n):Pu F 3 [.ag (cel n)] (.bo true):=by
 have hsz:Pu F 5 [.ag (cel n),.i .i64 40] (.i .i64 (Q6 n 40)):=KF n hs 40 OM OM emp _ (fun _=>rfl);have haw:=QcW;refine Qh e3 rfl rfl (by simp only[go_sem,Bool.and_true]) ?_;dsimp only[fn3,c3];by_cases hA:Q6 n 40 > 40
 ·have hA1:decide (Q6 n 40 > 40)=true:=by simpa using hA
  (repeat' (first|refine RST hA1 ?_|((with_reducible refine PCT hA1 (r:=.bo true) ?h ?_);case h=>exact haw)|((with_reducible refine PCT hA1 (r:=.i .i64 (Q6 n 40)) ?h ?_);case h=>exact hsz)|with_reducible refine GBT hA1 (fun _=>?_) (fun _=>?_)|with_reducible refine GDT hA1 (fun _=>?_) (fun _=>?_)));rfl
 have hA1:decide (Q6 n 40 > 40)=false:=by simpa using hA
 obtain⟨A,ok,hAu,hok⟩:=Qew n hs;(repeat' (first|refine RST hA1 ?_|((with_reducible refine PCT hA1 (r:=.bo true) ?h ?_);case h=>exact haw)|((with_reducible refine PCT hA1 (r:=.i .i64 (Q6 n 40)) ?h ?_);case h=>exact hsz)|with_reducible refine GBT hA1 (fun _=>?_) (fun _=>?_)|with_reducible refine GDT hA1 (fun _=>?_) (fun _=>?_)));refine U_pc (vs:=[.ag (cel n)]) (ws:=[.ag (cel n)]) (Z0) (QcF n _) (Bool.or_eq_true_iff.2 (.inl (Do n))) (by simp only[Bool.and_true,go_sem]) hAu ?_;cases ok with
 | false =>
  refine RT trivial ?_;rfl
 | true =>
  obtain⟨hf,hAm,hf',hW,hL⟩:=hok rfl;subst hAm;have hcl:=fun (B:List Cf) h0 hc=>QaT (B:=B) hf hf' hW h0 hc;have hff:(Qf (Qb n)).first.length≤1000:=by
   have hfn:=VW (Qb n)
   have:=JO _ (List.range 41) hfn fun p hp=>List.mem_range.2 (by have:=(hW.f p hp).2;have:=hW.n;omega)
   simp at this;omega
  clear hAu hok haw hsz;generalize Qb n=t at hcl hff hW hL;refine RT trivial ?_;refine VN (fun e o=>e 3=.pt 3 0 0∧e 5=.i .i64 (totL (Qf t) 200 ((Qf t).around.length - 1)).length∧o 3=some (.row 15 [auC (Qf t)])∧∀ i,1≤i→i < (Qf t).around.length→(allF (Qf t) i 200).isSome=true) (Ke (Qa F) (fun x e o hx=>?_) (Qjt (Qf t) hW _ _ (Z0) (Z0) (Z0) (Z0))) ?_
  ·rcases hx with hx|⟨rfl,hx⟩
   ·exact .inl hx
   ·refine .inr ⟨rfl,?_⟩;refine RT hx ?_;rfl
  rintro e o ⟨r3,r5,o3,hsm⟩;have htl:=fun (B:List Cf) (h:gdB (Qf t) B)=>Qgp hW hsm h.1 h.2;generalize (totL (Qf t) 200 ((Qf t).around.length - 1)).length=T at r5 htl;by_cases hT:T≤200
  ·have c0:decide ((T:Int) > 200)=false:=decide_eq_false OM;have hB:∀ B,gdB (Qf t) B→B.length≤200:=fun B h=>by have:=(htl B h).1;omega
   refine RT (Ad2 r5 c0) ?_;refine Z4 (fun e o=>∃ B,Fq (Qf t) T B e o∧gdB (Qf t) B∧∀ p∈(Qf t).first,QG (Qf t) p []∈B) (Qfg T hW hff hB _ _ ⟨Z1 r3,Z1 r5,Zr0,Z1 o3,⟨rfl,fun h=>absurd rfl h⟩⟩ (Z0)) ?_;clear r3 r5 o3;rintro e o ⟨B,⟨r3,r5,r9,o3,ow⟩,g1,g2⟩;refine RT trivial ?_;refine Z4 (fun e o=>∃ B',Fq (Qf t) T B' e o∧gdB (Qf t) B'∧(∀ c∈B,c∈B')∧clB (Qf t) B') (QiM (Qf t) hW hL T hB B g1 _ _ ⟨Z1 r3,Z1 r5,Z1 r9,Z1 o3,by (repeat first|with_reducible assumption|refine .up rfl ?_|refine .sw rfl ?_|refine .swN rfl ?_)⟩ (Z0)) ?_;clear r3 r5 r9 o3 ow;rintro e o ⟨B',⟨r3,r5,r9,o3,ow⟩,k1,k2,k3⟩;have hlen:B'.length=T:=(htl B' k1).2 (hcl B' (fun p hp=>k2 _ (g2 p hp)) k3);by_cases hne0:B'=[]
   ·have r9n:e 9=.nil:=by rw[r9,hne0];rfl
    have c1:((0:Int)==(T:Int))=true:=by rw[← hlen,hne0];rfl
    refine RT (Ad3 r9n r5 c1) ?_;rfl
   ·have hne:B'.map cfC≠[]:=by intro h;exact hne0 (List.map_eq_nil_iff.1 h)
    have r9':=r9;rw[DO hne,List.length_map] at r9';have c1:((B'.length:Int)==(T:Int))=true:=by rw[hlen];simp
    refine RT (Ad3 r9' r5 c1) ?_;rfl
  ·have c0:decide ((T:Int) > 200)=true:=decide_eq_true OM;refine RT (Ad2 r5 c0) ?_;rfl
end Go.Proofs.YtklbhcjmaeedhaaGreatDoor
