import Derived.Test.YtocmjakchgcioaaGreatKr
import Derived.Test.YtocmjakchgcioaaGreatA9
import Derived.Test.YtocmjakchgcioaaGreatG8

namespace Go.Proofs.YtocmjakchgcioaaGreat
set_option linter.all false
attribute [-go_sem] Qw Qe rfOb V.cells
def QdO {A:Au} (hW:WF A) (hfn:A.first.Nodup):A.first.length≤1000:=by
 have:=XV A.first (List.range 41) hfn fun p hp=>List.mem_range.2 (by have:=(hW.f p hp).2;have:=hW.n;omega)
 have:A.first.length≤41:=by simpa using this
 omega
def QeZ {n:Nd} {A:Au} (hs:Zd n) (hA:A=Qr (Qb n)) (hf:Qg n=true) (hf':Qg (Qb n)=true) (hW:WF A) (hc:cntN n≤80) (w:List Nat) (hw:∀ b∈w,b < 256):mtF A w=true↔Mb n w:=by
 subst hA;rw[QeU hf' (JC n hf) hW w hw,X5 n ⟨hs,hf⟩ OM]
def QeQ (n:Nd):(cel n).all QdD=true:=by cases n;rfl
def Qjj (n:Nd):(cel n).map nlD=cel n:=by cases n;rfl
def altN (n m:Nd):Nd:=.mk 3 zSet [n,m] 0 0
def QdB (n m:Nd) (w:List Nat):Mb (altN n m) w↔Mb n w∨Mb m w:=by
 rw[altN,ZO];simp only[show ¬ (3:Int)=1 by omega,if_false,if_true,Qv,Ze,Xl];rfl
def QdT {n m:Nd} (hn:Zd n) (hm:Zd m):Zd (altN n m):=⟨fun _ _=>by show (0:Nat) < 18446744073709551616;omega,SM,hn,hm,trivial⟩
def Hs (n:Nd) (hs:Zd n):∃ (A:Au) (ok:Bool),Pu F 9 [.ag (cel n)] (.tp [.ag (auC A),.bo ok])∧(ok=true→WF A∧A.first.length≤1000∧(∀ l∈A.moves,l.length < 2147483648)∧∀ w:List Nat,(∀ b∈w,b < 256)→(mtF A w=true↔Mb n w)):=by
 by_cases hb:Zx n 80 > 80
 ·exact⟨noA,false,QeE n hs hb,fun h=>by cases h⟩
 ·have hc:cntN n≤80:=by
   have:=Vu n 80 OM OM
   omega
  obtain⟨A,er,hM,h⟩:=QhW n hs OM
  refine⟨A,er==0,QcY n hs hb hM,fun h0=>?_⟩
  rcases h with⟨h1,_⟩|⟨h1,h2,h3,h4,h5,h6⟩
  ·exact absurd (by simpa using h0) h1
  ·exact⟨h5,QdO h5 (by rw[h4];exact Dc _),h6,fun w hw=>QeZ hs h4 h2 h3 h5 hc w hw⟩
set_option maxRecDepth 20000 in
set_option maxHeartbeats 8000000 in
def Qbw (n m:Nd) (hn:Zd n) (hm:Zd m) (w:List Nat) (hw:∀ b∈w,b < 256):Pu F 4 [.ag (cel n),.ag (cel m),wdV w] (.bo true):=by
 have haw:=Qc2;obtain⟨A,okA,hA,hokA⟩:=Hs n hn;obtain⟨B,okB,hB,hokB⟩:=Hs m hm;obtain⟨D,okD,hD,hokD⟩:=Hs (altN n m) (QdT hn hm);refine Ql e4 rfl rfl (by simp only[go_sem,Bool.and_true,wdV]) ?_;dsimp only[fn4,c4];refine RT wdV.eq_1 ?_;refine PRT trivial (r:=.bo true) haw ?_;by_cases h1:w.length≤20
 ·have c1:decide ((w.length:Int) > 20)=false:=decide_eq_false OM;refine RT (Ad2 wdV.eq_1 c1) ?_;refine U_pc (vs:=[.ag (cel n)]) (ws:=[.ag (cel n)]) (Z0) (KZ n _) (Bool.or_eq_true_iff.2 (.inl (WT n))) (by simp only[Bool.and_true,go_sem]) hA ?_;refine RT trivial ?_;refine U_pc (vs:=[.ag (cel m)]) (ws:=[.ag (cel m)]) (Z0) (KZ m _) (Bool.or_eq_true_iff.2 (.inl (WT m))) (by simp only[Bool.and_true,go_sem]) hB ?_;refine RT trivial ?_;refine U_q (v:=.sl [cel n,cel m]) (by (simp only[litV,go_sem];simp [QeQ,Qjj])) ?_;refine RT trivial ?_;refine U_pc (vs:=[.ag (cel (altN n m))]) (ws:=[.ag (cel (altN n m))]) (Zr0) (KZ _ _) (Bool.or_eq_true_iff.2 (.inl (WT _))) (by simp only[Bool.and_true,go_sem]) hD ?_;cases okA with
  | false =>
   refine RT trivial ?_;rfl
  | true =>
   cases okB with
   | false =>
    refine RT trivial ?_;rfl
   | true =>
    cases okD with
    | false =>
     refine RT trivial ?_;rfl
    | true =>
     obtain⟨hWA,hfA,hLA,hmA⟩:=hokA rfl;obtain⟨hWB,hfB,hLB,hmB⟩:=hokB rfl;obtain⟨hWD,hfD,hLD,hmD⟩:=hokD rfl;have hA1:Pu F 11 [.ag (auC A),.sl (w.map fun b:Nat=>[V.i .u8 (b:Int)])] (.bo (mtF A w)):=Xd hWA hfA hLA w hw OM;have hB1:Pu F 11 [.ag (auC B),.sl (w.map fun b:Nat=>[V.i .u8 (b:Int)])] (.bo (mtF B w)):=Xd hWB hfB hLB w hw OM;have hD1:Pu F 11 [.ag (auC D),.sl (w.map fun b:Nat=>[V.i .u8 (b:Int)])] (.bo (mtF D w)):=Xd hWD hfD hLD w hw OM;have hz:mtF D w=(mtF A w||mtF B w):=by
      rw[Bool.eq_iff_iff,Bool.or_eq_true,hmA w hw,hmB w hw,hmD w hw,QdB]
     clear hokA hokB hokD hA hB hD haw hmA hmB hmD;rw[hz] at hD1;generalize mtF A w=x at hA1 hD1;generalize mtF B w=y at hB1 hD1;clear hz;refine RT wdV.eq_1 ?_;refine PRT wdV.eq_1 (r:=.bo (x||y)) hD1 ?_;refine RT trivial ?_;refine PRT wdV.eq_1 (r:=.bo x) hA1 ?_;cases x with
     | true =>
      (repeat (with_reducible (first|refine YJ ?_|refine Z9 ?_|refine Y9 ?_|refine Xs ?_|refine Vw ?_|refine Dv ?_|refine JH ?_|refine X_nx ?_|refine X_ex ?_|refine X_rt ?_|refine B_nx ?_|refine YS ?_|refine B_ne RM ?_|refine B_rt ?_|((first|refine U_q (v:=?_) ?h1 ?_|refine U_ld (v:=?_) ?h1 ?_|refine Qbu (v:=?_) ?h1 ?_|refine QbD ?h1 ?_|refine Kl (v:=?_) ?h1 ?_|refine E_1 (v:=?_) ?h1 ?_|refine E_1n (v:=?_) ?h1 ?_|refine VV (n:=?_) ?h1 ?_|refine U_gt ?h1 ?_|refine Jt ?h1 ?_);case h1=>((try simp only[List.take_succ_cons,List.take_zero,List.drop_succ_cons,List.drop_zero,Bool.true_or,beq_self_eq_true,go_sem])<;>rfl))|(refine Ka (cs:=?_) (cs':=?_) (n:=?_) ?h1 ?h2 ?h3 ?h4 ?_;case h1|h2|h3|h4=>((try simp only[List.take_succ_cons,List.take_zero,List.drop_succ_cons,List.drop_zero,Bool.true_or,beq_self_eq_true,go_sem])<;>rfl))|(refine Kd (id:=?_) (i:=?_) (j:=?_) (q:=?_) (es:=?_) (cs:=?_) (vs:=?_) (es':=?_) ?h1 ?h2 ?h3 ?h4 ?h5 ?h6 ?h7 ?_;case h1|h2|h3|h4|h5|h6|h7=>((try simp only[List.take_succ_cons,List.take_zero,List.drop_succ_cons,List.drop_zero,Bool.true_or,beq_self_eq_true,go_sem])<;>rfl))|(refine Ds (es:=?_) (es':=?_) ?h1 ?h2 ?h3 ?_;case h1|h2|h3=>((try simp only[List.take_succ_cons,List.take_zero,List.drop_succ_cons,List.drop_zero,Bool.true_or,beq_self_eq_true,go_sem])<;>rfl))|refine KD ?_|refine QbA ?_|(refine Qbr ?h1 ?_;case h1=>((try simp only[List.take_succ_cons,List.take_zero,List.drop_succ_cons,List.drop_zero,Bool.true_or,beq_self_eq_true,go_sem])<;>rfl))|((first|refine VY ?h1 ?_|refine Vr ?h1 ?_|refine WL ?h1 ?_);case h1=>((try simp only[List.take_succ_cons,List.take_zero,List.drop_succ_cons,List.drop_zero,Bool.true_or,beq_self_eq_true,go_sem])<;>rfl))|(refine U_gj (vs:=?_) ?h1 ?_;case h1=>((try simp only[List.take_succ_cons,List.take_zero,List.drop_succ_cons,List.drop_zero,Bool.true_or,beq_self_eq_true,go_sem])<;>rfl))|((first|refine E_2 (v:=?_) (u:=?_) ?h1 ?h2 ?_|refine E_2n (v:=?_) (u:=?_) ?h1 ?h2 ?_);case h1|h2=>((try simp only[List.take_succ_cons,List.take_zero,List.drop_succ_cons,List.drop_zero,Bool.true_or,beq_self_eq_true,go_sem])<;>rfl))|refine E_0 ?_|refine E_0n ?_|rw[QO]|(refine KN (id:=?_) (i:=?_) (j:=?_) (q:=?_) (es:=?_) (cs:=?_) (vs:=?_) (es':=?_) ?h1 ?h2 ?h3 ?h4 ?h5 ?h6 ?h7 ?h8 ?_;(case h1|h2|h3|h4|h5|h6|h7=>((try simp only[List.take_succ_cons,List.take_zero,List.drop_succ_cons,List.drop_zero,Bool.true_or,beq_self_eq_true,go_sem])<;>rfl));(case h8=>repeat (first|exact J2|(refine Ju (v:=?_) ?g1 ?g2 ?g3 ?_;(case g1|g2=>((try simp only[List.take_succ_cons,List.take_zero,List.drop_succ_cons,List.drop_zero,Bool.true_or,beq_self_eq_true,go_sem])<;>rfl));(case g3=>first|rfl|simp only[ok,okL,go_sem]))|(refine Kz ?g1 ?g2 ?_;(case g1|g2=>((try simp only[List.take_succ_cons,List.take_zero,List.drop_succ_cons,List.drop_zero,Bool.true_or,beq_self_eq_true,go_sem])<;>rfl)))))))));rfl
     | false =>
      refine RT trivial ?_;refine PRT wdV.eq_1 (r:=.bo y) hB1 ?_;(repeat (with_reducible (first|refine YJ ?_|refine Z9 ?_|refine Y9 ?_|refine Xs ?_|refine Vw ?_|refine Dv ?_|refine JH ?_|refine X_nx ?_|refine X_ex ?_|refine X_rt ?_|refine B_nx ?_|refine YS ?_|refine B_ne RM ?_|refine B_rt ?_|((first|refine U_q (v:=?_) ?h1 ?_|refine U_ld (v:=?_) ?h1 ?_|refine Qbu (v:=?_) ?h1 ?_|refine QbD ?h1 ?_|refine Kl (v:=?_) ?h1 ?_|refine E_1 (v:=?_) ?h1 ?_|refine E_1n (v:=?_) ?h1 ?_|refine VV (n:=?_) ?h1 ?_|refine U_gt ?h1 ?_|refine Jt ?h1 ?_);case h1=>((try simp only[List.take_succ_cons,List.take_zero,List.drop_succ_cons,List.drop_zero,Bool.false_or,beq_self_eq_true,go_sem])<;>rfl))|(refine Ka (cs:=?_) (cs':=?_) (n:=?_) ?h1 ?h2 ?h3 ?h4 ?_;case h1|h2|h3|h4=>((try simp only[List.take_succ_cons,List.take_zero,List.drop_succ_cons,List.drop_zero,Bool.false_or,beq_self_eq_true,go_sem])<;>rfl))|(refine Kd (id:=?_) (i:=?_) (j:=?_) (q:=?_) (es:=?_) (cs:=?_) (vs:=?_) (es':=?_) ?h1 ?h2 ?h3 ?h4 ?h5 ?h6 ?h7 ?_;case h1|h2|h3|h4|h5|h6|h7=>((try simp only[List.take_succ_cons,List.take_zero,List.drop_succ_cons,List.drop_zero,Bool.false_or,beq_self_eq_true,go_sem])<;>rfl))|(refine Ds (es:=?_) (es':=?_) ?h1 ?h2 ?h3 ?_;case h1|h2|h3=>((try simp only[List.take_succ_cons,List.take_zero,List.drop_succ_cons,List.drop_zero,Bool.false_or,beq_self_eq_true,go_sem])<;>rfl))|refine KD ?_|refine QbA ?_|(refine Qbr ?h1 ?_;case h1=>((try simp only[List.take_succ_cons,List.take_zero,List.drop_succ_cons,List.drop_zero,Bool.false_or,beq_self_eq_true,go_sem])<;>rfl))|((first|refine VY ?h1 ?_|refine Vr ?h1 ?_|refine WL ?h1 ?_);case h1=>((try simp only[List.take_succ_cons,List.take_zero,List.drop_succ_cons,List.drop_zero,Bool.false_or,beq_self_eq_true,go_sem])<;>rfl))|(refine U_gj (vs:=?_) ?h1 ?_;case h1=>((try simp only[List.take_succ_cons,List.take_zero,List.drop_succ_cons,List.drop_zero,Bool.false_or,beq_self_eq_true,go_sem])<;>rfl))|((first|refine E_2 (v:=?_) (u:=?_) ?h1 ?h2 ?_|refine E_2n (v:=?_) (u:=?_) ?h1 ?h2 ?_);case h1|h2=>((try simp only[List.take_succ_cons,List.take_zero,List.drop_succ_cons,List.drop_zero,Bool.false_or,beq_self_eq_true,go_sem])<;>rfl))|refine E_0 ?_|refine E_0n ?_|rw[QO]|(refine KN (id:=?_) (i:=?_) (j:=?_) (q:=?_) (es:=?_) (cs:=?_) (vs:=?_) (es':=?_) ?h1 ?h2 ?h3 ?h4 ?h5 ?h6 ?h7 ?h8 ?_;(case h1|h2|h3|h4|h5|h6|h7=>((try simp only[List.take_succ_cons,List.take_zero,List.drop_succ_cons,List.drop_zero,Bool.false_or,beq_self_eq_true,go_sem])<;>rfl));(case h8=>repeat (first|exact J2|(refine Ju (v:=?_) ?g1 ?g2 ?g3 ?_;(case g1|g2=>((try simp only[List.take_succ_cons,List.take_zero,List.drop_succ_cons,List.drop_zero,Bool.false_or,beq_self_eq_true,go_sem])<;>rfl));(case g3=>first|rfl|simp only[ok,okL,go_sem]))|(refine Kz ?g1 ?g2 ?_;(case g1|g2=>((try simp only[List.take_succ_cons,List.take_zero,List.drop_succ_cons,List.drop_zero,Bool.false_or,beq_self_eq_true,go_sem])<;>rfl)))))))));rfl
 ·have c1:decide ((w.length:Int) > 20)=true:=decide_eq_true OM;refine RT (Ad2 wdV.eq_1 c1) ?_;refine PRT trivial (r:=.bo true) haw ?_;refine RT trivial ?_;rfl
end Go.Proofs.YtocmjakchgcioaaGreat
