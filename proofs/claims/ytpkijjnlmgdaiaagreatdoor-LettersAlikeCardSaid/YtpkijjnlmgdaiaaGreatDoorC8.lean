import Derived.Test.YtpkijjnlmgdaiaaGreatDoorC7

namespace Go.Proofs.YtpkijjnlmgdaiaaGreatDoor
set_option linter.all false
attribute [-go_sem] Qp Qb rfOb V.cells
def Qd4 (A:Au) (b:Bool):okf FZ (.tp [.ag (auC A),.bo b])=true:=by obtain⟨⟨ak,as_,ap,al,ah⟩,S,Cs,R,Fi,Mo,La,Em⟩:=A;rfl
def KE (n:Nd):clos [.ag (cel n)]=true:=by simp only[clos,List.all_cons,List.all_nil,Bool.and_true,go_sem]
def Vb (n:Nd) (o:O):fzsU o [.ag (cel n)]=some [.ag (cel n)]:=Zu (by simp only[List.all_cons,List.all_nil,Bool.and_true,go_sem])
def Qek (n:Nd) (hs:Zx n) (hb:Zs n 80 > 80):Pu F 9 [.ag (cel n)] (.tp [.ag (auC noA),.bo false]):=by
 have hsz:Pu F 23 [.ag (cel n),.i .i64 80] (.i .i64 (Zs n 80)):=Vr n hs 80 OM OM emp _ (fun _=>rfl);have hA1:decide (Zs n 80 > 80)=true:=by simpa using hb
 refine Qe e9 rfl rfl (by simp only[go_sem,Bool.and_true]) ?_;dsimp only[fn9,c9];(repeat' (first|refine RSN hA1 ?_|((with_reducible refine PCN hA1 (r:=.i .i64 (Zs n 80)) ?h ?_);case h=>exact hsz)|with_reducible refine GBN hA1 (fun _=>?_) (fun _=>?_)|with_reducible refine GDN hA1 (fun _=>?_) (fun _=>?_)));rfl
def QhP (n:Nd) (hs:Zx n) (hb:¬ Zs n 80 > 80) {A:Au} {er:Int} (hM:Pu F 24 [.ag (cel n)] (.tp [.ag (auC A),.i .i64 er])):Pu F 9 [.ag (cel n)] (.tp [.ag (auC A),.bo (er==0)]):=by
 have hsz:Pu F 23 [.ag (cel n),.i .i64 80] (.i .i64 (Zs n 80)):=Vr n hs 80 OM OM emp _ (fun _=>rfl);have hA1:decide (Zs n 80 > 80)=false:=by simpa using hb
 refine Qe e9 rfl rfl (by simp only[go_sem,Bool.and_true]) ?_;dsimp only[fn9,c9];(repeat' (first|refine RSN hA1 ?_|((with_reducible refine PCN hA1 (r:=.i .i64 (Zs n 80)) ?h ?_);case h=>exact hsz)|with_reducible refine GBN hA1 (fun _=>?_) (fun _=>?_)|with_reducible refine GDN hA1 (fun _=>?_) (fun _=>?_)));refine U_pc (vs:=[.ag (cel n)]) (ws:=[.ag (cel n)]) (Z0) (Vb n _) (Bool.or_eq_true_iff.2 (.inl (KE n))) (by simp only[Bool.and_true,go_sem]) hM ?_;refine RN trivial ?_;exact Qu rfl (Qd4 A _)
def Qbh (n:Nd) (hs:Zx n):∃ (A:Au) (ok:Bool),Pu F 9 [.ag (cel n)] (.tp [.ag (auC A),.bo ok])∧(ok=true→A=Wv (Qd n)∧Qn (Qd n)=true∧WF A∧(∀ l∈A.moves,l.length < 2147483648)∧cntN n≤80):=by
 by_cases hb:Zs n 80 > 80
 ·exact⟨noA,false,Qek n hs hb,fun h=>by cases h⟩
 ·have hc:cntN n≤80:=by
   have:=Hl n 80 OM OM
   omega
  obtain⟨A,er,hM,h⟩:=QgN n hs OM
  refine⟨A,er==0,QhP n hs hb hM,fun h0=>?_⟩
  rcases h with⟨h1,_⟩|⟨h1,h2,h3,h4,h5,h6⟩
  ·exact absurd (by simpa using h0) h1
  ·exact⟨h4,h3,h5,h6,hc⟩
def twoS:Nat→Nat:=fun j=>if j=0 then 2 else 0
def twoT:Nd:=.mk 1 twoS [] 0 0
def twoC:Cf:=⟨1,0,0,0,0⟩
def Qnz (c:Int) (s:Int × Int):Int:=IntKind.i64.wrap (1+IntKind.i64.wrap ((IntKind.u64.wrap c).tmod (if s.2 > s.1 then s.2 else s.1)))
def QmW (p:Nat) (x:Cf) (ss:List (Int × Int)):Nat→Cf
 | 0=>⟨p,0,0,0,0⟩
 | i+1=>(QmW p x ss i).setC i (Qnz (x.c i) ((ss[i]?).getD (0,0)))
def nearC (A:Au) (x:Cf) (as':Bool):Cf :=
 if as'=false∨A.around.length < 2 then x
 else QmW ((IntKind.u64.wrap x.p).toNat % (A.around.length - 1)+1) x (scAt A ((IntKind.u64.wrap x.p).toNat % (A.around.length - 1)+1)) (arAt A ((IntKind.u64.wrap x.p).toNat % (A.around.length - 1)+1)).length
end Go.Proofs.YtpkijjnlmgdaiaaGreatDoor
