import Derived.Test.YtklbhcjmaeedhaaGreatDoorC7

namespace Go.Proofs.YtklbhcjmaeedhaaGreatDoor
set_option linter.all false
attribute [-go_sem] Qy Qj rfOb V.cells
def Qex (A:Au) (b:Bool):okf FZ (.tp [.ag (auC A),.bo b])=true:=by obtain⟨⟨ak,as_,ap,al,ah⟩,S,Cs,R,Fi,Mo,La,Em⟩:=A;rfl
def Do (n:Nd):clos [.ag (cel n)]=true:=by simp only[clos,List.all_cons,List.all_nil,Bool.and_true,go_sem]
def QcF (n:Nd) (o:O):fzsU o [.ag (cel n)]=some [.ag (cel n)]:=Zp (by simp only[List.all_cons,List.all_nil,Bool.and_true,go_sem])
def QeK (n:Nd) (hs:Zv n) (hb:Q6 n 80 > 80):Pu F 6 [.ag (cel n)] (.tp [.ag (auC noA),.bo false]):=by
 have hsz:Pu F 5 [.ag (cel n),.i .i64 80] (.i .i64 (Q6 n 80)):=KF n hs 80 OM OM emp _ (fun _=>rfl);have hA1:decide (Q6 n 80 > 80)=true:=by simpa using hb
 refine Qh e6 rfl rfl (by simp only[go_sem,Bool.and_true]) ?_;dsimp only[fn6,c6];(repeat' (first|refine RSN hA1 ?_|((with_reducible refine PCN hA1 (r:=.i .i64 (Q6 n 80)) ?h ?_);case h=>exact hsz)|with_reducible refine GBN hA1 (fun _=>?_) (fun _=>?_)|with_reducible refine GDN hA1 (fun _=>?_) (fun _=>?_)));rfl
def Qcu (n:Nd) (hs:Zv n) (hb:¬ Q6 n 80 > 80) {A:Au} {er:Int} (hM:Pu F 13 [.ag (cel n)] (.tp [.ag (auC A),.i .i64 er])):Pu F 6 [.ag (cel n)] (.tp [.ag (auC A),.bo (er==0)]):=by
 have hsz:Pu F 5 [.ag (cel n),.i .i64 80] (.i .i64 (Q6 n 80)):=KF n hs 80 OM OM emp _ (fun _=>rfl);have hA1:decide (Q6 n 80 > 80)=false:=by simpa using hb
 refine Qh e6 rfl rfl (by simp only[go_sem,Bool.and_true]) ?_;dsimp only[fn6,c6];(repeat' (first|refine RSN hA1 ?_|((with_reducible refine PCN hA1 (r:=.i .i64 (Q6 n 80)) ?h ?_);case h=>exact hsz)|with_reducible refine GBN hA1 (fun _=>?_) (fun _=>?_)|with_reducible refine GDN hA1 (fun _=>?_) (fun _=>?_)));refine U_pc (vs:=[.ag (cel n)]) (ws:=[.ag (cel n)]) (Z0) (QcF n _) (Bool.or_eq_true_iff.2 (.inl (Do n))) (by simp only[Bool.and_true,go_sem]) hM ?_;refine RN trivial ?_;exact Qp rfl (Qex A _)
def twoS:Nat→Nat:=fun j=>if j=0 then 2 else 0
def twoT:Nd:=.mk 1 twoS [] 0 0
def Qge:okN twoT:=⟨⟨fun j _=>by unfold twoS;split<;>omega,SM,by simp [JJ]⟩,rfl⟩
def twoC:Cf:=⟨1,0,0,0,0⟩
def QaD (a b:Nat):(a:Int).tmod (b:Int)=((a % b:Nat):Int):=by
 rw[Int.tmod_eq_emod_of_nonneg OM];exact (Int.natCast_emod a b).symm
def Qmq (c:Int) (s:Int × Int):Int:=IntKind.i64.wrap (1+IntKind.i64.wrap ((IntKind.u64.wrap c).tmod (if s.2 > s.1 then s.2 else s.1)))
def QjR (p:Nat) (x:Cf) (ss:List (Int × Int)):Nat→Cf
 | 0=>⟨p,0,0,0,0⟩
 | i+1=>(QjR p x ss i).setC i (Qmq (x.c i) ((ss[i]?).getD (0,0)))
def nearC (A:Au) (x:Cf) (as':Bool):Cf :=
 if as'=false∨A.around.length < 2 then x
 else QjR ((IntKind.u64.wrap x.p).toNat % (A.around.length - 1)+1) x (scAt A ((IntKind.u64.wrap x.p).toNat % (A.around.length - 1)+1)) (arAt A ((IntKind.u64.wrap x.p).toNat % (A.around.length - 1)+1)).length
end Go.Proofs.YtklbhcjmaeedhaaGreatDoor
