import Derived.Test.YtocmjakchgcioaaGreatC7

namespace Go.Proofs.YtocmjakchgcioaaGreat
set_option linter.all false
attribute [-go_sem] Qp Qb rfOb V.cells
def QeP (A:Au) (b:Bool):okf FZ (.tp [.ag (auC A),.bo b])=true:=by obtain⟨⟨ak,as_,ap,al,ah⟩,S,Cs,R,Fi,Mo,La,Em⟩:=A;rfl
def VJ (n:Nd):clos [.ag (cel n)]=true:=by simp only[clos,List.all_cons,List.all_nil,Bool.and_true,go_sem]
def QbW (n:Nd) (o:O):fzsU o [.ag (cel n)]=some [.ag (cel n)]:=ZO (by simp only[List.all_cons,List.all_nil,Bool.and_true,go_sem])
def QdA (n:Nd) (hs:ZB n) (hb:Zr n 80 > 80):Pu F 9 [.ag (cel n)] (.tp [.ag (auC noA),.bo false]):=by
 have hsz:Pu F 18 [.ag (cel n),.i .i64 80] (.i .i64 (Zr n 80)):=VH n hs 80 OM OM emp _ (fun _=>rfl);have hA1:decide (Zr n 80 > 80)=true:=by simpa using hb
 refine Qe e9 rfl rfl (by simp only[go_sem,Bool.and_true]) ?_;dsimp only[fn9,c9];(repeat' (first|refine RSN hA1 ?_|((with_reducible refine PCN hA1 (r:=.i .i64 (Zr n 80)) ?h ?_);case h=>exact hsz)|with_reducible refine GBN hA1 (fun _=>?_) (fun _=>?_)|with_reducible refine GDN hA1 (fun _=>?_) (fun _=>?_)));rfl
def QaZ (n:Nd) (hs:ZB n) (hb:¬ Zr n 80 > 80) {A:Au} {er:Int} (hM:Pu F 19 [.ag (cel n)] (.tp [.ag (auC A),.i .i64 er])):Pu F 9 [.ag (cel n)] (.tp [.ag (auC A),.bo (er==0)]):=by
 have hsz:Pu F 18 [.ag (cel n),.i .i64 80] (.i .i64 (Zr n 80)):=VH n hs 80 OM OM emp _ (fun _=>rfl);have hA1:decide (Zr n 80 > 80)=false:=by simpa using hb
 refine Qe e9 rfl rfl (by simp only[go_sem,Bool.and_true]) ?_;dsimp only[fn9,c9];(repeat' (first|refine RSN hA1 ?_|((with_reducible refine PCN hA1 (r:=.i .i64 (Zr n 80)) ?h ?_);case h=>exact hsz)|with_reducible refine GBN hA1 (fun _=>?_) (fun _=>?_)|with_reducible refine GDN hA1 (fun _=>?_) (fun _=>?_)));refine U_pc (vs:=[.ag (cel n)]) (ws:=[.ag (cel n)]) (Z0) (QbW n _) (Bool.or_eq_true_iff.2 (.inl (VJ n))) (by simp only[Bool.and_true,go_sem]) hM ?_;refine RN trivial ?_;exact Qy rfl (QeP A _)
def Qhe (n:Nd) (hs:ZB n):∃ (A:Au) (ok:Bool),Pu F 9 [.ag (cel n)] (.tp [.ag (auC A),.bo ok])∧(ok=true→A=Zn (Qd n)∧Qm (Qd n)=true∧WF A∧(∀ l∈A.moves,l.length < 2147483648)∧cntN n≤80):=by
 by_cases hb:Zr n 80 > 80
 ·exact⟨noA,false,QdA n hs hb,fun h=>by cases h⟩
 ·have hc:cntN n≤80:=by
   have:=HB n 80 OM OM
   omega
  obtain⟨A,er,hM,h⟩:=Qhy n hs OM
  refine⟨A,er==0,QaZ n hs hb hM,fun h0=>?_⟩
  rcases h with⟨h1,_⟩|⟨h1,h2,h3,h4,h5,h6⟩
  ·exact absurd (by simpa using h0) h1
  ·exact⟨h4,h3,h5,h6,hc⟩
def twoS:Nat→Nat:=fun j=>if j=0 then 2 else 0
def twoT:Nd:=.mk 1 twoS [] 0 0
def Qa0:okN twoT:=⟨⟨fun j _=>by unfold twoS;split<;>omega,SM,by simp [XQ]⟩,rfl⟩
def Qai:Qd twoT=twoT:=rfl
def Qfy:wk twoT 0 0 []=⟨[1],[1],false,1,[]⟩:=rfl
def Xa:(Zn twoT).first=[1]:=by
 have h1:srtN [1]=[1]:=by simp [srtN]
 simp only[Zn,Qfy,h1]
def QfB:WF (Zn twoT):=VS _ rfl Qa0.1 rfl
def QdS:Pu F 9 [.ag (cel twoT)] (.tp [.ag (auC (Zn twoT)),.bo true]):=by
 have:=QaZ twoT Qa0.1 LM (Qbl twoT Qa0 LM rfl)
 rw[Qai] at this;exact this
def twoC:Cf:=⟨1,0,0,0,0⟩
def Qff (x:Cf):sdC [x]=[x]:=by simp [sdC,srtC,cmpC,cp]
def Qgp:begF (Zn twoT) 1=[twoC]:=by
 have h1:Q0 (stAt (Zn twoT) 1) 1=true:=rfl;have h2:begL (Zn twoT) 1 [1]=[twoC]:=by
  simp only[begL,List.filter_cons,h1,if_true,List.filter_nil,List.map_cons,List.map_nil];rfl
 rw[begF,Xa,h2,Qff]
def Qg8:accB (Zn twoT) twoC=true:=by rfl
def De (a b:Nat):(a:Int).tmod (b:Int)=((a % b:Nat):Int):=by
 rw[Int.tmod_eq_emod_of_nonneg OM];exact (Int.natCast_emod a b).symm
def QlM (c:Int) (s:Int × Int):Int:=IntKind.i64.wrap (1+IntKind.i64.wrap ((IntKind.u64.wrap c).tmod (if s.2 > s.1 then s.2 else s.1)))
def Qko (p:Nat) (x:Cf) (ss:List (Int × Int)):Nat→Cf
 | 0=>⟨p,0,0,0,0⟩
 | i+1=>(Qko p x ss i).setC i (QlM (x.c i) ((ss[i]?).getD (0,0)))
def nearC (A:Au) (x:Cf) (as':Bool):Cf :=
 if as'=false∨A.around.length < 2 then x
 else Qko ((IntKind.u64.wrap x.p).toNat % (A.around.length - 1)+1) x (scAt A ((IntKind.u64.wrap x.p).toNat % (A.around.length - 1)+1)) (arAt A ((IntKind.u64.wrap x.p).toNat % (A.around.length - 1)+1)).length
end Go.Proofs.YtocmjakchgcioaaGreat
