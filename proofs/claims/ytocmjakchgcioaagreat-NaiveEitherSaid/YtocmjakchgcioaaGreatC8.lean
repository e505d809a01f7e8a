import Derived.Test.YtocmjakchgcioaaGreatC7

namespace Go.Proofs.YtocmjakchgcioaaGreat
set_option linter.all false
attribute [-go_sem] Qw Qe rfOb V.cells
def Qfb (A:Au) (b:Bool):okf FZ (.tp [.ag (auC A),.bo b])=true:=by obtain⟨⟨ak,as_,ap,al,ah⟩,S,Cs,R,Fi,Mo,La,Em⟩:=A;rfl
def WT (n:Nd):clos [.ag (cel n)]=true:=by simp only[clos,List.all_cons,List.all_nil,Bool.and_true,go_sem]
def KZ (n:Nd) (o:O):fzsU o [.ag (cel n)]=some [.ag (cel n)]:=Yn (by simp only[List.all_cons,List.all_nil,Bool.and_true,go_sem])
def QeE (n:Nd) (hs:Zd n) (hb:Zx n 80 > 80):Pu F 9 [.ag (cel n)] (.tp [.ag (auC noA),.bo false]):=by
 have hsz:Pu F 18 [.ag (cel n),.i .i64 80] (.i .i64 (Zx n 80)):=V8 n hs 80 OM OM emp _ (fun _=>rfl);have hA1:decide (Zx n 80 > 80)=true:=by simpa using hb
 refine Ql e9 rfl rfl (by simp only[go_sem,Bool.and_true]) ?_;dsimp only[fn9,c9];(repeat' (first|refine RSN hA1 ?_|((with_reducible refine PCN hA1 (r:=.i .i64 (Zx n 80)) ?h ?_);case h=>exact hsz)|with_reducible refine GBN hA1 (fun _=>?_) (fun _=>?_)|with_reducible refine GDN hA1 (fun _=>?_) (fun _=>?_)));rfl
def QcY (n:Nd) (hs:Zd n) (hb:¬ Zx n 80 > 80) {A:Au} {er:Int} (hM:Pu F 19 [.ag (cel n)] (.tp [.ag (auC A),.i .i64 er])):Pu F 9 [.ag (cel n)] (.tp [.ag (auC A),.bo (er==0)]):=by
 have hsz:Pu F 18 [.ag (cel n),.i .i64 80] (.i .i64 (Zx n 80)):=V8 n hs 80 OM OM emp _ (fun _=>rfl);have hA1:decide (Zx n 80 > 80)=false:=by simpa using hb
 refine Ql e9 rfl rfl (by simp only[go_sem,Bool.and_true]) ?_;dsimp only[fn9,c9];(repeat' (first|refine RSN hA1 ?_|((with_reducible refine PCN hA1 (r:=.i .i64 (Zx n 80)) ?h ?_);case h=>exact hsz)|with_reducible refine GBN hA1 (fun _=>?_) (fun _=>?_)|with_reducible refine GDN hA1 (fun _=>?_) (fun _=>?_)));refine U_pc (vs:=[.ag (cel n)]) (ws:=[.ag (cel n)]) (Z0) (KZ n _) (Bool.or_eq_true_iff.2 (.inl (WT n))) (by simp only[Bool.and_true,go_sem]) hM ?_;refine RN trivial ?_;exact QS rfl (Qfb A _)
def twoS:Nat→Nat:=fun j=>if j=0 then 2 else 0
def twoT:Nd:=.mk 1 twoS [] 0 0
def Qcj:okN twoT:=⟨⟨fun j _=>by unfold twoS;split<;>omega,SM,by simp [JS]⟩,rfl⟩
def Qa4:Qb twoT=twoT:=rfl
def Qgc:wk twoT 0 0 []=⟨[1],[1],false,1,[]⟩:=rfl
def XA:(Qr twoT).first=[1]:=by
 have h1:srtN [1]=[1]:=by simp [srtN]
 simp only[Qr,Qgc,h1]
def Qgm:WF (Qr twoT):=D3 _ rfl Qcj.1 rfl
def QeL:Pu F 9 [.ag (cel twoT)] (.tp [.ag (auC (Qr twoT)),.bo true]):=by
 have:=QcY twoT Qcj.1 LM (Qdt twoT Qcj LM rfl)
 rw[Qa4] at this;exact this
def twoC:Cf:=⟨1,0,0,0,0⟩
def Qgy (x:Cf):sdC [x]=[x]:=by simp [sdC,srtC,cmpC,cp]
def Qiq:begF (Qr twoT) 1=[twoC]:=by
 have h1:Q2 (stAt (Qr twoT) 1) 1=true:=rfl;have h2:begL (Qr twoT) 1 [1]=[twoC]:=by
  simp only[begL,List.filter_cons,h1,if_true,List.filter_nil,List.map_cons,List.map_nil];rfl
 rw[begF,XA,h2,Qgy]
def QgY:accB (Qr twoT) twoC=true:=by rfl
def QmI (c:Int) (s:Int × Int):Int:=IntKind.i64.wrap (1+IntKind.i64.wrap ((IntKind.u64.wrap c).tmod (if s.2 > s.1 then s.2 else s.1)))
def QjJ (p:Nat) (x:Cf) (ss:List (Int × Int)):Nat→Cf
 | 0=>⟨p,0,0,0,0⟩
 | i+1=>(QjJ p x ss i).setC i (QmI (x.c i) ((ss[i]?).getD (0,0)))
def nearC (A:Au) (x:Cf) (as':Bool):Cf :=
 if as'=false∨A.around.length < 2 then x
 else QjJ ((IntKind.u64.wrap x.p).toNat % (A.around.length - 1)+1) x (scAt A ((IntKind.u64.wrap x.p).toNat % (A.around.length - 1)+1)) (arAt A ((IntKind.u64.wrap x.p).toNat % (A.around.length - 1)+1)).length
end Go.Proofs.YtocmjakchgcioaaGreat
