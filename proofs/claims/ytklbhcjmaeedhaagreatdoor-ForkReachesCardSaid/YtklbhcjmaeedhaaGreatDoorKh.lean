import Derived.Test.YtklbhcjmaeedhaaGreatDoorKf

namespace Go.Proofs.YtklbhcjmaeedhaaGreatDoor
set_option linter.all false
variable {A:Au} {at_ most:Nat}
def scD (A:Au) (at_ j:Nat):Int × Int:=(scAt A at_)[j]?.getD (0,0)
def loX (A:Au) (at_:Nat) (x y:Mv) (j:Nat):Int:=if (ZG (scD A at_ j) j x).1 < (ZG (scD A at_ j) j y).1 then (ZG (scD A at_ j) j y).1 else (ZG (scD A at_ j) j x).1
def hiX (A:Au) (at_:Nat) (x y:Mv) (j:Nat):Int:=if (ZG (scD A at_ j) j y).2 < (ZG (scD A at_ j) j x).2 then (ZG (scD A at_ j) j y).2 else (ZG (scD A at_ j) j x).2
def PX (A:Au) (at_:Nat) (x y:Mv) (n:Nat) (c:Cf):Bool:=decide (∀ j,j < n→loX A at_ x y j≤c.c j∧c.c j≤hiX A at_ x y j)
theorem V2 {A:Au} (hW:WF A) {at_ most:Nat} (hla:at_ < A.around.length):∀ (n:Nat) (out:List Cf),n≤(arAt A at_).length→allN A at_ most n=some out →
  ∀ c∈out,c.p=at_∧(∀ j,j < n→1≤c.c j∧c.c j≤topS (scD A at_ j))∧∀ j,n≤j→j < 4→c.c j=0
 | 0,out,_,h,c,hc=>by
  rw[allN] at h;cases h;rw[List.mem_singleton] at hc;subst hc
  refine⟨rfl,fun j hj=>by omega,fun j _ hj=>?_⟩
  match j,hj with
  | 0,_=>rfl
  | 1,_=>rfl
  | 2,_=>rfl
  | 3,_=>rfl
 | n+1,out,hn,h,c,hc=>by
  have ha4:(arAt A at_).length≤4:=hW.a4 _ (WL hla);rw[allN] at h;cases hp:allN A at_ most n with
  | none=>rw[hp] at h;cases h
  | some prev =>
   rw[hp] at h;dsimp only at h;split at h
   ·cases h
   ·cases h;obtain⟨c',hc',hcc⟩:=List.mem_flatMap.1 hc;obtain⟨k,hk,rfl⟩:=List.mem_map.1 hcc;rw[List.mem_range] at hk;obtain⟨g1,g2,g3⟩:=V2 hW hla n prev OM hp c' hc'
    refine⟨by rw[Qf0];exact g1,fun j hj=>?_,fun j hj hj4=>?_⟩
    ·rw[WU _ _ _ _ OM];by_cases hjn:j=n
     ·subst hjn;rw[if_pos rfl];show _∧_≤topS ((scAt A at_)[j]?.getD (0,0));omega
     ·rw[if_neg hjn];exact g2 j OM
    ·rw[WU _ _ _ _ hj4,if_neg OM];exact g3 j OM hj4
def QcV (hW:WF A) (h1:1≤at_) (hla:at_ < A.around.length) {l:List Cf} (h:allF A at_ most=some l):∀ c∈l,Qr A c=true∧c.p=at_:=by
 intro c hc;obtain⟨g1,g2,g3⟩:=V2 hW hla _ l (Nat.le_refl _) h c hc;have hl:(scAt A at_).length=(arAt A at_).length:=by simp [scAt]
 have hp:c.p.toNat=at_:=by rw[g1];rfl
 refine⟨QL.2 ⟨OM,OM,fun i hi=>?_⟩,g1⟩
 rw[hp];by_cases hil:i < (scAt A at_).length
 ·rw[Qdv hil]
  have:=g2 i OM
  rw[scD,List.getElem?_eq_getElem hil] at this;simpa using this
 ·rw[QbL hil,g3 i OM hi];rfl
attribute [-go_sem] Qy Qj rfOb V.cells
def rbh1 (A:Au) (l:List Cf) (x y:Mv):Option Fk:=match shB A x.to y.to,Qmn A l x y with
 | some b,some c=>if x.to≠y.to then some (c,x.to,y.to,b) else none
 | _,_=>none
def rfA (A:Au):Nat→Nat→Option Fk × Bool
 | 0,_=>(none,true)
 | n+1,at_=>match allF A at_ 300 with
  | none=>(none,false)
  | some l=>match prF (rbh1 A l) (mvAt A at_) with
   | some f=>(some f,true)
   | none=>rfA A n (at_+1)
def rfindF (A:Au):Option Fk × Bool:=match W0 A with
 | some f=>(some f,true)
 | none=>rfA A (A.moves.length - 1) 1
def rfV (r:Option Fk × Bool):V:=.tp [.ag (fkL r.1),.bo r.1.isSome,.bo r.2]
def QgX (hm:most≤1000):∀ (n:Nat) (out:List Cf),allN A at_ most n=some out→out.length≤1000
 | 0,out,h=>by rw[allN] at h;cases h;simp
 | n+1,out,h=>by
  rw[allN] at h;cases hp:allN A at_ most n with
  | none=>rw[hp] at h;cases h
  | some prev =>
   rw[hp] at h;dsimp only at h;generalize topS ((scAt A at_)[n]?.getD (0,0))=top at h;split at h
   ·cases h
   ·rename_i hc;cases h;rw[JU];rcases Int.le_total 0 top with h0|h0
    ·obtain⟨T,rfl⟩:∃ T:Nat,top=(T:Int):=⟨top.toNat,OM⟩;rw[Int.toNat_natCast];have hcast:(prev.length:Int)*(T:Int)=((prev.length*T:Nat):Int):=by push_cast;rfl
     rw[hcast] at hc;omega
    ·rw[Int.toNat_eq_zero.2 h0,Nat.mul_zero];omega
def Qio (r:Option Fk) (a b c d e f g h:V):splice 0 (fkL r) [a,b,c,d,e,f,g,h]=fkL r:=QlR r _ rfl
def Qlr (r:Option Fk):okf FZ (.ag (fkL r))=true:=by rcases r with _|⟨c,p,q,b⟩<;>rfl
def QkZ (r:Option Fk):eqV true [.i .i64,.i .i64,.i .i64,.i .i64,.i .i64,.i .i64,.i .i64,.i .u8] (.ag (fkL r)) (.ag (fkL r))=some true:=by
 rcases r with _|⟨⟨a,b,c,d,e⟩,p,q,x⟩
 ·rfl
 ·simp [fkL,cfC,eqV,eqps,lfEq,V.isAg,V.cells]
attribute [go_sem] Qfs QlV QmT Qmx Qio Qlr QkZ
def fkT:Nd:=.mk 2 zSet [.mk 4 zSet [twoT] 2 3,twoT] 0 0
def fkR:Option Fk:=some (⟨1,2,0,0,0⟩,1,2,1)
def Qgc:W64 zSet:=fun j _=>by simp [zSet]
def Qgz:okN fkT:=⟨⟨Qgc,SM,⟨Qgc,SM,Qge.1,trivial⟩,Qge.1,trivial⟩,rfl⟩
def Qdd:Qb fkT=fkT:=by rfl
def QhN:wk fkT 0 0 []=⟨[1],[2],false,2,[((1,⟨1,0,true⟩),1),((1,⟨2,0,false⟩),1)]⟩:=rfl
def QjH:plT fkT=⟨[zSet,twoS,twoS],[(2,3)],[[],[0],[]]⟩:=rfl
def QmN:WF (Qf fkT):=Qam _ rfl Qgz.1 rfl
def Qib:Pu F 6 [.ag (cel fkT)] (.tp [.ag (auC (Qf fkT)),.bo true]):=by
 have:=Qcu fkT Qgz.1 LM (QdD fkT Qgz LM rfl)
 rw[Qdd] at this;exact this
def Dg:(Qf fkT).first=[1]:=by
 have h1:srtN [1]=[1]:=by simp [srtN]
 simp only[Qf,QhN,h1]
def Qi9:mvAt (Qf fkT) 0=[]:=by
 have:Q8 [((1,(⟨1,0,true⟩:Mv)),(1:Int)),((1,⟨2,0,false⟩),1)] 0=[]:=rfl
 simp [mvAt,Qf,QhN,QjH,this,srtM]
def Qi0:mvAt (Qf fkT) 1=[⟨1,0,true⟩,⟨2,0,false⟩]:=by
 have h0:Q8 [((1,(⟨1,0,true⟩:Mv)),(1:Int)),((1,⟨2,0,false⟩),1)] 1=[⟨1,0,true⟩,⟨2,0,false⟩]:=rfl;have h1:srtM [⟨1,0,true⟩,⟨2,0,false⟩]=[⟨1,0,true⟩,⟨2,0,false⟩]:=List.mergeSort_of_pairwise (by simp [ZL]);simp only[mvAt,Qf,QhN,QjH,List.getElem?_map,List.length_cons,List.length_nil,List.getElem?_range,Option.map_some,Option.getD_some,h0,h1];simp [h0,h1]
def QlU:shB (Qf fkT) 1 2=some 1:=Jp OM rfl fun j hj=>by
 have:j=0:=by omega
 subst this;rfl
def Qms:Wx (Qf fkT) 1 ⟨1,0,true⟩ ⟨2,0,false⟩=some ⟨1,2,0,0,0⟩:=rfl
def Qic:Qfl (Qf fkT)=fkR:=by
 have h1:W0 (Qf fkT)=none:=by rw[W0,Dg];rfl
 have h2:(Qf fkT).moves.length=3:=rfl;have h3:Yi (Qf fkT) 0=none:=by rw[Yi,Qi9];rfl
 have h4:Yi (Qf fkT) 1=fkR:=by
  have e1:bhd1 (Qf fkT) 1 ⟨1,0,true⟩ ⟨2,0,false⟩=fkR:=by
   rw[bhd1,QlU,Qms];rfl
  rw[Yi,Qi0,prF,List.findSome?_cons,e1];rfl
 rw[Qfl,h1,h2,Option.none_or];show List.findSome? _ [0,1,2]=_;rw[List.findSome?_cons,h3,List.findSome?_cons,h4];rfl
set_option maxHeartbeats 2000000 in
def QcW:Pu F 4 [] (.bo true):=by
 have hA:=Qib;have hF:=Qgy QmN (by rw[Dg];simp) (fun l hl=>by
  have:=Vl fkT LM l hl
  exact this)
 rw[Qic] at hF;have hF:Pu F 12 [.ag (auC (Qf fkT))] (.tp [.ag [.i .i64 1,.i .i64 2,.i .i64 0,.i .i64 0,.i .i64 0,.i .i64 1,.i .i64 2,.i .u8 1],.bo true]):=hF;have hcel:V.ag (cel fkT)=.ag [.i .i64 2,.i .u64 0,.i .u64 0,.i .u64 0,.i .u64 0,.sl [[.i .i64 4,.i .u64 0,.i .u64 0,.i .u64 0,.i .u64 0,.sl [[.i .i64 1,.i .u64 2,.i .u64 0,.i .u64 0,.i .u64 0,.sl [],.i .i64 0,.i .i64 0]],.i .i64 2,.i .i64 3],[.i .i64 1,.i .u64 2,.i .u64 0,.i .u64 0,.i .u64 0,.sl [],.i .i64 0,.i .i64 0]],.i .i64 0,.i .i64 0]:=rfl;rw[hcel] at hA;generalize Qf fkT=A at hA hF;refine Qh e4 rfl rfl (by simp only[go_sem,Bool.and_true]) ?_;dsimp only[fn4,c4];refine RT trivial ?_;refine U_q (v:=.sl [[.i .i64 1,.i .u64 2,.i .u64 0,.i .u64 0,.i .u64 0,.sl [],.i .i64 0,.i .i64 0]]) (by (simp only[litV,List.take_succ_cons,List.take_zero,List.drop_succ_cons,List.drop_zero,go_sem]<;>rfl)) ?_;refine RT trivial ?_;refine U_q (v:=.sl [[.i .i64 4,.i .u64 0,.i .u64 0,.i .u64 0,.i .u64 0,.sl [[.i .i64 1,.i .u64 2,.i .u64 0,.i .u64 0,.i .u64 0,.sl [],.i .i64 0,.i .i64 0]],.i .i64 2,.i .i64 3],[.i .i64 1,.i .u64 2,.i .u64 0,.i .u64 0,.i .u64 0,.sl [],.i .i64 0,.i .i64 0]]) (by (simp only[litV,List.take_succ_cons,List.take_zero,List.drop_succ_cons,List.drop_zero,go_sem]<;>rfl)) ?_;refine RT trivial ?_;refine U_pc (ws:=[.ag [.i .i64 2,.i .u64 0,.i .u64 0,.i .u64 0,.i .u64 0,.sl [[.i .i64 4,.i .u64 0,.i .u64 0,.i .u64 0,.i .u64 0,.sl [[.i .i64 1,.i .u64 2,.i .u64 0,.i .u64 0,.i .u64 0,.sl [],.i .i64 0,.i .i64 0]],.i .i64 2,.i .i64 3],[.i .i64 1,.i .u64 2,.i .u64 0,.i .u64 0,.i .u64 0,.sl [],.i .i64 0,.i .i64 0]],.i .i64 0,.i .i64 0]]) (Zr0) rfl (Bool.or_eq_true_iff.2 (.inl ?_)) ?_ hA ?_
 ·rfl
 ·simp only[Bool.and_true,go_sem]
 refine RT trivial ?_;refine PRT trivial (r:=.tp [.ag [.i .i64 1,.i .i64 2,.i .i64 0,.i .i64 0,.i .i64 0,.i .i64 1,.i .i64 2,.i .u8 1],.bo true]) hF ?_;refine RT trivial ?_;rfl
attribute [go_sem] VF QfL Qak QcK
def mayR (A:Au) (x:Cf) (m:Mv):Option Cf:=if Qr A x=true∧m∈mvAt A x.p.toNat then mayF A x m else none
def QhE (r:Option Cf):cld (mayV r)=true:=by cases r<;>rfl
def QgG (hW:WF A) (hL:∀ l∈A.moves,l.length < 2147483648) (x:Cf) (m:Mv):Pu F 11 [.ag (auC A),.ag (cfC x),.ag (mvC m)] (mayV (mayR A x m)):=by
 have h1:=QdS hW x;refine Qh e11 rfl rfl (by simp only[go_sem,Bool.and_true]) ?_;dsimp only[fn11,c11];refine RN trivial ?_;refine PRN trivial (r:=.bo (Qr A x)) h1 ?_;cases hr:Qr A x with
 | false =>
  refine RN trivial ?_
  have:mayR A x m=none:=by simp [mayR,hr]
  rw[this];exact Qp rfl rfl
 | true =>
  obtain⟨r1,r2,_⟩:=QL.1 hr;obtain⟨p,hp⟩:∃ p:Nat,x.p=p:=⟨x.p.toNat,OM⟩;have hpt:x.p.toNat=p:=by omega
  have hpp:(0:Int)≤(p:Int):=by omega
  have hpl:p < A.moves.length:=by rw[hW.lm,← hW.la];omega
  have hmo:=Qfj hpl;have hc:=Ju m (mvAt A p) (hL _ (List.mem_of_getElem? (XR hpl)));refine RT (Ad3 hp hmo hpp) ?_;refine PRN trivial (r:=.bo (decide (m∈mvAt A p))) hc ?_;by_cases hm:m∈mvAt A p
  ·have d1:decide (m∈mvAt A p)=true:=by simpa using hm
   have hmay:=QlK hW hr (m:=m) (mvOk hW (XR (p:=x.p.toNat) (by rw[hpt];exact hpl)) (by rw[hpt];exact hm));have hmr:mayR A x m=mayF A x m:=by rw[mayR,if_pos ⟨hr,by rw[hpt];exact hm⟩]
   rw[hmr];refine RN d1 ?_;refine U_pc (vs:=[.ag (auC A),.ag (cfC x),.ag (mvC m)]) (ws:=[.ag (auC A),.ag (cfC x),.ag (mvC m)]) (r:=mayV (mayF A x m)) (Z0) (Zp (by simp only[List.all_cons,List.all_nil,Bool.and_true,go_sem])) (Bool.or_eq_true_iff.2 (.inr (Qel _))) (QhE _) hmay ?_;cases mayF A x m with
   | none =>
    simp only[mayV];refine RN trivial ?_;exact Qp rfl rfl
   | some y =>
    simp only[mayV];refine RN trivial ?_;exact Qp rfl rfl
  ·have d1:decide (m∈mvAt A p)=false:=by simpa using hm
   have hmr:mayR A x m=none:=by rw[mayR,if_neg (by rw[hpt];exact fun h=>hm h.2)]
   rw[hmr];refine RN d1 ?_;exact Qp rfl rfl
end Go.Proofs.YtklbhcjmaeedhaaGreatDoor
