import Derived.Test.YtklbhcjmaeedhaaGreatDoorM20
import Derived.Test.YtklbhcjmaeedhaaGreatDoorA6

namespace Go.Proofs.YtklbhcjmaeedhaaGreatDoor
set_option linter.all false
variable {i p a k:Nat} {A:Au} {l:List (Int × Int)} {o:O}
attribute [-go_sem] Qy Qj rfOb V.cells
def Qgx (l:List (List Mv)):QQ (l.map mlC)=true:=QP (fun x=>by
 rw[mlC,cldL,cld,QP (fun _=>rfl)];rfl) l
def QhV (l:List Bool):QQ (l.map boC)=true:=QP (fun _=>rfl) l
def QjX (A:Au):cldL (auC A)=true:=by
 obtain⟨⟨ak,as_,ap,al,ah⟩,S,Cs,R,Fi,Mo,La,Em⟩:=A;simp only[auC,mpC,QZ,nd8,List.cons_append,List.nil_append];simp only[go_sem,Qc0,QdI,Qfw,Qs,Qgx,QhV,Bool.and_true]
def QfJ (A:Au):(auC A).length=15:=by simp [auC,mpC,QI]
def Qmc (A:Au):List.take 15 (auC A)=auC A:=List.take_of_length_le (by rw[QfJ];exact Nat.le_refl _)
def Qmv (A:Au) (d:Nat):swpL d (auC A)=auC A:=K6 d (by obtain⟨⟨ak,as_,ap,al,ah⟩,S,Cs,R,Fi,Mo,La,Em⟩:=A;rfl)
def au_8 (A:Au):(auC A)[8]?=some (.sl (A.sets.map u4)):=by obtain⟨⟨ak,as_,ap,al,ah⟩,S,Cs,R,Fi,Mo,La,Em⟩:=A;rfl
def au_9 (A:Au):(auC A)[9]?=some (.sl (A.scopes.map scC)):=by obtain⟨⟨ak,as_,ap,al,ah⟩,S,Cs,R,Fi,Mo,La,Em⟩:=A;rfl
def QmY (A:Au):(auC A)[10]?=some (.sl (A.around.map lsC)):=by obtain⟨⟨ak,as_,ap,al,ah⟩,S,Cs,R,Fi,Mo,La,Em⟩:=A;rfl
def Ql2 (A:Au):(auC A)[11]?=some (.sl (A.first.map inC)):=by obtain⟨⟨ak,as_,ap,al,ah⟩,S,Cs,R,Fi,Mo,La,Em⟩:=A;rfl
def Qml (A:Au):(auC A)[12]?=some (.sl (A.moves.map mlC)):=by obtain⟨⟨ak,as_,ap,al,ah⟩,S,Cs,R,Fi,Mo,La,Em⟩:=A;rfl
def Ql9 (A:Au):(auC A)[13]?=some (.sl (A.last.map boC)):=by obtain⟨⟨ak,as_,ap,al,ah⟩,S,Cs,R,Fi,Mo,La,Em⟩:=A;rfl
def Qmt (A:Au):(auC A)[14]?=some (.bo A.empty):=by obtain⟨⟨ak,as_,ap,al,ah⟩,S,Cs,R,Fi,Mo,La,Em⟩:=A;rfl
def QbM (A:Au):okf FZ (.ag (auC A))=true:=by obtain⟨⟨ak,as_,ap,al,ah⟩,S,Cs,R,Fi,Mo,La,Em⟩:=A;rfl
def Qkz (A:Au):clo FZ (.ag (auC A))=true:=by obtain⟨⟨ak,as_,ap,al,ah⟩,S,Cs,R,Fi,Mo,La,Em⟩:=A;rfl
def Qgg (s:Int × Int):(scC s).length=2:=rfl
def Qmi (s:Int × Int):List.take 2 (scC s)=scC s:=rfl
def QmE (s:Int × Int) (d:Nat):swpL d (scC s)=scC s:=rfl
def sc_0 (s:Int × Int):(scC s)[0]?=some (.i .i64 s.1):=rfl
def sc_1 (s:Int × Int):(scC s)[1]?=some (.i .i64 s.2):=rfl
def Qle (s:Int × Int):cldL (scC s)=true:=rfl
def QkH (s:Int × Int):okf FZ (.ag (scC s))=true:=rfl
def QiJ (s:Int × Int):clo FZ (.ag (scC s))=true:=rfl
def Qlt (s:Mv):(mvC s).length=3:=rfl
def Qm8 (s:Mv):List.take 3 (mvC s)=mvC s:=rfl
def QlY (s:Mv) (d:Nat):swpL d (mvC s)=mvC s:=rfl
def mv_0 (s:Mv):(mvC s)[0]?=some (.i .i64 s.to):=rfl
def mv_1 (s:Mv):(mvC s)[1]?=some (.i .i64 s.keep):=rfl
def mv_2 (s:Mv):(mvC s)[2]?=some (.bo s.again):=rfl
def Qk8 (s:Mv):cldL (mvC s)=true:=rfl
def Qkh (s:Mv):okf FZ (.ag (mvC s))=true:=rfl
def QlD (s:Mv):clo FZ (.ag (mvC s))=true:=rfl
def J0 (s:Cf):(cfC s).length=5:=rfl
def Qmg (s:Cf):List.take 5 (cfC s)=cfC s:=rfl
def QmS (s:Cf) (d:Nat):swpL d (cfC s)=cfC s:=rfl
def cf_0 (s:Cf):(cfC s)[0]?=some (.i .i64 s.p):=rfl
def cf_1 (s:Cf):(cfC s)[1]?=some (.i .i64 s.c0):=rfl
def cf_2 (s:Cf):(cfC s)[2]?=some (.i .i64 s.c1):=rfl
def cf_3 (s:Cf):(cfC s)[3]?=some (.i .i64 s.c2):=rfl
def cf_4 (s:Cf):(cfC s)[4]?=some (.i .i64 s.c3):=rfl
def QkE (s:Cf):cldL (cfC s)=true:=rfl
def QfZ (s:Cf):okf FZ (.ag (cfC s))=true:=rfl
def Qjw (s:Cf):clo FZ (.ag (cfC s))=true:=rfl
def i1 (n:Int):List V:=[.i .i64 n]
def QlW (s:Cf):List.take 4 (List.drop 1 (cfC s))=(cl4 s).map (V.i .i64):=rfl
def DV (s:Cf) (h:i < 4):(cfC s)[1+i]?=some (.i .i64 (s.c i)):=by
 match i,h with
 | 0,_=>rfl
 | 1,_=>rfl
 | 2,_=>rfl
 | 3,_=>rfl
def Cf.setC (x:Cf) (i:Nat) (n:Int):Cf:=mkCf x.p fun j=>if j=i then n else x.c j
variable {x:Cf}
def Qf0 (x:Cf) (i:Nat) (n:Int):(x.setC i n).p=x.p:=rfl
def WU (x:Cf) (i j:Nat) (n:Int) (h:j < 4):(x.setC i n).c j=if j=i then n else x.c j:=X7 _ _ h
def Qcc (s:Cf) (n:Int) (h:i < 4):splice (1+i) [.i .i64 n] (cfC s)=cfC (s.setC i n):=by
 match i,h with
 | 0,_=>rfl
 | 1,_=>rfl
 | 2,_=>rfl
 | 3,_=>rfl
def QkP {y:Cf} (hp:x.p=y.p) (h:∀ i,i < 4→x.c i=y.c i):x=y:=by
 obtain⟨p,a,b,c,d⟩:=x;obtain⟨p',a',b',c',d'⟩:=y;have h0:=h 0 OM;have h1:=h 1 OM;have h2:=h 2 OM;have h3:=h 3 OM;simp only[Cf.c] at h0 h1 h2 h3 hp;subst hp;subst h0;subst h1;subst h2;subst h3;rfl
def QjI (a b:Cf):splice 0 (cfC b) (cfC a)=cfC b:=rfl
def Qiv (x:Cf) (a b c d e:V):splice 0 (cfC x) [a,b,c,d,e]=cfC x:=rfl
def QkO (x:Int × Int) (a b:V):splice 0 (scC x) [a,b]=scC x:=rfl
def QiL (x:Mv) (a b c:V):splice 0 (mvC x) [a,b,c]=mvC x:=rfl
def QkR (A:Au) (a1 a2 a3 a4 a5 a6 a7 a8 a9 b1 b2 b3 b4 b5 b6:V):splice 0 (auC A) [a1,a2,a3,a4,a5,a6,a7,a8,a9,b1,b2,b3,b4,b5,b6]=auC A:=by obtain⟨⟨ak,as_,ap,al,ah⟩,S,Cs,R,Fi,Mo,La,Em⟩:=A;rfl
def Qiq:[V.i .i64 0,.i .i64 0,.i .i64 0,.i .i64 0,.i .i64 0]=cfC noC:=rfl
def Qey (l:List V):V.cells (.ag l)=l:=rfl
def Qie (k:IntKind) (n:Int):V.cells (.i k n)=[.i k n]:=rfl
def Qhy (n:Bool):V.cells (.bo n)=[.bo n]:=rfl
attribute [go_sem] Nat.reduceSub slaV QjI Qiv QkO QiL QkR Qey Qie Qhy QjX QfJ Qmc Qmv au_8 au_9 QmY Ql2 Qml Ql9 Qmt QbM Qkz Qgg Qmi QmE sc_0 sc_1 Qle QkH QiJ Qlt Qm8 QlY mv_0 mv_1 mv_2 Qk8 Qkh QlD J0 Qmg QmS cf_0 cf_1 cf_2 cf_3 cf_4 QkE QfZ Qjw QlW
def DC (l:List Cf):QQ (l.map cfC)=true:=QP QkE l
def Qkl (l:List (Int × Int)):QQ (l.map scC)=true:=QP Qle l
def Di (l:List Int):QQ (l.map i1)=true:=QP (fun _=>rfl) l
def QjQ (l:List Mv):QQ (l.map mvC)=true:=QP Qk8 l
attribute [go_sem] DC Qkl Di QjQ
def Qir (s:Int × Int) (n:Int) (hs:scOk s):Pu F 32 [.ag (scC s),.i .i64 n] (.bo (decide (1≤n)&&decide (n≤topS s))):=by
 refine Qh e32 rfl rfl (by simp only[go_sem,Bool.and_true]) ?_;dsimp only[fn32,c32];by_cases h:s.2 = -1
 ·have e1:(s.2 == -1)=true:=by simpa using h
  (repeat' (first|refine RSN e1 ?_|with_reducible refine GBN e1 (fun _=>?_) (fun _=>?_)|with_reducible refine GDN e1 (fun _=>?_) (fun _=>?_)));all_goals
   refine Qp ?_ rfl;congr 1
   try simp only[Bool.not_true,Bool.not_false,decide_eq_true_eq,decide_eq_false_iff_not] at *
   simp [topS,h]
   try omega
 ·have e1:(s.2 == -1)=false:=by simpa using h
  have e2:¬ s.2 < 0:=by unfold scOk at hs;omega
  (repeat' (first|refine RSN e1 ?_|with_reducible refine GBN e1 (fun _=>?_) (fun _=>?_)|with_reducible refine GDN e1 (fun _=>?_) (fun _=>?_)));all_goals
   refine Qp ?_ rfl;congr 1
   try simp only[Bool.not_true,Bool.not_false,decide_eq_true_eq,decide_eq_false_iff_not] at *
   simp [topS,e2]
   try omega
def Qh5 (s:Int × Int) (n:Int):Pu F 54 [.ag (scC s),.i .i64 n] (.bo (decide (s.1≤n))):=by
 refine Qh e54 rfl rfl (by simp only[go_sem,Bool.and_true]) ?_;dsimp only[fn54,c54];refine RN trivial ?_;exact Qp SM rfl
def Va (s:Int × Int) (n:Int):V:=match ZY s n with
 | some k=>.tp [.i .i64 k,.bo true]
 | none=>.tp [.i .i64 0,.bo false]
def Qbz (s:Int × Int) (n:Int) (hs:scOk s) (h1:1≤n) (h2:n≤2147483647):Pu F 35 [.ag (scC s),.i .i64 n] (Va s n):=by
 refine Qh e35 rfl rfl (by simp only[go_sem,Bool.and_true]) ?_;dsimp only[fn35,c35];unfold scOk at hs;by_cases h:s.2 = -1
 ·have e1:(s.2 == -1)=true:=by simpa using h
  have e2:IntKind.i64.wrap (s.1 - 1)=s.1 - 1:=Qi OM OM;have e3:IntKind.i64.wrap ((if s.1 - 1 < n then s.1 - 1 else n)+1)=(if s.1 - 1 < n then s.1 - 1 else n)+1:=by split<;>exact Qi OM OM
  (repeat (with_reducible (first|refine YK ?_|refine ZM ?_|refine Y3 ?_|refine K8 ?_|refine WB ?_|refine X_nx ?_|refine X_rt ?_|refine B_rt ?_|((first|refine U_q (v:=?_) ?h1 ?_|refine U_ld (v:=?_) ?h1 ?_|refine Wp ?h1 ?_);case h1=>((try simp only[e1,e2,e3,mxV,go_sem])<;>rfl))|(refine VI (cs:=?_) (cs':=?_) (n:=?_) ?h1 ?h2 ?h3 ?h4 ?_;case h1|h2|h3|h4=>((try simp only[e1,e2,e3,mxV,go_sem])<;>rfl))|(refine E_2 (v:=?_) (u:=?_) ?h1 ?h2 ?_;case h1|h2=>((try simp only[e1,e2,e3,mxV,go_sem])<;>rfl)))));refine Qp ?_ rfl;simp [Va,ZY,h];repeat' split<;>omega
 ·have e1:(s.2 == -1)=false:=by simpa using h
  have e4:¬ s.2 < 0:=by omega
  by_cases hn:n≥s.2
  ·have e2:decide (n≥s.2)=true:=by simpa using hn
   refine RN (Ad2 e1 e2) ?_;exact Qp (by simp [Va,ZY,e4,hn]) rfl
  ·have e2:decide (n≥s.2)=false:=by simpa using hn
   have e3:IntKind.i64.wrap (n+1)=n+1:=Qi OM OM;refine RN (Ad3 e1 e2 e3) ?_;exact Qp (by simp [Va,ZY,e4,hn]) rfl
def Qd5 (hp:p < A.around.length):(A.around.map lsC)[p]?=some [.sl ((arAt A p).map inC)]:=by
 rw[List.getElem?_map,Dc hp];rfl
def QhJ (hi:i < A.scopes.length):(A.scopes.map scC)[i]?=some (scC (scI A i)):=by
 rw[List.getElem?_map,Qdx hi];rfl
def VV {l:List Nat} (hi:i < l.length):(l.map inC)[i]?=some [.i .i64 l[i]]:=by
 rw[List.getElem?_map,List.getElem?_eq_getElem hi];rfl
def Qay (hi:i < l.length):(l.map scC)[i]?=some (scC l[i]):=by
 rw[List.getElem?_map,List.getElem?_eq_getElem hi];rfl
def Qm5 {l:List Int} (hi:i < l.length):(l.map i1)[i]?=some [.i .i64 l[i]]:=by
 rw[List.getElem?_map,List.getElem?_eq_getElem hi];rfl
def Zu (h:i < 4294967296):IntKind.i64.wrap ((i:Int)+1)=((i+1:Nat):Int):=by rw[Qi OM OM];rfl
def Qkj (l:List (Int × Int)):(l.map scC).all Zc=true:=List.all_eq_true.2 fun c hc=>by obtain⟨x,_,rfl⟩:=List.mem_map.1 hc;rfl
def Kh (l:List Cf):(l.map cfC).all Zc=true:=List.all_eq_true.2 fun c hc=>by obtain⟨x,_,rfl⟩:=List.mem_map.1 hc;rfl
def QfH (l:List Cf):∀ c∈l.map cfC,∀ v∈c,∀ n,frzU (n+1) o v=some v:=fun c hc v hv n=>by
 obtain⟨x,_,rfl⟩:=List.mem_map.1 hc;simp [cfC] at hv;rcases hv with rfl|rfl|rfl|rfl|rfl<;>rfl
def HR (hW:WF A) (hp:p < A.around.length):Pu F 31 [.ag (auC A),.i .i64 p] (.sl ((scAt A p).map scC)):=by
 refine Qh e31 rfl rfl (by simp only[go_sem,Bool.and_true]) ?_;dsimp only[fn31,c31];have hra:=Qd5 hp;have hpp:(0:Int)≤(p:Int):=by omega
 have h4:=ar_4 hW hp;have hlt:∀ i∈arAt A p,i < A.scopes.length:=fun i hi=>Qbf hW hp hi;have hsc:scAt A p=(arAt A p).map (scI A):=rfl;rw[hsc];generalize arAt A p=l at hra h4 hlt;refine RT (Ad2 hra hpp) ?_;refine U_lp (fun r e o=>∃ i:Nat,i+r=l.length∧e 2=.pt 2 0 0∧e 13=.sl (l.map inC)∧e 14=.i .i64 l.length∧e 15=.i .i64 i∧e 5=ownV 27 2 (((l.take i).map (scI A)).map scC)∧Own o 27 2 (((l.take i).map (scI A)).map scC)∧o 2=some (.row 15 [auC A])) (k:=l.length) ?_ (Qa F) ?_
 ·exact⟨0,OM,Z0,Z0,by simp only[List.length_map,go_sem],Zr0,Zr0,⟨rfl,fun h=>absurd rfl h⟩,Z0⟩
 rintro r e o ⟨i,hir,r2,r13,r14,r15,r5,ho,o2⟩;dsimp only[QiU];refine RN (Ad2 r14 r15) ?_;refine Qv (q:=decide ((i:Int) < (l.length:Int))) (Z0) (fun hc=>?_) (fun hc=>?_)
 ·have hi:i < l.length:=by simpa using hc
  have hip:(0:Int)≤(i:Int):=by omega
  have hxi:=VV hi;have hxp:(0:Int)≤(l[i]:Int):=by omega
  have hsi:=QhJ (hlt l[i] (List.getElem_mem hi));have hw:=Zu (i:=i) OM;have htk:((l.take (i+1)).map (scI A)).map scC=((l.take i).map (scI A)).map scC++[scC (scI A l[i])]:=by
   rw[List.take_add_one,List.getElem?_eq_getElem hi];simp only[Option.toList_some,List.map_append,List.map_cons,List.map_nil]
  refine RT (Ad5 r2 r13 r15 r5 (Ad5 o2 hip hxi hxp hsi)) ?_;refine YO 27 (L:=((l.take i).map (scI A)).map scC) (ys:=[scC (scI A l[i])]) (Z0) ((ho.sw RM).up RM).h (by (simp only[src,go_sem]<;>rfl)) (by simp [Qgg]) SM OM ⟨by simp;omega,OM⟩ (Q4 _ ho.c) rfl ?_;refine RN (Ad2 r15 hw) ?_
  refine⟨r - 1,OM,i+1,OM,Z1 r2,Z1 r13,Z1 r14,Z0,Z1 htk,?_,Z1 o2⟩
  rw[htk];exact Own.to (by rw[← htk];exact Qkj _)
 ·have hi:i=l.length:=by
   have:¬ i < l.length:=by simpa using hc
   omega
  subst hi;rw[List.take_length] at r5 ho;refine RN r5 ?_;exact YT ho (QfE _) 22
def Qck {cs:List Int} (hl:l.length≤cs.length) (h4:l.length≤4):Pu F 36 [.sl (l.map scC),.sl (cs.map i1)] (.bo (Qw l cs)):=by
 refine Qh e36 rfl rfl (by simp only[go_sem,Bool.and_true]) ?_;dsimp only[fn36,c36];refine RT trivial ?_;refine U_lp (fun r e o=>∃ i:Nat,i+r=l.length∧e 1=.sl (cs.map i1)∧e 7=.sl (l.map scC)∧e 8=.i .i64 l.length∧e 9=.i .i64 i∧∀ j,j < i→low l j≤(cs[j]?).getD 0) (k:=l.length) ?_ (Qa F) ?_
 ·exact⟨0,OM,Z0,Z0,by simp only[List.length_map,go_sem],Zr0,fun j h=>absurd h OM⟩
 rintro r e o ⟨i,hir,r1,r7,r8,r9,hp⟩;dsimp only[Qjf];refine RN (Ad2 r8 r9) ?_;refine Qv (q:=decide ((i:Int) < (l.length:Int))) (Z0) (fun hc=>?_) (fun hc=>?_)
 ·have hi:i < l.length:=by simpa using hc
  have hic:i < cs.length:=by omega
  have hip:(0:Int)≤(i:Int):=by omega
  have hxi:=Qay hi;have hci:=Qm5 hic;have hw:=Zu (i:=i) OM;have hlow:low l i=l[i].1:=by simp [low,List.getElem?_eq_getElem hi]
  have hcs:(cs[i]?).getD 0=cs[i]:=by simp [List.getElem?_eq_getElem hic]
  have hd:=Qh5 l[i] cs[i];refine RT (Ad2 r1 (Ad5 r7 r9 hip hxi hci)) ?_;refine PRN (Ad3 r1 r7 r9) (r:=.bo (decide (l[i].1≤cs[i]))) hd ?_;refine RN trivial ?_;refine Qv (q:=!decide (l[i].1≤cs[i])) (Z0) (fun hc2=>?_) (fun hc2=>?_)
  ·have h2:¬ l[i].1≤cs[i]:=by simpa using hc2
   have h3:Qw l cs=false:=by
    simp only[Qw,decide_eq_false_iff_not];intro h
    have:=h i hi
    rw[hlow,hcs] at this;exact h2 this
   refine RN trivial ?_;rw[h3];exact Qp SM rfl
  ·have h2:l[i].1≤cs[i]:=by simpa using hc2
   refine RN (Ad2 r9 hw) ?_
   refine⟨r - 1,OM,i+1,OM,Z1 r1,Z1 r7,Z1 r8,Z0,fun j hj=>?_⟩
   by_cases hji:j=i
   ·subst hji;rw[hlow,hcs];exact h2
   ·exact hp j OM
 ·have hi:i=l.length:=by
   have:¬ i < l.length:=by simpa using hc
   omega
  subst hi;have h3:Qw l cs=true:=by
   simp only[Qw,decide_eq_true_eq];exact hp
  refine RN trivial ?_;rw[h3];exact Qp SM rfl
def entI (p:Nat) (i:Nat):Cf:=mkCf p fun j=>if j < i then 1 else 0
def QeB (p i:Nat) (h:i < 4):(entI p i).setC i 1=entI p (i+1):=by
 refine QkP rfl fun j hj=>?_;rw[WU _ _ _ _ hj,entI,entI,X7 _ _ hj,X7 _ _ hj];split
 ·rename_i h;subst h;rw[if_pos OM]
 ·rename_i h;by_cases h2:j < i
  ·rw[if_pos h2,if_pos OM]
  ·rw[if_neg h2,if_neg OM]
def QeE (p n:Nat) (kept:List Int) (h:kept.length≤4):splice 1 ((kept.map i1).take 4).flatten (cfC (entI p n))=cfC (mkCf p (entN n kept)):=by
 match kept,h with
 | [],_=>rfl
 | [a],_=>rfl
 | [a,b],_=>rfl
 | [a,b,c],_=>rfl
 | [a,b,c,d],_=>rfl
def D5 (hW:WF A) (hp:p < A.around.length) {kept:List Int} (hk:kept.length≤4):Pu F 16 [.ag (auC A),.i .i64 p,.sl (kept.map i1)] (.ag (cfC (QG A p kept))):=by
 refine Qh e16 rfl rfl (by simp only[go_sem,Bool.and_true]) ?_;dsimp only[fn16,c16];have hra:=Qd5 hp;have hpp:(0:Int)≤(p:Int):=by omega
 have h4:=ar_4 hW hp;unfold QG;generalize arAt A p=l at hra h4;refine RT (Ad2 hra hpp) ?_;refine Z4 (fun e o=>e 2=.sl (kept.map i1)∧e 6=.pt 6 0 0∧e 7=.pt 7 0 0∧o 6=some (.row 5 [cfC noC])∧o 7=some (.row 5 [cfC (entI p l.length)])) ?_ ?_
 ·refine U_lp (fun r e o=>∃ i:Nat,i+r=l.length∧e 2=.sl (kept.map i1)∧e 6=.pt 6 0 0∧e 7=.pt 7 0 0∧e 17=.i .i64 l.length∧e 18=.i .i64 i∧o 6=some (.row 5 [cfC noC])∧o 7=some (.row 5 [cfC (entI p i)])) (k:=l.length) ?_ (Qa F) ?_
  ·exact⟨0,OM,Z0,Z0,Z0,by simp only[List.length_map,go_sem],Zr0,Zr0,Zr0⟩
  rintro r e o ⟨i,hir,r2,r6,r7,r17,r18,o6,o7⟩;dsimp only[Qjr];refine RN (Ad2 r17 r18) ?_;refine Qv (q:=decide ((i:Int) < (l.length:Int))) (Z0) (fun hc=>?_) (fun hc=>?_)
  ·have hi:i < l.length:=by simpa using hc
   have hi4:i < 4:=by omega
   have hip:(0:Int)≤(i:Int):=by omega
   have hi4':((i:Int) < 4)=True:=by simp;omega
   have hspl:=Qcc (entI p i) 1 hi4;rw[QeB p i hi4] at hspl;have hle:1+i+1≤5:=by omega
   have hw:=Zu (i:=i) OM;refine RT (Ad4 r7 r18 o7 (Ad5 hip hi4' hspl hle hw)) ?_
   refine⟨r - 1,OM,i+1,OM,Z1 r2,Z1 r6,Z1 r7,Z1 r17,Z0,Z1 o6,Z0⟩
  ·have hi:i=l.length:=by
    have:¬ i < l.length:=by simpa using hc
    omega
   subst hi;refine RN trivial ?_
   exact⟨rfl,r2,r6,r7,o6,o7⟩
 rintro e o ⟨r2,r6,r7,o6,o7⟩;have hspl:=QeE p l.length kept hk;refine RN (Ad5 r2 r6 r7 o6 o7) ?_;refine Qjn (es':=[cfC (mkCf p (entN l.length kept))]) (ys:=kept.map i1) (Zr0) (by simp only[src,go_sem]) (fun c hc=>by obtain⟨x,_,rfl⟩:=List.mem_map.1 hc;rfl) (Zr1 o7) rfl (Z0) rfl (by simp only[List.set_cons_zero,hspl]) ?_;refine RN (Ad3 r6 r7 o6) ?_;exact Qp SM rfl
def Qdv (h:i < l.length):okAt l x i=(decide (1≤x.c i)&&decide (x.c i≤topS l[i])):=by simp [okAt,List.getElem?_eq_getElem h]
def QbL (h:¬ i < l.length):okAt l x i=(x.c i==0):=by simp [okAt,List.getElem?_eq_none (Nat.le_of_not_lt h)]
def QiI (hi:i < 4) (h:okAt (scAt A x.p.toNat) x i=false):Qr A x=false:=by
 rw[Bool.eq_false_iff];intro h2
 have:=(QL.1 h2).2.2 i hi
 rw[h] at this;cases this
set_option maxHeartbeats 1000000 in
def QdS (hW:WF A) (x:Cf):Pu F 18 [.ag (auC A),.ag (cfC x)] (.bo (Qr A x)):=by
 have hlen:A.around.length≤41:=by rw[hW.la];exact hW.n
 refine Qh e18 rfl rfl (by simp only[go_sem,Bool.and_true]) ?_;dsimp only[fn18,c18];by_cases h1:x.p < 1
 ·have e1:decide (x.p < 1)=true:=by simpa using h1
  have hr:Qr A x=false:=by simp [Qr];omega
  refine RN e1 ?_;rw[hr];exact Qp SM rfl
 have e1:decide (x.p < 1)=false:=by simpa using h1
 by_cases h2:x.p≥(A.around.length:Int)
 ·have e2:decide (x.p≥(A.around.length:Int))=true:=by simpa using h2
  have hr:Qr A x=false:=by simp [Qr];omega
  refine RT (Ad2 e1 e2) ?_;rw[hr];exact Qp SM rfl
 have e2:decide (x.p≥(A.around.length:Int))=false:=by simpa using h2
 obtain⟨p,hp⟩:∃ p:Nat,x.p=p:=⟨x.p.toNat,OM⟩;have hpl:p < A.around.length:=by omega
 have hpt:x.p.toNat=p:=by omega
 have ha:=HR hW hpl;have hs4:(scAt A p).length≤4:=by rw[JL];exact ar_4 hW hpl
 have hso:∀ s∈scAt A p,scOk s:=fun s hs=>Qh0 hW hpl hs;rw[hp] at e1 e2;refine RT (Ad3 hp e1 e2) ?_;refine PCN trivial (r:=.sl ((scAt A p).map scC)) ha ?_;refine RN trivial ?_;have hrt:Qr A x=(List.range 4).all (okAt (scAt A p) x):=by
  simp [Qr,hp,hpt];omega
 have hrf:∀ i,i < 4→okAt (scAt A p) x i=false→Qr A x=false:=fun i hi h=>QiI hi (by rw[hpt];exact h);generalize hl:scAt A p=l at hs4 hso hrt hrf;refine U_lp (fun r e o=>∃ i:Nat,i+r=4∧e 5=.sl (l.map scC)∧e 25=.ag ((cl4 x).map (V.i .i64))∧e 26=.i .i64 i∧∀ j,j < i→okAt l x j=true) (k:=4) ?_ (Qa F) ?_
 ·exact⟨0,OM,Z0,Z0,Zr0,fun j h=>absurd h OM⟩
 rintro r e o ⟨i,hir,r5,r25,r26,hq⟩;dsimp only[QiR];refine RN r26 ?_;refine Qv (q:=decide ((i:Int) < 4)) (Z0) (fun hc=>?_) (fun hc=>?_)
 ·have hi:i < 4:=by simp at hc;omega
  have hip:(0:Int)≤(i:Int):=by omega
  have hi4':((i:Int) < 4)=True:=by simp;omega
  have hw:=Zu (i:=i) OM;have hxi:((cl4 x).map (V.i .i64))[i]?=some (.i .i64 (x.c i)):=by rw[List.getElem?_map,YC x hi];rfl
  refine RT (Ad2 r5 (Ad5 r25 r26 hip hi4' hxi)) ?_;have nxt:okAt l x i=true→∀ j,j < i+1→okAt l x j=true:=fun h j hj=>by
   by_cases hji:j=i
   ·subst hji;exact h
   ·exact hq j OM
  by_cases hil:i < l.length
  ·have c1:decide ((i:Int) < (l.length:Int))=true:=by simp;omega
   have c2:decide ((i:Int)≥(l.length:Int))=false:=by simp;omega
   have hsi:=Qay hil;have hf:=Qir l[i] (x.c i) (hso _ (List.getElem_mem hil));rw[← Qdv hil] at hf;refine RT (Ad4 r5 c1 hip hsi) ?_;refine PRN trivial (r:=.bo (okAt l x i)) hf ?_;cases hok:okAt l x i with
   | true =>
    refine RT (Ad5 r5 r26 c1 c2 hw) ?_
    exact⟨r - 1,OM,i+1,OM,Z1 r5,Z1 r25,Z0,nxt hok⟩
   | false =>
    refine RT (Ad5 r5 r26 c1 c2 hw) ?_;rw[hrf i hi hok];exact Qp SM rfl
  ·have c1:decide ((i:Int) < (l.length:Int))=false:=by simp;omega
   have c2:decide ((i:Int)≥(l.length:Int))=true:=by simp;omega
   have hok:=QbL (x:=x) hil;by_cases hz:x.c i=0
   ·have c3:(x.c i != 0)=false:=by simpa using hz
    refine RT (Ad2 r5 (Ad5 r26 c1 c2 c3 hw)) ?_
    exact⟨r - 1,OM,i+1,OM,Z1 r5,Z1 r25,Z0,nxt (by rw[hok];simpa using hz)⟩
   ·have c3:(x.c i != 0)=true:=by simpa using hz
    refine RT (Ad2 r5 (Ad5 r26 c1 c2 c3 hw)) ?_;rw[hrf i hi (by rw[hok];simpa using hz)];exact Qp SM rfl
 ·have hi:i=4:=by simp at hc;omega
  subst hi;refine RN trivial ?_;rw[hrt,List.all_eq_true.2 fun i hi=>hq i (List.mem_range.1 hi)];exact Qp SM rfl
def V5 (x:Cf) (n:Nat) (hn:n≤4):GenO (Call F) 34 [.ra 1000000 0 1 n] [(1000000,.row 5 [cfC x])] [] (ownV 1 1 (((cl4 x).take n).map i1)) [(1000000,.row 5 [cfC x])] [(1,1,((cl4 x).take n).map i1)] [1000000] []:=by
 have hsrc:∀ o:O,o 1000000=some (.row 5 [cfC x])→src o (.ra 1000000 0 1 n)=some (((cl4 x).take n).map i1):=fun o h=>by
  simp only[src,h,List.getElem?_cons_zero];rw[if_pos (by simp only[J0];omega)]
  match n,hn with
  | 0,_=>rfl
  | 1,_=>rfl
  | 2,_=>rfl
  | 3,_=>rfl
  | 4,_=>rfl
 have hcl:∀ D:List Nat,rfOb D (.row 5 [cfC x])=true:=fun D=>YD RM;have hre:∀ f:Nat→Nat,Qj f (.row 5 [cfC x])=.row 5 [cfC x]:=fun f=>Q2 RM;refine YS e34 rfl rfl (by simp [domA]) SM SM (by simp [domA]) fun o hb ho=>?_;dsimp only[fn34,c34];have hb:=hb _ (List.mem_singleton.2 rfl);dsimp only at hb;generalize hL:((cl4 x).take n).map i1=L at hsrc;have hLl:L.length=n:=by subst hL;simp [cl4];omega
 have hLc:QQ L=true:=by subst hL;exact Di _
 have hLs:∀ d,swpR d L=L:=fun d=>by subst hL;exact DP (fun _=>rfl) d _
 have hL1:∀ c∈L,c.length=1:=fun c hc=>by subst hL;obtain⟨y,_,rfl⟩:=List.mem_map.1 hc;rfl
 have fin:∀ (o1:O),o1 1000000=some (.row 5 [cfC x])→(L≠[]→o1 7=some (.row 1 L))→GenE (domA (obs [(1000000,.row 5 [cfC x])] [(1,1,L)])) (obs [(1000000,.row 5 [cfC x])] [(1,1,L)]) (ownV 1 1 L) (stOf [1000000] []) (ownV 7 1 L) o1:=fun o1 h1 h2 =>
  Zg [(1000000,.row 5 [cfC x])] [(7,1,L)] (fun s=>if s=7 then 1 else s) (by rw[QY];rfl) (by simp [hre]) rfl (by simp [hLc]) (by simpa using h1) (by simpa using h2) (Zm SM) (by simp [hcl]) (by simp [domA]) SM
 have fin0:∀ (o1:O),o1 1000000=some (.row 5 [cfC x])→L=[]→GenE (domA (obs [(1000000,.row 5 [cfC x])] [(1,1,L)])) (obs [(1000000,.row 5 [cfC x])] [(1,1,L)]) (ownV 1 1 L) (stOf [1000000] []) .nil o1:=fun o1 h1 h2=>by
  have:=fin o1 h1 (fun h=>absurd h2 h)
  have e:ownV 7 1 L=.nil:=by rw[h2];rfl
  rw[e] at this;exact this
 by_cases h0:n=0
 ·have hL0:L=[]:=List.eq_nil_of_length_eq_zero OM;subst h0;refine RN trivial ?_;refine Qgb (Zr0) fun p=>?_;cases p with
  | true =>
   refine RN trivial ?_;exact fin0 _ hb hL0
  | false =>
   refine RN trivial ?_;refine KK (Z0) (by simp only[go_sem];rw[hsrc _ hb,hL0]) OM ?_;refine RN trivial ?_;exact fin0 _ hb hL0
 ·have hz:szV (.ra 1000000 0 1 n)=some true:=by simp [szV,h0]
  refine RN hz ?_;refine QcJ 7 (n:=n) (ys:=L) (ys':=L) (Z0) (by simp only[go_sem];rw[hsrc _ hb]) hL1 hLl (by simpa using h0) OM ⟨OM,OM⟩ (hLs _) ?_;refine RN trivial ?_
  have:=fin (upd (swpO 7 o) 7 (some (.row 1 L))) (Z1 hb) (fun _=>Z0)
  have e:ownV 7 1 L=.rw 7 1 0 n:=by unfold ownV;rw[if_neg (by intro h;rw[h] at hLl;simp at hLl;omega),hLl]
  rw[e] at this;exact this
def Qcs {e:E} {d:Nat} {ods:List Od} (a b:Nat) (x:Cf) (n:Nat) {l:List Stp} {K:E→O→Prop} (hn:n≤4) (hab:(a==b)=false) (hb:b < 1000000) (hargs:ods.map (Od.ev e)=[.ra a 0 1 n]) (ho:o a=some (.row 5 [cfC x]))
  (h:∀ o1,o1 a=some (.row 5 [cfC x])→Own o1 b 1 (((cl4 x).take n).map i1)→(∀ t,t≠a→t≠b→o1 t=ZH [b] o t)→wpRU (Call F) l K (upd (Zx [b] e) d (ownV b 1 (((cl4 x).take n).map i1))) o1):wpRU (Call F) (⟨some d,none,.nc 34 ods,[]⟩::l) K e o:=by
 have hab:a≠b:=by simpa using hab
 have hcl:∀ D:List Nat,rfOb D (.row 5 [cfC x])=true:=fun D=>YD RM;have hre:∀ f:Nat→Nat,Qj f (.row 5 [cfC x])=.row 5 [cfC x]:=fun f=>Q2 RM;refine Yp (fun s=>if s=1000000 then a else s) (fun s=>if s=1000000 then a else if s=1 then b else s) [b] (V5 x n hn) ?_ ?_ SM ?_ SM (fun q hq=>by rw[List.mem_singleton.1 hq];exact Di _) fun o1 g1 g2 g3=>?_
 ·rw[hargs];simp only[renL,ren,if_true]
 ·intro p hp;rw[List.mem_singleton.1 hp];dsimp only;rw[hre,if_pos rfl];exact ho
 ·refine Q1 (by simp [domA]) (by simp [domA,hab]) (by simp [domA]) ?_ (by simp [hcl]) (Zm SM) (by simp [hcl]) SM (fun q hq=>by rw[List.mem_singleton.1 hq];exact Di _) (by simp [domA,hab]) SM (by simp [domA]) SM (by simp [domA]) (by simp [hb]);simp only[rfL,Bool.and_true,rfI];exact JA (by simp [domA])
 ·rw[show ren (fun s=>if s=1000000 then a else if s=1 then b else s) (ownV 1 1 (((cl4 x).take n).map i1))=ownV b 1 (((cl4 x).take n).map i1) from by rw[QY];rfl];have k1:=g1 _ (List.mem_singleton.2 rfl);dsimp only at k1;rw[hre,if_pos rfl] at k1;refine h o1 k1 ⟨List.all_eq_true.2 fun c hc=>by obtain⟨y,_,rfl⟩:=List.mem_map.1 hc;rfl,g2 (1,1,((cl4 x).take n).map i1) SM⟩ fun t k1 k2=>g3 t fun s hs=>?_;simp [domA] at hs;rcases hs with rfl|rfl
  ·simp [Ne.symm k1]
  ·simp [Ne.symm k2]
def mayV (r:Option Cf):V:=match r with
 | some y=>.tp [.ag (cfC y),.bo true]
 | none=>.tp [.ag (cfC noC),.bo false]
def Qlf (h:o a=some (.row 5 [cfC x])) (hk:k≤4):fzU o (.ra a 0 (1+k) (4 - k))=some (.sl (((cl4 x).drop k).map i1)):=by
 have hs:src o (.ra a 0 (1+k) (4 - k))=some (((cl4 x).drop k).map i1):=by
  simp only[src,h,List.getElem?_cons_zero];rw[if_pos (by simp only[J0];omega)]
  match k,hk with
  | 0,_=>rfl
  | 1,_=>rfl
  | 2,_=>rfl
  | 3,_=>rfl
  | 4,_=>rfl
 show (match src o (.ra a 0 (1+k) (4 - k)) with
   | some es=>(es.mapM fun c:List V=>c.mapM (frzU 23 o)).map V.sl
   | none=>none)=_
 rw[hs];dsimp only;rw[ZR fun c hc v hv=>by
  obtain⟨y,_,rfl⟩:=List.mem_map.1 hc;simp [i1] at hv;subst hv;rfl]
 rfl
def Qlv (l:List Int):∀ c∈l.map i1,∀ v∈c,∀ n,frzU (n+1) o v=some v:=fun c hc v hv n=>by
 obtain⟨x,_,rfl⟩:=List.mem_map.1 hc;simp [i1] at hv;subst hv;rfl
def Qhf {s:Nat} {K:List Int} (h:Own o s 1 (K.map i1)):fzsU o [.ag (auC A),.i .i64 p,ownV s 1 (K.map i1)]=some [.ag (auC A),.i .i64 p,.sl (K.map i1)]:=by
 have h1:fzU o (.ag (auC A))=some (.ag (auC A)):=JM (QbM A);have h2:fzU o (.i .i64 (p:Int))=some (.i .i64 p):=rfl;have h3:fzU o (ownV s 1 (K.map i1))=some (.sl (K.map i1)):=YT h (Qlv K) 22;simp [fzsU,h1,h2,h3]
def QjE (h:o a=some (.row 5 [cfC x])) (hk:k≤4) (l:List (Int × Int)):fzsU o [.sl (l.map scC),.ra a 0 (1+k) (4 - k)]=some [.sl (l.map scC),.sl (((cl4 x).drop k).map i1)]:=by
 have h1:fzU o (.sl (l.map scC))=some (.sl (l.map scC)):=rfl;simp [fzsU,h1,Qlf h hk]
end Go.Proofs.YtklbhcjmaeedhaaGreatDoor
