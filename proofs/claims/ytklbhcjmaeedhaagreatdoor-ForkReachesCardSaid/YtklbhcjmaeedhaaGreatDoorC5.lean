import Derived.Test.YtklbhcjmaeedhaaGreatDoorKc

namespace Go.Proofs.YtklbhcjmaeedhaaGreatDoor
set_option linter.all false
attribute [-go_sem] Qy Qj rfOb V.cells
def Qav (a:Int):Pu F 116 [.i .i64 a] (.bo false):=by
 refine Qh e116 rfl rfl (by simp only[go_sem,Bool.and_true]) ?_;dsimp only[Qjs,c116];refine RN trivial ?_;exact Qp SM rfl
def H3 (a b:Int):Pu F 94 [.i .i64 a,.i .i64 b] (.i .i64 (cmpI a b)):=by
 have h1:=Qav a;have h2:=Qav b;refine Qh e94 rfl rfl (by simp only[go_sem,Bool.and_true]) ?_;dsimp only[fn94,c94];(repeat' (first|refine RSN trivial ?_|((with_reducible refine PCN trivial (r:=.bo false) ?h ?_);case h=>exact h1)|((with_reducible refine PCN trivial (r:=.bo false) ?h ?_);case h=>exact h2)|with_reducible refine GBN trivial (fun _=>?_) (fun _=>?_)|with_reducible refine GDN trivial (fun _=>?_) (fun _=>?_)));all_goals
  refine Qp ?_ rfl;simp only[decide_eq_true_eq,decide_eq_false_iff_not] at *;congr 1;unfold cmpI;(repeat' split)<;>first|rfl|omega
def cmp4 (x y:Cf):Int:=orI2 (cmpI x.c0 y.c0) (orI2 (cmpI x.c1 y.c1) (orI2 (cmpI x.c2 y.c2) (cmpI x.c3 y.c3)))
def JW (a:Int):cmpI a a=0:=Vp.2 rfl
def Qhp {x y:Cf} {i:Nat} (hi:i < 4) (h:∀ j,j < i→x.c j=y.c j) (hn:cmpI (x.c i) (y.c i)≠0):cmp4 x y=cmpI (x.c i) (y.c i):=by
 match i,hi with
 | 0,_=>simp only[Cf.c] at hn ⊢;simp [cmp4,orI2,hn]
 | 1,_ =>
  have h0:=h 0 OM;simp only[Cf.c] at hn h0 ⊢;simp [cmp4,orI2,hn,h0,JW]
 | 2,_ =>
  have h0:=h 0 OM;have h1:=h 1 OM;simp only[Cf.c] at hn h0 h1 ⊢;simp [cmp4,orI2,hn,h0,h1,JW]
 | 3,_ =>
  have h0:=h 0 OM;have h1:=h 1 OM;have h2:=h 2 OM;simp only[Cf.c] at hn h0 h1 h2 ⊢;simp [cmp4,orI2,h0,h1,h2,JW]
def Qfq {x y:Cf} (h:∀ j,j < 4→x.c j=y.c j):cmp4 x y=0:=by
 have h0:=h 0 OM;have h1:=h 1 OM;have h2:=h 2 OM;have h3:=h 3 OM;simp only[Cf.c] at h0 h1 h2 h3;simp [cmp4,orI2,h0,h1,h2,h3,JW]
def Qh7 (x y:Cf):Pu F 53 [.sl ((cl4 x).map i1),.sl ((cl4 y).map i1)] (.i .i64 (cmp4 x y)):=by
 refine Qh e53 rfl rfl (by simp only[go_sem,Bool.and_true]) ?_;dsimp only[fn53,c53];have hl:∀ z:Cf,(cl4 z).length=4:=fun z=>rfl;refine RT hl ?_;refine U_lp (fun r e o=>∃ i:Nat,i+r=4∧e 0=.sl ((cl4 x).map i1)∧e 1=.sl ((cl4 y).map i1)∧e 9=.sl ((cl4 x).map i1)∧e 10=.i .i64 4∧e 11=.i .i64 i∧∀ j,j < i→x.c j=y.c j) (k:=4) ?_ (Qa F) ?_
 ·exact⟨0,OM,Z0,Z0,Z0,by simp only[List.length_map,hl,go_sem],Zr0,fun j h=>absurd h OM⟩
 rintro r e o ⟨i,hir,r0,r1,r9,r10,r11,hq⟩;dsimp only[QjW];refine RN (Ad2 r10 r11) ?_;refine Qv (q:=decide ((i:Int) < 4)) (Z0) (fun hc=>?_) (fun hc=>?_)
 ·have hi:i < 4:=by simp at hc;omega
  have hip:(0:Int)≤(i:Int):=by omega
  have hw:=Zu (i:=i) OM;have c1:decide ((i:Int)≥4)=false:=by simp;omega
  have hx:((cl4 x).map i1)[i]?=some [.i .i64 (x.c i)]:=by rw[List.getElem?_map,YC x hi];rfl
  have hy:((cl4 y).map i1)[i]?=some [.i .i64 (y.c i)]:=by rw[List.getElem?_map,YC y hi];rfl
  have hcp:=H3 (x.c i) (y.c i);refine RT (Ad5 r0 r1 r9 r11 (Ad5 hip hx hy c1 hl)) ?_;refine PRN trivial (r:=.i .i64 (cmpI (x.c i) (y.c i))) hcp ?_;by_cases hz:cmpI (x.c i) (y.c i)=0
  ·have c2:(cmpI (x.c i) (y.c i) != 0)=false:=by simpa using hz
   refine RN (Ad3 c2 r11 hw) ?_
   refine⟨r - 1,OM,i+1,OM,Z1 r0,Z1 r1,Z1 r9,Z1 r10,Z0,fun j hj=>?_⟩
   by_cases hji:j=i
   ·subst hji;exact Vp.1 hz
   ·exact hq j OM
  ·have c2:(cmpI (x.c i) (y.c i) != 0)=true:=by simpa using hz
   refine RN c2 ?_;rw[Qhp hi hq hz];exact Qp SM rfl
 ·have hi:i=4:=by simp at hc;omega
  subst hi;refine RT (Ad3 r0 r1 hl) ?_;rw[Qfq hq];exact Qp SM rfl
def QiC (x y:Cf):ordC x y=orI2 (cmpI x.p y.p) (cmp4 x y):=rfl
def HZ (x y:Cf):Pu F 29 [.ag (cfC x),.ag (cfC y)] (.i .i64 (ordC x y)):=by
 have h1:=Wj x.p y.p;have h2:=Qh7 x y;have h3:=Qgd (cmpI x.p y.p) (cmp4 x y);rw[QiC];generalize cmpI x.p y.p=c1 at h1 h3 ⊢;generalize cmp4 x y=c2 at h2 h3 ⊢;generalize orI2 c1 c2=c3 at h3 ⊢;refine Qh e29 rfl rfl (by simp only[go_sem,Bool.and_true]) ?_;dsimp only[fn29,c29];refine RN trivial ?_;refine PRN trivial (r:=.i .i64 c1) h1 ?_;refine RN trivial ?_;refine U_pc (vs:=[.ra 2 0 1 4,.ra 3 0 1 4]) (ws:=[.sl ((cl4 x).map i1),.sl ((cl4 y).map i1)]) (r:=.i .i64 c2) (Z0) rfl (Bool.or_eq_true_iff.2 (.inr rfl)) rfl h2 ?_;refine RN trivial ?_;refine U_pc (vs:=[.rw 15 1 0 2]) (ws:=[.sl [[.i .i64 c1],[.i .i64 c2]]]) (r:=.i .i64 c3) (Z0) rfl (Bool.or_eq_true_iff.2 (.inr rfl)) rfl h3 ?_;refine RN trivial ?_;exact Qp SM rfl
def Cf.v (x:Cf):Nat→Int
 | 0=>x.p
 | j+1=>x.c j
def srtC (l:List Cf):List Cf:=l.mergeSort fun x y=>!(ltOf ordC) y x
def JN (x y:Cf):Snd Tryz.prog 29 [.ag (cfC x),.ag (cfC y)] emp (fun v _=>v=.i .i64 (ordC x y)) :=
 QiF mixed Qdb (Qa F _ _ _ _ _ (fun _ _ h=>fz_i h) (HZ x y))
def Qca {e:E} {o:O} {d:Nat} {ods:List Od} (s:Nat) {l0:List Cf} {l:List Stp} {K:E→O→Prop} (h1:l0.length < 4611686018427387904) (hargs:ods.map (Od.ev e)=[ownV s 5 (l0.map cfC),.fn 29 []]) (f1:Own o s 5 (l0.map cfC))
  (h:∀ o1,Own o1 s 5 ((srtC l0).map cfC)→(∀ t,t≠s→o1 t=o t)→wpRU (Call F) l K (upd e d (.tp [])) o1):wpRU (Call F) (⟨some d,none,.nc 28 ods,[]⟩::l) K e o:=by
 have hF:F 28=none:=rfl;by_cases h0:l0=[]
 ·subst h0;refine U_rd s (L:=[]) (sz:=5) (res:=fun _=>.tp []) (pre:=[]) (post:=[.fn 29 []]) hargs rfl rfl rfl (fun hh=>absurd rfl hh) (fun v o' K' hv hK=>?_) (fun m x _=>.tp [] [] rfl (fun j _ _ h1=>by simp at h1)) ?_
  ·rcases hv with⟨_,rfl⟩|⟨hh,_⟩
   ·exact Ym hF (QkL ⟨rfl,_,JN,.inl ⟨rfl,hK o' fun i x hx=>hx⟩⟩)
   ·exact absurd rfl hh
  ·exact h o ⟨by simp [srtC],fun hh=>by simp [srtC] at hh⟩ fun _ _=>rfl
 ·have hl:(l0.map cfC)≠[]:=by simpa using h0
  have ho:=f1.h hl;rw[QC h0] at hargs;refine U_nc (s:=s) (q:=5) (es:=l0.map cfC) (es':=(srtC l0).map cfC) (r:=.tp []) hargs ho ?_ ?_ rfl (by simp only[List.all_cons,List.all_nil,Wz,beq_self_eq_true];rfl) (fun id o' K' ho' hK=>?_) ?_
  ·rw[okLL,List.all_eq_true];intro c hc;obtain⟨x,_,rfl⟩:=List.mem_map.1 hc;rfl
  ·rw[okLL,List.all_eq_true];intro c hc;obtain⟨x,_,rfl⟩:=List.mem_map.1 hc;rfl
  ·simp only[List.map_cons,List.map_nil,refV,beq_self_eq_true,if_true];refine Ym hF (QkL ⟨rfl,_,JN,.inr ⟨id,l0,rfl,ho',OM,?_⟩⟩);exact hK _ (by simp [upd];rfl) fun i x hi hx=>by simp [upd,hi,hx]
  ·exact h _ (.to (Kh _)) fun t ht=>by simp [upd,ht]
end Go.Proofs.YtklbhcjmaeedhaaGreatDoor
