import Derived.Test.YtocmjakchgcioaaGreatKc

namespace Go.Proofs.YtocmjakchgcioaaGreat
set_option linter.all false
variable {i:Nat}
attribute [-go_sem] Qp Qb rfOb V.cells
def D5 (a:Int):Pu F 111 [.i .i64 a] (.bo false):=by
 refine Qe e111 rfl rfl (by simp only[go_sem,Bool.and_true]) ?_;dsimp only[QkD,c111];refine RN trivial ?_;exact Qy SM rfl
def KV (a b:Int):Pu F 71 [.i .i64 a,.i .i64 b] (.i .i64 (cmpI a b)):=by
 have h1:=D5 a;have h2:=D5 b;refine Qe e71 rfl rfl (by simp only[go_sem,Bool.and_true]) ?_;dsimp only[fn71,c71];(repeat' (first|refine RSN trivial ?_|((with_reducible refine PCN trivial (r:=.bo false) ?h ?_);case h=>exact h1)|((with_reducible refine PCN trivial (r:=.bo false) ?h ?_);case h=>exact h2)|with_reducible refine GBN trivial (fun _=>?_) (fun _=>?_)|with_reducible refine GDN trivial (fun _=>?_) (fun _=>?_)));all_goals
  refine Qy ?_ rfl;simp only[decide_eq_true_eq,decide_eq_false_iff_not] at *;congr 1;unfold cmpI;(repeat' split)<;>first|rfl|omega
def cmp4 (x y:Cf):Int:=orI2 (cmpI x.c0 y.c0) (orI2 (cmpI x.c1 y.c1) (orI2 (cmpI x.c2 y.c2) (cmpI x.c3 y.c3)))
def Ym (a:Int):cmpI a a=0:=Vd.2 rfl
def Qc5 {x y:Cf} (hi:i < 4) (h:∀ j,j < i→x.c j=y.c j) (hn:cmpI (x.c i) (y.c i)≠0):cmp4 x y=cmpI (x.c i) (y.c i):=by
 match i,hi with
 | 0,_=>simp only[Cf.c] at hn ⊢;simp [cmp4,orI2,hn]
 | 1,_ =>
  have h0:=h 0 OM;simp only[Cf.c] at hn h0 ⊢;simp [cmp4,orI2,hn,h0,Ym]
 | 2,_ =>
  have h0:=h 0 OM;have h1:=h 1 OM;simp only[Cf.c] at hn h0 h1 ⊢;simp [cmp4,orI2,hn,h0,h1,Ym]
 | 3,_ =>
  have h0:=h 0 OM;have h1:=h 1 OM;have h2:=h 2 OM;simp only[Cf.c] at hn h0 h1 h2 ⊢;simp [cmp4,orI2,h0,h1,h2,Ym]
def Do {x y:Cf} (h:∀ j,j < 4→x.c j=y.c j):cmp4 x y=0:=by
 have h0:=h 0 OM;have h1:=h 1 OM;have h2:=h 2 OM;have h3:=h 3 OM;simp only[Cf.c] at h0 h1 h2 h3;simp [cmp4,orI2,h0,h1,h2,h3,Ym]
def QhX (x y:Cf):Pu F 47 [.sl ((cl4 x).map i1),.sl ((cl4 y).map i1)] (.i .i64 (cmp4 x y)):=by
 refine Qe e47 rfl rfl (by simp only[go_sem,Bool.and_true]) ?_;dsimp only[fn47,c47];have hl:∀ z:Cf,(cl4 z).length=4:=fun z=>rfl;refine RT hl ?_;refine U_lp (fun r e o=>∃ i:Nat,i+r=4∧e 0=.sl ((cl4 x).map i1)∧e 1=.sl ((cl4 y).map i1)∧e 9=.sl ((cl4 x).map i1)∧e 10=.i .i64 4∧e 11=.i .i64 i∧∀ j,j < i→x.c j=y.c j) (k:=4) ?_ (Qa F) ?_
 ·exact⟨0,OM,Z0,Z0,Z0,by simp only[List.length_map,hl,go_sem],Zr0,fun j h=>absurd h OM⟩
 rintro r e o ⟨i,hir,r0,r1,r9,r10,r11,hq⟩;dsimp only[QkN];refine RN (Ad2 r10 r11) ?_;refine Qh (q:=decide ((i:Int) < 4)) (Z0) (fun hc=>?_) (fun hc=>?_)
 ·have hi:i < 4:=by simp at hc;omega
  have hip:(0:Int)≤(i:Int):=by omega
  have hw:=Zs (i:=i) OM;have c1:decide ((i:Int)≥4)=false:=by simp;omega
  have hx:((cl4 x).map i1)[i]?=some [.i .i64 (x.c i)]:=by rw[List.getElem?_map,JZ x hi];rfl
  have hy:((cl4 y).map i1)[i]?=some [.i .i64 (y.c i)]:=by rw[List.getElem?_map,JZ y hi];rfl
  have hcp:=KV (x.c i) (y.c i);refine RT (Ad5 r0 r1 r9 r11 (Ad5 hip hx hy c1 hl)) ?_;refine PRN trivial (r:=.i .i64 (cmpI (x.c i) (y.c i))) hcp ?_;by_cases hz:cmpI (x.c i) (y.c i)=0
  ·have c2:(cmpI (x.c i) (y.c i) != 0)=false:=by simpa using hz
   refine RN (Ad3 c2 r11 hw) ?_
   refine⟨r - 1,OM,i+1,OM,Z1 r0,Z1 r1,Z1 r9,Z1 r10,Z0,fun j hj=>?_⟩
   by_cases hji:j=i
   ·subst hji;exact Vd.1 hz
   ·exact hq j OM
  ·have c2:(cmpI (x.c i) (y.c i) != 0)=true:=by simpa using hz
   refine RN c2 ?_;rw[Qc5 hi hq hz];exact Qy SM rfl
 ·have hi:i=4:=by simp at hc;omega
  subst hi;refine RT (Ad3 r0 r1 hl) ?_;rw[Do hq];exact Qy SM rfl
def H4 (x y:Cf):ordC x y=orI2 (cmpI x.p y.p) (cmp4 x y):=rfl
def K6 (x y:Cf):Pu F 24 [.ag (cfC x),.ag (cfC y)] (.i .i64 (ordC x y)):=by
 have h1:=JJ x.p y.p;have h2:=QhX x y;have h3:=Qfz (cmpI x.p y.p) (cmp4 x y);rw[H4];generalize cmpI x.p y.p=c1 at h1 h3 ⊢;generalize cmp4 x y=c2 at h2 h3 ⊢;generalize orI2 c1 c2=c3 at h3 ⊢;refine Qe e24 rfl rfl (by simp only[go_sem,Bool.and_true]) ?_;dsimp only[fn24,c24];refine RN trivial ?_;refine PRN trivial (r:=.i .i64 c1) h1 ?_;refine RN trivial ?_;refine U_pc (vs:=[.ra 2 0 1 4,.ra 3 0 1 4]) (ws:=[.sl ((cl4 x).map i1),.sl ((cl4 y).map i1)]) (r:=.i .i64 c2) (Z0) rfl (Bool.or_eq_true_iff.2 (.inr rfl)) rfl h2 ?_;refine RN trivial ?_;refine U_pc (vs:=[.rw 15 1 0 2]) (ws:=[.sl [[.i .i64 c1],[.i .i64 c2]]]) (r:=.i .i64 c3) (Z0) rfl (Bool.or_eq_true_iff.2 (.inr rfl)) rfl h3 ?_;refine RN trivial ?_;exact Qy SM rfl
def Cf.v (x:Cf):Nat→Int
 | 0=>x.p
 | j+1=>x.c j
variable {x y:Cf}
def cf_v (x:Cf) (h:i < 5):(cfC x)[i]?=some (.i .i64 (x.v i)):=by
 match i,h with
 | 0,_=>rfl
 | 1,_=>rfl
 | 2,_=>rfl
 | 3,_=>rfl
 | 4,_=>rfl
def Qfa (hi:i < 5) (h:∀ j,j < i→x.v j=y.v j) (hn:cmpI (x.v i) (y.v i)≠0):ordC x y=cmpI (x.v i) (y.v i):=by
 rw[H4];cases i with
 | zero=>simp only[Cf.v] at hn ⊢;simp [orI2,hn]
 | succ i =>
  have h0:=h 0 OM;simp only[Cf.v] at h0 hn ⊢;rw[h0,Ym];simp only[orI2,if_true];exact Qc5 OM (fun j hj=>h (j+1) OM) hn
def Qg2 (h:∀ j,j < 5→x.v j=y.v j):ordC x y=0:=by
 have h0:=h 0 OM;simp only[Cf.v] at h0;rw[H4,h0,Ym];simp only[orI2,if_true];exact Do fun j hj=>h (j+1) OM
def Hr (x y:Cf):Pu F 31 [.ag (cfC x),.ag (cfC y)] (.i .i64 (ordC x y)):=by
 refine Qe e31 rfl rfl (by simp only[go_sem,Bool.and_true]) ?_;dsimp only[fn31,c31];refine RN trivial ?_;refine U_lp (fun r e o=>∃ i:Nat,i+r=5∧e 5=.pt 5 0 0∧e 6=.pt 6 0 0∧e 7=.i .i64 i∧o 5=some (.row 5 [cfC x])∧o 6=some (.row 5 [cfC y])∧∀ j,j < i→x.v j=y.v j) (k:=5) ?_ (Qa F) ?_
 ·exact⟨0,OM,Z0,Z0,Zr0,Zr0,Zr0,fun j h=>absurd h OM⟩
 rintro r e o ⟨i,hir,r5,r6,r7,o5,o6,hq⟩;dsimp only[Qi0];refine RN r7 ?_;refine Qh (q:=decide ((i:Int) < 5)) (Z0) (fun hc=>?_) (fun hc=>?_)
 ·have hi:i < 5:=by simp at hc;omega
  have hip:(0:Int)≤(i:Int):=by omega
  have hi5:((i:Int) < 5)=True:=by simp;omega
  have hw:=Zs (i:=i) OM;have hx:=cf_v x hi;have hy:=cf_v y hi;by_cases h1:x.v i < y.v i
  ·have d1:decide (x.v i < y.v i)=true:=by simpa using h1
   refine RT (Ad2 r5 (Ad5 r6 r7 o5 o6 (Ad5 hip hi5 hx hy d1))) ?_;have hv:cmpI (x.v i) (y.v i) = -1:=by simp [cmpI,h1]
   rw[Qfa hi hq (by rw[hv];decide),hv];exact Qy SM rfl
  ·have d1:decide (x.v i < y.v i)=false:=by simpa using h1
   by_cases h2:x.v i > y.v i
   ·have d2:decide (x.v i > y.v i)=true:=by simpa using h2
    refine RT (Ad3 r5 r6 (Ad5 r7 o5 o6 hip (Ad5 hi5 hx hy d1 d2))) ?_;have hv:cmpI (x.v i) (y.v i)=1:=by unfold cmpI;rw[if_neg h1,if_pos OM]
    rw[Qfa hi hq (by rw[hv];decide),hv];exact Qy SM rfl
   ·have d2:decide (x.v i > y.v i)=false:=by simpa using h2
    refine RT (Ad4 r5 r6 r7 (Ad5 o5 o6 hip hi5 (Ad5 hx hy d1 d2 hw))) ?_
    refine⟨r - 1,OM,i+1,OM,Z1 r5,Z1 r6,Z0,o5,o6,fun j hj=>?_⟩
    by_cases hji:j=i
    ·subst hji;omega
    ·exact hq j OM
 ·have hi:i=5:=by simp at hc;omega
  subst hi;refine RN trivial ?_;rw[Qg2 hq];exact Qy SM rfl
def srtC (l:List Cf):List Cf:=l.mergeSort fun x y=>!(ltOf ordC) y x
def Jx (x y:Cf):Snd Tryz.prog 24 [.ag (cfC x),.ag (cfC y)] emp (fun v _=>v=.i .i64 (ordC x y)) :=
 Qhw mixed Qcs (Qa F _ _ _ _ _ (fun _ _ h=>fz_i h) (K6 x y))
def Vb {e:E} {o:O} {d:Nat} {ods:List Od} (s:Nat) {l0:List Cf} {l:List Stp} {K:E→O→Prop} (h1:l0.length < 4611686018427387904) (hargs:ods.map (Od.ev e)=[ownV s 5 (l0.map cfC),.fn 24 []]) (f1:Own o s 5 (l0.map cfC))
  (h:∀ o1,Own o1 s 5 ((srtC l0).map cfC)→(∀ t,t≠s→o1 t=o t)→wpRU (Call F) l K (upd e d (.tp [])) o1):wpRU (Call F) (⟨some d,none,.nc 43 ods,[]⟩::l) K e o:=by
 have hF:F 43=none:=rfl;by_cases h0:l0=[]
 ·subst h0;refine U_rd s (L:=[]) (sz:=5) (res:=fun _=>.tp []) (pre:=[]) (post:=[.fn 24 []]) hargs rfl rfl rfl (fun hh=>absurd rfl hh) (fun v o' K' hv hK=>?_) (fun m x _=>.tp [] [] rfl (fun j _ _ h1=>by simp at h1)) ?_
  ·rcases hv with⟨_,rfl⟩|⟨hh,_⟩
   ·exact ZU hF (QiG ⟨rfl,_,Jx,.inl ⟨rfl,hK o' fun i x hx=>hx⟩⟩)
   ·exact absurd rfl hh
  ·exact h o ⟨by simp [srtC],fun hh=>by simp [srtC] at hh⟩ fun _ _=>rfl
 ·have hl:(l0.map cfC)≠[]:=by simpa using h0
  have ho:=f1.h hl;rw[Ql h0] at hargs;refine U_nc (s:=s) (q:=5) (es:=l0.map cfC) (es':=(srtC l0).map cfC) (r:=.tp []) hargs ho ?_ ?_ rfl (by simp only[List.all_cons,List.all_nil,Wl,beq_self_eq_true];rfl) (fun id o' K' ho' hK=>?_) ?_
  ·rw[okLL,List.all_eq_true];intro c hc;obtain⟨x,_,rfl⟩:=List.mem_map.1 hc;rfl
  ·rw[okLL,List.all_eq_true];intro c hc;obtain⟨x,_,rfl⟩:=List.mem_map.1 hc;rfl
  ·simp only[List.map_cons,List.map_nil,refV,beq_self_eq_true,if_true];refine ZU hF (QiG ⟨rfl,_,Jx,.inr ⟨id,l0,rfl,ho',OM,?_⟩⟩);exact hK _ (by simp [upd];rfl) fun i x hi hx=>by simp [upd,hi,hx]
  ·exact h _ (.to (J8 _)) fun t ht=>by simp [upd,ht]
end Go.Proofs.YtocmjakchgcioaaGreat
