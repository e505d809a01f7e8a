import Derived.Test.YtocmjakchgcioaaGreatKc
import Derived.Test.YtocmjakchgcioaaGreatA7

namespace Go.Proofs.YtocmjakchgcioaaGreat
set_option linter.all false
variable {i:Nat} {A:Au} {x:Cf} {m:Mv}
attribute [-go_sem] Qp Qb rfOb V.cells
def Qjt (x:Cf) (a b c d e:V):splice 0 [a,b,c,d,e] (cfC x)=[a,b,c,d,e]:=rfl
attribute [go_sem] Qjt
def Qjz {l:List (Int × Int)} (hi:i < l.length):low l i=l[i].1:=by simp [low,List.getElem?_eq_getElem hi]
set_option maxHeartbeats 2000000 in
def Qk8 (hW:WF A) (hr:Qx A x=true) (hm:MvOk A x.p.toNat m):Pu F 102 [.ag (auC A),.ag (cfC x),.ag (mvC m)] (mayV (mayF A x m)):=by
 obtain⟨r1,r2,r3⟩:=QH.1 hr;obtain⟨p,hp⟩:∃ p:Nat,x.p=p:=⟨x.p.toNat,OM⟩;have hpl:p < A.around.length:=by omega
 have hpt:x.p.toNat=p:=by omega
 have hs4:(scAt A p).length≤4:=by rw[Z4];exact ar_4 hW hpl
 have ha:=W6 hW hpl;have hkl:lft m≤(scAt A p).length:=by rw[Z4,← hpt];exact hm.keep
 have hk4:m.keep≤4:=by unfold lft at hkl;omega
 have hkp:(0:Int)≤(m.keep:Int):=by omega
 have hkc:(m.keep≤4)=True:=by simp;exact hk4
 have hsok:∀ (i:Nat) (h:i < (scAt A p).length),scOk (scAt A p)[i]∧1≤x.c i∧x.c i≤topS (scAt A p)[i]:=fun i h=>by
  have hi:i < (arAt A x.p.toNat).length:=by rw[hpt,← Z4];exact h
  have h1:=Kn hr hi OM;have h2:(scAt A p)[i]=scI A (arAt A x.p.toNat)[i]:=by simp [scAt,hpt]
  rw[h2]
  exact⟨K4 hW (Qar hW (by rw[hpt];exact hpl) (List.getElem_mem hi)),h1⟩
 refine Qe e102 rfl rfl (by simp only[go_sem,Bool.and_true]) ?_;dsimp only[Qk7,c102];refine RN hp ?_;refine PCN trivial (r:=.sl ((scAt A p).map scC)) ha ?_;(repeat (with_reducible (first|refine YA ?_|refine Yb ?_|refine YO ?_|refine X_nx ?_|((first|refine U_q (v:=?_) ?h1 ?_|refine U_ld (v:=?_) ?h1 ?_);case h1=>((try simp only[hkp,hkc,Nat.zero_le,Nat.sub_zero,Int.toNat_natCast,go_sem])<;>rfl)))));refine Qa1 4 21 x m.keep hk4 RM OM (Z0) (Z0) fun o1 k4 kl k0=>?_;have k3:o1 3=some (.row 15 [auC A]):=by rw[k0 3 LM LM];simp only[go_sem]
 have k5:o1 5=some (.row 3 [mvC m]):=by rw[k0 5 LM LM];simp only[go_sem]
 have k6:o1 6=some (.row 5 [cfC noC]):=by rw[k0 6 LM LM];(simp only[go_sem]<;>rfl)
 clear k0;by_cases hno:m.again=true∧nxt A x m=none
 ·obtain⟨hag,hnx⟩:=hno;have hlf:lft m=m.keep+1:=by simp [lft,hag]
  have hkl2:m.keep < (scAt A p).length:=by omega
  have hsi:=Dy hkl2;have hxi:=QcQ x (i:=m.keep) OM;have hi4':((m.keep:Int) < 4)=True:=by simp;omega
  obtain⟨q1,q2,q3⟩:=hsok m.keep hkl2;have hn1:=Qba _ (x.c m.keep) q1 q2 (by have:=(DZ q1).2.1;omega);have hnv:Hw (scAt A p)[m.keep] (x.c m.keep)=.tp [.i .i64 0,.bo false]:=by
   unfold nxt at hnx;rw[hpt,List.getElem?_eq_getElem hkl2] at hnx;simp only[Option.getD_some] at hnx;simp [Hw,hnx]
  rw[hnv] at hn1;refine RT (Ad2 hp (Ad5 k3 k4 k5 k6 (Ad5 hag hkp hsi hxi hi4'))) ?_;refine PRN trivial (r:=.tp [.i .i64 0,.bo false]) hn1 ?_;refine RN (Ad5 hp k3 k4 k5 k6) ?_;rw[QcR hag hnx];exact Qy rfl rfl
 obtain⟨n,hn⟩:∃ n,m.again=true→nxt A x m=some n:=by
  cases h:nxt A x m with
  | none=>exact⟨0,fun hh=>absurd ⟨hh,h⟩ hno⟩
  | some n=>exact⟨n,fun _=>rfl⟩
 rw[Qll hn,hpt];refine RT (Ad2 hp (Ad5 k3 k4 k5 k6 hkp)) ?_;refine XY (fun e o=>e 3=.pt 3 0 0∧e 4=.pt 4 0 0∧e 5=.pt 5 0 0∧e 6=.pt 6 0 0∧e 8=.sl ((scAt A p).map scC)∧e 9=ownV 21 1 ((kept x m n).map i1)∧e 10=.i .i64 (lft m)∧o 3=some (.row 15 [auC A])∧o 4=some (.row 5 [cfC x])∧o 5=some (.row 3 [mvC m])∧o 6=some (.row 5 [cfC noC])∧Own o 21 1 ((kept x m n).map i1)) ?_ ?_
 ·cases hag:m.again with
  | true =>
   have hlf:lft m=m.keep+1:=by simp [lft,hag]
   have hkl2:m.keep < (scAt A p).length:=by omega
   have hsi:=Dy hkl2;have hxi:=QcQ x (i:=m.keep) OM;have hi4':((m.keep:Int) < 4)=True:=by simp;omega
   obtain⟨q1,q2,q3⟩:=hsok m.keep hkl2;have hn1:=Qba _ (x.c m.keep) q1 q2 (by have:=(DZ q1).2.1;omega);have hnv:Hw (scAt A p)[m.keep] (x.c m.keep)=.tp [.i .i64 n,.bo true]:=by
    have hnx:=hn hag;unfold nxt at hnx;rw[hpt,List.getElem?_eq_getElem hkl2] at hnx;simp only[Option.getD_some] at hnx;simp [Hw,hnx]
   rw[hnv] at hn1;have hke:(kept x m n).map i1=((cl4 x).take m.keep).map i1++[[.i .i64 n]]:=by simp [kept,hag];rfl
   have hw:=Zs (i:=m.keep) OM;refine RT (Ad2 hp (Ad5 k3 k4 k5 k6 (Ad5 hag hkp hsi hxi hi4'))) ?_;refine PRN trivial (r:=.tp [.i .i64 n,.bo true]) hn1 ?_;refine RN (Ad5 hp k3 k4 k5 k6) ?_;refine Yi 21 (L:=((cl4 x).take m.keep).map i1) (ys:=[[.i .i64 n]]) (Z0) ?_ (by (simp only[src,go_sem]<;>rfl)) SM SM OM ⟨by simp;omega,OM⟩ (QY _ kl.c) rfl ?_
   ·exact Own.h (by (repeat first|with_reducible assumption|refine .up rfl ?_|refine .sw rfl ?_|refine .swN rfl ?_))
   refine RN hw ?_
   refine⟨rfl,Z0,Z0,Z0,Z0,Z0,Z1 hke,Z1 hlf,Z1 k3,Z1 k4,Z1 k5,Z1 k6,?_⟩
   rw[hke];exact Own.to (by rw[← hke];exact List.all_eq_true.2 fun c hc=>by obtain⟨y,_,rfl⟩:=List.mem_map.1 hc;rfl)
  | false =>
   have hlf:lft m=m.keep:=by simp [lft,hag]
   have hke:kept x m n=(cl4 x).take m.keep:=by simp [kept,hag]
   rw[hke,hlf];refine RN hag ?_
   exact⟨rfl,Z0,Z0,Z0,Z0,Z0,Z0,Z0,Z1 k3,Z1 k4,Z1 k5,Z1 k6,kl⟩
 clear k3 k4 k5 k6 kl;rintro e o ⟨r3,r4,r5,r6,r8,r9,r10,o3,o4,o5,o6,ow⟩;have hl4:(lft m≤4)=True:=by simp;omega
 have hlp:(0:Int)≤(lft m:Int):=by omega
 have hall:((scAt A p).map scC).all (fun c=>c.length==2)=true:=List.all_eq_true.2 fun c hc=>by obtain⟨y,_,rfl⟩:=List.mem_map.1 hc;rfl
 have htk:List.take (scAt A p).length ((scAt A p).map scC)=(scAt A p).map scC:=List.take_of_length_le SM;have hkl':(lft m≤(scAt A p).length)=True:=by simp;exact hkl
 refine RN (Ad2 r8 r10) ?_;refine U_q (v:=.sl (((scAt A p).drop (lft m)).map scC)) (by simp only[r8,r10,cutV,List.length_map,hlp,hkl',hall,htk,Nat.le_refl,and_self,true_and,and_true,if_true,Int.toNat_natCast,List.map_drop,go_sem]) ?_;refine RT (Ad4 r4 r10 hlp hl4) ?_;have hlv:=Ht (l:=(scAt A p).drop (lft m)) (cs:=(cl4 x).drop (lft m)) (by simp [cl4];omega) (by simp;omega);refine U_pc (vs:=[.sl (((scAt A p).drop (lft m)).map scC),.ra 4 0 (1+lft m) (4 - lft m)]) (ws:=[.sl (((scAt A p).drop (lft m)).map scC),.sl (((cl4 x).drop (lft m)).map i1)]) (r:=.bo (Q3 ((scAt A p).drop (lft m)) ((cl4 x).drop (lft m)))) (Z0) (Qjg (Z1 o4) OM _) (Bool.or_eq_true_iff.2 (.inr rfl)) rfl hlv ?_;cases hlb:Q3 ((scAt A p).drop (lft m)) ((cl4 x).drop (lft m)) with
 | false =>
  refine RN (Ad2 r6 o6) ?_;exact Qy rfl rfl
 | true =>
  have hent:=DG hW (p:=m.to) hm.to (kept:=kept x m n) (by rw[Kz hk4];omega);refine RN (Ad5 r3 r5 r9 o3 o5) ?_;refine U_pc (vs:=[.ag (auC A),.i .i64 m.to,ownV 21 1 ((kept x m n).map i1)]) (ws:=[.ag (auC A),.i .i64 m.to,.sl ((kept x m n).map i1)]) (r:=.ag (cfC (QD A m.to (kept x m n)))) (Z1 r9) (Qhl ow) (Bool.or_eq_true_iff.2 (.inr rfl)) (Z0) hent ?_;refine RN (Ad2 r6 o6) ?_;exact Qy rfl rfl
def HV {x:Cf} {y z:Cf} {v:Int} (hp:y.p=z.p) (h:∀ j,j < 4→(if j=i then v else y.c j)=z.c j):y.setC i v=z :=
 XP (by rw[QkV];exact hp) fun j hj=>by rw[QfO _ _ _ _ hj];exact h j hj
set_option maxHeartbeats 2000000 in
def QhA (hW:WF A) (hr:Qx A x=true) (hm:MvOk A x.p.toNat m):Pu F 29 [.ag (auC A),.ag (cfC x),.ag (mvC m)] (mayV (mayF A x m)):=by
 obtain⟨r1,r2,_⟩:=QH.1 hr;obtain⟨p,hp⟩:∃ p:Nat,x.p=p:=⟨x.p.toNat,OM⟩;have hpl:p < A.around.length:=by omega
 have hpt:x.p.toNat=p:=by omega
 have hra:=Qc0 hpl;have hrt:=Qc0 hm.to;have hpp:(0:Int)≤(p:Int):=by omega
 have htp:(0:Int)≤(m.to:Int):=by omega
 have h4:=ar_4 hW hpl;have h4t:=ar_4 hW hm.to;have hlt:∀ i∈arAt A p,i < A.scopes.length:=fun i hi=>Qar hW hpl hi;have hkl:lft m≤(arAt A p).length:=by rw[← hpt];exact hm.keep
 have hk4:m.keep≤4:=by unfold lft at hkl;omega
 have hrg:∀ (i:Nat) (h:i < (arAt A p).length),1≤x.c i∧x.c i≤topS (scI A (arAt A p)[i]):=fun i h=>by
  have h1:=Kn (i:=i) hr (by rw[hpt];exact h) OM;simp only[hpt] at h1;exact h1
 have hsc:∀ (i:Nat) (h:i < (arAt A p).length),low (scAt A p) i=(scI A (arAt A p)[i]).1:=fun i h=>by
  rw[Qjz (by rw[Z4];exact h)];simp [scAt]
 have hsl:=Z4 A p;have hnx:∀ (h:m.keep < (arAt A p).length),nxt A x m=JE (scI A (arAt A p)[m.keep]) (x.c m.keep):=fun h=>by
  unfold nxt;rw[hpt,Ws h];rfl
 refine Qe e29 rfl rfl (by simp only[go_sem,Bool.and_true]) ?_;dsimp only[fn29,c29];refine RN trivial ?_;refine Yd (fun e o=>e 3=.pt 3 0 0∧e 4=.pt 4 0 0∧e 5=.pt 5 0 0∧e 6=.pt 6 0 0∧e 8=.pt 8 0 0∧o 3=some (.row 15 [auC A])∧o 4=some (.row 5 [cfC x])∧o 5=some (.row 3 [mvC m])∧o 6=some (.row 5 [cfC noC])∧o 8=some (.row 5 [cfC (entI m.to (arAt A m.to).length)])) ?_ ?_
 ·generalize hl:arAt A m.to=l at hrt h4t;refine U_lp (fun r e o=>∃ i:Nat,i+r=l.length∧e 3=.pt 3 0 0∧e 4=.pt 4 0 0∧e 5=.pt 5 0 0∧e 6=.pt 6 0 0∧e 8=.pt 8 0 0∧e 9=.i .i64 i∧o 3=some (.row 15 [auC A])∧o 4=some (.row 5 [cfC x])∧o 5=some (.row 3 [mvC m])∧o 6=some (.row 5 [cfC noC])∧o 8=some (.row 5 [cfC (entI m.to i)])) (k:=l.length) ?_ (Qa F) ?_
  ·exact⟨0,OM,Z0,Z0,Z0,Z0,Z0,Zr0,Z0,Z0,Z0,Zr0,Zr0⟩
  rintro r e o ⟨i,hir,r3,r4,r5,r6,r8,r9,o3,o4,o5,o6,o8⟩;dsimp only[QiY];refine RT (Ad3 r3 r5 (Ad5 r9 o3 o5 hrt htp)) ?_;refine Qh (q:=decide ((i:Int) < (l.length:Int))) (Z0) (fun hc=>?_) (fun hc=>?_)
  ·have hi:i < l.length:=by simpa using hc
   have hi4:i < 4:=by omega
   have hip:(0:Int)≤(i:Int):=by omega
   have hi4':((i:Int) < 4)=True:=by simp;omega
   have hspl:=HJ (entI m.to i) 1 hi4;rw[KO m.to i hi4] at hspl;have hle:1+i+1≤5:=by omega
   have hw:=Zs (i:=i) OM;refine RT (Ad4 r8 r9 o8 (Ad5 hip hi4' hspl hle hw)) ?_
   exact⟨r - 1,OM,i+1,OM,Z1 r3,Z1 r4,Z1 r5,Z1 r6,Z1 r8,Z0,Z1 o3,Z1 o4,Z1 o5,Z1 o6,Z0⟩
  ·have hi:i=l.length:=by
    have:¬ i < l.length:=by simpa using hc
    omega
   subst hi;refine RN trivial ?_
   exact⟨rfl,Z1 r3,Z1 r4,Z1 r5,Z1 r6,Z1 r8,o3,o4,o5,o6,o8⟩
 rintro e o ⟨r3,r4,r5,r6,r8,o3,o4,o5,o6,o8⟩;obtain⟨n,hn⟩:∃ n,∀ v,nxt A x m=some v→v=n:=by
  cases h:nxt A x m with
  | none=>exact⟨0,fun v hv=>by cases hv⟩
  | some n=>exact⟨n,fun v hv=>by cases hv;rfl⟩
 have hrm0:entI m.to (arAt A m.to).length=rmC A x m n 0:=XP rfl fun j hj=>by
  rw[rm_c hj,entI,Y6 _ _ hj];have g1:¬ (j < 0∧j < m.keep):=by omega
  have g2:¬ (j < 0∧j=m.keep∧m.again=true):=by omega
  simp only[if_neg g1,if_neg g2]
 rw[hrm0] at o8;refine RN trivial ?_;refine U_lp (fun r e o=>∃ i:Nat,i+r=(arAt A p).length∧e 3=.pt 3 0 0∧e 4=.pt 4 0 0∧e 5=.pt 5 0 0∧e 6=.pt 6 0 0∧e 8=.pt 8 0 0∧e 10=.i .i64 i∧o 3=some (.row 15 [auC A])∧o 4=some (.row 5 [cfC x])∧o 5=some (.row 3 [mvC m])∧o 6=some (.row 5 [cfC noC])∧o 8=some (.row 5 [cfC (rmC A x m n i)])∧(m.again=true→m.keep < i→nxt A x m=some n)∧∀ j,lft m≤j→j < i→low (scAt A p) j≤x.c j) (k:=(arAt A p).length) ?_ (Qa F) ?_
 ·exact⟨0,OM,Z1 r3,Z1 r4,Z1 r5,Z1 r6,Z1 r8,Zr0,Z1 o3,Z1 o4,Z1 o5,Z1 o6,Z1 o8,fun _ h=>absurd h OM,fun j _ h=>absurd h OM⟩
 clear r3 r4 r5 r6 r8 o3 o4 o5 o6 o8;rintro r e o ⟨i,hir,r3,r4,r5,r6,r8,r10,o3,o4,o5,o6,o8,hc1,hc2⟩;dsimp only[Qly];refine RT (Ad4 hp r3 r4 (Ad5 r10 o3 o4 hra hpp)) ?_;refine Qh (q:=decide ((i:Int) < ((arAt A p).length:Int))) (Z0) (fun hc=>?_) (fun hc=>?_)
 ·have hi:i < (arAt A p).length:=by simpa using hc
  have hi4:i < 4:=by omega
  have hip:(0:Int)≤(i:Int):=by omega
  have hi4':((i:Int) < 4)=True:=by simp;omega
  have hle:1+i+1≤5:=by omega
  have hw:=Zs (i:=i) OM;have hxi:=QcQ x hi4;have hli:=QeL hi;have hlp:(0:Int)≤((arAt A p)[i]:Int):=by omega
  have hsi:=QkX (hlt (arAt A p)[i] (List.getElem_mem hi));have hsok:=K4 hW (hlt (arAt A p)[i] (List.getElem_mem hi));obtain⟨q1,q2⟩:=hrg i hi;have hlow:=hsc i hi;have hnxi:i=m.keep→nxt A x m=JE (scI A (arAt A p)[i]) (x.c i):=fun h=>by subst h;exact hnx hi
  generalize scI A (arAt A p)[i]=s at hsi hsok q2 hlow hnxi;have ht:=Qlz s;have htk:=DZ hsok;refine RT (Ad2 hp (Ad5 r3 r4 r5 r10 (Ad5 o3 o4 o5 hra (Ad5 hpp hip hli hlp hsi)))) ?_;by_cases hik:i < m.keep
  ·have d1:decide ((i:Int) < (m.keep:Int))=true:=by simp;omega
   have hspl:=HJ (rmC A x m n i) (x.c i) hi4;rw[HV (x:=x) (y:=rmC A x m n i) (z:=rmC A x m n (i+1)) rfl fun j hj=>Qgq hj hik] at hspl;have hlf:¬ lft m≤i:=by unfold lft;omega
   refine RT (Ad2 r4 (Ad5 r5 r8 r10 o4 (Ad5 o5 o8 d1 hip (Ad5 hi4' hxi hspl hle hw)))) ?_
   exact⟨r - 1,OM,i+1,OM,Z1 r3,Z1 r4,Z1 r5,Z1 r6,Z1 r8,Z0,Z1 o3,Z1 o4,Z1 o5,Z1 o6,Z0,fun h1 h2=>absurd h2 OM,fun j h1 h2=>absurd h1 OM⟩
  have d1:decide ((i:Int) < (m.keep:Int))=false:=by simp;omega
  by_cases hag:i=m.keep∧m.again=true
  ·obtain⟨hie,hag⟩:=hag;have d2:((i:Int)==(m.keep:Int))=true:=by simp;omega
   have hnxe:=hnxi hie;have w1:IntKind.i64.wrap (x.c i+1)=x.c i+1:=Qg OM OM;refine RT (Ad3 r4 r5 (Ad5 r10 o4 o5 d1 (Ad5 d2 hag hip hi4' hxi))) ?_;refine PRN trivial (r:=.i .i64 (topS s)) ht ?_;by_cases hf:x.c i=topS s∧s.2≥0
   ·have d3:(x.c i==topS s)=true:=by simpa using hf.1
    have d4:decide (s.2≥0)=true:=by simpa using hf.2
    have hno:nxt A x m=none:=by
     rw[hnxe];have g1:¬ s.2 < 0:=by omega
     have g2:topS s=s.2:=by simp [topS,g1]
     simp only[JE,if_neg g1];rw[if_pos OM]
    refine RN (Ad4 r6 o6 d3 d4) ?_;rw[QcR hag hno];exact Qy rfl rfl
   ·have hnv:nxt A x m=some (if topS s < x.c i+1 then topS s else x.c i+1):=by
     rw[hnxe];unfold scOk at hsok;unfold topS at *;unfold JE;by_cases g:s.2 < 0
     ·simp only[if_pos g] at *;congr 1;repeat' split<;>omega
     ·simp only[if_neg g] at *
      have:¬ x.c i=s.2:=fun h=>hf ⟨h,OM⟩
      rw[if_neg OM];congr 1;split<;>omega
    have hmin:(if topS s < x.c i+1 then topS s else x.c i+1)=n:=hn _ hnv;rw[hmin] at hnv;have hspl:=HJ (rmC A x m n i) n hi4;rw[HV (x:=x) (y:=rmC A x m n i) (z:=rmC A x m n (i+1)) rfl fun j hj=>Qd5 hj hie hag] at hspl;have hlf:lft m=i+1:=by simp [lft,hag,hie]
    by_cases h3:x.c i=topS s
    ·have d3:(x.c i==topS s)=true:=by simpa using h3
     have d4:decide (s.2≥0)=false:=by
      have:¬ s.2≥0:=fun h=>hf ⟨h3,h⟩
      simpa using this
     refine RT (Ad3 r4 r8 (Ad5 r10 o4 o8 d3 (Ad5 d4 hip hi4' hxi w1))) ?_;refine PRN trivial (r:=.i .i64 (topS s)) ht ?_;(repeat (with_reducible (first|refine YA ?_|refine YO ?_|refine Vu ?_|refine X_nx ?_|refine X_ex ?_|refine YF ?_|(refine U_q (v:=?_) ?h1 ?_;case h1=>((try simp only[r8,r10,o8,mxV,hmin,hip,hi4',hspl,hle,Int.toNat_natCast,Nat.mul_one,List.set_cons_zero,hw,List.getElem?_cons_zero,go_sem])<;>rfl))|(refine XC (id:=?_) (i:=?_) (j:=?_) (q:=?_) (es:=?_) (cs:=?_) (vs:=?_) (es':=?_) ?h1 ?h2 ?h3 ?h4 ?h5 ?h6 ?h7 ?_;case h1|h2|h3|h4|h5|h6|h7=>((try simp only[r8,r10,o8,mxV,hmin,hip,hi4',hspl,hle,Int.toNat_natCast,Nat.mul_one,List.set_cons_zero,hw,List.getElem?_cons_zero,go_sem])<;>rfl)))))
     exact⟨r - 1,OM,i+1,OM,Z1 r3,Z1 r4,Z1 r5,Z1 r6,Z1 r8,Z0,Z1 o3,Z1 o4,Z1 o5,Z1 o6,Z0,fun h1 h2=>hnv,fun j h1 h2=>absurd h1 OM⟩
    ·have d3:(x.c i==topS s)=false:=by simpa using h3
     refine RT (Ad2 r4 (Ad5 r8 r10 o4 o8 (Ad5 d3 hip hi4' hxi w1))) ?_;refine PRN trivial (r:=.i .i64 (topS s)) ht ?_;(repeat (with_reducible (first|refine YA ?_|refine YO ?_|refine Vu ?_|refine X_nx ?_|refine X_ex ?_|refine YF ?_|(refine U_q (v:=?_) ?h1 ?_;case h1=>((try simp only[r8,r10,o8,mxV,hmin,hip,hi4',hspl,hle,Int.toNat_natCast,Nat.mul_one,List.set_cons_zero,hw,List.getElem?_cons_zero,go_sem])<;>rfl))|(refine XC (id:=?_) (i:=?_) (j:=?_) (q:=?_) (es:=?_) (cs:=?_) (vs:=?_) (es':=?_) ?h1 ?h2 ?h3 ?h4 ?h5 ?h6 ?h7 ?_;case h1|h2|h3|h4|h5|h6|h7=>((try simp only[r8,r10,o8,mxV,hmin,hip,hi4',hspl,hle,Int.toNat_natCast,Nat.mul_one,List.set_cons_zero,hw,List.getElem?_cons_zero,go_sem])<;>rfl)))))
     exact⟨r - 1,OM,i+1,OM,Z1 r3,Z1 r4,Z1 r5,Z1 r6,Z1 r8,Z0,Z1 o3,Z1 o4,Z1 o5,Z1 o6,Z0,fun h1 h2=>hnv,fun j h1 h2=>absurd h1 OM⟩
  ·have hlf:lft m≤i:=by
    unfold lft;split
    ·rename_i h;have:i≠m.keep:=fun hh=>hag ⟨hh,h⟩
     omega
    ·omega
   have hc1':m.again=true→m.keep < i+1→nxt A x m=some n:=fun h1 h2=>hc1 h1 (by unfold lft at hlf;rw[if_pos h1] at hlf;omega);have hskip:rmC A x m n i=rmC A x m n (i+1):=XP rfl fun j hj=>Qim hj hlf;have lowc:∀ (hh:¬ x.c i < s.1),∀ j,lft m≤j→j < i+1→low (scAt A p) j≤x.c j:=fun hh j h1 h2=>by
    by_cases hji:j=i
    ·subst hji;rw[hlow];omega
    ·exact hc2 j h1 OM
   have lowf:∀ (hh:x.c i < s.1),mayF A x m=none:=fun hh=>Qga (j:=i) hlf (by rw[hpt,hsl];exact hi) (by rw[hpt,hlow];exact hh) (by rw[hpt,hsl];exact h4);by_cases hie:i=m.keep
   ·have hag':m.again=false:=by
     cases h:m.again with
     | true=>exact absurd ⟨hie,h⟩ hag
     | false=>rfl
    have d2:((i:Int)==(m.keep:Int))=true:=by simp;omega
    by_cases hlw:x.c i < s.1
    ·have d5:decide (x.c i < s.1)=true:=by simpa using hlw
     refine RT (Ad2 r4 (Ad5 r5 r6 r10 o4 (Ad5 o5 o6 d1 d2 (Ad5 d5 hag' hip hi4' hxi)))) ?_;rw[lowf hlw];exact Qy rfl rfl
    ·have d5:decide (x.c i < s.1)=false:=by simpa using hlw
     refine RT (Ad3 r4 r5 (Ad5 r6 r10 o4 o5 (Ad5 o6 d1 d2 d5 (Ad5 hag' hip hi4' hxi hw)))) ?_
     exact⟨r - 1,OM,i+1,OM,Z1 r3,Z1 r4,Z1 r5,Z1 r6,Z1 r8,Z0,Z1 o3,Z1 o4,Z1 o5,Z1 o6,by rw[← hskip];simp only[o8,go_sem],hc1',lowc hlw⟩
   ·have d2:((i:Int)==(m.keep:Int))=false:=by simp;omega
    by_cases hlw:x.c i < s.1
    ·have d5:decide (x.c i < s.1)=true:=by simpa using hlw
     refine RT (Ad5 r4 r5 r6 r10 (Ad5 o4 o5 o6 d1 (Ad5 d2 d5 hip hi4' hxi))) ?_;rw[lowf hlw];exact Qy rfl rfl
    ·have d5:decide (x.c i < s.1)=false:=by simpa using hlw
     refine RT (Ad2 r4 (Ad5 r5 r6 r10 o4 (Ad5 o5 o6 d1 d2 (Ad5 d5 hip hi4' hxi hw)))) ?_
     exact⟨r - 1,OM,i+1,OM,Z1 r3,Z1 r4,Z1 r5,Z1 r6,Z1 r8,Z0,Z1 o3,Z1 o4,Z1 o5,Z1 o6,by rw[← hskip];simp only[o8,go_sem],hc1',lowc hlw⟩
 ·have hi:i=(arAt A p).length:=by
   have:¬ i < (arAt A p).length:=by simpa using hc
   omega
  have hmay:mayF A x m=some (rmC A x m n i):=by
   rw[show rmC A x m n i=QD A m.to (kept x m n) from XP rfl fun j hj=>Qjd hj OM hk4];refine QdY (fun h=>hc1 h (by unfold lft at hkl;rw[if_pos h] at hkl;omega)) (fun j h1 h2=>?_) (by rw[hpt,hsl];exact h4);rw[hpt] at h2 ⊢;exact hc2 j h1 OM
  rw[hmay];refine RN (Ad4 r6 r8 o6 o8) ?_;exact Qy rfl rfl
end Go.Proofs.YtocmjakchgcioaaGreat
