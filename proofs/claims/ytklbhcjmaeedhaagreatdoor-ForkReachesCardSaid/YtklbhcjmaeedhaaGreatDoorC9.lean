import Derived.Test.YtklbhcjmaeedhaaGreatDoorKc
import Derived.Test.YtklbhcjmaeedhaaGreatDoorA7

namespace Go.Proofs.YtklbhcjmaeedhaaGreatDoor
set_option linter.all false
attribute [-go_sem] Qy Qj rfOb V.cells
def Qls (x:Cf) (a b c d e:V):splice 0 [a,b,c,d,e] (cfC x)=[a,b,c,d,e]:=rfl
attribute [go_sem] Qls
set_option maxHeartbeats 2000000 in
def QlK {A:Au} (hW:WF A) {x:Cf} (hr:Qr A x=true) {m:Mv} (hm:MvOk A x.p.toNat m):Pu F 20 [.ag (auC A),.ag (cfC x),.ag (mvC m)] (mayV (mayF A x m)):=by
 obtain⟨r1,r2,r3⟩:=QL.1 hr;obtain⟨p,hp⟩:∃ p:Nat,x.p=p:=⟨x.p.toNat,OM⟩;have hpl:p < A.around.length:=by omega
 have hpt:x.p.toNat=p:=by omega
 have hs4:(scAt A p).length≤4:=by rw[JL];exact ar_4 hW hpl
 have ha:=HR hW hpl;have hkl:lft m≤(scAt A p).length:=by rw[JL,← hpt];exact hm.keep
 have hk4:m.keep≤4:=by unfold lft at hkl;omega
 have hkp:(0:Int)≤(m.keep:Int):=by omega
 have hkc:(m.keep≤4)=True:=by simp;exact hk4
 have hsok:∀ (i:Nat) (h:i < (scAt A p).length),scOk (scAt A p)[i]∧1≤x.c i∧x.c i≤topS (scAt A p)[i]:=fun i h=>by
  have hi:i < (arAt A x.p.toNat).length:=by rw[hpt,← JL];exact h
  have h1:=DD hr hi OM;have h2:(scAt A p)[i]=scI A (arAt A x.p.toNat)[i]:=by simp [scAt,hpt]
  rw[h2]
  exact⟨Hk hW (Qbf hW (by rw[hpt];exact hpl) (List.getElem_mem hi)),h1⟩
 refine Qh e20 rfl rfl (by simp only[go_sem,Bool.and_true]) ?_;dsimp only[fn20,c20];refine RN hp ?_;refine PCN trivial (r:=.sl ((scAt A p).map scC)) ha ?_;(repeat (with_reducible (first|refine YK ?_|refine ZM ?_|refine Y3 ?_|refine X_nx ?_|((first|refine U_q (v:=?_) ?h1 ?_|refine U_ld (v:=?_) ?h1 ?_);case h1=>((try simp only[hkp,hkc,Nat.zero_le,Nat.sub_zero,Int.toNat_natCast,go_sem])<;>rfl)))));refine Qcs 4 21 x m.keep hk4 RM OM (Z0) (Z0) fun o1 k4 kl k0=>?_;have k3:o1 3=some (.row 15 [auC A]):=by rw[k0 3 LM LM];simp only[go_sem]
 have k5:o1 5=some (.row 3 [mvC m]):=by rw[k0 5 LM LM];simp only[go_sem]
 have k6:o1 6=some (.row 5 [cfC noC]):=by rw[k0 6 LM LM];(simp only[go_sem]<;>rfl)
 clear k0;by_cases hno:m.again=true∧nxt A x m=none
 ·obtain⟨hag,hnx⟩:=hno;have hlf:lft m=m.keep+1:=by simp [lft,hag]
  have hkl2:m.keep < (scAt A p).length:=by omega
  have hsi:=Qay hkl2;have hxi:=DV x (i:=m.keep) OM;have hi4':((m.keep:Int) < 4)=True:=by simp;omega
  obtain⟨q1,q2,q3⟩:=hsok m.keep hkl2;have hn1:=Qbz _ (x.c m.keep) q1 q2 (by have:=(Qcp q1).2.1;omega);have hnv:Va (scAt A p)[m.keep] (x.c m.keep)=.tp [.i .i64 0,.bo false]:=by
   unfold nxt at hnx;rw[hpt,List.getElem?_eq_getElem hkl2] at hnx;simp only[Option.getD_some] at hnx;simp [Va,hnx]
  rw[hnv] at hn1;refine RT (Ad2 hp (Ad5 k3 k4 k5 k6 (Ad5 hag hkp hsi hxi hi4'))) ?_;refine PRN trivial (r:=.tp [.i .i64 0,.bo false]) hn1 ?_;refine RN (Ad5 hp k3 k4 k5 k6) ?_;rw[Qin hag hnx];exact Qp rfl rfl
 obtain⟨n,hn⟩:∃ n,m.again=true→nxt A x m=some n:=by
  cases h:nxt A x m with
  | none=>exact⟨0,fun hh=>absurd ⟨hh,h⟩ hno⟩
  | some n=>exact⟨n,fun _=>rfl⟩
 rw[Qk9 hn,hpt];refine RT (Ad2 hp (Ad5 k3 k4 k5 k6 hkp)) ?_;refine X3 (fun e o=>e 3=.pt 3 0 0∧e 4=.pt 4 0 0∧e 5=.pt 5 0 0∧e 6=.pt 6 0 0∧e 8=.sl ((scAt A p).map scC)∧e 9=ownV 21 1 ((kept x m n).map i1)∧e 10=.i .i64 (lft m)∧o 3=some (.row 15 [auC A])∧o 4=some (.row 5 [cfC x])∧o 5=some (.row 3 [mvC m])∧o 6=some (.row 5 [cfC noC])∧Own o 21 1 ((kept x m n).map i1)) ?_ ?_
 ·cases hag:m.again with
  | true =>
   have hlf:lft m=m.keep+1:=by simp [lft,hag]
   have hkl2:m.keep < (scAt A p).length:=by omega
   have hsi:=Qay hkl2;have hxi:=DV x (i:=m.keep) OM;have hi4':((m.keep:Int) < 4)=True:=by simp;omega
   obtain⟨q1,q2,q3⟩:=hsok m.keep hkl2;have hn1:=Qbz _ (x.c m.keep) q1 q2 (by have:=(Qcp q1).2.1;omega);have hnv:Va (scAt A p)[m.keep] (x.c m.keep)=.tp [.i .i64 n,.bo true]:=by
    have hnx:=hn hag;unfold nxt at hnx;rw[hpt,List.getElem?_eq_getElem hkl2] at hnx;simp only[Option.getD_some] at hnx;simp [Va,hnx]
   rw[hnv] at hn1;have hke:(kept x m n).map i1=((cl4 x).take m.keep).map i1++[[.i .i64 n]]:=by simp [kept,hag];rfl
   have hw:=Zu (i:=m.keep) OM;refine RT (Ad2 hp (Ad5 k3 k4 k5 k6 (Ad5 hag hkp hsi hxi hi4'))) ?_;refine PRN trivial (r:=.tp [.i .i64 n,.bo true]) hn1 ?_;refine RN (Ad5 hp k3 k4 k5 k6) ?_;refine YO 21 (L:=((cl4 x).take m.keep).map i1) (ys:=[[.i .i64 n]]) (Z0) ?_ (by (simp only[src,go_sem]<;>rfl)) SM SM OM ⟨by simp;omega,OM⟩ (Q4 _ kl.c) rfl ?_
   ·exact Own.h (by (repeat first|with_reducible assumption|refine .up rfl ?_|refine .sw rfl ?_|refine .swN rfl ?_))
   refine RN hw ?_
   refine⟨rfl,Z0,Z0,Z0,Z0,Z0,Z1 hke,Z1 hlf,Z1 k3,Z1 k4,Z1 k5,Z1 k6,?_⟩
   rw[hke];exact Own.to (by rw[← hke];exact List.all_eq_true.2 fun c hc=>by obtain⟨y,_,rfl⟩:=List.mem_map.1 hc;rfl)
  | false =>
   have hlf:lft m=m.keep:=by simp [lft,hag]
   have hke:kept x m n=(cl4 x).take m.keep:=by simp [kept,hag]
   rw[hke,hlf];refine RN hag ?_
   exact⟨rfl,Z0,Z0,Z0,Z0,Z0,Z0,Z0,Z1 k3,Z1 k4,Z1 k5,Z1 k6,kl⟩
 clear k3 k4 k5 k6 kl;rintro e o ⟨r3,r4,r5,r6,r8,r9,r10,o3,o4,o5,o6,ow⟩;have hl4:(lft m≤4)=True:=by simp;omega
 have hlp:(0:Int)≤(lft m:Int):=by omega
 have hall:((scAt A p).map scC).all (fun c=>c.length==2)=true:=List.all_eq_true.2 fun c hc=>by obtain⟨y,_,rfl⟩:=List.mem_map.1 hc;rfl
 have htk:List.take (scAt A p).length ((scAt A p).map scC)=(scAt A p).map scC:=List.take_of_length_le SM;have hkl':(lft m≤(scAt A p).length)=True:=by simp;exact hkl
 refine RN (Ad2 r8 r10) ?_;refine U_q (v:=.sl (((scAt A p).drop (lft m)).map scC)) (by simp only[r8,r10,cutV,List.length_map,hlp,hkl',hall,htk,Nat.le_refl,and_self,true_and,and_true,if_true,Int.toNat_natCast,List.map_drop,go_sem]) ?_;refine RT (Ad4 r4 r10 hlp hl4) ?_;have hlv:=Qck (l:=(scAt A p).drop (lft m)) (cs:=(cl4 x).drop (lft m)) (by simp [cl4];omega) (by simp;omega);refine U_pc (vs:=[.sl (((scAt A p).drop (lft m)).map scC),.ra 4 0 (1+lft m) (4 - lft m)]) (ws:=[.sl (((scAt A p).drop (lft m)).map scC),.sl (((cl4 x).drop (lft m)).map i1)]) (r:=.bo (Qw ((scAt A p).drop (lft m)) ((cl4 x).drop (lft m)))) (Z0) (QjE (Z1 o4) OM _) (Bool.or_eq_true_iff.2 (.inr rfl)) rfl hlv ?_;cases hlb:Qw ((scAt A p).drop (lft m)) ((cl4 x).drop (lft m)) with
 | false =>
  refine RN (Ad2 r6 o6) ?_;exact Qp rfl rfl
 | true =>
  have hent:=D5 hW (p:=m.to) hm.to (kept:=kept x m n) (by rw[KX hk4];omega);refine RN (Ad5 r3 r5 r9 o3 o5) ?_;refine U_pc (vs:=[.ag (auC A),.i .i64 m.to,ownV 21 1 ((kept x m n).map i1)]) (ws:=[.ag (auC A),.i .i64 m.to,.sl ((kept x m n).map i1)]) (r:=.ag (cfC (QG A m.to (kept x m n)))) (Z1 r9) (Qhf ow) (Bool.or_eq_true_iff.2 (.inr rfl)) (Z0) hent ?_;refine RN (Ad2 r6 o6) ?_;exact Qp rfl rfl
end Go.Proofs.YtklbhcjmaeedhaaGreatDoor
