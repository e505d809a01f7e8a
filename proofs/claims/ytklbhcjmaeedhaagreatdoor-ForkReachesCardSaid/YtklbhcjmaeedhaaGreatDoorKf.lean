import Derived.Test.YtklbhcjmaeedhaaGreatDoorF1

namespace Go.Proofs.YtklbhcjmaeedhaaGreatDoor
set_option linter.all false
variable {A:Au} {p q i at_ sz n:Nat} {s:Int × Int} {m:Mv} {l:List Cf} {e:E} {o:O} {es:List (List V)}
attribute [-go_sem] Qy Qj rfOb V.cells
def shB (A:Au) (p q:Nat):Option Nat:=YP fun b=>QA (stAt A p) b&&QA (stAt A q) b
def Qj9 {b:Nat} (h:shB A p q=some b):b < 256:=by
 rw[shB,YP,List.find?_range_eq_some] at h;exact List.mem_range.1 h.2.1
def HS (hW:WF A) (hp:p < A.sets.length) (hq:q < A.sets.length):Pu F 37 [.ag (auC A),.i .i64 p,.i .i64 q] (lstV (shB A p q)):=by
 have gp:=Qb1 hp;have gq:=Qb1 hq;have wp:=st_w hW hp;have wq:=st_w hW hq;have hpp:(0:Int)≤(p:Int):=by omega
 have hqp:(0:Int)≤(q:Int):=by omega
 have ha:=QlG (stAt A p) (stAt A q) wp wq;have hl:=QdT (andS (stAt A p) (stAt A q)) (QkW wp);have e1:QA (andS (stAt A p) (stAt A q))=fun b=>QA (stAt A p) b&&QA (stAt A q) b:=funext fun b=>Qfi _ _ b;rw[e1] at hl;show Pu F _ _ (lstV (YP _));generalize YP (fun b=>QA (stAt A p) b&&QA (stAt A q) b)=x at hl ⊢;refine Qh e37 rfl rfl (by simp only[go_sem,Bool.and_true]) ?_;dsimp only[fn37,c37];refine RT (Ad4 gp gq hpp hqp) ?_;refine PRT trivial (r:=.ag (u4 (andS (stAt A p) (stAt A q)))) ha ?_;refine RT trivial ?_;refine PRT trivial (r:=lstV x) hl ?_;dsimp only[lstV];refine RT trivial ?_;exact Qp rfl rfl
def lsI:Option Nat→Int
 | some b=>b
 | none => -1
def Qct (hW:WF A) (hp:p < A.sets.length) (hq:q < A.sets.length):Pu F 8 [.ag (auC A),.i .i64 p,.i .i64 q] (.i .i64 (lsI (shB A p q))):=by
 have gp:=Qb1 hp;have gq:=Qb1 hq;have wp:=st_w hW hp;have wq:=st_w hW hq;have hpp:(0:Int)≤(p:Int):=by omega
 have hqp:(0:Int)≤(q:Int):=by omega
 refine Qh e8 rfl rfl (by simp only[go_sem,Bool.and_true]) ?_;dsimp only[fn8,c8];refine RN trivial ?_;refine U_lp (fun r e o=>∃ b:Nat,b+r=256∧(∀ j,j < b→(QA (stAt A p) j&&QA (stAt A q) j)=false)∧e 1=.i .i64 p∧e 2=.i .i64 q∧e 3=.pt 3 0 0∧e 7=.i .i64 b∧o 3=some (.row 15 [auC A])) (k:=256) ?_ (Qa F) ?_
 ·exact⟨0,OM,fun j hj=>by omega,Z0,Z0,Z0,Zr0,by simp only[List.take_succ_cons,List.take_zero,List.drop_succ_cons,List.drop_zero,go_sem]⟩
 rintro r e o ⟨b,hbr,hz,r1,r2,r3,r7,o3⟩;dsimp only[b8_0];by_cases hb:b < 256
 ·have hd:decide ((b:Int) < 256)=true:=decide_eq_true OM;have hw:=Zu (i:=b) OM;have h1:=Qcm (stAt A p) wp b hb;have h2:=Qcm (stAt A q) wq b hb;refine RT (Ad2 r1 (Ad5 r2 r3 r7 o3 (Ad5 hd gp gq hpp hqp))) ?_;refine PRT r7 (r:=.bo (QA (stAt A p) b)) h1 ?_;cases g1:QA (stAt A p) b with
  | false =>
   refine RT (Ad2 r7 hw) ?_
   refine⟨r - 1,OM,b+1,OM,fun j hj=>?_,Z1 r1,Z1 r2,Z1 r3,Z0,Z1 o3⟩
   by_cases hjb:j=b
   ·rw[hjb,g1];rfl
   ·exact hz j OM
  | true =>
   refine RT (Ad5 r1 r2 r3 r7 (Ad5 o3 gp gq hpp hqp)) ?_;refine PRT r7 (r:=.bo (QA (stAt A q) b)) h2 ?_;cases g2:QA (stAt A q) b with
   | false =>
    refine RT (Ad2 r7 hw) ?_
    refine⟨r - 1,OM,b+1,OM,fun j hj=>?_,Z1 r1,Z1 r2,Z1 r3,Z0,Z1 o3⟩
    by_cases hjb:j=b
    ·rw[hjb,g1,g2];rfl
    ·exact hz j OM
   | true =>
    refine RT r7 ?_;rw[shB,Jp hb (by rw[g1,g2];rfl) hz]
    first|rfl|exact Qp rfl rfl
 ·have hd:decide ((b:Int) < 256)=false:=decide_eq_false OM;refine RN (Ad2 r7 hd) ?_;rw[shB,XJ fun j hj=>hz j OM]
  first|rfl|exact Qp rfl rfl
def ZG (s:Int × Int) (i:Nat) (m:Mv):Int × Int :=
 (if i < m.keep∨(i=m.keep∧m.again=true) then 1 else s.1,if i=m.keep∧m.again=true∧s.2 ≠ -1 then s.2 - 1 else if s.2 = -1 then s.1 else s.2)
def QcC (hs:scOk s) (i:Nat) (m:Mv):Pu F 57 [.ag (scC s),.i .i64 i,.ag (mvC m)] (.ag (scC (ZG s i m))):=by
 obtain⟨lo,hi⟩:=s;obtain⟨to,kp,ag⟩:=m;obtain⟨h1,h2,h3⟩:=hs;dsimp only at h1 h2 h3;have hw:IntKind.i64.wrap (hi - 1)=hi - 1:=Qi OM OM;refine Qh e57 rfl rfl rfl ?_;dsimp only[fn57,c57,ZG,scC,mvC];by_cases hm:hi = -1
 ·subst hm;have c1:((-1:Int) == -1)=true:=rfl;have c6:((-1:Int) != -1)=false:=rfl;by_cases hk:i < kp
  ·have c2:decide ((i:Int) < (kp:Int))=true:=decide_eq_true OM;refine RT (Ad3 c1 c2 c6) ?_;refine Qp ?_ rfl;simp [hk]
  ·have c2:decide ((i:Int) < (kp:Int))=false:=decide_eq_false OM;by_cases he:i=kp
   ·subst he;have c3:((i:Int)==(i:Int))=true:=by simp
    cases ag with
    | true =>
     refine RT (Ad4 c1 c2 c3 c6) ?_;refine Qp ?_ rfl;simp
    | false =>
     refine RT (Ad4 c1 c2 c3 c6) ?_;refine Qp ?_ rfl;simp
   ·have c3:((i:Int)==(kp:Int))=false:=by simp;omega
    refine RT (Ad4 c1 c2 c3 c6) ?_;refine Qp ?_ rfl;simp [hk,he]
 ·have c1:(hi == -1)=false:=by simpa using hm
  have c6:(hi != -1)=true:=by simpa using hm
  by_cases hk:i < kp
  ·have c2:decide ((i:Int) < (kp:Int))=true:=decide_eq_true OM;have he:¬ i=kp:=by omega
   refine RT (Ad3 c1 c2 c6) ?_;refine Qp ?_ rfl;simp [hk,hm,he]
  ·have c2:decide ((i:Int) < (kp:Int))=false:=decide_eq_false OM;by_cases he:i=kp
   ·subst he;have c3:((i:Int)==(i:Int))=true:=by simp
    cases ag with
    | true =>
     refine RT (Ad5 c1 c2 c3 c6 hw) ?_;refine Qp ?_ rfl;simp [hm]
    | false =>
     refine RT (Ad4 c1 c2 c3 c6) ?_;refine Qp ?_ rfl;simp [hm]
   ·have c3:((i:Int)==(kp:Int))=false:=by simp;omega
    refine RT (Ad4 c1 c2 c3 c6) ?_;refine Qp ?_ rfl;simp [hk,he,hm]
def VF (x y:Mv):eqps [.i .i64,.i .i64,.b] (mvC x) (mvC y)=some (decide (x=y)):=by
 obtain⟨a,b,c⟩:=x;obtain⟨a',b',c'⟩:=y;simp only[mvC,eqps,lfEq,and_self,if_true,Bool.and_true];congr 1;rw[Bool.eq_iff_iff];simp only[Bool.and_eq_true,beq_iff_eq,decide_eq_true_eq,Mv.mk.injEq];constructor
 ·rintro⟨h1,h2,h3⟩;exact⟨OM,OM,h3⟩
 ·rintro⟨h1,h2,h3⟩;exact⟨OM,OM,h3⟩
def QfL (x y:Mv):eqV true [.i .i64,.i .i64,.b] (.ag (mvC x)) (.ag (mvC y))=some (decide (x=y)):=VF x y
def Qak:eqps [.i .i64,.i .i64,.i .i64,.i .i64,.i .i64] (cfC noC) [.i .i64 0,.i .i64 0,.i .i64 0,.i .i64 0,.i .i64 0]=some true:=rfl
def QcK:eqV true [.i .i64,.i .i64,.i .i64,.i .i64,.i .i64] (.ag (cfC noC)) (.ag [.i .i64 0,.i .i64 0,.i .i64 0,.i .i64 0,.i .i64 0])=some true:=rfl
attribute [go_sem] VF QfL Qak QcK
def idxM (m:Mv) (l:List Mv):Int:=if m∈l then ((l.findIdx (fun y=>decide (m=y)):Nat):Int) else -1
def Qia {l:List Mv} (hi:i < l.length) (h:l[i]=m) (hb:∀ j (hj:j < i),l[j]'(by omega)≠m):idxM m l=i:=by
 have hmem:m∈l:=by rw[← h];exact List.getElem_mem hi
 rw[idxM,if_pos hmem];congr 1;refine (List.findIdx_eq hi).2 ⟨by simp [h],fun j hj=>?_⟩
 have:=hb j hj
 simpa using fun hh=>this hh.symm
def QdZ (m:Mv) (l:List Mv) (hl:l.length < 2147483648):Pu F 33 [.sl (l.map mvC),.ag (mvC m)] (.i .i64 (idxM m l)):=by
 refine Qh e33 rfl rfl (by simp only[go_sem,Bool.and_true]) ?_;dsimp only[fn33,c33];refine RT trivial ?_;refine U_lp (fun r e o=>∃ i:Nat,i+r=l.length∧e 0=.sl (l.map mvC)∧e 3=.pt 3 0 0∧e 7=.i .i64 l.length∧e 8=.i .i64 i∧o 3=some (.row 3 [mvC m])∧∀ j (hj:j < i) (hl:j < l.length),l[j]≠m) (k:=l.length) ?_ (Qa F) ?_
 ·exact⟨0,OM,Z0,Z0,by simp only[List.length_map,go_sem],Zr0,Z0,fun j h=>absurd h OM⟩
 rintro r e o ⟨i,hir,r0,r3,r7,r8,o3,hq⟩;dsimp only[QkJ];refine RN (Ad2 r7 r8) ?_;refine Qv (q:=decide ((i:Int) < (l.length:Int))) (Z0) (fun hc=>?_) (fun hc=>?_)
 ·have hi:i < l.length:=by simpa using hc
  have hip:(0:Int)≤(i:Int):=by omega
  have hx:=QaE hi;have hw:=Zu (i:=i) OM;refine RT (Ad2 r0 (Ad5 r3 r8 o3 hip hx)) ?_;refine Qv (q:=decide (m=l[i])) (Z0) (fun hc2=>?_) (fun hc2=>?_)
  ·have he:m=l[i]:=by simpa using hc2
   refine RN trivial ?_;rw[Qia hi he.symm fun j hj=>hq j hj OM];exact Qp rfl rfl
  ·have he:¬ m=l[i]:=by simpa using hc2
   refine RN (Ad2 r8 hw) ?_
   refine⟨r - 1,OM,i+1,OM,Z1 r0,Z1 r3,Z1 r7,Z0,Z1 o3,fun j hj hl=>?_⟩
   by_cases hji:j=i
   ·subst hji;exact fun hh=>he hh.symm
   ·exact hq j OM hl
 ·have hi:i=l.length:=by
   have:¬ i < l.length:=by simpa using hc
   omega
  have hno:m ∉ l:=fun hm=>by
   obtain⟨j,hj,hh⟩:=List.mem_iff_getElem.1 hm;exact hq j OM hj hh
  have:idxM m l = -1:=by rw[idxM,if_neg hno]
  refine RN trivial ?_;rw[this];exact Qp rfl rfl
def Ju (m:Mv) (l:List Mv) (hl:l.length < 2147483648):Pu F 19 [.sl (l.map mvC),.ag (mvC m)] (.bo (decide (m∈l))):=by
 have hI:=QdZ m l hl;refine Qh e19 rfl rfl (by simp only[go_sem,Bool.and_true]) ?_;dsimp only[fn19,c19];refine RT trivial ?_;refine PRT trivial (r:=.i .i64 (idxM m l)) hI ?_;refine RN trivial ?_;refine Qp ?_ rfl;congr 1;rw[decide_eq_decide];unfold idxM;split
 ·rename_i h;simp [h]
 ·rename_i h;simp [h]
def agN (A:Au) (at_:Nat) (x y:Mv):Nat→Option Cf
 | 0=>some ⟨at_,0,0,0,0⟩
 | n+1=>match agN A at_ x y n with
  | none=>none
  | some c =>
   let p:=ZG ((scAt A at_)[n]?.getD (0,0)) n x
   let q:=ZG ((scAt A at_)[n]?.getD (0,0)) n y
   if (if p.1 < q.1 then q.1 else p.1) > (if q.2 < p.2 then q.2 else p.2) then none else some (c.setC n (if p.1 < q.1 then q.1 else p.1))
def Wx (A:Au) (at_:Nat) (x y:Mv):Option Cf:=agN A at_ x y (arAt A at_).length
def agV (r:Option Cf):V:=.tp [.ag (cfC (r.getD noC)),.bo r.isSome]
theorem QaL {A:Au} {at_:Nat} {x y:Mv} {i:Nat} (h:agN A at_ x y i=none):∀ d,agN A at_ x y (i+d)=none
 | 0=>h
 | d+1=>by
  have:=QaL h d
  rw[← Nat.add_assoc,agN,this]
set_option maxHeartbeats 4000000 in
def Qez (hW:WF A) (hL:∀ l∈A.moves,l.length < 2147483648) {x y:Mv} (h0:1≤at_) (h1:at_ < A.moves.length) (hx:x∈mvAt A at_) (hy:y∈mvAt A at_) :
  Pu F 38 [.ag (auC A),.i .i64 at_,.ag (mvC x),.ag (mvC y)] (agV (Wx A at_ x y)):=by
 have gM:=Qfj h1;have hla:at_ < A.around.length:=by rw[hW.la,← hW.lm];exact h1
 have gR:=Qd5 hla;have hap:(0:Int)≤(at_:Int):=by omega
 have c1:decide ((at_:Int) < 1)=false:=decide_eq_false OM;have c2:decide ((at_:Int)≥(A.moves.length:Int))=false:=decide_eq_false OM;have hll:(mvAt A at_).length < 2147483648:=hL _ (by rw[mvAt,List.getElem?_eq_getElem h1];exact List.getElem_mem h1);have k1:=Ju x (mvAt A at_) hll;have k2:=Ju y (mvAt A at_) hll;rw[decide_eq_true hx] at k1;rw[decide_eq_true hy] at k2;have ha4:(arAt A at_).length≤4:=hW.a4 _ (by rw[arAt,List.getElem?_eq_getElem hla];exact List.getElem_mem hla);have hai:∀ s∈arAt A at_,s < A.scopes.length:=hW.ai _ (by rw[arAt,List.getElem?_eq_getElem hla];exact List.getElem_mem hla);refine Qh e38 rfl rfl (by simp only[go_sem,Bool.and_true]) ?_;dsimp only[fn38,c38];refine RT (Ad4 c1 c2 gM hap) ?_;refine PRT trivial (r:=.bo true) k1 ?_;refine RT (Ad4 c1 c2 gM hap) ?_;refine PRT trivial (r:=.bo true) k2 ?_;refine RT (Ad2 gR hap) ?_;refine U_lp (fun r e o=>∃ (i:Nat) (c:Cf),i+r=(arAt A at_).length∧agN A at_ x y i=some c∧e 4=.pt 4 0 0∧e 6=.pt 6 0 0∧e 7=.pt 7 0 0∧e 8=.pt 8 0 0∧e 10=.pt 10 0 0∧e 53=.sl ((arAt A at_).map inC)∧e 54=.i .i64 (arAt A at_).length∧e 55=.i .i64 i∧o 4=some (.row 15 [auC A])∧o 6=some (.row 3 [mvC x])∧o 7=some (.row 3 [mvC y])∧o 8=some (.row 5 [cfC noC])∧o 10=some (.row 5 [cfC c])) (k:=(arAt A at_).length) ?_ (Qa F) ?_
 ·exact⟨0,⟨at_,0,0,0,0⟩,OM,rfl,Z0,Z0,Z0,Z0,Z0,Z0,by simp only[List.length_map,go_sem],Zr0,by simp only[List.take_succ_cons,List.take_zero,List.drop_succ_cons,List.drop_zero,go_sem],by simp only[List.take_succ_cons,List.take_zero,List.drop_succ_cons,List.drop_zero,go_sem],by simp only[List.take_succ_cons,List.take_zero,List.drop_succ_cons,List.drop_zero,go_sem],by (simp only[List.take_succ_cons,List.take_zero,List.drop_succ_cons,List.drop_zero,go_sem]<;>rfl),by (simp only[List.take_succ_cons,List.take_zero,List.drop_succ_cons,List.drop_zero,go_sem]<;>rfl)⟩
 rintro r e o ⟨i,c,hir,hag,r4,r6,r7,r8,r10,r53,r54,r55,o4,o6,o7,o8,o10⟩;dsimp only[Qi3];by_cases hi:i < (arAt A at_).length
 ·have hd:decide ((i:Int) < ((arAt A at_).length:Int))=true:=decide_eq_true OM;have hip:(0:Int)≤(i:Int):=by omega
  have hw:=Zu (i:=i) OM;have gI:=VV hi;have hsl:=hai _ (List.getElem_mem hi);have hsc:(scAt A at_)[i]?.getD (0,0)=scI A (arAt A at_)[i]:=by
   simp [scAt,List.getElem?_eq_getElem hi]
  generalize (arAt A at_)[i]=s at gI hsl hsc;have gS:=QhJ hsl;have hok:scOk (scI A s):=hW.sc _ (by rw[scI,List.getElem?_eq_getElem hsl];exact List.getElem_mem hsl);have hsp:(0:Int)≤(s:Int):=by omega
  have m1:=QcC hok i x;have m2:=QcC hok i y;have hag1:agN A at_ x y (i+1)=(if (if (ZG (scI A s) i x).1 < (ZG (scI A s) i y).1 then (ZG (scI A s) i y).1 else (ZG (scI A s) i x).1) > (if (ZG (scI A s) i y).2 < (ZG (scI A s) i x).2 then (ZG (scI A s) i y).2 else (ZG (scI A s) i x).2) then none else some (c.setC i (if (ZG (scI A s) i x).1 < (ZG (scI A s) i y).1 then (ZG (scI A s) i y).1 else (ZG (scI A s) i x).1))):=by
   rw[agN,hag];simp only[hsc]
  generalize ZG (scI A s) i x=p at m1 hag1;generalize ZG (scI A s) i y=q at m2 hag1;refine RT (Ad2 r4 (Ad5 r6 r7 r53 r54 (Ad5 r55 o4 o6 o7 (Ad5 hd gI gS hip hsp)))) ?_;refine PRT trivial (r:=.ag (scC p)) m1 ?_;refine PRT trivial (r:=.ag (scC q)) m2 ?_;refine RT trivial ?_;refine Qv (q:=decide ((if p.1 < q.1 then q.1 else p.1) > (if q.2 < p.2 then q.2 else p.2))) (Zr0) (fun hc=>?_) (fun hc=>?_)
  ·rw[if_pos (by simpa using hc)] at hag1;have hfin:Wx A at_ x y=none:=by
    obtain⟨d,hdd⟩:∃ d,(arAt A at_).length=i+1+d:=⟨(arAt A at_).length - (i+1),OM⟩;rw[Wx,hdd];exact QaL hag1 d
   rw[hfin];refine RT (Ad2 r8 o8) ?_;exact Qp rfl rfl
  ·rw[if_neg (by simpa using hc)] at hag1;have hi4:i < 4:=by omega
   have hil:(i:Int) < 4:=by omega
   have hspl:=Qcc c (if p.1 < q.1 then q.1 else p.1) hi4;have hget:=DV c hi4;refine RT (Ad4 r10 r55 o10 (Ad5 hw hip hil hspl hget)) ?_;refine Wd (id:=10) (i:=0) (j:=1+i) (q:=5) (es:=[cfC c]) (cs:=cfC c) (vs:=[.i .i64 (if p.1 < q.1 then q.1 else p.1)]) (es':=[cfC (c.setC i (if p.1 < q.1 then q.1 else p.1))]) (Z0) (Z1 o10) rfl (Z0) rfl (by rw[J0];simp;omega) (by rw[← hspl];rfl) ?_;refine RN (Ad2 r55 hw) ?_
   exact⟨r - 1,OM,i+1,_,OM,hag1,Z1 r4,Z1 r6,Z1 r7,Z1 r8,Z1 r10,Z1 r53,Z1 r54,Z0,Z1 o4,Z1 o6,Z1 o7,Z1 o8,Z0⟩
 ·have hd:decide ((i:Int) < ((arAt A at_).length:Int))=false:=decide_eq_false OM;have hin:i=(arAt A at_).length:=by omega
  rw[hin] at hag;rw[Wx,hag];refine RT (Ad3 r8 r10 (Ad5 r54 r55 o8 o10 hd)) ?_;exact Qp rfl rfl
def VN {F:En} {gh:Bool} {a:C} {id:Nat} {K:X→E→O→Prop} (P:E→O→Prop) (h:wpU gh (Call F) a (fun x e o=>(x=.ex id∧P e o)∨(x=.rt∧K .rt e o)) e o) (h2:∀ e o,P e o→K .nx e o):wpU gh (Call F) a (blkX id K) e o :=
 Ke (Qa F) (fun x e o hx=>by
  rcases hx with⟨rfl,hp⟩|⟨rfl,hp⟩
  ·simp only[blkX,if_true];exact h2 e o hp
  ·exact hp) h
def prF {α β:Type} (f:α→α→Option β):List α→Option β
 | []=>none
 | x::l=>(l.findSome? (f x)).or (prF f l)
abbrev Fk:=Cf × Nat × Nat × Nat
def fkL:Option Fk→List V
 | some (c,p,q,b)=>cfC c++[.i .i64 p,.i .i64 q,.i .u8 b]
 | none=>[.i .i64 0,.i .i64 0,.i .i64 0,.i .i64 0,.i .i64 0,.i .i64 0,.i .i64 0,.i .u8 0]
def fkV (r:Option Fk):V:=.tp [.ag (fkL r),.bo r.isSome]
def Qfs (r:Option Fk):(fkL r).length=8:=by
 rcases r with _|⟨c,p,q,b⟩<;>rfl
def QlV (r:Option Fk):List.take 8 (fkL r)=fkL r:=List.take_of_length_le (by rw[Qfs];exact Nat.le_refl _)
def QmT (r:Option Fk):cldL (fkL r)=true:=by rcases r with _|⟨c,p,q,b⟩<;>rfl
def Qmx (r:Option Fk) (d:Nat):swpL d (fkL r)=fkL r:=by rcases r with _|⟨c,p,q,b⟩<;>rfl
def QlR (r:Option Fk) (a:List V) (h:a.length=8):splice 0 (fkL r) a=fkL r:=by
 match a,h with
 | [a1,a2,a3,a4,a5,a6,a7,a8],_=>rcases r with _|⟨c,p,q,b⟩<;>rfl
def fst1 (A:Au) (p q:Nat):Option Fk:=(shB A p q).map fun b=>(noC,p,q,b)
def W0 (A:Au):Option Fk:=prF (fst1 A) A.first
def DY {x y:Od} {k:Nat} (hx:x.ev e=.sl es) (hy:y.ev e=.i .i64 (k:Nat)) (hk:k≤es.length) (hs:es.all (fun c=>c.length==sz)=true):qv e (.slc sz x (some y) none none)=some (.sl (es.drop k)):=by
 show slcV e sz x (some y) none none=_;have e1:natV (.i .i64 (k:Nat))=some k:=by simp [natV]
 simp only[slcV,hx,natO,hy,lenV,e1,cutV,hs,hk,Nat.le_refl,and_self,if_true,List.take_length]
def QkM (l:List Nat):(l.map inC).all (fun c=>c.length==1)=true:=by simp [inC]
def Qlq (l:List Mv):(l.map mvC).all (fun c=>c.length==3)=true:=by simp [mvC]
set_option maxHeartbeats 2000000 in
def QdW (hW:WF A) (hf:A.first.length≤1000):Pu F 21 [.ag (auC A)] (fkV (W0 A)):=by
 have hlt:∀ p∈A.first,p < A.sets.length:=fun p hp=>(hW.f p hp).2;refine Qh e21 rfl rfl (by simp only[go_sem,Bool.and_true]) ?_;dsimp only[fn21,c21];unfold W0;generalize hfl:A.first=l at hf hlt;refine RT hfl ?_;refine U_lp (fun r e o=>∃ i:Nat,i+r=l.length∧prF (fst1 A) (l.drop i)=prF (fst1 A) l∧e 1=.pt 1 0 0∧e 2=.pt 2 0 0∧e 11=.sl (l.map inC)∧e 12=.i .i64 l.length∧e 13=.i .i64 i∧o 1=some (.row 15 [auC A])∧o 2=some (.row 8 [[.i .i64 0,.i .i64 0,.i .i64 0,.i .i64 0,.i .i64 0,.i .i64 0,.i .i64 0,.i .u8 0]])) (k:=l.length) ?_ (Qa F) ?_
 ·exact⟨0,OM,by rw[List.drop_zero],Z0,Z0,Z1 hfl,by simp only[hfl,List.length_map,go_sem],Zr0,by simp only[List.take_succ_cons,List.take_zero,List.drop_succ_cons,List.drop_zero,go_sem],by (simp only[List.take_succ_cons,List.take_zero,List.drop_succ_cons,List.drop_zero,go_sem]<;>rfl)⟩
 rintro r e o ⟨i,hir,hpr,r1,r2,r11,r12,r13,o1,o2⟩;dsimp only[Qjh];by_cases hi:i < l.length
 ·have hd:decide ((i:Int) < (l.length:Int))=true:=decide_eq_true OM;have hip:(0:Int)≤(i:Int):=by omega
  have hw:=Zu (i:=i) OM;have gI:=VV hi;have hpl:=hlt _ (List.getElem_mem hi);rw[List.drop_eq_getElem_cons hi,prF] at hpr;generalize l[i]=p at gI hpl hpr;have hll:(l.drop (i+1)).length=l.length - (i+1):=by simp
  have hlt2:∀ q∈l.drop (i+1),q < A.sets.length:=fun q hq=>hlt q (List.mem_of_mem_drop hq);generalize hl':l.drop (i+1)=l' at hpr hll hlt2;refine RT (Ad2 r1 (Ad5 r11 r12 r13 o1 (Ad5 hd hip hw gI hfl))) ?_;refine U_q (v:=.sl (l'.map inC)) (by rw[← hl',List.map_drop];exact DY (k:=i+1) (Z0) (Z0) (by simp;omega) (QkM l)) ?_;refine RT trivial ?_;refine VN (fun e o=>prF (fst1 A) l'=prF (fst1 A) l∧e 1=.pt 1 0 0∧e 2=.pt 2 0 0∧e 11=.sl (l.map inC)∧e 12=.i .i64 l.length∧e 13=.i .i64 i∧o 1=some (.row 15 [auC A])∧o 2=some (.row 8 [[.i .i64 0,.i .i64 0,.i .i64 0,.i .i64 0,.i .i64 0,.i .i64 0,.i .i64 0,.i .u8 0]])) ?_ ?_
  ·refine U_lp (fun r e o=>∃ j:Nat,j+r=l'.length∧((l'.drop j).findSome? (fst1 A p)).or (prF (fst1 A) l')=prF (fst1 A) l∧e 1=.pt 1 0 0∧e 2=.pt 2 0 0∧e 5=.i .i64 p∧e 11=.sl (l.map inC)∧e 12=.i .i64 l.length∧e 13=.i .i64 i∧e 22=.sl (l'.map inC)∧e 23=.i .i64 l'.length∧e 24=.i .i64 j∧o 1=some (.row 15 [auC A])∧o 2=some (.row 8 [[.i .i64 0,.i .i64 0,.i .i64 0,.i .i64 0,.i .i64 0,.i .i64 0,.i .i64 0,.i .u8 0]])) (k:=l'.length) ?_ (Qa F) ?_
   ·exact⟨0,OM,by rw[List.drop_zero];exact hpr,Z1 r1,Z1 r2,Z0,Z1 r11,Z1 r12,Z1 r13,Z0,Z0,Zr0,Z1 o1,Z1 o2⟩
   clear r1 r2 r11 r12 r13 o1 o2 hpr;rintro r' e o ⟨j,hjr,hpr,r1,r2,r5,r11,r12,r13,r22,r23,r24,o1,o2⟩;dsimp only[Qi8];by_cases hj:j < l'.length
   ·have hd2:decide ((j:Int) < (l'.length:Int))=true:=decide_eq_true OM;have hjp:(0:Int)≤(j:Int):=by omega
    have hw2:=Zu (i:=j) OM;have gJ:=VV hj;have hql:=hlt2 _ (List.getElem_mem hj);rw[List.drop_eq_getElem_cons hj,List.findSome?_cons] at hpr;generalize l'[j]=q at gJ hql hpr;have hs:=HS hW hpl hql;have hff:fst1 A p q=(shB A p q).map fun b=>(noC,p,q,b):=rfl;rw[hff] at hpr;generalize shB A p q=sh at hs hpr;refine RT (Ad5 r1 r5 r22 r23 (Ad5 r24 o1 hd2 gJ hjp)) ?_;refine PRT trivial (r:=lstV sh) hs ?_;cases sh with
    | none =>
     dsimp only[lstV,Option.map_none,Option.isSome_none,Option.getD_none] at hpr ⊢;refine RN (Ad2 r24 hw2) ?_
     exact⟨r' - 1,OM,j+1,OM,hpr,Z1 r1,Z1 r2,Z1 r5,Z1 r11,Z1 r12,Z1 r13,Z1 r22,Z1 r23,Z0,Z1 o1,Z1 o2⟩
    | some b =>
     dsimp only[lstV,Option.map_some,Option.isSome_some,Option.getD_some] at hpr ⊢;rw[Option.some_or] at hpr;rw[← hpr];refine RT (Ad3 r2 r5 o2) ?_;refine .inr ⟨rfl,?_⟩;refine RT r2 ?_;exact Qp rfl rfl
   ·have hd2:decide ((j:Int) < (l'.length:Int))=false:=decide_eq_false OM;rw[List.drop_eq_nil_of_le OM,List.findSome?_nil,Option.none_or] at hpr;refine RN (Ad3 r23 r24 hd2) ?_;exact .inl ⟨rfl,hpr,Z1 r1,Z1 r2,Z1 r11,Z1 r12,Z1 r13,Z1 o1,Z1 o2⟩
  clear r1 r2 r11 r12 r13 o1 o2 hpr;rintro e o ⟨hpr,r1,r2,r11,r12,r13,o1,o2⟩;refine RN (Ad2 r13 hw) ?_
  exact⟨r - 1,OM,i+1,OM,by rw[hl'];exact hpr,Z1 r1,Z1 r2,Z1 r11,Z1 r12,Z0,Z1 o1,Z1 o2⟩
 ·have hd:decide ((i:Int) < (l.length:Int))=false:=decide_eq_false OM;rw[List.drop_eq_nil_of_le OM,prF] at hpr;rw[← hpr];refine RT (Ad5 r2 r12 r13 o2 hd) ?_;exact Qp rfl rfl
def bhd1 (A:Au) (at_:Nat) (x y:Mv):Option Fk:=match shB A x.to y.to,Wx A at_ x y with
 | some b,some c=>if x.to≠y.to then some (c,x.to,y.to,b) else none
 | _,_=>none
def Yi (A:Au) (at_:Nat):Option Fk:=prF (bhd1 A at_) (mvAt A at_)
def Qmu (hW:WF A) (h:m∈mvAt A at_):m.to < A.sets.length:=by
 by_cases h1:at_ < A.moves.length
 ·rw[mvAt,List.getElem?_eq_getElem h1,Option.getD_some] at h
  have:=hW.mv at_ _ (List.getElem?_eq_getElem h1) m h
  have h2:=this.2.2.2.1;have h3:=hW.n0;dsimp only at h2;omega
 ·rw[mvAt,List.getElem?_eq_none OM] at h;cases h
def Qj7 (hW:WF A) (h:m∈mvAt A 0):False:=by
 have h1:0 < A.moves.length:=by rw[hW.lm];exact hW.n0
 rw[mvAt,List.getElem?_eq_getElem h1,Option.getD_some] at h
 have:=hW.mv 0 _ (List.getElem?_eq_getElem h1) m h
 have:=this.1
 dsimp only at this;omega
set_option maxHeartbeats 4000000 in
def Qdm (hW:WF A) (hL:∀ l∈A.moves,l.length < 2147483648) (ha:at_ < A.moves.length):Pu F 22 [.ag (auC A),.i .i64 at_] (fkV (Yi A at_)):=by
 have gM:=Qfj ha;have hap:(0:Int)≤(at_:Int):=by omega
 have hll:(mvAt A at_).length < 2147483648:=hL _ (by rw[mvAt,List.getElem?_eq_getElem ha];exact List.getElem_mem ha);have hmem:∀ m∈mvAt A at_,m∈mvAt A at_∧m.to < A.sets.length∧1≤at_:=fun m hm=>⟨hm,Qmu hW hm,by
  rcases Nat.eq_zero_or_pos at_ with h|h
  ·subst h;exact (Qj7 hW hm).elim
  ·exact h⟩
 have hag:=fun {x y:Mv} (h0:1≤at_) (hx:x∈mvAt A at_) (hy:y∈mvAt A at_)=>Qez hW hL h0 ha hx hy;refine Qh e22 rfl rfl (by simp only[go_sem,Bool.and_true]) ?_;dsimp only[fn22,c22];unfold Yi;generalize hM:mvAt A at_=l at gM hll;refine RT (Ad2 gM hap) ?_;have hlm:∀ m∈l,m∈mvAt A at_∧m.to < A.sets.length∧1≤at_:=fun m hm=>hmem m (by rw[hM];exact hm);clear hmem;refine U_lp (fun r e o=>∃ i:Nat,i+r=l.length∧prF (bhd1 A at_) (l.drop i)=prF (bhd1 A at_) l∧e 1=.i .i64 at_∧e 2=.pt 2 0 0∧e 4=.pt 4 0 0∧e 6=.sl (l.map mvC)∧e 20=.sl (l.map mvC)∧e 21=.i .i64 l.length∧e 22=.i .i64 i∧o 2=some (.row 15 [auC A])∧o 4=some (.row 8 [[.i .i64 0,.i .i64 0,.i .i64 0,.i .i64 0,.i .i64 0,.i .i64 0,.i .i64 0,.i .u8 0]])) (k:=l.length) ?_ (Qa F) ?_
 ·exact⟨0,OM,by rw[List.drop_zero],Z0,Z0,Z0,Z0,Z0,by simp only[List.length_map,go_sem],Zr0,by simp only[List.take_succ_cons,List.take_zero,List.drop_succ_cons,List.drop_zero,go_sem],by (simp only[List.take_succ_cons,List.take_zero,List.drop_succ_cons,List.drop_zero,go_sem]<;>rfl)⟩
 rintro r e o ⟨i,hir,hpr,r1,r2,r4,r6,r20,r21,r22,o2,o4⟩;dsimp only[QiW];by_cases hi:i < l.length
 ·have hd:decide ((i:Int) < (l.length:Int))=true:=decide_eq_true OM;have hip:(0:Int)≤(i:Int):=by omega
  have hw:IntKind.i64.wrap ((i:Int)+1)=((i+1:Nat):Int):=by rw[Qi OM OM];rfl
  have gI:=QaE hi;have hx:=hlm _ (List.getElem_mem hi);rw[List.drop_eq_getElem_cons hi,prF] at hpr;generalize l[i]=x at gI hx hpr;have hlm2:∀ m∈l.drop (i+1),m∈mvAt A at_∧m.to < A.sets.length∧1≤at_:=fun m hm=>hlm m (List.mem_of_mem_drop hm);have hll2:(l.drop (i+1)).length < 2147483648:=by simp;omega
  generalize hl':l.drop (i+1)=l' at hpr hlm2 hll2;refine RT (Ad4 r6 r20 r21 (Ad5 r22 hd hip hw gI)) ?_;refine U_q (v:=.sl (l'.map mvC)) (by rw[← hl',List.map_drop];exact DY (k:=i+1) (Z1 r6) (Z0) (by simp;omega) (Qlq l)) ?_;refine RT trivial ?_;refine VN (fun e o=>prF (bhd1 A at_) l'=prF (bhd1 A at_) l∧e 1=.i .i64 at_∧e 2=.pt 2 0 0∧e 4=.pt 4 0 0∧e 6=.sl (l.map mvC)∧e 20=.sl (l.map mvC)∧e 21=.i .i64 l.length∧e 22=.i .i64 i∧o 2=some (.row 15 [auC A])∧o 4=some (.row 8 [[.i .i64 0,.i .i64 0,.i .i64 0,.i .i64 0,.i .i64 0,.i .i64 0,.i .i64 0,.i .u8 0]])) ?_ ?_
  ·refine U_lp (fun r e o=>∃ j:Nat,j+r=l'.length∧((l'.drop j).findSome? (bhd1 A at_ x)).or (prF (bhd1 A at_) l')=prF (bhd1 A at_) l∧e 1=.i .i64 at_∧e 2=.pt 2 0 0∧e 4=.pt 4 0 0∧e 6=.sl (l.map mvC)∧e 8=.pt 8 0 0∧e 20=.sl (l.map mvC)∧e 21=.i .i64 l.length∧e 22=.i .i64 i∧e 30=.sl (l'.map mvC)∧e 31=.i .i64 l'.length∧e 32=.i .i64 j∧o 2=some (.row 15 [auC A])∧o 4=some (.row 8 [[.i .i64 0,.i .i64 0,.i .i64 0,.i .i64 0,.i .i64 0,.i .i64 0,.i .i64 0,.i .u8 0]])∧o 8=some (.row 3 [mvC x])) (k:=l'.length) ?_ (Qa F) ?_
   ·exact⟨0,OM,by rw[List.drop_zero];exact hpr,Z1 r1,Z1 r2,Z1 r4,Z1 r6,Z0,Z1 r20,Z1 r21,Z1 r22,Z0,Z0,Zr0,Z1 o2,Z1 o4,by simp only[List.take_succ_cons,List.take_zero,List.drop_succ_cons,List.drop_zero,go_sem]⟩
   clear r1 r2 r4 r6 r20 r21 r22 o2 o4 hpr;rintro r' e o ⟨j,hjr,hpr,r1,r2,r4,r6,r8,r20,r21,r22,r30,r31,r32,o2,o4,o8⟩;dsimp only[Qji];by_cases hj:j < l'.length
   ·have hd2:decide ((j:Int) < (l'.length:Int))=true:=decide_eq_true OM;have hjp:(0:Int)≤(j:Int):=by omega
    have hw2:IntKind.i64.wrap ((j:Int)+1)=((j+1:Nat):Int):=by rw[Qi OM OM];rfl
    have gJ:=QaE hj;have hy:=hlm2 _ (List.getElem_mem hj);rw[List.drop_eq_getElem_cons hj,List.findSome?_cons] at hpr;generalize l'[j]=y at gJ hy hpr;have hs:=HS hW hx.2.1 hy.2.1;have hg:=hag hx.2.2 hx.1 hy.1;have hff:bhd1 A at_ x y=match shB A x.to y.to,Wx A at_ x y with
     | some b,some c=>if x.to≠y.to then some (c,x.to,y.to,b) else none
     | _,_=>none:=rfl
    generalize bhd1 A at_ x y=bb at hff hpr;generalize shB A x.to y.to=sh at hs hff;generalize Wx A at_ x y=ag at hg hff;refine RT (Ad2 r2 (Ad5 r8 r30 r31 r32 (Ad5 o2 o8 hd2 gJ hjp))) ?_;refine PRT trivial (r:=lstV sh) hs ?_;dsimp only[lstV];refine RT (Ad5 r1 r2 r8 o2 o8) ?_;refine PRT trivial (r:=agV ag) hg ?_;dsimp only[agV];by_cases hne:x.to=y.to
    ·have c1:((x.to:Int) != (y.to:Int))=false:=by simp;omega
     have hbb:bb=none:=by rw[hff];cases sh<;>cases ag<;>simp [hne]
     rw[hbb] at hpr;refine RT (Ad5 r8 r32 o8 c1 hw2) ?_
     exact⟨r' - 1,OM,j+1,OM,hpr,Z1 r1,Z1 r2,Z1 r4,Z1 r6,Z1 r8,Z1 r20,Z1 r21,Z1 r22,Z1 r30,Z1 r31,Z0,Z1 o2,Z1 o4,Z1 o8⟩
    ·have c1:((x.to:Int) != (y.to:Int))=true:=by simp;omega
     cases sh with
     | none =>
      have hbb:bb=none:=hff;rw[hbb] at hpr;(repeat (with_reducible (first|refine YK ?_|refine ZM ?_|refine Y3 ?_|refine Hx ?_|refine X_nx ?_|refine B_nx ?_|((first|refine U_q (v:=?_) ?h1 ?_|refine U_ld (v:=?_) ?h1 ?_|refine Hz (n:=?_) ?h1 ?_|refine U_gt ?h1 ?_);case h1=>((try simp only[r8,r32,o8,c1,hw2,Option.isSome_none,List.take_succ_cons,List.take_zero,List.drop_succ_cons,List.drop_zero,go_sem])<;>rfl))|(refine Wd (id:=?_) (i:=?_) (j:=?_) (q:=?_) (es:=?_) (cs:=?_) (vs:=?_) (es':=?_) ?h1 ?h2 ?h3 ?h4 ?h5 ?h6 ?h7 ?_;case h1|h2|h3|h4|h5|h6|h7=>((try simp only[r8,r32,o8,c1,hw2,Option.isSome_none,List.take_succ_cons,List.take_zero,List.drop_succ_cons,List.drop_zero,go_sem])<;>rfl))|((first|refine Vs ?h1 ?_|refine Ws ?h1 ?_);case h1=>((try simp only[r8,r32,o8,c1,hw2,Option.isSome_none,List.take_succ_cons,List.take_zero,List.drop_succ_cons,List.drop_zero,go_sem])<;>rfl))|rw[Q0])))
      exact⟨r' - 1,OM,j+1,OM,hpr,Z1 r1,Z1 r2,Z1 r4,Z1 r6,Z1 r8,Z1 r20,Z1 r21,Z1 r22,Z1 r30,Z1 r31,Z0,Z1 o2,Z1 o4,Z1 o8⟩
     | some b =>
      cases ag with
      | none =>
       have hbb:bb=none:=hff;rw[hbb] at hpr;(repeat (with_reducible (first|refine YK ?_|refine ZM ?_|refine Y3 ?_|refine Hx ?_|refine X_nx ?_|refine B_nx ?_|((first|refine U_q (v:=?_) ?h1 ?_|refine U_ld (v:=?_) ?h1 ?_|refine Hz (n:=?_) ?h1 ?_|refine U_gt ?h1 ?_);case h1=>((try simp only[r8,r32,o8,c1,hw2,Option.isSome_none,Option.isSome_some,List.take_succ_cons,List.take_zero,List.drop_succ_cons,List.drop_zero,go_sem])<;>rfl))|(refine Wd (id:=?_) (i:=?_) (j:=?_) (q:=?_) (es:=?_) (cs:=?_) (vs:=?_) (es':=?_) ?h1 ?h2 ?h3 ?h4 ?h5 ?h6 ?h7 ?_;case h1|h2|h3|h4|h5|h6|h7=>((try simp only[r8,r32,o8,c1,hw2,Option.isSome_none,Option.isSome_some,List.take_succ_cons,List.take_zero,List.drop_succ_cons,List.drop_zero,go_sem])<;>rfl))|(refine Ws ?h1 ?_;case h1=>((try simp only[r8,r32,o8,c1,hw2,Option.isSome_none,Option.isSome_some,List.take_succ_cons,List.take_zero,List.drop_succ_cons,List.drop_zero,go_sem])<;>rfl)))))
       exact⟨r' - 1,OM,j+1,OM,hpr,Z1 r1,Z1 r2,Z1 r4,Z1 r6,Z1 r8,Z1 r20,Z1 r21,Z1 r22,Z1 r30,Z1 r31,Z0,Z1 o2,Z1 o4,Z1 o8⟩
      | some c =>
       have hbb:bb=some (c,x.to,y.to,b):=by rw[hff];simp [hne]
       rw[hbb,Option.some_or] at hpr;rw[← hpr];obtain⟨ca,cb,cc,cd,ce⟩:=c;(repeat (with_reducible (first|refine YK ?_|refine ZM ?_|refine Y3 ?_|refine WB ?_|refine X_nx ?_|refine X_rt ?_|refine B_rt ?_|((first|refine U_q (v:=?_) ?h1 ?_|refine U_ld (v:=?_) ?h1 ?_|refine Hz (n:=?_) ?h1 ?_|refine U_gt ?h1 ?_|refine Wp ?h1 ?_);case h1=>((try simp only[r4,r8,o4,o8,c1,Option.isSome_some,Option.getD_some,cfC,List.take_succ_cons,List.take_zero,List.drop_succ_cons,List.drop_zero,go_sem])<;>rfl))|(refine Wd (id:=?_) (i:=?_) (j:=?_) (q:=?_) (es:=?_) (cs:=?_) (vs:=?_) (es':=?_) ?h1 ?h2 ?h3 ?h4 ?h5 ?h6 ?h7 ?_;case h1|h2|h3|h4|h5|h6|h7=>((try simp only[r4,r8,o4,o8,c1,Option.isSome_some,Option.getD_some,cfC,List.take_succ_cons,List.take_zero,List.drop_succ_cons,List.drop_zero,go_sem])<;>rfl)))));refine .inr ⟨rfl,?_⟩;refine RT r4 ?_;exact Qp rfl rfl
   ·have hd2:decide ((j:Int) < (l'.length:Int))=false:=decide_eq_false OM;rw[List.drop_eq_nil_of_le OM,List.findSome?_nil,Option.none_or] at hpr;refine RN (Ad3 r31 r32 hd2) ?_;exact .inl ⟨rfl,hpr,Z1 r1,Z1 r2,Z1 r4,Z1 r6,Z1 r20,Z1 r21,Z1 r22,Z1 o2,Z1 o4⟩
  clear r1 r2 r4 r6 r20 r21 r22 o2 o4 hpr;rintro e o ⟨hpr,r1,r2,r4,r6,r20,r21,r22,o2,o4⟩;refine RN (Ad2 r22 hw) ?_
  exact⟨r - 1,OM,i+1,OM,by rw[hl'];exact hpr,Z1 r1,Z1 r2,Z1 r4,Z1 r6,Z1 r20,Z1 r21,Z0,Z1 o2,Z1 o4⟩
 ·have hd:decide ((i:Int) < (l.length:Int))=false:=decide_eq_false OM;rw[List.drop_eq_nil_of_le OM,prF] at hpr;rw[← hpr];refine RT (Ad5 r4 r21 r22 o4 hd) ?_;exact Qp rfl rfl
def Qfl (A:Au):Option Fk:=(W0 A).or ((List.range A.moves.length).findSome? (Yi A))
def Qbb (h:i < n):(List.range n).drop i=i::(List.range n).drop (i+1):=by
 rw[List.drop_eq_getElem_cons (by simpa using h),List.getElem_range]
set_option maxHeartbeats 4000000 in
def Qgy (hW:WF A) (hf:A.first.length≤1000) (hL:∀ l∈A.moves,l.length < 2147483648):Pu F 12 [.ag (auC A)] (fkV (Qfl A)):=by
 have h1:=QdW hW hf;have h2:=fun {at_:Nat} (ha:at_ < A.moves.length)=>Qdm hW hL ha;have hml:A.moves.length≤41:=by rw[hW.lm];exact hW.n
 refine Qh e12 rfl rfl (by simp only[go_sem,Bool.and_true]) ?_;dsimp only[fn12,c12];unfold Qfl;generalize W0 A=fr at h1 ⊢;rcases fr with _|⟨⟨ca,cb,cc,cd,ce⟩,p,q,b⟩
 ·have h1:Pu F 21 [.ag (auC A)] (.tp [.ag [.i .i64 0,.i .i64 0,.i .i64 0,.i .i64 0,.i .i64 0,.i .i64 0,.i .i64 0,.i .u8 0],.bo false]):=h1;rw[Option.none_or];refine RT trivial ?_;refine PRT trivial (r:=.tp [.ag [.i .i64 0,.i .i64 0,.i .i64 0,.i .i64 0,.i .i64 0,.i .i64 0,.i .i64 0,.i .u8 0],.bo false]) h1 ?_;refine RT trivial ?_;refine U_lp (fun r e o=>∃ i:Nat,i+r=A.moves.length∧((List.range A.moves.length).drop i).findSome? (Yi A)=(List.range A.moves.length).findSome? (Yi A)∧e 1=.pt 1 0 0∧e 2=.pt 2 0 0∧e 18=.i .i64 A.moves.length∧e 19=.i .i64 i∧o 1=some (.row 15 [auC A])∧o 2=some (.row 8 [[.i .i64 0,.i .i64 0,.i .i64 0,.i .i64 0,.i .i64 0,.i .i64 0,.i .i64 0,.i .u8 0]])) (k:=A.moves.length) ?_ (Qa F) ?_
  ·exact⟨0,OM,by rw[List.drop_zero],Z0,Z0,by simp only[List.length_map,go_sem],Zr0,by simp only[List.take_succ_cons,List.take_zero,List.drop_succ_cons,List.drop_zero,go_sem],by simp only[List.take_succ_cons,List.take_zero,List.drop_succ_cons,List.drop_zero,go_sem]⟩
  rintro r e o ⟨i,hir,hpr,r1,r2,r18,r19,o1,o2⟩;dsimp only[QlE];by_cases hi:i < A.moves.length
  ·have hd:decide ((i:Int) < (A.moves.length:Int))=true:=decide_eq_true OM;have hip:(0:Int)≤(i:Int):=by omega
   have hw:=Zu (i:=i) OM;have hB:=h2 hi;rw[Qbb hi,List.findSome?_cons] at hpr;generalize Yi A i=br at hB hpr;rcases br with _|⟨⟨ca,cb,cc,cd,ce⟩,p,q,b⟩
   ·have hB:Pu F 22 [.ag (auC A),.i .i64 i] (.tp [.ag [.i .i64 0,.i .i64 0,.i .i64 0,.i .i64 0,.i .i64 0,.i .i64 0,.i .i64 0,.i .u8 0],.bo false]):=hB;dsimp only at hpr;refine RT (Ad5 r1 r18 r19 o1 hd) ?_;refine PRT trivial (r:=.tp [.ag [.i .i64 0,.i .i64 0,.i .i64 0,.i .i64 0,.i .i64 0,.i .i64 0,.i .i64 0,.i .u8 0],.bo false]) hB ?_;refine RT (Ad2 r19 hw) ?_
    exact⟨r - 1,OM,i+1,OM,hpr,Z1 r1,Z1 r2,Z1 r18,Z0,Z1 o1,Z1 o2⟩
   ·have hB:Pu F 22 [.ag (auC A),.i .i64 i] (.tp [.ag [.i .i64 ca,.i .i64 cb,.i .i64 cc,.i .i64 cd,.i .i64 ce,.i .i64 p,.i .i64 q,.i .u8 b],.bo true]):=hB;dsimp only at hpr;rw[← hpr];refine RT (Ad5 r1 r18 r19 o1 hd) ?_;refine PRT trivial (r:=.tp [.ag [.i .i64 ca,.i .i64 cb,.i .i64 cc,.i .i64 cd,.i .i64 ce,.i .i64 p,.i .i64 q,.i .u8 b],.bo true]) hB ?_;refine RT (Ad2 r2 o2) ?_;exact Qp rfl rfl
  ·have hd:decide ((i:Int) < (A.moves.length:Int))=false:=decide_eq_false OM;rw[List.drop_eq_nil_of_le (by simp;omega),List.findSome?_nil] at hpr;rw[← hpr];refine RT (Ad5 r2 r18 r19 o2 hd) ?_;exact Qp rfl rfl
 ·have h1:Pu F 21 [.ag (auC A)] (.tp [.ag [.i .i64 ca,.i .i64 cb,.i .i64 cc,.i .i64 cd,.i .i64 ce,.i .i64 p,.i .i64 q,.i .u8 b],.bo true]):=h1;rw[Option.some_or];refine RT trivial ?_;refine PRT trivial (r:=.tp [.ag [.i .i64 ca,.i .i64 cb,.i .i64 cc,.i .i64 cd,.i .i64 ce,.i .i64 p,.i .i64 q,.i .u8 b],.bo true]) h1 ?_;refine RT trivial ?_;exact Qp rfl rfl
def Qb8 (d:Nat) (es:List (List V)):∀ (v:V),cls1 v=true→still d es v=v:=by
 have main:(∀ v:V,cls1 v=true→still d es v=v):=by
  intro v;exact V.rec (motive_1:=fun v=>cls1 v=true→still d es v=v) (motive_2:=fun cs=>Zc cs=true→ZB d es cs=cs) (motive_3:=fun _=>True)
   (fun _=>rfl) (fun _ _=>rfl) (fun _ _ _=>rfl) (fun _ _=>rfl)
   (fun cs ih h=>by rw[cls1] at h;rw[still,ih h]) (fun cs ih h=>by rw[cls1] at h;rw[still,ih h])
   (fun _=>rfl) (fun _ _ _=>rfl) (fun _ _ _ _ h=>by rw[cls1] at h;cases h) (fun _ _ _ _ h=>by rw[cls1] at h;cases h) (fun _ _ _ h=>by rw[cls1] at h;cases h)
   (fun _ _ _ _=>rfl) (fun _=>rfl) (fun g cs ih h=>by rw[cls1] at h;rw[still,ih h]) (fun _=>rfl) (fun _ h=>by rw[cls1] at h;cases h) (fun _=>rfl) (fun _ h=>by rw[cls1] at h;cases h)
   (fun _=>rfl) (fun v vs ih1 ih2 h=>by rw[Zc,Bool.and_eq_true] at h;rw[ZB,ih1 h.1,ih2 h.2]) trivial (fun _ _ _ _=>trivial) v
 exact main
def XU (d:Nat) (es:List (List V)) {cs:List V} (h:Zc cs=true):ZB d es cs=cs:=by
 induction cs with
 | nil=>rfl
 | cons v cs ih =>
  rw[Zc,Bool.and_eq_true] at h;rw[ZB,Qb8 d es v h.1,ih h.2]
def Qa6 (d:Nat) (fs:List (List V)) (h:es.all Zc=true):es.map (ZB d fs)=es:=by
 induction es with
 | nil=>rfl
 | cons c es ih =>
  rw[List.all_cons,Bool.and_eq_true] at h;rw[List.map_cons,XU d fs h.1,ih h.2]
def Own.st {s d:Nat} {L:List (List V)} (hn:(s==d)=false) (h:Own o s sz L):Own (ZK d es o) s sz L:=⟨h.c,fun hl=>by
 rw[XZ _ _ _ _ hn,h.h hl,Option.bind_some,YH,Qa6 d es h.c]⟩
def Ql3 (A:Au) (d:Nat) (es:List (List V)):ZB d es (auC A)=auC A:=XU d es (by obtain⟨⟨ak,as_,ap,al,ah⟩,S,Cs,R,Fi,Mo,La,Em⟩:=A;rfl)
def rowF (i top:Nat) (c:Cf):List Cf:=(List.range top).map fun k=>c.setC i ((k+1:Nat):Int)
def allN (A:Au) (at_ most:Nat):Nat→Option (List Cf)
 | 0=>some [⟨at_,0,0,0,0⟩]
 | n+1=>match allN A at_ most n with
  | none=>none
  | some out=>if topS ((scAt A at_)[n]?.getD (0,0)) > 100∨(out.length:Int)*topS ((scAt A at_)[n]?.getD (0,0)) > most then none else some (out.flatMap (rowF n (topS ((scAt A at_)[n]?.getD (0,0))).toNat))
def allF (A:Au) (at_ most:Nat):Option (List Cf):=allN A at_ most (arAt A at_).length
theorem H5 {A:Au} {at_ most i:Nat} (h:allN A at_ most i=none):∀ d,allN A at_ most (i+d)=none
 | 0=>h
 | d+1=>by
  have:=H5 h d
  rw[← Nat.add_assoc,allN,this]
def QgE (h:scOk s):1≤topS s∧topS s≤2147483647∧(if s.1 > s.2 then s.1 else s.2)=topS s:=by
 obtain⟨h1,h2,h3⟩:=h;unfold topS;rcases h3 with⟨h3,h4⟩|⟨h3,h4,h5⟩
 ·rw[if_pos OM,if_pos OM];omega
 ·rw[if_neg OM,if_neg OM];omega
def QbU (i n:Nat) (c:Cf):rowF i (n+1) c=rowF i n c++[c.setC i ((n+1:Nat):Int)]:=by simp [rowF,List.range_succ]
def DA (i n:Nat) (c:Cf):(rowF i n c).length=n:=by simp [rowF]
theorem JU (i n:Nat):∀ (l:List Cf),(l.flatMap (rowF i n)).length=l.length*n
 | []=>by simp
 | c::l=>by rw[List.flatMap_cons,List.length_append,DA,JU,List.length_cons,Nat.add_mul,Nat.one_mul];omega
def Qgv (h:l≠[]) (hn:1≤n):l.flatMap (rowF i n)≠[]:=by
 intro he
 have:=JU i n l
 rw[he,List.length_nil] at this;have h2:1≤l.length:=by cases l with|nil=>exact absurd rfl h|cons=>simp
 have:=Nat.mul_le_mul h2 hn
 omega
def QmB (h:i < l.length):(l.map cfC)[i]?=some (cfC l[i]):=by rw[List.getElem?_map,List.getElem?_eq_getElem h];rfl
def QmJ (l:List Cf):okLL (l.map cfC)=true:=List.all_eq_true.2 fun c hc=>by obtain⟨x,_,rfl⟩:=List.mem_map.1 hc;rfl
def allV:Option (List Cf)→V
 | some l=>.tp [.sl (l.map cfC),.bo true]
 | none=>.tp [.sl [],.bo false]
set_option maxRecDepth 5000 in
set_option maxHeartbeats 8000000 in
def Qj3 (hW:WF A) {most:Nat} (hla:at_ < A.around.length) (hm:most≤1000):Pu F 7 [.ag (auC A),.i .i64 at_,.i .i64 most] (allV (allF A at_ most)):=by
 have gR:=Qd5 hla;have hap:(0:Int)≤(at_:Int):=by omega
 have ha4:(arAt A at_).length≤4:=hW.a4 _ (by rw[arAt,List.getElem?_eq_getElem hla];exact List.getElem_mem hla);have hai:∀ s∈arAt A at_,s < A.scopes.length:=hW.ai _ (by rw[arAt,List.getElem?_eq_getElem hla];exact List.getElem_mem hla);refine Qh e7 rfl rfl (by simp only[go_sem,Bool.and_true]) ?_;dsimp only[fn7,c7];refine RT trivial ?_;refine U_lp (fun r e o=>∃ (i:Nat) (out:List Cf),i+r=(arAt A at_).length∧allN A at_ most i=some out∧out≠[]∧out.length≤1000∧e 1=.i .i64 at_∧e 2=.i .i64 most∧e 3=.pt 3 0 0∧e 8=ownV 18 5 (out.map cfC)∧Own o 18 5 (out.map cfC)∧e 9=.i .i64 i∧o 3=some (.row 15 [auC A])) (k:=(arAt A at_).length) ?_ (Qa F) ?_
 ·exact⟨0,[⟨at_,0,0,0,0⟩],OM,rfl,SM,SM,Z0,Z0,Z0,Zr0,Own.to rfl,Zr0,by simp only[List.take_succ_cons,List.take_zero,List.drop_succ_cons,List.drop_zero,go_sem]⟩
 rintro r e o ⟨i,out,hir,hal,hne,hol,r1,r2,r3,r8,ho8,r9,o3⟩;dsimp only[b7_2];have hn0:out.map cfC≠[]:=by simpa using hne
 have hst:=HX 18 5 hn0;refine ZM ?_;refine ZM ?_;refine Qac 18 (sz:=5) (es:=out.map cfC) (ho8.h hn0) (QmJ _) ?_;generalize hO:ZK 18 (out.map cfC) o=O;have o3':O 3=some (.row 15 [auC A]):=by rw[← hO];simp only[o3,Ql3,go_sem]
 generalize hE:Wq 18 (out.map cfC) e=E1;have k1:E1 1=.i .i64 at_:=by rw[← hE];simp only[r1,go_sem]
 have k2:E1 2=.i .i64 most:=by rw[← hE];simp only[r2,go_sem]
 have k3:E1 3=.pt 3 0 0:=by rw[← hE];simp only[r3,go_sem]
 have k8:E1 8=.sl (out.map cfC):=by rw[← hE];simp only[r8,hst,go_sem]
 have k9:E1 9=.i .i64 i:=by rw[← hE];simp only[r9,go_sem]
 clear hE hO r1 r2 r3 r8 ho8 r9 o3 hst;by_cases hi:i < (arAt A at_).length
 ·have hd:decide ((i:Int) < ((arAt A at_).length:Int))=true:=decide_eq_true OM;have hip:(0:Int)≤(i:Int):=by omega
  have hw:=Zu (i:=i) OM;have gI:=VV hi;have hsl:=hai _ (List.getElem_mem hi);have hsc:(scAt A at_)[i]?.getD (0,0)=scI A (arAt A at_)[i]:=by
   simp [scAt,List.getElem?_eq_getElem hi]
  generalize (arAt A at_)[i]=s at gI hsl hsc;have gS:=QhJ hsl;have hok:scOk (scI A s):=hW.sc _ (by rw[scI,List.getElem?_eq_getElem hsl];exact List.getElem_mem hsl);have hsp:(0:Int)≤(s:Int):=by omega
  obtain⟨t1,t2,t3⟩:=QgE hok;have hag1:allN A at_ most (i+1)=if topS (scI A s) > 100∨(out.length:Int)*topS (scI A s) > most then none else some (out.flatMap (rowF i (topS (scI A s)).toNat)):=by
   rw[allN,hal];simp only[hsc]
  generalize topS (scI A s)=top at t1 t2 t3 hag1;obtain⟨T,rfl⟩:∃ T:Nat,top=(T:Int):=⟨top.toNat,OM⟩;rw[Int.toNat_natCast] at hag1;have hnone:allN A at_ most (i+1)=none→allF A at_ most=none:=fun h=>by
   obtain⟨d,hdd⟩:∃ d,(arAt A at_).length=i+1+d:=⟨(arAt A at_).length - (i+1),OM⟩;rw[allF,hdd];exact H5 h d
  by_cases hT:(T:Int) > 100
  ·have c1:decide ((T:Int) > 100)=true:=decide_eq_true hT;rw[if_pos (.inl hT)] at hag1;rw[hnone hag1];refine RT (Ad2 k1 (Ad5 k3 k8 k9 o3' (Ad5 gR gI gS hap (Ad5 hip hsp hd t3 c1)))) ?_;rfl
  have c1:decide ((T:Int) > 100)=false:=decide_eq_false hT;have hT1:T≤100:=by omega
  have hT0:1≤T:=by omega
  have hmN:out.length*T≤1000*100:=Nat.mul_le_mul hol hT1;have hcast:(out.length:Int)*(T:Int)=((out.length*T:Nat):Int):=by push_cast;rfl
  have hwm:IntKind.i64.wrap ((out.length:Int)*(T:Int))=(out.length:Int)*(T:Int):=Qi OM OM;by_cases hM:(out.length:Int)*(T:Int) > most
  ·have c2:decide ((out.length:Int)*(T:Int) > (most:Int))=true:=decide_eq_true hM;rw[if_pos (.inr hM)] at hag1;rw[hnone hag1];refine RT (Ad5 k1 k2 k3 k8 (Ad5 k9 o3' gR gI (Ad5 gS hap hip hsp (Ad5 hd t3 c1 c2 hwm)))) ?_;rfl
  have c2:decide ((out.length:Int)*(T:Int) > (most:Int))=false:=decide_eq_false hM;rw[if_neg (by rintro (h|h)<;>contradiction)] at hag1;have hTn:out.length*T≤1000:=by omega
  refine RT (Ad5 k1 k2 k3 k8 (Ad5 k9 o3' gR gI (Ad5 gS hap hip hsp (Ad5 hd t3 c1 c2 hwm)))) ?_;clear hM c2 hnone hwm hcast hmN;refine Z4 (fun e o=>e 1=.i .i64 at_∧e 2=.i .i64 most∧e 3=.pt 3 0 0∧e 9=.i .i64 i∧e 12=ownV 18 5 ((out.flatMap (rowF i T)).map cfC)∧Own o 18 5 ((out.flatMap (rowF i T)).map cfC)∧o 3=some (.row 15 [auC A])) ?_ ?_
  ·refine U_lp (fun r e o=>∃ (k:Nat) (nx:List Cf),k+r=out.length∧nx=(out.take k).flatMap (rowF i T)∧e 1=.i .i64 at_∧e 2=.i .i64 most∧e 3=.pt 3 0 0∧e 8=.sl (out.map cfC)∧e 9=.i .i64 i∧e 11=.i .i64 T∧e 12=ownV 18 5 (nx.map cfC)∧Own o 18 5 (nx.map cfC)∧e 13=.i .i64 k∧o 3=some (.row 15 [auC A])) (k:=out.length) ?_ (Qa F) ?_
   ·exact⟨0,[],OM,SM,Z1 k1,Z1 k2,Z1 k3,Z1 k8,Z1 k9,Z0,Zr0,⟨rfl,fun h=>absurd rfl h⟩,Zr0,Z1 o3'⟩
   clear k1 k2 k3 k8 k9 o3';rintro r' e o ⟨k,nx,hkr,hnx,r1,r2,r3,r8,r9,r11,r12,ho12,r13,o3⟩;dsimp only[b7_1];by_cases hk:k < out.length
   ·have hd2:decide ((k:Int) < (out.length:Int))=true:=decide_eq_true OM;have hkp:(0:Int)≤(k:Int):=by omega
    have hwk:=Zu (i:=k) OM;have gC:=QmB hk;have hnl:nx.length=k*T:=by rw[hnx,JU,List.length_take];congr 1;omega
    have hns:nx++rowF i T out[k]=(out.take (k+1)).flatMap (rowF i T):=by
     rw[List.take_add_one,List.getElem?_eq_getElem hk,List.flatMap_append,hnx];simp
    have hkT:(k+1)*T≤out.length*T:=Nat.mul_le_mul_right _ OM;rw[Nat.add_mul,Nat.one_mul] at hkT;generalize out[k]=c at gC hns;clear hnx;refine RT (Ad3 r8 r13 hd2) ?_;refine Z4 (fun e o=>e 1=.i .i64 at_∧e 2=.i .i64 most∧e 3=.pt 3 0 0∧e 8=.sl (out.map cfC)∧e 9=.i .i64 i∧e 11=.i .i64 T∧e 12=ownV 18 5 ((nx++rowF i T c).map cfC)∧Own o 18 5 ((nx++rowF i T c).map cfC)∧e 13=.i .i64 k∧o 3=some (.row 15 [auC A])) ?_ ?_
    ·refine U_lp (fun r e o=>∃ (n:Nat) (ny:List Cf),n+r=T∧ny=nx++rowF i n c∧e 1=.i .i64 at_∧e 2=.i .i64 most∧e 3=.pt 3 0 0∧e 8=.sl (out.map cfC)∧e 9=.i .i64 i∧e 11=.i .i64 T∧e 12=ownV 18 5 (ny.map cfC)∧Own o 18 5 (ny.map cfC)∧e 13=.i .i64 k∧e 14=.i .i64 (n+1:Nat)∧o 3=some (.row 15 [auC A])) (k:=T) ?_ (Qa F) ?_
     ·exact⟨0,nx,OM,by simp [rowF],Z1 r1,Z1 r2,Z1 r3,Z1 r8,Z1 r9,Z1 r11,Z1 r12,by (repeat first|with_reducible assumption|refine .up rfl ?_|refine .sw rfl ?_|refine .swN rfl ?_),Z1 r13,Zr0,Z1 o3⟩
     clear r1 r2 r3 r8 r9 r11 r12 ho12 r13 o3;rintro r2' e o ⟨n,ny,hnr,hny,r1,r2,r3,r8,r9,r11,r12,ho12,r13,r14,o3⟩;dsimp only[b7_0];by_cases hn:n < T
     ·have hd3:decide (((n+1:Nat):Int)≤(T:Int))=true:=decide_eq_true OM;have hwn:=Zu (i:=n+1) OM;have hi4:i < 4:=by omega
      have hil:(i:Int) < 4:=by omega
      have hspl:=Qcc c ((n+1:Nat):Int) hi4;have hget:=DV c hi4;have hnyl:ny.length=k*T+n:=by rw[hny,List.length_append,hnl,DA]
      have hnys:ny++[c.setC i ((n+1:Nat):Int)]=nx++rowF i (n+1) c:=by rw[QbU,← List.append_assoc,hny]
      clear hny;have hm:(ny++[c.setC i ((n+1:Nat):Int)]).map cfC=ny.map cfC++[cfC (c.setC i ((n+1:Nat):Int))]:=by simp
      refine RT (Ad2 r8 (Ad5 r9 r11 r13 r14 (Ad5 hd3 gC hkp hip hil))) ?_;refine Wd (id:=15) (i:=0) (j:=1+i) (q:=5) (es:=[cfC c]) (cs:=cfC c) (vs:=[.i .i64 (n+1:Nat)]) (es':=[cfC (c.setC i ((n+1:Nat):Int))]) (Z0) (Z0) rfl (Z0) rfl (by rw[J0];simp;omega) (by rw[← hspl];rfl) ?_;refine RT r12 ?_;refine YO 18 (L:=ny.map cfC) (ys:=[cfC (c.setC i ((n+1:Nat):Int))]) (Z1 r12) ?_ (by (simp only[src,go_sem]<;>rfl)) (by simp [J0]) SM OM ⟨by simp;omega,OM⟩ (Q4 _ ho12.c) rfl ?_
      ·exact Own.h (by (repeat first|with_reducible assumption|refine .up rfl ?_|refine .sw rfl ?_|refine .swN rfl ?_))
      refine RN (Ad2 r14 hwn) ?_
      exact⟨r2' - 1,OM,n+1,_,OM,hnys,Z1 r1,Z1 r2,Z1 r3,Z1 r8,Z1 r9,Z1 r11,by rw[hm];simp only[go_sem],by rw[hm];exact Own.to (by rw[← hm];exact Kh _),Z1 r13,Z0,Z1 o3⟩
     ·have hd3:decide (((n+1:Nat):Int)≤(T:Int))=false:=decide_eq_false OM;have hnT:n=T:=by omega
      subst hnT;subst hny;refine RN (Ad3 r11 r14 hd3) ?_
      exact⟨rfl,Z1 r1,Z1 r2,Z1 r3,Z1 r8,Z1 r9,Z1 r11,Z1 r12,by (repeat first|with_reducible assumption|refine .up rfl ?_|refine .sw rfl ?_|refine .swN rfl ?_),Z1 r13,Z1 o3⟩
    clear r1 r2 r3 r8 r9 r11 r12 ho12 r13 o3;rintro e o ⟨r1,r2,r3,r8,r9,r11,r12,ho12,r13,o3⟩;refine RN (Ad2 r13 hwk) ?_
    exact⟨r' - 1,OM,k+1,_,OM,hns,Z1 r1,Z1 r2,Z1 r3,Z1 r8,Z1 r9,Z1 r11,Z1 r12,by (repeat first|with_reducible assumption|refine .up rfl ?_|refine .sw rfl ?_|refine .swN rfl ?_),Z0,Z1 o3⟩
   ·have hd2:decide ((k:Int) < (out.length:Int))=false:=decide_eq_false OM;have hko:k=out.length:=by omega
    rw[hko,List.take_length] at hnx;subst hnx;refine RT (Ad3 r8 r13 hd2) ?_
    exact⟨rfl,Z1 r1,Z1 r2,Z1 r3,Z1 r9,Z1 r12,by (repeat first|with_reducible assumption|refine .up rfl ?_|refine .sw rfl ?_|refine .swN rfl ?_),Z1 o3⟩
  clear k1 k2 k3 k8 k9 o3';rintro e o ⟨r1,r2,r3,r9,r12,ho12,o3⟩;refine RN (Ad3 r9 r12 hw) ?_
  exact⟨r - 1,OM,i+1,_,OM,hag1,Qgv hne hT0,by rw[JU];exact hTn,Z1 r1,Z1 r2,Z1 r3,Z1 r12,by (repeat first|with_reducible assumption|refine .up rfl ?_|refine .sw rfl ?_|refine .swN rfl ?_),Z0,Z1 o3⟩
 ·have hd:decide ((i:Int) < ((arAt A at_).length:Int))=false:=decide_eq_false OM;have hin:i=(arAt A at_).length:=by omega
  rw[hin] at hal;rw[allF,hal];refine RT (Ad4 k1 k3 k8 (Ad5 k9 o3' gR hap hd)) ?_;exact Qp rfl rfl
def Qmn (A:Au) (l:List Cf) (x y:Mv):Option Cf:=l.find? fun c=>(mayF A c x).isSome&&(mayF A c y).isSome
end Go.Proofs.YtklbhcjmaeedhaaGreatDoor
