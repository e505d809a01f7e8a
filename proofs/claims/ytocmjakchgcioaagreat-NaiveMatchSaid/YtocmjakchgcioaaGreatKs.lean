import Derived.Test.YtocmjakchgcioaaGreatKr

namespace Go.Proofs.YtocmjakchgcioaaGreat
set_option linter.all false
variable {A:Au} {k:Nat} {N:List Cf}
attribute [-go_sem] Qp Qb rfOb V.cells
structure OnAt (A:Au) (b:Nat) (Y:List Cf) (L:List Cf):Prop where
 nd:L.Nodup
 mem:∀ y,y∈L↔∃ x∈Y,y∈YF A x b
def Qcu (x:Cf) (b:Nat) (y:Cf):y∈rstL A x b (mvAt A x.p.toNat)↔y∈YF A x b:=by
 obtain⟨_,_,k3⟩:=X6 A x b (mvAt A x.p.toNat) [] List.nodup_nil;rw[YF,YJ]
 have:=k3 y
 simpa [rstL] using this
def QhW (hL:∀ l∈A.moves,l.length < 2147483648) (x:Cf) (b:Nat):(rstL A x b (mvAt A x.p.toNat)).length < 4294967296:=by
 obtain⟨_,k2,_⟩:=X6 A x b (mvAt A x.p.toNat) [] List.nodup_nil;have h3:(mvAt A x.p.toNat).length < 2147483648:=by
  unfold mvAt;cases h:A.moves[x.p.toNat]? with
  | none=>simp
  | some l=>exact hL l (List.mem_of_getElem? h)
 unfold rstL;rw[List.length_nil] at k2;omega
def nmO (n:Nat):Ob:=.row 1 [[.i .i64 (n:Int)]]
def Qhu (d n:Nat):Qp d (nmO n)=some (nmO n):=rfl
attribute [go_sem] Qhu
def Q9 (A:Au) (w:List Nat):Nat→Nat
 | 0=>0
 | k+1=>max (Q9 A w k) (sdC (bhF A w (k+1))).length
def WkOf.most {w:List Nat} {L:List (Cf × Int)} (h:WkOf A w (k+1) L):max (Q9 A w k) L.length=Q9 A w (k+1):=by
 have:L.length=(sdC (bhF A w (k+1))).length:=by
  rw[QeR (m:=keyF L) h.nd h.mem,keyF,List.length_map]
 rw[Q9,this]
def addL (acc R:List Cf):List Cf:=R.foldl (fun acc y=>if y∈acc then acc else acc++[y]) acc
def QaQ (acc R:List Cf) (y:Cf):addL acc (R++[y])=if y∈addL acc R then addL acc R else addL acc R++[y]:=by unfold addL;rw[List.foldl_append];rfl
theorem HU:∀ (R acc:List Cf),acc.Nodup→(addL acc R).Nodup∧∀ y,y∈addL acc R↔y∈acc∨y∈R
 | [],acc,h=>⟨h,fun y=>by simp [addL]⟩
 | x::R,acc,h=>by
  have h1:(if x∈acc then acc else acc++[x]).Nodup∧∀ y,y∈(if x∈acc then acc else acc++[x])↔y∈acc∨y=x:=by
   by_cases hx:x∈acc
   ·rw[if_pos hx]
    refine⟨h,fun y=>⟨.inl,?_⟩⟩
    rintro (h|rfl)
    ·exact h
    ·exact hx
   ·rw[if_neg hx]
    exact⟨List.nodup_append.2 ⟨h,SM,fun a ha c hc=>by simp at hc;subst hc;intro hh;subst hh;exact hx ha⟩,fun y=>by simp⟩
  obtain⟨g1,g2⟩:=HU R _ h1.1
  refine⟨g1,fun y=>?_⟩
  show y∈addL _ R↔_;rw[g2,h1.2,List.mem_cons,or_assoc]
def Yr (A:Au) (b:Nat) (Y:List Cf):List Cf:=Y.foldl (fun acc x=>addL acc (rstL A x b (mvAt A x.p.toNat))) []
def XP (A:Au) (b:Nat) (Y:List Cf) (x:Cf):Yr A b (Y++[x])=addL (Yr A b Y) (rstL A x b (mvAt A x.p.toNat)):=by simp [Yr]
theorem Ko (A:Au) (b:Nat):∀ (n:Nat) (Y:List Cf),Y.length=n→OnAt A b Y (Yr A b Y)
 | 0,Y,h=>by
  obtain rfl:=List.eq_nil_of_length_eq_zero h
  exact⟨List.nodup_nil,by simp [Yr]⟩
 | n+1,Y,h=>by
  have hne:Y≠[]:=fun hh=>by rw[hh] at h;cases h
  obtain⟨Z,x,rfl⟩:∃ Z x,Y=Z++[x]:=⟨Y.dropLast,Y.getLast hne,(List.dropLast_concat_getLast hne).symm⟩;obtain⟨g1,g2⟩:=Ko A b n Z (by simpa using h);obtain⟨k1,k2⟩:=HU (rstL A x b (mvAt A x.p.toNat)) _ g1;rw[XP]
  refine⟨k1,fun y=>?_⟩
  rw[k2,g2,Qcu];constructor
  ·rintro (⟨z,h1,h2⟩|h)
   ·exact⟨z,List.mem_append_left _ h1,h2⟩
   ·exact⟨x,SM,h⟩
  ·rintro⟨z,h1,h2⟩
   rcases List.mem_append.1 h1 with h1|h1
   ·exact .inl ⟨z,h1,h2⟩
   ·rw[List.mem_singleton.1 h1] at h2;exact .inr h2
def refN (A:Au) (w:List Nat):Nat→List Cf
 | 0=>[]
 | k+1=>match w[k]? with
  | none=>[]
  | some b=>if k=0 then begL A b A.first else Yr A b (refN A w k)
theorem WP {A:Au} (hfn:A.first.Nodup) (w:List Nat):∀ k,(refN A w k).Nodup∧∀ y,y∈refN A w k↔y∈bhF A w k
 | 0=>⟨List.nodup_nil,fun y=>Iff.rfl⟩
 | k+1=>by
  rw[refN,bhF];cases w[k]? with
  | none=>exact⟨List.nodup_nil,fun y=>Iff.rfl⟩
  | some b =>
   dsimp only;by_cases h0:k=0
   ·rw[if_pos h0,if_pos h0]
    exact⟨Qby b hfn,fun y=>by rw[begF,YJ]⟩
   ·rw[if_neg h0,if_neg h0];obtain⟨g1,g2⟩:=WP hfn w k;obtain⟨k1,k2⟩:=Ko A b _ (refN A w k) rfl
    exact⟨k1,fun y=>by rw[k2,List.mem_flatMap];simp only[g2]⟩
def LsD (v:V) (N:List Cf):Prop:=v=.sl (N.map cfC)∨(N=[]∧v=.nil)
def LsD.len {v:V} (h:LsD v N):Yc v=some (.i .i64 (N.length:Int)):=by
 rcases h with rfl|⟨rfl,rfl⟩
 ·simp [Yc]
 ·rfl
theorem LsD.sl {v:V} {N:List Cf} (h:LsD v N) (h0:N≠[]):v=.sl (N.map cfC):=by
 rcases h with h|⟨h,_⟩
 ·exact h
 ·exact absurd h h0
structure RbI (A:Au) (w:List Nat) (i:Nat) (N:List Cf) (most:Nat) (e:E) (o:O):Prop where
 e1:e 1=wdV w
 e2:e 2=.pt 2 0 0
 e6:e 6=.sl (N.map cfC)
 e7:e 7=.i .i64 most
 e8:e 8=.i .i64 i
 m2:o 2=some (.row 15 [auC A])
set_option maxHeartbeats 4000000 in
def QmA (hW:WF A) (hL:∀ l∈A.moves,l.length < 2147483648) (w:List Nat) {i:Nat} (hi:i < w.length) (hwl:w.length≤41) (hb:w[i] < 256) (N:List Cf) (most:Nat) (hNr:∀ x∈N,Qv A x=true) (hNl:N.length≤130691232)
  (hSl:∀ L:List Cf,L.Nodup→(∀ y∈L,∃ x∈N,y∈YF A x w[i])→L.length≤130691232) (e:E) (o:O) (h:RbI A w i N most e o) (h9:e 9=.nil) (h10:e 10=.i .i64 0) :
  wpU true (Call F) (.lp Qb9) (fun x e o=>x=.ex 2∧RbI A w i N most e o∧e 9=ownV 61 5 ((Yr A w[i] N).map cfC)∧Own o 61 5 ((Yr A w[i] N).map cfC)) e o:=by
 obtain⟨r1,r2,r6,r7,r8,m2⟩:=h;refine U_lp (fun r e o=>∃ j:Nat,j+r=N.length∧RbI A w i N most e o∧e 9=ownV 61 5 ((Yr A w[i] (N.take j)).map cfC)∧Own o 61 5 ((Yr A w[i] (N.take j)).map cfC)∧e 10=.i .i64 j) (k:=N.length) ?_ (Qa F) ?_
 ·exact⟨0,OM,⟨r1,r2,r6,r7,r8,m2⟩,by rw[h9];rfl,⟨rfl,fun h=>absurd rfl h⟩,h10⟩
 clear r1 r2 r6 r7 r8 m2 h9 h10 e o;rintro r e o ⟨j,hjr,⟨r1,r2,r6,r7,r8,m2⟩,r9,ho,r10⟩;dsimp only[Qb9];refine RT (Ad2 r6 r10) ?_;refine Qg (q:=decide ((j:Int) < (N.length:Int))) (Z0) (fun hc=>?_) (fun hc=>?_)
 ·have hj:j < N.length:=by simpa using hc
  have hjp:(0:Int)≤(j:Int):=by omega
  have hip:(0:Int)≤(i:Int):=by omega
  have hxj:=JD hj;have hxi:=QfU hi;have hw1:=Zw (i:=j) OM;have hxr:=hNr N[j] (List.getElem_mem hj);have hst:=Qen hW hL hxr hb;have hrm:=Qcu (A:=A) N[j] w[i];have hrl:=QhW hL N[j] w[i];have hNj:N[j]∈N:=List.getElem_mem hj;have htk:Yr A w[i] (N.take (j+1))=addL (Yr A w[i] (N.take j)) (rstL A N[j] w[i] (mvAt A N[j].p.toNat)):=by
   rw[← XP,List.take_add_one,List.getElem?_eq_getElem hj];rfl
  obtain⟨n1,n2⟩:=Ko A w[i] _ (N.take j) rfl;have hTN:∀ x∈N.take j,x∈N:=fun x hx=>List.mem_of_mem_take hx;generalize N[j]=x at hxj hst hrm hrl hNj htk;generalize Yr A w[i] (N.take j)=L at r9 ho htk n1 n2;generalize rstL A x w[i] (mvAt A x.p.toNat)=R at hst hrm hrl htk;refine RT (Ad3 r1 r2 (Ad5 r6 r8 r10 m2 (Ad5 wdV.eq_1 hip hjp hxj hxi))) ?_;refine PCT (Ad2 r2 m2) (r:=.sl (R.map cfC)) hst ?_;refine RT trivial ?_;refine U_lp (fun q e o=>∃ k:Nat,k+q=R.length∧RbI A w i N most e o∧e 9=ownV 61 5 ((addL L (R.take k)).map cfC)∧Own o 61 5 ((addL L (R.take k)).map cfC)∧e 10=.i .i64 j∧e 11=.sl (R.map cfC)∧e 12=.i .i64 k) (k:=R.length) ?_ (Qa F) ?_
  ·exact⟨0,OM,⟨Z1 r1,Z1 r2,Z1 r6,Z1 r7,Z1 r8,Z1 m2⟩,Zr1 r9,by rw[List.take_zero];exact (show Own _ 61 5 (L.map cfC) by (repeat first|with_reducible assumption|refine .up rfl ?_|refine .sw rfl ?_|refine .swN rfl ?_)),Z1 r10,Z0,Zr0⟩
  clear r1 r2 r6 r7 r8 m2 r9 ho r10;rintro q e o ⟨k,hkq,⟨r1,r2,r6,r7,r8,m2⟩,r9,ho,r10,r11,r12⟩;dsimp only[Qjg];obtain⟨a1,a2⟩:=HU (R.take k) L n1;have hal:(addL L (R.take k)).length≤130691232:=hSl _ a1 fun y hy=>by
   rcases (a2 y).1 hy with h|h
   ·obtain⟨z,h1,h2⟩:=(n2 y).1 h
    exact⟨z,hTN z h1,h2⟩
   ·exact⟨x,hNj,(hrm y).1 (List.mem_of_mem_take h)⟩
  refine RT (Ad2 r11 r12) ?_;refine Qg (q:=decide ((k:Int) < (R.length:Int))) (Z0) (fun hc2=>?_) (fun hc2=>?_)
  ·have hk:k < R.length:=by simpa using hc2
   have hkp:(0:Int)≤(k:Int):=by omega
   have hxk:=JD hk;have hwk:=Zw (i:=k) OM;have htj:addL L (R.take (k+1))=if R[k]∈addL L (R.take k) then addL L (R.take k) else addL L (R.take k)++[R[k]]:=by
    rw[← QaQ,List.take_add_one,List.getElem?_eq_getElem hk];rfl
   generalize addL L (R.take k)=L' at r9 ho hal htj;generalize R[k]=y at hxk htj;have hhc:=Qch y L' OM;refine RT (Ad5 r9 r11 r12 hkp hxk) ?_;refine U_pc (vs:=[ownV 61 5 (L'.map cfC),.ag (cfC y)]) (ws:=[.sl (L'.map cfC),.ag (cfC y)]) (r:=.bo (decide (y∈L'))) (Z1 r9) (Do (by (repeat first|with_reducible assumption|refine .up rfl ?_|refine .sw rfl ?_|refine .swN rfl ?_))) (Bool.or_eq_true_iff.2 (.inr rfl)) rfl hhc ?_;by_cases hy:y∈L'
   ·have d1:decide (y∈L')=true:=by simpa using hy
    rw[if_pos hy] at htj;refine RT (Ad3 d1 r12 hwk) ?_
    exact⟨q - 1,OM,k+1,OM,⟨Z1 r1,Z1 r2,Z1 r6,Z1 r7,Z1 r8,Z1 m2⟩,by rw[htj];simp only[r9,go_sem],by rw[htj];(repeat first|with_reducible assumption|refine .up rfl ?_|refine .sw rfl ?_|refine .swN rfl ?_),Z1 r10,Z1 r11,Z0⟩
   ·have d1:decide (y∈L')=false:=by simpa using hy
    rw[if_neg hy] at htj;refine RT (Ad2 d1 (Ad5 r9 r11 r12 hkp hxk)) ?_;refine Yj 61 (L:=L'.map cfC) (ys:=[cfC y]) (Z1 r9) ?_ (by (simp only[src,List.take_succ_cons,List.take_zero,List.drop_succ_cons,List.drop_zero,go_sem]<;>rfl)) (by simp [J7]) SM OM ⟨by simp;omega,OM⟩ (QX _ ho.c) rfl ?_
    ·exact Own.h (by (repeat first|with_reducible assumption|refine .up rfl ?_|refine .sw rfl ?_|refine .swN rfl ?_))
    refine RN (Ad2 r12 hwk) ?_
    refine⟨q - 1,OM,k+1,OM,⟨by simp only[r1,wdV,go_sem],Z1 r2,Z1 r6,Z1 r7,Z1 r8,by simp only[m2,QkZ,go_sem]⟩,by simp only[htj,List.map_append,go_sem],?_,Z1 r10,Z1 r11,Z0⟩
    rw[htj,List.map_append];exact Own.to (by have:=Wd (L'++[y]);rw[List.map_append] at this;exact this)
  ·have hk:k=R.length:=by
    have:¬ k < R.length:=by simpa using hc2
    omega
   subst hk;rw[List.take_length] at r9 ho;refine RN (Ad2 r10 hw1) ?_
   exact⟨r - 1,OM,j+1,OM,⟨Z1 r1,Z1 r2,Z1 r6,Z1 r7,Z1 r8,Z1 m2⟩,by rw[htk];simp only[r9,go_sem],by rw[htk];(repeat first|with_reducible assumption|refine .up rfl ?_|refine .sw rfl ?_|refine .swN rfl ?_),Z0⟩
 ·have hj:j=N.length:=by
   have:¬ j < N.length:=by simpa using hc
   omega
  subst hj;rw[List.take_length] at r9 ho;refine RN trivial ?_
  exact⟨rfl,⟨Z1 r1,Z1 r2,Z1 r6,Z1 r7,Z1 r8,Z1 m2⟩,Z1 r9,by (repeat first|with_reducible assumption|refine .up rfl ?_|refine .sw rfl ?_|refine .swN rfl ?_)⟩
def Kc (hW:WF A) (hfn:A.first.Nodup) (w:List Nat) (hk:k≤41):(refN A w k).length≤130691232:=by
 obtain⟨h1,h2⟩:=WP hfn w k;exact Kn hW hk h1 fun y hy=>(h2 y).1 hy
def KR (hfn:A.first.Nodup) (w:List Nat) (k:Nat):max (Q9 A w k) (refN A w (k+1)).length=Q9 A w (k+1):=by
 obtain⟨h1,h2⟩:=WP hfn w (k+1);rw[Q9,QeR h1 h2]
theorem Dj {A:Au} (hW:WF A) (hfn:A.first.Nodup) (w:List Nat):∀ {k:Nat},k≤41→Q9 A w k≤130691232
 | 0,_=>by simp [Q9]
 | k+1,hk=>by
  rw[← KR hfn]
  have:=Dj hW hfn w (k:=k) OM
  have:=Kc hW hfn w hk
  omega
def Qj4 (l:List Cf):okLL (l.map cfC)=true:=by rw[okLL,List.all_eq_true];intro c hc;obtain⟨x,_,rfl⟩:=List.mem_map.1 hc;rfl
def Qi6 {o:O} {v:V} {n:Int} (h:LsD v N):fzU o (.tp [v,.i .i64 n])=some (.tp [.sl (N.map cfC),.i .i64 n]):=by
 have h1:frzU 23 o v=some (.sl (N.map cfC)):=by rcases h with rfl|⟨rfl,rfl⟩<;>rfl
 have h2:frzU 23 o (.i .i64 n)=some (.i .i64 n):=rfl;show frzU (23+1) o _=_;simp [frzU,h1,h2]
set_option maxHeartbeats 4000000 in
def Qaq (hW:WF A) (hf:A.first.length≤1000) (hfn:A.first.Nodup) (hL:∀ l∈A.moves,l.length < 2147483648) (w:List Nat) (hw:∀ b∈w,b < 256) (hl:w.length≤41):Pu F 16 [.ag (auC A),wdV w] (.tp [.sl ((refN A w w.length).map cfC),.i .i64 (Q9 A w w.length:Nat)]):=by
 refine Qe e16 rfl rfl (by simp only[go_sem,Bool.and_true,wdV]) ?_;dsimp only[fn16,c16];refine RT trivial ?_;refine U_lp (fun r e o=>∃ i:Nat,i+r=w.length∧e 1=wdV w∧e 2=.pt 2 0 0∧LsD (e 6) (refN A w i)∧e 7=.i .i64 (Q9 A w i:Nat)∧e 8=.i .i64 i∧o 2=some (.row 15 [auC A])) (k:=w.length) ?_ (Qa F) ?_
 ·exact⟨0,OM,by simp only[wdV,go_sem],Z0,.inr ⟨rfl,Z0⟩,Zr0,Zr0,Z0⟩
 rintro r e o ⟨i,hir,r1,r2,r6,r7,r8,m2⟩;dsimp only[QkW];refine RT (Ad3 r1 wdV.eq_1 r8) ?_;refine Qg (q:=decide ((i:Int) < (w.length:Int))) (Z0) (fun hc=>?_) (fun hc=>?_)
 ·have hi:i < w.length:=by simpa using hc
  have hip:(0:Int)≤(i:Int):=by omega
  have hb:=hw w[i] (List.getElem_mem hi);have hw1:=Zw (i:=i) OM;have hmo:=KR hfn w i;have hml:=Dj hW hfn w (k:=i+1) OM;have hrN:refN A w (i+1)=if i=0 then begL A w[i] A.first else Yr A w[i] (refN A w i):=by
   rw[refN,List.getElem?_eq_getElem hi]
  by_cases h0:i=0
  ·subst h0;have hx0:=QfU hi;rw[if_pos rfl] at hrN;have hbg:=Qb1 hW hf hb;have hz:Yc (e 6)=some (.i .i64 0):=r6.len;simp only[Yc] at hz;refine RT (Ad2 r1 (Ad5 r2 r8 wdV.eq_1 hx0 m2)) ?_;refine PCT (Ad2 r2 m2) (r:=.sl ((begL A w[0] A.first).map cfC)) hbg ?_;refine RT trivial ?_;refine Z9 (fun e o=>e 1=wdV w∧e 2=.pt 2 0 0∧e 7=.i .i64 (Q9 A w 0:Nat)∧e 8=.i .i64 0∧e 9=.sl ((begL A w[0] A.first).map cfC)∧o 2=some (.row 15 [auC A])) ?_ ?_
   ·refine U_lp (fun r e o=>Yc (e 6)=some (.i .i64 0)∧e 1=wdV w∧e 2=.pt 2 0 0∧e 7=.i .i64 (Q9 A w 0:Nat)∧e 8=.i .i64 0∧e 9=.sl ((begL A w[0] A.first).map cfC)∧e 10=.i .i64 0∧o 2=some (.row 15 [auC A])) (k:=0) ?_ (Qa F) ?_
    ·exact⟨by simp only[Yc];simp only[hz,go_sem],Z1 r1,Z1 r2,Z1 r7,Zr1 r8,Z0,Z0,Z1 m2⟩
    clear r1 r2 r6 r7 r8 m2 hz;rintro r e o ⟨hz,r1,r2,r7,r8,r9,r10,m2⟩;simp only[Yc] at hz;dsimp only[Qb9];refine RN (Ad2 r10 hz) ?_
    exact⟨rfl,Z1 r1,Z1 r2,Z1 r7,Z1 r8,Z1 r9,m2⟩
   rintro e o ⟨r1,r2,r7,r8,r9,m2⟩;have hmx:(if ((begL A w[0] A.first).length:Int) > ((Q9 A w 0:Nat):Int) then ((begL A w[0] A.first).length:Int) else ((Q9 A w 0:Nat):Int))=((Q9 A w (0+1):Nat):Int):=by
    rw[← hmo,hrN];split<;>omega
   refine RT (Ad5 r7 r8 r9 hmx hw1) ?_
   exact⟨r - 1,OM,1,OM,Z1 r1,Z1 r2,.inl (by rw[hrN];simp only[r9,go_sem]),Z1 hmx,Zr0,m2⟩
  ·rw[if_neg h0] at hrN;have c0:((i:Int)==0)=false:=by simp [h0]
   obtain⟨g1,g2⟩:=WP hfn w i;have hNl:=Kc hW hfn w (k:=i) OM;have hNr:∀ x∈refN A w i,Qv A x=true:=fun x hx=>Y1 hW w i x ((g2 x).1 hx);have hSl:∀ L:List Cf,L.Nodup→(∀ y∈L,∃ x∈refN A w i,y∈YF A x w[i])→L.length≤130691232:=fun L h1 h2=>Kn hW (w:=w) (k:=i+1) OM h1 fun y hy=>by
    rw[bhF,List.getElem?_eq_getElem hi];simp only[if_neg h0];obtain⟨x,h3,h4⟩:=h2 y hy;exact List.mem_flatMap.2 ⟨x,(g2 x).1 h3,h4⟩
   clear hrN;have hnx:refN A w (i+1)=Yr A w[i] (refN A w i):=by
    rw[refN,List.getElem?_eq_getElem hi];dsimp only;rw[if_neg h0]
   generalize refN A w i=N at r6 g1 g2 hNl hNr hSl hnx;rw[hnx] at hmo;rcases r6 with r6|⟨rfl,r6⟩
   ·refine RT (Ad4 r1 r2 r8 c0) ?_;refine Z9 (fun e o=>RbI A w i N (Q9 A w i) e o∧e 9=ownV 61 5 ((Yr A w[i] N).map cfC)∧Own o 61 5 ((Yr A w[i] N).map cfC)) (QmA hW hL w hi hl hb N (Q9 A w i) hNr hNl hSl _ _ ⟨Z1 r1,Z1 r2,Z1 r6,Z1 r7,Z1 r8,Z1 m2⟩ (Z0) (Z0)) ?_;clear r1 r2 r6 r7 r8 m2;rintro e o ⟨⟨r1,r2,r6,r7,r8,m2⟩,r9,ho⟩;generalize Yr A w[i] N=L at hmo r9 ho hnx;have hmx:(if (L.length:Int) > ((Q9 A w i:Nat):Int) then (L.length:Int) else ((Q9 A w i:Nat):Int))=((Q9 A w (i+1):Nat):Int):=by
     rw[← hmo];split<;>omega
    by_cases hL0:L=[]
    ·subst hL0;have r9':e 9=.nil:=r9;have hmx:(if (0:Int) > ((Q9 A w i:Nat):Int) then (0:Int) else ((Q9 A w i:Nat):Int))=((Q9 A w (i+1):Nat):Int):=hmx;refine RT (Ad5 r7 r8 r9' hmx hw1) ?_
     exact⟨r - 1,OM,i+1,OM,Z1 r1,Z1 r2,.inr ⟨hnx,Z1 r9'⟩,Z1 hmx,Z0,m2⟩
    ·have hne:(L.map cfC)≠[]:=by simpa using hL0
     refine X_nx ?_;refine ZX ?_;have hst:=Hl 61 5 hne;refine VX 61 (sz:=5) (es:=L.map cfC) (ho.h hne) (Qj4 _) ?_;generalize hO:ZO 61 (L.map cfC) o=O;have m2':O 2=some (.row 15 [auC A]):=by
      have:ZD 61 (L.map cfC) (auC A)=auC A:=QdP _ _ (by obtain⟨⟨ak,as_,ap,al,ah⟩,S,Cs,R,Fi,Mo,La,Em⟩:=A;rfl)
      rw[← hO];simp only[m2,this,go_sem]
     generalize hE:J8 61 (L.map cfC) e=E1;have k1:E1 1=wdV w:=by rw[← hE];simp only[r1,wdV,go_sem]
     have k2:E1 2=.pt 2 0 0:=by rw[← hE];simp only[r2,go_sem]
     have k7:E1 7=.i .i64 (Q9 A w i:Nat):=by rw[← hE];simp only[r7,go_sem]
     have k8:E1 8=.i .i64 i:=by rw[← hE];simp only[r8,go_sem]
     have k9:E1 9=.sl (L.map cfC):=by rw[← hE];simp only[r9,hst,go_sem]
     clear hE hO r1 r2 r6 r7 r8 r9 m2 ho hst;refine RT (Ad5 k7 k8 k9 hmx hw1) ?_
     exact⟨r - 1,OM,i+1,OM,Z1 k1,Z1 k2,.inl (by rw[hnx];simp only[k9,go_sem]),Z1 hmx,Z0,m2'⟩
   ·have hz:Yr A w[i] ([]:List Cf)=[]:=rfl;rw[hz] at hmo;have hmx:(if (0:Int) > ((Q9 A w i:Nat):Int) then (0:Int) else ((Q9 A w i:Nat):Int))=((Q9 A w (i+1):Nat):Int):=by
     rw[← hmo];simp;omega
    refine RT (Ad4 r1 r2 r8 c0) ?_;refine Z9 (fun e o=>e 1=wdV w∧e 2=.pt 2 0 0∧e 7=.i .i64 (Q9 A w i:Nat)∧e 8=.i .i64 i∧e 9=.nil∧o 2=some (.row 15 [auC A])) ?_ ?_
    ·refine U_lp (fun r e o=>e 6=.nil∧e 1=wdV w∧e 2=.pt 2 0 0∧e 7=.i .i64 (Q9 A w i:Nat)∧e 8=.i .i64 i∧e 9=.nil∧e 10=.i .i64 0∧o 2=some (.row 15 [auC A])) (k:=0) ?_ (Qa F) ?_
     ·exact⟨Z1 r6,Z1 r1,Z1 r2,Z1 r7,Z1 r8,Z0,Z0,Z1 m2⟩
     clear r1 r2 r6 r7 r8 m2;rintro r e o ⟨r6,r1,r2,r7,r8,r9,r10,m2⟩;dsimp only[Qb9];refine RN (Ad2 r6 r10) ?_
     exact⟨rfl,Z1 r1,Z1 r2,Z1 r7,Z1 r8,Z1 r9,m2⟩
    clear r1 r2 r6 r7 r8 m2;rintro e o ⟨r1,r2,r7,r8,r9,m2⟩;refine RT (Ad5 r7 r8 r9 hmx hw1) ?_
    exact⟨r - 1,OM,i+1,OM,Z1 r1,Z1 r2,.inr ⟨hnx.trans hz,Z1 r9⟩,Z1 hmx,Z0,m2⟩
 ·have hi:i=w.length:=by
   have:¬ i < w.length:=by simpa using hc
   omega
  subst hi;refine RN r7 ?_;exact Qi6 r6
set_option maxHeartbeats 2000000 in
def Qa1 (hW:WF A) (hf:A.first.length≤1000) (hfn:A.first.Nodup) (hL:∀ l∈A.moves,l.length < 2147483648) (w:List Nat) (hw:∀ b∈w,b < 256) (hl:w.length≤41):Pu F 12 [.ag (auC A),wdV w] (.bo (mtF A w)):=by
 have hrb:Pu F 16 [.ag (auC A),.sl (w.map fun b:Nat=>[V.i .u8 (b:Int)])] (.tp [.sl ((refN A w w.length).map cfC),.i .i64 (Q9 A w w.length:Nat)]):=Qaq hW hf hfn hL w hw hl;obtain⟨g1,g2⟩:=WP hfn w w.length;have hNl:=Kc hW hfn w (k:=w.length) hl;have hNr:∀ x∈refN A w w.length,Qv A x=true:=fun x hx=>Y1 hW w _ x ((g2 x).1 hx);have hmt:w≠[]→mtF A w=(refN A w w.length).any (accB A):=fun h0=>by
  rw[mtF,if_neg h0,Bool.eq_iff_iff,List.any_eq_true,List.any_eq_true];constructor
  ·rintro⟨x,h1,h2⟩;exact⟨x,(g2 x).2 ((YJ _ x).1 h1),h2⟩
  ·rintro⟨x,h1,h2⟩;exact⟨x,(YJ _ x).2 ((g2 x).1 h1),h2⟩
 generalize refN A w w.length=N at hrb g1 g2 hNl hNr hmt;generalize Q9 A w w.length=mo at hrb;refine Qe e12 rfl rfl (by simp only[go_sem,Bool.and_true,wdV]) ?_;dsimp only[fn12,c12];by_cases h0:w=[]
 ·subst h0;(repeat (with_reducible (first|refine Yn ?_|refine ZX ?_|refine YH ?_|refine JU ?_|refine X_nx ?_|refine X_rt ?_|((first|refine U_q (v:=?_) ?h1 ?_|refine U_ld (v:=?_) ?h1 ?_|refine E_1 (v:=?_) ?h1 ?_|refine Jo ?h1 ?_);case h1=>((try simp only[wdV,List.map_nil,List.length_nil,QcQ,List.take_succ_cons,List.take_zero,List.drop_succ_cons,List.drop_zero,go_sem])<;>rfl))|(refine Kx (cs:=?_) (cs':=?_) (n:=?_) ?h1 ?h2 ?h3 ?h4 ?_;case h1|h2|h3|h4=>((try simp only[wdV,List.map_nil,List.length_nil,QcQ,List.take_succ_cons,List.take_zero,List.drop_succ_cons,List.drop_zero,go_sem])<;>rfl)))));exact Qw rfl rfl
 ·have c0:((w.length:Int)==0)=false:=by simp [h0]
  rw[hmt h0];refine RT (Ad2 wdV.eq_1 c0) ?_;refine U_pc (vs:=[.ag (auC A),.sl (w.map fun b:Nat=>[V.i .u8 (b:Int)])]) (ws:=[.ag (auC A),.sl (w.map fun b:Nat=>[V.i .u8 (b:Int)])]) (by simp only[List.take_succ_cons,List.take_zero,List.drop_succ_cons,List.drop_zero,go_sem]) (ZU (by simp only[List.all_cons,List.all_nil,Bool.and_true,go_sem])) (Bool.or_eq_true_iff.2 (.inl (by simp only[clos,List.all_cons,List.all_nil,Bool.and_true,go_sem]))) (by simp only[Bool.and_true,go_sem]) hrb ?_;refine RT trivial ?_;refine U_lp (fun r e o=>∃ i:Nat,i+r=N.length∧e 2=.pt 2 0 0∧e 5=.sl (N.map cfC)∧e 7=.i .i64 i∧o 2=some (.row 15 [auC A])∧∀ x∈N.take i,accB A x=false) (k:=N.length) ?_ (Qa F) ?_
  ·exact⟨0,OM,Z0,Z0,Zr0,Z0,SM⟩
  rintro r e o ⟨i,hir,r2,r5,r7,m2,hp⟩;dsimp only[QkD];refine RT (Ad2 r5 r7) ?_;refine Qg (q:=decide ((i:Int) < (N.length:Int))) (Z0) (fun hc=>?_) (fun hc=>?_)
  ·have hi:i < N.length:=by simpa using hc
   have hip:(0:Int)≤(i:Int):=by omega
   have hx:=JD hi;have hw1:=Zw (i:=i) OM;have hac:=QgC hW N[i] (hNr _ (List.getElem_mem hi));refine RT (Ad2 r2 (Ad5 r5 r7 m2 hip hx)) ?_;refine PRT (Ad2 r2 m2) (r:=.bo (accB A N[i])) hac ?_;refine RN trivial ?_;refine Qg (q:=accB A N[i]) (Z0) (fun hc2=>?_) (fun hc2=>?_)
   ·have h2:N.any (accB A)=true:=List.any_eq_true.2 ⟨N[i],List.getElem_mem _,hc2⟩;refine RN trivial ?_;rw[h2];exact Qw rfl rfl
   ·refine RN (Ad2 r7 hw1) ?_
    refine⟨r - 1,OM,i+1,OM,Z1 r2,Z1 r5,Z0,Z1 m2,fun x hx=>?_⟩
    rw[List.take_add_one,List.getElem?_eq_getElem hi] at hx;rcases List.mem_append.1 hx with hx|hx
    ·exact hp x hx
    ·simp at hx;rw[hx];exact hc2
  ·have hi:i=N.length:=by
    have:¬ i < N.length:=by simpa using hc
    omega
   subst hi;rw[List.take_length] at hp
   have:N.any (accB A)=false:=by
    rw[Bool.eq_false_iff];intro h;obtain⟨x,hx,hx2⟩:=List.any_eq_true.1 h;rw[hp x hx] at hx2;cases hx2
   refine RN trivial ?_;rw[this];exact Qw rfl rfl
def Qaz (hW:WF A) (hfn:A.first.Nodup):A.first.length≤1000:=by
 have:=YR A.first (List.range 41) hfn fun p hp=>List.mem_range.2 (by have:=(hW.f p hp).2;have:=hW.n;omega)
 have:A.first.length≤41:=by simpa using this
 omega
set_option maxHeartbeats 4000000 in
def Qdh (n:Nd) (hs:Zz n) (w:List Nat) (hw:∀ b∈w,b < 256):Pu F 5 [.ag (cel n),wdV w] (.bo true):=by
 have haw:=Qc6;obtain⟨A,ok,hA,hok⟩:=QhD n hs;refine Qe e5 rfl rfl (by simp only[go_sem,Bool.and_true,wdV]) ?_;dsimp only[fn5,c5];refine RT wdV.eq_1 ?_;refine PRT trivial (r:=.bo true) haw ?_;by_cases h1:w.length≤40
 ·have c1:decide ((w.length:Int) > 40)=false:=decide_eq_false OM;refine RT (Ad2 wdV.eq_1 c1) ?_;refine U_pc (vs:=[.ag (cel n)]) (ws:=[.ag (cel n)]) (Z0) (QbE n _) (Bool.or_eq_true_iff.2 (.inl (VZ n))) (by simp only[Bool.and_true,go_sem]) hA ?_;cases ok with
  | false =>
   refine RT trivial ?_;rfl
  | true =>
   obtain⟨hAm,_,hW,hL,_⟩:=hok rfl;have hfn:A.first.Nodup:=by rw[hAm];exact H4 _
   have hf:=Qaz hW hfn;clear hAm hok;have hM:Pu F 11 [.ag (auC A),.sl (w.map fun b:Nat=>[V.i .u8 (b:Int)])] (.bo (mtF A w)):=VM hW hf hL w hw OM;have hR:Pu F 12 [.ag (auC A),.sl (w.map fun b:Nat=>[V.i .u8 (b:Int)])] (.bo (mtF A w)):=Qa1 hW hf hfn hL w hw OM;generalize mtF A w=z at hM hR;refine RT wdV.eq_1 ?_;refine PRT wdV.eq_1 (r:=.bo z) hM ?_;refine RT trivial ?_;refine PRT wdV.eq_1 (r:=.bo z) hR ?_;refine RT trivial ?_;rfl
 ·have c1:decide ((w.length:Int) > 40)=true:=decide_eq_true OM;refine RT (Ad2 wdV.eq_1 c1) ?_;refine PRT trivial (r:=.bo true) haw ?_;refine RT trivial ?_;rfl
end Go.Proofs.YtocmjakchgcioaaGreat
