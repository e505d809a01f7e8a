import Derived.Test.YtklbhcjmaeedhaaGreatDoorM3

namespace Go.Proofs.YtklbhcjmaeedhaaGreatDoor
set_option linter.all false
variable {κ:Type} {kg:Bool} {ks:List Lf} {z:V} {o:O} {s:Nat} {cl:Qg} {e:E}
def egP (x:Eg × Int):Eg × V:=(x.1,.i .i64 x.2)
def egM (L:List (Eg × Int)):Ob:=Z5 (encL egV (L.map egP))
def QhZ (a b:Eg):eqV true [.i .i64,.i .i64,.i .i64,.b] (egV a) (egV b)=some (decide (a=b)):=by
 rcases a with⟨a1,a2,a3,a4⟩;rcases b with⟨b1,b2,b3,b4⟩;simp only[egV,mvC,eqV,V.isAg,V.cells,eqps,lfEq,and_self,if_true];congr 1;rw[Bool.eq_iff_iff];simp only[Bool.and_true,Bool.and_eq_true,beq_iff_eq,decide_eq_true_eq,Prod.mk.injEq,Mv.mk.injEq,Int.ofNat_inj]
def eg_0 (a:Eg):(egV a).isAg=true∧(egV a).cells.length=4:=⟨rfl,rfl⟩
theorem D7 (k:Eg):∀ (L:List (Eg × Int)),
  (kidx k (L.map egP)=none∧incE k L=L++[(k,1)])∨∃ j n,kidx k (L.map egP)=some j∧L[j]?=some (k,n)∧incE k L=L.set j (k,IntKind.i64.wrap (n+1))
 | []=>.inl ⟨rfl,rfl⟩
 | (k',n)::L=>by
  simp only[List.map_cons,egP,kidx,incE];by_cases hk:k=k'
  ·subst hk;right;exact⟨0,n,SM,SM,SM⟩
  ·rw[if_neg hk,if_neg hk];rcases D7 k L with⟨h1,h2⟩|⟨j,m,h1,h2,h3⟩
   ·left;exact⟨by simpa [egP] using h1,by rw[h2];rfl⟩
   ·right;refine⟨j+1,m,?_,by simpa using h2,by rw[h3];rfl⟩
    have:kidx k (L.map fun p=>(p.1,V.i .i64 p.2))=some j:=h1
    rw[show (fun p:Eg × Int=>(p.1,V.i .i64 p.2))=egP from rfl] at this;simp [this]
def Qb5 [DecidableEq κ] {enc:κ→V} {k0:κ} {L:List (κ × V)} (heq:∀ a b,eqV kg ks (enc a) (enc b)=some (decide (a=b))) (h0:(enc k0).isAg=kg∧(enc k0).cells.length=ks.length) (ho:o s=some (Z5 (encL enc L))):lkpV o kg ks z false (.mp s) (enc k0)=some (menV k0 z L):=by
 have hf':QN kg ks (enc k0) (Qu 0 (encL enc L))=some (kidx k0 L):=Xz heq h0 L 0;simp only[lkpV,ho,Z5,hf'];cases hi:kidx k0 L with
 | none=>simp [menV,hi]
 | some j =>
  obtain⟨v,hv⟩:=XA hi;have hj:(Qu 0 (encL enc L))[j]?=some (j,enc k0,v):=by
   rw[ZP];simp [encL,hv]
  simp [menV,hi,hj,hv]
def Qi2 [DecidableEq κ] {enc:κ→V} {k0:κ} {L:List (κ × V)} {nm:Nat} {m k:Od} {K:UK} (heq:∀ a b,eqV kg ks (enc a) (enc b)=some (decide (a=b))) (h0:(enc k0).isAg=kg∧(enc k0).cells.length=ks.length)
  (hm:m.ev e=.mp s) (ho:o s=some (Z5 (encL enc L))) (hk:k.ev e=enc k0) (h:K (.tp [menV k0 z L,.i .i64 (menI k0 L)]) e (upd o s (some (Z5 (encL enc (menL k0 z L)))))):UW cl nm e o K (.men kg ks z m k):=by
 have hf:=Xz heq h0 L 0;simp only[UW,hm,ho,Z5,hk];have hf':QN kg ks (enc k0) (Qu 0 (encL enc L))=some (kidx k0 L):=hf;rw[hf'];cases hi:kidx k0 L with
 | none =>
  simp only;simp only[menV,menI,menL,hi] at h;have e1:encL enc (L++[(k0,z)])=encL enc L++[(enc k0,z)]:=by simp [encL]
  rw[e1] at h;simp only[Z5,Ko,List.length_append,List.length_cons,List.length_nil,Nat.zero_add] at h;have e2:(encL enc L).length=L.length:=by simp [encL]
  simp only[e2] at h ⊢;exact h
 | some j =>
  obtain⟨v,hv⟩:=XA hi;have hj:(Qu 0 (encL enc L))[j]?=some (j,enc k0,v):=by
   rw[ZP];simp [encL,hv]
  simp only[hj];simp only[menV,menI,menL,hi,hv,Option.map_some,Option.getD_some] at h;have hset:(Qu 0 (encL enc L)).set j (j,enc k0,v)=Qu 0 (encL enc L):=by
   have:=(List.getElem?_eq_some_iff.1 hj).2
   conv=>lhs;rw[← this]
   exact List.set_getElem_self _
  rw[hset];exact h
theorem KO {P:Nat × V × V→Prop} (h:∀ n (k:Eg) (i:Int),P (n,egV k,.i .i64 i)):∀ (L:List (Eg × Int)) (n:Nat),∀ x∈Qu n (encL egV (L.map egP)),P x
 | [],_,x,hx=>by simp [Qu,encL] at hx
 | (k,i)::L,n,x,hx=>by
  simp only[List.map_cons,egP,encL,Qu,List.mem_cons] at hx;rcases hx with rfl|hx
  ·exact h _ _ _
  ·exact KO h L (n+1) x hx
def Jt (f:Nat→Nat) (L:List (Eg × Int)):Qj f (egM L)=egM L:=by
 simp only[egM,Z5,Qj];congr 1;conv=>rhs;rw[← List.map_id (Qu 0 _)]
 refine List.map_congr_left fun x hx=>KO (P:=fun x=>(x.1,ren f x.2.1,ren f x.2.2)=id x) (fun n k i=>by simp [egV,mvC,ren,renL]) L 0 x hx
def QbW (D:List Nat) (L:List (Eg × Int)):rfOb D (egM L)=true:=by
 simp only[egM,Z5,rfOb,List.all_eq_true];exact fun x hx=>KO (P:=fun x=>(rfI D x.2.1&&rfI D x.2.2)=true) (fun n k i=>by simp [egV,mvC,rfI,rfL]) L 0 x hx
def Qiz (d:Nat) (L:List (Eg × Int)):Qy d (egM L)=some (egM L):=by
 refine Qc5 d _ fun p hp=>?_;obtain⟨x,hx,rfl⟩:=List.mem_map.1 hp;obtain⟨y,hy,rfl⟩:=List.mem_map.1 hx
 exact⟨rfl,rfl⟩
def Vi (d sz:Nat) (es:List (List V)):Qy d (.row sz es)=some (.row sz (swpR d es)):=rfl
def Qb4 (d:Nat) (L:List (Eg × Int)):Qy d (egM L)=some (egM L):=Qiz d L
def Y8 (f:Nat→Nat) (sz:Nat) (rs:List (List V)):Qj f (.row sz rs)=.row sz (rs.map (renL f)):=rfl
def Qet (D:List Nat) (sz:Nat) (rs:List (List V)):rfOb D (.row sz rs)=rs.all (rfL D):=rfl
attribute [go_sem] Vi Qb4 Y8 Qet Jt QbW
def QjY {a b c d mm kk:Nat} {k0:Eg} {L:List (Eg × Int)} {l:List Stp} {K:E→O→Prop} (hm:e mm=.mp s) (hk:e kk=egV k0) (ho:o s=some (egM L)) (hd:(mm==a)=false∧(mm==b)=false∧(mm==c)=false∧(mm==d)=false∧(kk==a)=false∧(kk==b)=false∧(kk==c)=false∧(b==c)=false∧(b==d)=false∧(a==b)=false)
  (h:∀ va vb vc vd o1,o1 s=some (egM (incE k0 L))→(∀ t,t≠s→o1 t=o t)→wpRU cl l K (upd (upd (upd (upd e a va) b vb) c vc) d vd) o1) :
  wpRU cl (⟨some a,none,.lkp true [.i .i64,.i .i64,.i .i64,.b] (.i .i64 0) false (.t mm) (.t kk),[]⟩::⟨some b,none,.q (.bin .add (.t a) (.k (.i .i64 1))),[]⟩::⟨some c,none,.men true [.i .i64,.i .i64,.i .i64,.b] (.i .i64 0) (.t mm) (.t kk),[.lkp true [.i .i64,.i .i64,.i .i64,.b] (.i .i64 0) false (.t mm) (.t kk)]⟩ ::
   ⟨some d,none,.q (.ext (.t c) 1),[]⟩::⟨none,none,.est (.t mm) (.t d) (.t b),[]⟩::l) K e o:=by
 obtain⟨d1,d2,d3,d4,d5,d6,d7,d8,d9,d10⟩:=hd;simp only[beq_eq_false_iff_ne,ne_eq] at d1 d2 d3 d4 d5 d6 d7 d8 d9 d10;have hl:=Qb5 (z:=.i .i64 0) QhZ (eg_0 k0) ho;refine QmW (v:=menV k0 (.i .i64 0) (L.map egP)) (by rw[Od.ev,Od.ev,hm,hk];exact hl) ?_;have key:∀ (L2:List (Eg × V)) (n:Int) (j:Nat),menV k0 (.i .i64 0) (L.map egP)=.i .i64 n→menL k0 (.i .i64 0) (L.map egP)=L2→menI k0 (L.map egP)=j→L2[j]?=some (k0,.i .i64 n)→L2.set j (k0,.i .i64 (IntKind.i64.wrap (n+1)))=(incE k0 L).map egP→menV k0 (.i .i64 0) L2=.i .i64 n→wpRU cl (⟨some b,none,.q (.bin .add (.t a) (.k (.i .i64 1))),[]⟩::⟨some c,none,.men true [.i .i64,.i .i64,.i .i64,.b] (.i .i64 0) (.t mm) (.t kk),[.lkp true [.i .i64,.i .i64,.i .i64,.b] (.i .i64 0) false (.t mm) (.t kk)]⟩ ::
   ⟨some d,none,.q (.ext (.t c) 1),[]⟩::⟨none,none,.est (.t mm) (.t d) (.t b),[]⟩::l) K (upd e a (menV k0 (.i .i64 0) (L.map egP))) o:=fun L2 n j g1 g2 g3 g4 g5 g6=>by
  rw[g1];refine U_q (v:=.i .i64 (IntKind.i64.wrap (n+1))) (by simp only[qv,Od.ev,upd,if_true];rfl) ?_;have hm2:upd (upd e a (.i .i64 n)) b (.i .i64 (IntKind.i64.wrap (n+1))) mm=.mp s:=by simp [upd,d1,d2,hm]
  have hk2:upd (upd e a (.i .i64 n)) b (.i .i64 (IntKind.i64.wrap (n+1))) kk=egV k0:=by simp [upd,d5,d6,hk]
  refine U_st (Qi2 (enc:=egV) (k0:=k0) (L:=L.map egP) QhZ (eg_0 k0) hm2 ho hk2 ?_);rw[g1,g2,g3];have hm3:upd (upd (upd e a (.i .i64 n)) b (.i .i64 (IntKind.i64.wrap (n+1)))) c (.tp [.i .i64 n,.i .i64 j]) mm=.mp s:=by simp [upd,d1,d2,d3,hm]
  have hk3:upd (upd (upd e a (.i .i64 n)) b (.i .i64 (IntKind.i64.wrap (n+1)))) c (.tp [.i .i64 n,.i .i64 j]) kk=egV k0:=by simp [upd,d5,d6,d7,hk]
  refine⟨W8 (v:=.i .i64 n) ?_ ?_ rfl XY,?_⟩
  ·simp only[rv,Od.ev,hm2,hk2];rw[hl,g1]
  ·simp only[rv,Od.ev,Q0,hm3,hk3];rw[Qb5 (L:=L2) QhZ (eg_0 k0) (by simp [upd]),g6]
  ·rw[Q0];refine U_q (v:=.i .i64 j) (by simp only[qv,Od.ev,upd,if_true];rfl) ?_;refine Qmp (enc:=egV) (L:=L2) (k0:=k0) (s:=s) (j:=j) (v0:=.i .i64 n) (v:=.i .i64 (IntKind.i64.wrap (n+1))) (by simp [Od.ev,upd,d1,d2,d3,d4,hm]) (by simp [Od.ev,upd,natV]) (by simp [upd]) g4 (by simp [Od.ev,upd,d8,d9]) ?_;rw[g5];exact h _ _ _ _ _ (by simp [upd,egM]) fun t ht=>by simp [upd,ht]
 rcases D7 k0 L with⟨i1,i2⟩|⟨j,n,i1,i2,i3⟩
 ·have e4:kidx k0 (L.map egP++[(k0,V.i .i64 0)])=some L.length:=by
   clear key hl h ho i2;induction L with
   | nil=>simp [kidx]
   | cons p L ih =>
    obtain⟨k',n⟩:=p;simp only[List.map_cons,egP,kidx] at i1;split at i1
    ·cases i1
    ·rename_i hne;simp only[List.map_cons,List.cons_append,egP,kidx,if_neg hne]
     have:=ih (by simpa [egP] using i1)
     rw[show (L.map egP++[(k0,V.i .i64 0)])=(L.map egP++[(k0,V.i .i64 0)]) from rfl] at this;rw[this];rfl
  refine key (L.map egP++[(k0,.i .i64 0)]) 0 L.length (by simp [menV,i1]) (by simp [menL,i1]) (by simp [menI,i1]) SM ?_ (by simp [menV,e4]);rw[i2]
  have:IntKind.i64.wrap (0+1)=1:=by decide
  rw[this];simp [egP]
 ·have hj:(L.map egP)[j]?=some (k0,.i .i64 n):=by simp [i2,egP]
  refine key (L.map egP) n j (by simp [menV,i1,hj]) (by simp [menL,i1]) (by simp [menI,i1]) hj (by rw[i3,List.map_set];rfl) (by simp [menV,i1,hj])
def Qfa (next:Int) (fr to:List Nat) (keep:Nat) (again:Bool) (L:List (Eg × Int)) (h1:fr.length≤1000) (h2:to.length≤1000) :
  GenO (Call F) 63 [.pt 1000000 0 0,ownV 1000002 1 (fr.map inC),ownV 1000003 1 (to.map inC),.i .i64 keep,.bo again]
   [(1000000,.row 2 [[.i .i64 next,.mp 1000001]]),(1000001,egM L)] [(1000002,1,fr.map inC),(1000003,1,to.map inC)] (.tp [])
   [(1000000,.row 2 [[.i .i64 next,.mp 1000001]]),(1000001,egM (lnk fr to keep again L))] [(1000002,1,fr.map inC),(1000003,1,to.map inC)] [1000000,1000001] [(1000002,1,fr.map inC),(1000003,1,to.map inC)]:=by
 refine YS e63 rfl rfl (by simp [domA]) SM SM (by simp [domA]) fun o hb ho=>?_;dsimp only[fn63,c63];have hb0:=hb _ (List.mem_cons_self ..);have hb1:=hb (1000001,egM L) SM;have ho1:=ho (1000002,1,fr.map inC) SM;have ho2:=ho (1000003,1,to.map inC) SM;dsimp only at hb0 hb1 ho1 ho2;clear hb ho;have s1:=ZC 1000002 1 (fr.map inC);have s2:=ZC 1000003 1 (to.map inC);rw[List.length_map] at s1 s2;simp only[JZ] at s1 s2;refine RN (Ad2 s1 s2) ?_;refine U_lp (fun r e o=>∃ i:Nat,i+r=fr.length∧e 0=.pt 1000000 0 0∧e 2=ownV 1000003 1 (to.map inC)∧e 3=.i .i64 keep∧e 4=.bo again∧e 14=ownV 1000002 1 (fr.map inC)∧e 15=.i .i64 fr.length∧e 16=.i .i64 i ∧
  o 1000000=some (.row 2 [[.i .i64 next,.mp 1000001]])∧(∃ L',o 1000001=some (egM L')∧lnk (fr.drop i) to keep again L'=lnk fr to keep again L)∧(fr.map inC≠[]→o 1000002=some (.row 1 (fr.map inC)))∧(to.map inC≠[]→o 1000003=some (.row 1 (to.map inC)))) (k:=fr.length) ?_ (Qa F) ?_
 ·exact⟨0,OM,Z0,Z0,Z0,Z0,Z0,Z0,Zr0,hb0,⟨L,hb1,rfl⟩,ho1,ho2⟩
 clear hb0 hb1 ho1 ho2;rintro r e o ⟨i,hir,r0,r2,r3,r4,r14,r15,r16,m0,⟨L1,m1,hL⟩,m2,m3⟩;dsimp only[QjF];refine RN (Ad2 r15 r16) ?_;refine Qv (q:=decide ((i:Int) < (fr.length:Int))) (Z0) (fun hc=>?_) (fun hc=>?_)
 ·have hi:i < fr.length:=by simpa using hc
  have hne:fr≠[]:=fun h=>by rw[h] at hi;simp at hi
  have m2':=m2 (W9 hne);have hpos:(0:Int)≤(i:Int):=by omega
  have hxi:(fr.map inC)[i]?=some [.i .i64 fr[i]]:=by rw[List.getElem?_map,List.getElem?_eq_getElem hi];rfl
  have r14':e 14=.rw 1000002 1 0 fr.length:=by rw[r14,QC hne]
  have hil:((i:Int) < (fr.length:Int))=True:=by simp;omega
  refine RT (Ad4 r2 r14' r16 (Ad5 hpos hil m2' hxi s2)) ?_;refine U_lp (fun q e o=>∃ j:Nat,j+q=to.length∧e 0=.pt 1000000 0 0∧e 2=ownV 1000003 1 (to.map inC)∧e 3=.i .i64 keep∧e 4=.bo again∧e 14=ownV 1000002 1 (fr.map inC)∧e 15=.i .i64 fr.length∧e 16=.i .i64 i∧e 11=.i .i64 fr[i]∧e 20=ownV 1000003 1 (to.map inC)∧e 21=.i .i64 to.length∧e 22=.i .i64 j ∧
   o 1000000=some (.row 2 [[.i .i64 next,.mp 1000001]])∧(∃ L',o 1000001=some (egM L')∧lnk1 fr[i] (to.drop j) keep again L'=lnk1 fr[i] to keep again L1)∧(fr.map inC≠[]→o 1000002=some (.row 1 (fr.map inC)))∧(to.map inC≠[]→o 1000003=some (.row 1 (to.map inC)))) (k:=to.length) ?_ (Qa F) ?_
  ·exact⟨0,OM,Z1 r0,Z1 r2,Z1 r3,Z1 r4,Z1 r14,Z1 r15,Z1 r16,Z0,Z1 r2,Z0,Zr0,m0,⟨L1,m1,rfl⟩,m2,m3⟩
  clear m0 m1 m2 m3 m2' r0 r2 r3 r4 r14 r15 r16 r14' hpos hil hxi;rintro q e o ⟨j,hjq,r0,r2,r3,r4,r14,r15,r16,r11,r20,r21,r22,m0,⟨L2,m1,hL2⟩,m2,m3⟩;dsimp only[Qi5];refine RN (Ad2 r21 r22) ?_;refine Qv (q:=decide ((j:Int) < (to.length:Int))) (Z0) (fun hc2=>?_) (fun hc2=>?_)
  ·have hj:j < to.length:=by simpa using hc2
   have hne2:to≠[]:=fun h=>by rw[h] at hj;simp at hj
   have m3':=m3 (W9 hne2);have hpos:(0:Int)≤(j:Int):=by omega
   have hxj:(to.map inC)[j]?=some [.i .i64 to[j]]:=by rw[List.getElem?_map,List.getElem?_eq_getElem hj];rfl
   have r20':e 20=.rw 1000003 1 0 to.length:=by rw[r20,QC hne2]
   have hjl:((j:Int) < (to.length:Int))=True:=by simp;omega
   have hw:IntKind.i64.wrap ((j:Int)+1)=((j+1:Nat):Int):=by rw[Qi OM OM];rfl
   rw[List.drop_eq_getElem_cons hj,lnk1,List.foldl_cons] at hL2;refine RT (Ad3 r0 r3 (Ad5 r4 r11 r20' r22 (Ad5 hpos hjl m0 m3' hxj))) ?_;refine QjY (s:=1000001) (k0:=(fr[i],⟨to[j],keep,again⟩)) (L:=L2) (Z0) (by simp only[egV,mvC,go_sem]) m1 LM fun va vb vc vd o1 p1 p2=>?_;refine RN (Ad2 r22 hw) ?_
   refine⟨q - 1,OM,j+1,OM,Z1 r0,Z1 r2,Z1 r3,Z1 r4,Z1 r14,Z1 r15,Z1 r16,Z1 r11,Z1 r20,Z1 r21,Z0,by rw[p2 _ LM];exact m0,⟨_,p1,hL2⟩,fun h=>by rw[p2 _ LM];exact m2 h,fun h=>by rw[p2 _ LM];exact m3 h⟩
  ·have hj:j=to.length:=by
    have:¬ j < to.length:=by simpa using hc2
    omega
   subst hj;rw[List.drop_length] at hL2;have hL2:L2=lnk1 fr[i] to keep again L1:=hL2;have hw:IntKind.i64.wrap ((i:Int)+1)=((i+1:Nat):Int):=by rw[Qi OM OM];rfl
   rw[List.drop_eq_getElem_cons hi,lnk,List.foldl_cons] at hL;refine RN (Ad2 r16 hw) ?_
   refine⟨r - 1,OM,i+1,OM,Z1 r0,Z1 r2,Z1 r3,Z1 r4,Z1 r14,Z1 r15,Z0,m0,⟨L2,m1,by rw[hL2];exact hL⟩,m2,m3⟩
 ·have hi:i=fr.length:=by
   have:¬ i < fr.length:=by simpa using hc
   omega
  subst hi;rw[List.drop_length] at hL;have hL:L1=lnk fr to keep again L:=hL;subst hL;refine RN trivial ?_;refine Zg [(1000000,.row 2 [[.i .i64 next,.mp 1000001]]),(1000001,egM (lnk fr to keep again L))] [(1000002,1,fr.map inC),(1000003,1,to.map inC)] (fun s=>s) (by rw[ren];rfl) ?_ rfl ?_ ?_ ?_ (by rw[rfI];rfl) ?_ ?_ ?_
  ·simp only[List.map_cons,List.map_nil,WM]
  ·simp [Qs]
  ·simp [m0,m1]
  ·intro q hq;rcases List.mem_cons.1 hq with rfl|hq
   ·exact m2
   ·rw[List.mem_singleton.1 hq];exact m3
  ·simp only[List.all_cons,List.all_nil,QbW];rfl
  ·simp [domA]
  ·simp
end Go.Proofs.YtklbhcjmaeedhaaGreatDoor
