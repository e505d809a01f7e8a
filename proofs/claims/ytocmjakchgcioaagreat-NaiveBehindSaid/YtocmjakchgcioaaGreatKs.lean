import Derived.Test.YtocmjakchgcioaaGreatKr

namespace Go.Proofs.YtocmjakchgcioaaGreat
set_option linter.all false
variable {A:Au} {k:Nat} {L:List (Cf × Int)} {o:O} {N:List Cf}
attribute [-go_sem] Qp Qb rfOb V.cells
structure OnAt (A:Au) (b:Nat) (Y:List Cf) (L:List Cf):Prop where
 nd:L.Nodup
 mem:∀ y,y∈L↔∃ x∈Y,y∈YI A x b
def Qcw (x:Cf) (b:Nat) (y:Cf):y∈rstL A x b (mvAt A x.p.toNat)↔y∈YI A x b:=by
 obtain⟨_,_,k3⟩:=Kd A x b (mvAt A x.p.toNat) [] List.nodup_nil;rw[YI,Y8]
 have:=k3 y
 simpa [rstL] using this
def Qhx (hL:∀ l∈A.moves,l.length < 2147483648) (x:Cf) (b:Nat):(rstL A x b (mvAt A x.p.toNat)).length < 4294967296:=by
 obtain⟨_,k2,_⟩:=Kd A x b (mvAt A x.p.toNat) [] List.nodup_nil;have h3:(mvAt A x.p.toNat).length < 2147483648:=by
  unfold mvAt;cases h:A.moves[x.p.toNat]? with
  | none=>simp
  | some l=>exact hL l (List.mem_of_getElem? h)
 unfold rstL;rw[List.length_nil] at k2;omega
def nmO (n:Nat):Ob:=.row 1 [[.i .i64 (n:Int)]]
def Hx (f:Nat→Nat) (n:Nat):Qb f (nmO n)=nmO n:=rfl
def XR (D:List Nat) (n:Nat):rfOb D (nmO n)=true:=rfl
def Qie (d n:Nat):Qp d (nmO n)=some (nmO n):=rfl
attribute [go_sem] Qie
def QK (A:Au) (w:List Nat):Nat→Nat
 | 0=>0
 | k+1=>max (QK A w k) (sdC (bhF A w (k+1))).length
def WkOf.most {w:List Nat} (h:WkOf A w (k+1) L):max (QK A w k) L.length=QK A w (k+1):=by
 have:L.length=(sdC (bhF A w (k+1))).length:=by
  rw[QaY (m:=keyF L) h.nd h.mem,keyF,List.length_map]
 rw[QK,this]
def QcY (L:List (Cf × Int)) (n:Nat):WI (Call F) 33 [.mp 1000000,.pt 1000001 0 0] [(1000000,cfM L),(1000001,nmO n)] [] (fun _:Unit=>True) (fun _=>.tp []) (fun _=>[(1000000,cfM L),(1000001,nmO (max n L.length))]) (fun _=>[]) [1000000,1000001] []:=by
 refine XN e33 rfl rfl (fun i hi=>by simp [domA]) SM SM (by simp [domA]) fun o hb0 _=>?_;dsimp only[fn33,c33];have m0:=hb0 (1000000,cfM L) SM;have m1:=hb0 (1000001,nmO n) SM;dsimp only at m0 m1;clear hb0;have hln:(Qi 0 (encL cfV (L.map cfP))).length=L.length:=by rw[JT];simp [encL]
 have m1':o 1000001=some (.row 1 [[.i .i64 (n:Int)]]):=m1;have hmx:(if (n:Int) < (L.length:Int) then (L.length:Int) else (n:Int))=((max n L.length:Nat):Int):=by
  split<;>omega
 refine RT m1' ?_;refine HN (v:=.i .i64 (L.length:Int)) (by simp only[m0,cfM,ZA,hln,go_sem]) ?_;refine RT m1' ?_
 refine⟨(),trivial,Qw [(1000000,cfM L),(1000001,nmO (max n L.length))] [] (fun s=>s) RM ?_ rfl SM ?_ SM RM ?_ ?_ SM⟩
 ·simp only[List.map_cons,List.map_nil,ZG]
 ·intro p hp;simp only[List.mem_cons,List.not_mem_nil,or_false] at hp;rcases hp with rfl|rfl
  ·simp only[m0,go_sem]
  ·(simp only[hmx,go_sem]<;>rfl)
 ·simp only[List.all_cons,List.all_nil,Q8,XR];rfl
 ·simp [domA]
def Qdq {e:E} {d s p n:Nat} {y x:Od} {k:List Stp} {K:E→O→Prop} (hsp:s≠p) (hy:y.ev e=.fn 33 [.pt p 0 0]) (hx:x.ev e=.mp s) (m:o s=some (cfM L)) (mp:o p=some (nmO n))
  (h:∀ o1,o1 s=some (cfM L)→o1 p=some (nmO (max n L.length))→(∀ t,t≠s→t≠p→o1 t=o t)→wpRU (Call F) k K (upd e d (.tp [])) o1):wpRU (Call F) (⟨some d,none,.nv y [x],[]⟩::k) K e o:=by
 refine QbJ hy (fun u=>if u=1000000 then s else if u=1000001 then p else u) (fun u=>if u=1000000 then s else if u=1000001 then p else u) [] (QcY L n) ?_ ?_ SM ⟨(),trivial⟩ (fun _ _=>?_) SM SM fun _ _ o1 g1 _ g3=>?_
 ·simp only[List.map_cons,List.map_nil,hx,List.cons_append,List.nil_append];rfl
 ·intro q hq;simp only[List.mem_cons,List.not_mem_nil,or_false] at hq;rcases hq with rfl|rfl
  ·simpa [QT] using m
  ·simpa [Hx] using mp
 ·refine Qr (by simp [domA,hsp]) (by simp [domA,hsp]) (by simp [domA]) ?_ ?_ ?_ ?_ SM SM ?_ SM ?_ SM ?_ SM
  ·have h1:rfI (domA (obs [(1000000,cfM L),(1000001,nmO n)] [])) (.mp 1000000)=true:=by rw[rfI];exact QQ (base:=[(1000000,cfM L),(1000001,nmO n)]) (s:=1000000) (by simp [domA])
   have h2:rfI (domA (obs [(1000000,cfM L),(1000001,nmO n)] [])) (.pt 1000001 0 0)=true:=by rw[rfI];exact QQ (base:=[(1000000,cfM L),(1000001,nmO n)]) (s:=1000001) (by simp [domA])
   rw[rfL,rfL,rfL,h1,h2];rfl
  ·simp only[List.all_cons,List.all_nil,Q8,XR];rfl
  ·rw[rfI];rfl
  ·simp only[List.all_cons,List.all_nil,Q8,XR];rfl
  ·simp [domA]
  ·simp [domA]
  ·simp [domA]
 ·refine h o1 ?_ ?_ fun t h1 h2=>g3 t ?_
  ·have:=g1 (1000000,cfM L) SM
   simpa [QT] using this
  ·have:=g1 (1000001,nmO (max n L.length)) SM
   simpa [Hx] using this
  ·intro s' hs';simp [domA] at hs';rcases hs' with rfl|rfl
   ·simpa using Ne.symm h1
   ·simpa using Ne.symm h2
set_option maxHeartbeats 2000000 in
def QaW (hW:WF A) (hf:A.first.length≤1000) (hL:∀ l∈A.moves,l.length < 2147483648) (w:List Nat) (hw:∀ b∈w,b < 256) (hl:w.length < 4294967296) :
  WI (Call F) 20 [.ag (auC A),wdV w,.fn 33 [.pt 1000000 0 0]] [(1000000,nmO 0)] [] (fun L=>WkOf A w w.length L) (fun _=>.mp 20) (fun L=>[(1000000,nmO (QK A w w.length)),(20,cfM L)]) (fun _=>[]) [1000000] []:=by
 refine XN e20 rfl rfl (fun i hi=>by simp [domA]) SM SM (by simp [domA]) fun o hb0 _=>?_;have mn:=hb0 (1000000,nmO 0) SM;dsimp only at mn;clear hb0;dsimp only[fn20,c20];refine RT wdV.eq_1 ?_;refine U_lp (fun r e o=>∃ i s:Nat,i+r=w.length∧NmW s∧(i=0→s=10)∧e 2=.fn 33 [.pt 1000000 0 0]∧e 3=.pt 3 0 0∧e 7=.mp s∧e 11=wdV w∧e 12=.i .i64 w.length∧e 13=.i .i64 i∧o 3=some (.row 15 [auC A])∧o 1000000=some (nmO (QK A w i))∧∃ L,o s=some (cfM L)∧WkOf A w i L) (k:=w.length) ?_ (Qa F) ?_
 ·exact⟨0,10,OM,.inl rfl,fun _=>rfl,Z0,Z0,Z0,by simp only[wdV,go_sem],Z0,Zr0,Z0,Zr1 mn,[],Zr0,⟨List.nodup_nil,fun y=>by simp [keyF,bhF]⟩⟩
 clear mn;rintro r e o ⟨i,s,hir,hs,hs0,r2,r3,r7,r11,r12,r13,m3,mn,L,ms,hwk⟩;dsimp only[QgT];refine RN (Ad2 r12 r13) ?_;refine Qh (q:=decide ((i:Int) < (w.length:Int))) (Z0) (fun hc=>?_) (fun hc=>?_)
 ·have hi:i < w.length:=by simpa using hc
  have hip:(0:Int)≤(i:Int):=by omega
  have hx:=QeG hi;have hb:=hw w[i] (List.getElem_mem hi);have hw1:=Zs (i:=i) OM;have hil:((i:Int) < (w.length:Int))=True:=by simp;omega
  have hr:∀ x∈keyF L,Qx A x=true:=fun x hx=>Y2 hW w i x ((hwk.mem x).1 hx);by_cases h0:i=0
  ·subst h0;obtain rfl:=hs0 rfl;have h2:=hwk.beg hi;have hbg:=VU hW hf hb;refine RT (Ad2 r2 (Ad5 r3 r7 r11 r13 (Ad5 wdV.eq_1 hip hil hx m3))) ?_;refine PCT (Ad2 r3 m3) (r:=.sl ((begF A w[0]).map cfC)) hbg ?_;refine Qdi (s:=10) (l:=begF A w[0]) (L:=L) (Dl hf _) (Z1 r7) (Z1 ms) fun o1 p1 p2=>?_;refine RN (Ad2 r2 r7) ?_;refine Qdq (s:=10) (p:=1000000) (n:=QK A w 0) (L:=putF (begF A w[0]) L) LM (Z1 r2) (Z1 r7) p1 (by rw[p2 _ LM];simp only[mn,go_sem]) fun o2 p3 p5 p4=>?_;rw[h2.most] at p5;refine RN (Ad2 r13 hw1) ?_
   exact⟨r - 1,OM,1,10,OM,.inl rfl,fun _=>rfl,Z1 r2,Z1 r3,Z1 r7,Z1 r11,Z1 r12,Zr0,by rw[p4 _ LM LM,p2 _ LM];simp only[m3,go_sem],p5,_,p3,h2⟩
  ·have c0:((i:Int)==0)=false:=by simp [h0]
   obtain⟨t,ht,hst,htm⟩:∃ t,NmW t∧s≠t∧(t=2000∨t=2001):=by
    by_cases h:s=2000
    ·exact⟨2001,.inr (.inr rfl),OM,.inr rfl⟩
    ·exact⟨2000,.inr (.inl rfl),h,.inl rfl⟩
   have t2:((2:Nat)==t)=false:=by simp;omega
   have t3:((3:Nat)==t)=false:=by simp;omega
   have tp:((1000000:Nat)==t)=false:=by simp;omega
   have sp:(1000000:Nat)≠s:=by rcases hs with rfl|rfl|rfl<;>decide
   have s3:(3:Nat)≠s:=by rcases hs with rfl|rfl|rfl<;>decide
   refine RT (Ad3 r2 r3 (Ad5 r7 r11 r13 c0 (Ad5 wdV.eq_1 hip hil hx m3))) ?_;refine Qb7 hW hL (s:=s) t hst OM (L:=L) (b:=w[i]) hr hb (by simp only[r7,r3,m3,List.take_succ_cons,List.take_zero,List.drop_succ_cons,List.drop_zero,go_sem]) (Z1 ms) fun L' hL' o1 p1 p2=>?_;have h2:=hwk.step hi h0 hL';refine RN (Ad3 r2 t2 tp) ?_;refine Qdq (s:=t) (p:=1000000) (n:=QK A w i) (L:=L') OM (Z3 r2 t2 tp) (Z0) p1 (by rw[p2 _ sp OM];simp only[mn,tp,go_sem]) fun o2 p3 p5 p4=>?_;rw[h2.most] at p5;refine RN (Ad2 r13 hw1) ?_
   exact⟨r - 1,OM,i+1,t,OM,ht,fun h=>by omega,Z2 r2 tp,Z2 r3 t3,Z0,by simp only[r11,wdV,go_sem],Z1 r12,Z0,by rw[p4 _ OM OM,p2 _ s3 OM];simp only[m3,t3,go_sem],p5,_,p3,h2⟩
 ·have hi:i=w.length:=by
   have:¬ i < w.length:=by simpa using hc
   omega
  subst hi;refine RN r7 ?_;have sp:(1000000:Nat)≠s:=by rcases hs with rfl|rfl|rfl<;>decide
  refine⟨L,hwk,Qw [(1000000,nmO (QK A w w.length)),(s,cfM L)] [] (fun u=>if u=s then 20 else u) (by simp [ren]) ?_ rfl SM ?_ SM ?_ ?_ ?_ SM⟩
  ·simp only[List.map_cons,List.map_nil,QT,Hx,if_true,if_neg sp]
  ·simp [ms,mn]
  ·rw[rfI];exact QQ (base:=[(1000000,nmO (QK A w w.length)),(s,cfM L)]) (s:=s) (by simp [domA])
  ·simp only[List.all_cons,List.all_nil,Q8,XR];rfl
  ·intro u hu;rw[List.mem_singleton.1 hu];simp [domA,sp]
set_option maxHeartbeats 1000000 in
def QgI (hW:WF A) (hf:A.first.length≤1000) (hL:∀ l∈A.moves,l.length < 2147483648) (w:List Nat) (hw:∀ b∈w,b < 256) (hl:w.length≤41):Pu F 17 [.ag (auC A),wdV w] (.i .i64 (QK A w w.length:Nat)):=by
 refine Qe e17 rfl rfl (by simp only[go_sem,Bool.and_true,wdV]) ?_;dsimp only[fn17,c17];have hre:∀ f:Nat→Nat,renL f [.ag (auC A),wdV w,.fn 33 [.pt 1000000 0 0]]=[.ag (auC A),wdV w,.fn 33 [.pt (f 1000000) 0 0]]:=fun f=>by
  rw[renL,renL,renL,renL,YP f (.ag (auC A)) (by rw[cld];exact J6 A),YP f (wdV w) (by simp only[go_sem,wdV])];rfl
 refine RT trivial ?_;refine Kf (fun u=>if u=1000000 then 5 else u) (fun u=>if u=1000000 then 5 else if u=20 then 2000 else u) [2000] (QaW hW hf hL w hw OM) ?_ ?_ SM (Qk0 A w w.length) (fun L hL=>?_) SM SM fun L hwk o1 g1 _ g3=>?_
 ·rw[hre];(simp only[wdV,List.take_succ_cons,List.take_zero,List.drop_succ_cons,List.drop_zero,go_sem]<;>rfl)
 ·intro p hp;rw[List.mem_singleton.1 hp];(simp only[Hx,go_sem]<;>rfl)
 ·refine Qr (by simp [domA]) (by simp [domA]) (by simp [domA]) ?_ ?_ ?_ ?_ SM SM ?_ SM ?_ SM ?_ SM
  ·have h1:rfI (domA (obs [(1000000,nmO 0)] [])) (.fn 33 [.pt 1000000 0 0])=true:=by
    simp only[rfI,rfL,Bool.and_true];exact QQ (base:=[(1000000,nmO 0)]) (s:=1000000) (by simp [domA])
   rw[rfL,rfL,rfL,rfL,h1,Yx _ (.ag (auC A)) (by rw[cld];exact J6 A),Yx _ (wdV w) (by simp only[go_sem,wdV])];rfl
  ·simp only[List.all_cons,List.all_nil,XR];rfl
  ·rw[rfI];exact QQ (base:=[(1000000,nmO (QK A w w.length)),(20,cfM L)]) (s:=20) (by simp [domA])
  ·simp only[List.all_cons,List.all_nil,Q8,XR];rfl
  ·simp [domA]
  ·simp [domA]
  ·simp [domA]
 have p5:o1 5=some (.row 1 [[.i .i64 (QK A w w.length:Nat)]]):=by
  have:=g1 (1000000,nmO (QK A w w.length)) SM
  show o1 5=some (nmO (QK A w w.length));simpa [Hx] using this
 clear g1 g3;refine RT p5 ?_;exact Qy rfl rfl
def addL (acc R:List Cf):List Cf:=R.foldl (fun acc y=>if y∈acc then acc else acc++[y]) acc
def Qbi (acc R:List Cf) (y:Cf):addL acc (R++[y])=if y∈addL acc R then addL acc R else addL acc R++[y]:=by unfold addL;rw[List.foldl_append];rfl
theorem Vx:∀ (R acc:List Cf),acc.Nodup→(addL acc R).Nodup∧∀ y,y∈addL acc R↔y∈acc∨y∈R
 | [],acc,h=>⟨h,fun y=>by simp [addL]⟩
 | x::R,acc,h=>by
  have h1:(if x∈acc then acc else acc++[x]).Nodup∧∀ y,y∈(if x∈acc then acc else acc++[x])↔y∈acc∨y=x:=by
   by_cases hx:x∈acc
   ·rw[if_pos hx]
    refine⟨h,fun y=>⟨.inl,?_⟩⟩
    rintro (h|rfl)
    ·exact h
    ·exact hx
   ·rw[if_neg hx]
    exact⟨List.nodup_append.2 ⟨h,SM,fun a ha c hc=>by simp at hc;subst hc;intro hh;subst hh;exact hx ha⟩,fun y=>by simp⟩
  obtain⟨g1,g2⟩:=Vx R _ h1.1
  refine⟨g1,fun y=>?_⟩
  show y∈addL _ R↔_;rw[g2,h1.2,List.mem_cons,or_assoc]
def YB (A:Au) (b:Nat) (Y:List Cf):List Cf:=Y.foldl (fun acc x=>addL acc (rstL A x b (mvAt A x.p.toNat))) []
def XH (A:Au) (b:Nat) (Y:List Cf) (x:Cf):YB A b (Y++[x])=addL (YB A b Y) (rstL A x b (mvAt A x.p.toNat)):=by simp [YB]
theorem Kr (A:Au) (b:Nat):∀ (n:Nat) (Y:List Cf),Y.length=n→OnAt A b Y (YB A b Y)
 | 0,Y,h=>by
  obtain rfl:=List.eq_nil_of_length_eq_zero h
  exact⟨List.nodup_nil,by simp [YB]⟩
 | n+1,Y,h=>by
  have hne:Y≠[]:=fun hh=>by rw[hh] at h;cases h
  obtain⟨Z,x,rfl⟩:∃ Z x,Y=Z++[x]:=⟨Y.dropLast,Y.getLast hne,(List.dropLast_concat_getLast hne).symm⟩;obtain⟨g1,g2⟩:=Kr A b n Z (by simpa using h);obtain⟨k1,k2⟩:=Vx (rstL A x b (mvAt A x.p.toNat)) _ g1;rw[XH]
  refine⟨k1,fun y=>?_⟩
  rw[k2,g2,Qcw];constructor
  ·rintro (⟨z,h1,h2⟩|h)
   ·exact⟨z,List.mem_append_left _ h1,h2⟩
   ·exact⟨x,SM,h⟩
  ·rintro⟨z,h1,h2⟩
   rcases List.mem_append.1 h1 with h1|h1
   ·exact .inl ⟨z,h1,h2⟩
   ·rw[List.mem_singleton.1 h1] at h2;exact .inr h2
def refN (A:Au) (w:List Nat):Nat→List Cf
 | 0=>[]
 | k+1=>match w[k]? with
  | none=>[]
  | some b=>if k=0 then begL A b A.first else YB A b (refN A w k)
theorem W5 {A:Au} (hfn:A.first.Nodup) (w:List Nat):∀ k,(refN A w k).Nodup∧∀ y,y∈refN A w k↔y∈bhF A w k
 | 0=>⟨List.nodup_nil,fun y=>Iff.rfl⟩
 | k+1=>by
  rw[refN,bhF];cases w[k]? with
  | none=>exact⟨List.nodup_nil,fun y=>Iff.rfl⟩
  | some b =>
   dsimp only;by_cases h0:k=0
   ·rw[if_pos h0,if_pos h0]
    exact⟨QcI b hfn,fun y=>by rw[begF,Y8]⟩
   ·rw[if_neg h0,if_neg h0];obtain⟨g1,g2⟩:=W5 hfn w k;obtain⟨k1,k2⟩:=Kr A b _ (refN A w k) rfl
    exact⟨k1,fun y=>by rw[k2,List.mem_flatMap];simp only[g2]⟩
def LsD (v:V) (N:List Cf):Prop:=v=.sl (N.map cfC)∨(N=[]∧v=.nil)
def LsD.len {v:V} (h:LsD v N):Ye v=some (.i .i64 (N.length:Int)):=by
 rcases h with rfl|⟨rfl,rfl⟩
 ·simp [Ye]
 ·rfl
theorem LsD.sl {v:V} {N:List Cf} (h:LsD v N) (h0:N≠[]):v=.sl (N.map cfC):=by
 rcases h with h|⟨h,_⟩
 ·exact h
 ·exact absurd h h0
structure RbI (A:Au) (w:List Nat) (i:Nat) (N:List Cf) (most:Nat) (e:E) (o:O):Prop where
 e1:e 1=wdV w
 e2:e 2=.pt 2 0 0
 e6:e 6=.sl (N.map cfC)
 e7:e 7=.i .i64 most
 e8:e 8=.i .i64 i
 m2:o 2=some (.row 15 [auC A])
set_option maxHeartbeats 4000000 in
def Ql0 (hW:WF A) (hL:∀ l∈A.moves,l.length < 2147483648) (w:List Nat) {i:Nat} (hi:i < w.length) (hwl:w.length≤41) (hb:w[i] < 256) (N:List Cf) (most:Nat) (hNr:∀ x∈N,Qx A x=true) (hNl:N.length≤130691232)
  (hSl:∀ L:List Cf,L.Nodup→(∀ y∈L,∃ x∈N,y∈YI A x w[i])→L.length≤130691232) (e:E) (o:O) (h:RbI A w i N most e o) (h9:e 9=.nil) (h10:e 10=.i .i64 0) :
  wpU true (Call F) (.lp Qc8) (fun x e o=>x=.ex 2∧RbI A w i N most e o∧e 9=ownV 61 5 ((YB A w[i] N).map cfC)∧Own o 61 5 ((YB A w[i] N).map cfC)) e o:=by
 obtain⟨r1,r2,r6,r7,r8,m2⟩:=h;refine U_lp (fun r e o=>∃ j:Nat,j+r=N.length∧RbI A w i N most e o∧e 9=ownV 61 5 ((YB A w[i] (N.take j)).map cfC)∧Own o 61 5 ((YB A w[i] (N.take j)).map cfC)∧e 10=.i .i64 j) (k:=N.length) ?_ (Qa F) ?_
 ·exact⟨0,OM,⟨r1,r2,r6,r7,r8,m2⟩,by rw[h9];rfl,⟨rfl,fun h=>absurd rfl h⟩,h10⟩
 clear r1 r2 r6 r7 r8 m2 h9 h10 e o;rintro r e o ⟨j,hjr,⟨r1,r2,r6,r7,r8,m2⟩,r9,ho,r10⟩;dsimp only[Qc8];refine RT (Ad2 r6 r10) ?_;refine Qh (q:=decide ((j:Int) < (N.length:Int))) (Z0) (fun hc=>?_) (fun hc=>?_)
 ·have hj:j < N.length:=by simpa using hc
  have hjp:(0:Int)≤(j:Int):=by omega
  have hip:(0:Int)≤(i:Int):=by omega
  have hxj:=Y9 hj;have hxi:=QeG hi;have hw1:=Zs (i:=j) OM;have hxr:=hNr N[j] (List.getElem_mem hj);have hst:=QdU hW hL hxr hb;have hrm:=Qcw (A:=A) N[j] w[i];have hrl:=Qhx hL N[j] w[i];have hNj:N[j]∈N:=List.getElem_mem hj;have htk:YB A w[i] (N.take (j+1))=addL (YB A w[i] (N.take j)) (rstL A N[j] w[i] (mvAt A N[j].p.toNat)):=by
   rw[← XH,List.take_add_one,List.getElem?_eq_getElem hj];rfl
  obtain⟨n1,n2⟩:=Kr A w[i] _ (N.take j) rfl;have hTN:∀ x∈N.take j,x∈N:=fun x hx=>List.mem_of_mem_take hx;generalize N[j]=x at hxj hst hrm hrl hNj htk;generalize YB A w[i] (N.take j)=L at r9 ho htk n1 n2;generalize rstL A x w[i] (mvAt A x.p.toNat)=R at hst hrm hrl htk;refine RT (Ad3 r1 r2 (Ad5 r6 r8 r10 m2 (Ad5 wdV.eq_1 hip hjp hxj hxi))) ?_;refine PCT (Ad2 r2 m2) (r:=.sl (R.map cfC)) hst ?_;refine RT trivial ?_;refine U_lp (fun q e o=>∃ k:Nat,k+q=R.length∧RbI A w i N most e o∧e 9=ownV 61 5 ((addL L (R.take k)).map cfC)∧Own o 61 5 ((addL L (R.take k)).map cfC)∧e 10=.i .i64 j∧e 11=.sl (R.map cfC)∧e 12=.i .i64 k) (k:=R.length) ?_ (Qa F) ?_
  ·exact⟨0,OM,⟨Z1 r1,Z1 r2,Z1 r6,Z1 r7,Z1 r8,Z1 m2⟩,Zr1 r9,by rw[List.take_zero];exact (show Own _ 61 5 (L.map cfC) by (repeat first|with_reducible assumption|refine .up rfl ?_|refine .sw rfl ?_|refine .swN rfl ?_)),Z1 r10,Z0,Zr0⟩
  clear r1 r2 r6 r7 r8 m2 r9 ho r10;rintro q e o ⟨k,hkq,⟨r1,r2,r6,r7,r8,m2⟩,r9,ho,r10,r11,r12⟩;dsimp only[Qi1];obtain⟨a1,a2⟩:=Vx (R.take k) L n1;have hal:(addL L (R.take k)).length≤130691232:=hSl _ a1 fun y hy=>by
   rcases (a2 y).1 hy with h|h
   ·obtain⟨z,h1,h2⟩:=(n2 y).1 h
    exact⟨z,hTN z h1,h2⟩
   ·exact⟨x,hNj,(hrm y).1 (List.mem_of_mem_take h)⟩
  refine RT (Ad2 r11 r12) ?_;refine Qh (q:=decide ((k:Int) < (R.length:Int))) (Z0) (fun hc2=>?_) (fun hc2=>?_)
  ·have hk:k < R.length:=by simpa using hc2
   have hkp:(0:Int)≤(k:Int):=by omega
   have hxk:=Y9 hk;have hwk:=Zs (i:=k) OM;have htj:addL L (R.take (k+1))=if R[k]∈addL L (R.take k) then addL L (R.take k) else addL L (R.take k)++[R[k]]:=by
    rw[← Qbi,List.take_add_one,List.getElem?_eq_getElem hk];rfl
   generalize addL L (R.take k)=L' at r9 ho hal htj;generalize R[k]=y at hxk htj;have hhc:=Ve y L' OM;refine RT (Ad5 r9 r11 r12 hkp hxk) ?_;refine U_pc (vs:=[ownV 61 5 (L'.map cfC),.ag (cfC y)]) (ws:=[.sl (L'.map cfC),.ag (cfC y)]) (r:=.bo (decide (y∈L'))) (Z1 r9) (D4 (by (repeat first|with_reducible assumption|refine .up rfl ?_|refine .sw rfl ?_|refine .swN rfl ?_))) (Bool.or_eq_true_iff.2 (.inr rfl)) rfl hhc ?_;by_cases hy:y∈L'
   ·have d1:decide (y∈L')=true:=by simpa using hy
    rw[if_pos hy] at htj;refine RT (Ad3 d1 r12 hwk) ?_
    exact⟨q - 1,OM,k+1,OM,⟨Z1 r1,Z1 r2,Z1 r6,Z1 r7,Z1 r8,Z1 m2⟩,by rw[htj];simp only[r9,go_sem],by rw[htj];(repeat first|with_reducible assumption|refine .up rfl ?_|refine .sw rfl ?_|refine .swN rfl ?_),Z1 r10,Z1 r11,Z0⟩
   ·have d1:decide (y∈L')=false:=by simpa using hy
    rw[if_neg hy] at htj;refine RT (Ad2 d1 (Ad5 r9 r11 r12 hkp hxk)) ?_;refine Yi 61 (L:=L'.map cfC) (ys:=[cfC y]) (Z1 r9) ?_ (by (simp only[src,List.take_succ_cons,List.take_zero,List.drop_succ_cons,List.drop_zero,go_sem]<;>rfl)) (by simp [Wh]) SM OM ⟨by simp;omega,OM⟩ (QY _ ho.c) rfl ?_
    ·exact Own.h (by (repeat first|with_reducible assumption|refine .up rfl ?_|refine .sw rfl ?_|refine .swN rfl ?_))
    refine RN (Ad2 r12 hwk) ?_
    refine⟨q - 1,OM,k+1,OM,⟨by simp only[r1,wdV,go_sem],Z1 r2,Z1 r6,Z1 r7,Z1 r8,by simp only[m2,QkM,go_sem]⟩,by simp only[htj,List.map_append,go_sem],?_,Z1 r10,Z1 r11,Z0⟩
    rw[htj,List.map_append];exact Own.to (by have:=J8 (L'++[y]);rw[List.map_append] at this;exact this)
  ·have hk:k=R.length:=by
    have:¬ k < R.length:=by simpa using hc2
    omega
   subst hk;rw[List.take_length] at r9 ho;refine RN (Ad2 r10 hw1) ?_
   exact⟨r - 1,OM,j+1,OM,⟨Z1 r1,Z1 r2,Z1 r6,Z1 r7,Z1 r8,Z1 m2⟩,by rw[htk];simp only[r9,go_sem],by rw[htk];(repeat first|with_reducible assumption|refine .up rfl ?_|refine .sw rfl ?_|refine .swN rfl ?_),Z0⟩
 ·have hj:j=N.length:=by
   have:¬ j < N.length:=by simpa using hc
   omega
  subst hj;rw[List.take_length] at r9 ho;refine RN trivial ?_
  exact⟨rfl,⟨Z1 r1,Z1 r2,Z1 r6,Z1 r7,Z1 r8,Z1 m2⟩,Z1 r9,by (repeat first|with_reducible assumption|refine .up rfl ?_|refine .sw rfl ?_|refine .swN rfl ?_)⟩
def Dx (hW:WF A) (hfn:A.first.Nodup) (w:List Nat) (hk:k≤41):(refN A w k).length≤130691232:=by
 obtain⟨h1,h2⟩:=W5 hfn w k;exact KB hW hk h1 fun y hy=>(h2 y).1 hy
def K9 (hfn:A.first.Nodup) (w:List Nat) (k:Nat):max (QK A w k) (refN A w (k+1)).length=QK A w (k+1):=by
 obtain⟨h1,h2⟩:=W5 hfn w (k+1);rw[QK,QaY h1 h2]
theorem DW {A:Au} (hW:WF A) (hfn:A.first.Nodup) (w:List Nat):∀ {k:Nat},k≤41→QK A w k≤130691232
 | 0,_=>by simp [QK]
 | k+1,hk=>by
  rw[← K9 hfn]
  have:=DW hW hfn w (k:=k) OM
  have:=Dx hW hfn w hk
  omega
def Qkl (l:List Cf):okLL (l.map cfC)=true:=by rw[okLL,List.all_eq_true];intro c hc;obtain⟨x,_,rfl⟩:=List.mem_map.1 hc;rfl
def Qit {v:V} {n:Int} (h:LsD v N):fzU o (.tp [v,.i .i64 n])=some (.tp [.sl (N.map cfC),.i .i64 n]):=by
 have h1:frzU 23 o v=some (.sl (N.map cfC)):=by rcases h with rfl|⟨rfl,rfl⟩<;>rfl
 have h2:frzU 23 o (.i .i64 n)=some (.i .i64 n):=rfl;show frzU (23+1) o _=_;simp [frzU,h1,h2]
set_option maxHeartbeats 4000000 in
def QaO (hW:WF A) (hf:A.first.length≤1000) (hfn:A.first.Nodup) (hL:∀ l∈A.moves,l.length < 2147483648) (w:List Nat) (hw:∀ b∈w,b < 256) (hl:w.length≤41):Pu F 16 [.ag (auC A),wdV w] (.tp [.sl ((refN A w w.length).map cfC),.i .i64 (QK A w w.length:Nat)]):=by
 refine Qe e16 rfl rfl (by simp only[go_sem,Bool.and_true,wdV]) ?_;dsimp only[fn16,c16];refine RT trivial ?_;refine U_lp (fun r e o=>∃ i:Nat,i+r=w.length∧e 1=wdV w∧e 2=.pt 2 0 0∧LsD (e 6) (refN A w i)∧e 7=.i .i64 (QK A w i:Nat)∧e 8=.i .i64 i∧o 2=some (.row 15 [auC A])) (k:=w.length) ?_ (Qa F) ?_
 ·exact⟨0,OM,by simp only[wdV,go_sem],Z0,.inr ⟨rfl,Z0⟩,Zr0,Zr0,Z0⟩
 rintro r e o ⟨i,hir,r1,r2,r6,r7,r8,m2⟩;dsimp only[Qj9];refine RT (Ad3 r1 wdV.eq_1 r8) ?_;refine Qh (q:=decide ((i:Int) < (w.length:Int))) (Z0) (fun hc=>?_) (fun hc=>?_)
 ·have hi:i < w.length:=by simpa using hc
  have hip:(0:Int)≤(i:Int):=by omega
  have hb:=hw w[i] (List.getElem_mem hi);have hw1:=Zs (i:=i) OM;have hmo:=K9 hfn w i;have hml:=DW hW hfn w (k:=i+1) OM;have hrN:refN A w (i+1)=if i=0 then begL A w[i] A.first else YB A w[i] (refN A w i):=by
   rw[refN,List.getElem?_eq_getElem hi]
  by_cases h0:i=0
  ·subst h0;have hx0:=QeG hi;rw[if_pos rfl] at hrN;have hbg:=Qbt hW hf hb;have hz:Ye (e 6)=some (.i .i64 0):=r6.len;simp only[Ye] at hz;refine RT (Ad2 r1 (Ad5 r2 r8 wdV.eq_1 hx0 m2)) ?_;refine PCT (Ad2 r2 m2) (r:=.sl ((begL A w[0] A.first).map cfC)) hbg ?_;refine RT trivial ?_;refine Yd (fun e o=>e 1=wdV w∧e 2=.pt 2 0 0∧e 7=.i .i64 (QK A w 0:Nat)∧e 8=.i .i64 0∧e 9=.sl ((begL A w[0] A.first).map cfC)∧o 2=some (.row 15 [auC A])) ?_ ?_
   ·refine U_lp (fun r e o=>Ye (e 6)=some (.i .i64 0)∧e 1=wdV w∧e 2=.pt 2 0 0∧e 7=.i .i64 (QK A w 0:Nat)∧e 8=.i .i64 0∧e 9=.sl ((begL A w[0] A.first).map cfC)∧e 10=.i .i64 0∧o 2=some (.row 15 [auC A])) (k:=0) ?_ (Qa F) ?_
    ·exact⟨by simp only[Ye];simp only[hz,go_sem],Z1 r1,Z1 r2,Z1 r7,Zr1 r8,Z0,Z0,Z1 m2⟩
    clear r1 r2 r6 r7 r8 m2 hz;rintro r e o ⟨hz,r1,r2,r7,r8,r9,r10,m2⟩;simp only[Ye] at hz;dsimp only[Qc8];refine RN (Ad2 r10 hz) ?_
    exact⟨rfl,Z1 r1,Z1 r2,Z1 r7,Z1 r8,Z1 r9,m2⟩
   rintro e o ⟨r1,r2,r7,r8,r9,m2⟩;have hmx:(if ((begL A w[0] A.first).length:Int) > ((QK A w 0:Nat):Int) then ((begL A w[0] A.first).length:Int) else ((QK A w 0:Nat):Int))=((QK A w (0+1):Nat):Int):=by
    rw[← hmo,hrN];split<;>omega
   refine RT (Ad5 r7 r8 r9 hmx hw1) ?_
   exact⟨r - 1,OM,1,OM,Z1 r1,Z1 r2,.inl (by rw[hrN];simp only[r9,go_sem]),Z1 hmx,Zr0,m2⟩
  ·rw[if_neg h0] at hrN;have c0:((i:Int)==0)=false:=by simp [h0]
   obtain⟨g1,g2⟩:=W5 hfn w i;have hNl:=Dx hW hfn w (k:=i) OM;have hNr:∀ x∈refN A w i,Qx A x=true:=fun x hx=>Y2 hW w i x ((g2 x).1 hx);have hSl:∀ L:List Cf,L.Nodup→(∀ y∈L,∃ x∈refN A w i,y∈YI A x w[i])→L.length≤130691232:=fun L h1 h2=>KB hW (w:=w) (k:=i+1) OM h1 fun y hy=>by
    rw[bhF,List.getElem?_eq_getElem hi];simp only[if_neg h0];obtain⟨x,h3,h4⟩:=h2 y hy;exact List.mem_flatMap.2 ⟨x,(g2 x).1 h3,h4⟩
   clear hrN;have hnx:refN A w (i+1)=YB A w[i] (refN A w i):=by
    rw[refN,List.getElem?_eq_getElem hi];dsimp only;rw[if_neg h0]
   generalize refN A w i=N at r6 g1 g2 hNl hNr hSl hnx;rw[hnx] at hmo;rcases r6 with r6|⟨rfl,r6⟩
   ·refine RT (Ad4 r1 r2 r8 c0) ?_;refine Yd (fun e o=>RbI A w i N (QK A w i) e o∧e 9=ownV 61 5 ((YB A w[i] N).map cfC)∧Own o 61 5 ((YB A w[i] N).map cfC)) (Ql0 hW hL w hi hl hb N (QK A w i) hNr hNl hSl _ _ ⟨Z1 r1,Z1 r2,Z1 r6,Z1 r7,Z1 r8,Z1 m2⟩ (Z0) (Z0)) ?_;clear r1 r2 r6 r7 r8 m2;rintro e o ⟨⟨r1,r2,r6,r7,r8,m2⟩,r9,ho⟩;generalize YB A w[i] N=L at hmo r9 ho hnx;have hmx:(if (L.length:Int) > ((QK A w i:Nat):Int) then (L.length:Int) else ((QK A w i:Nat):Int))=((QK A w (i+1):Nat):Int):=by
     rw[← hmo];split<;>omega
    by_cases hL0:L=[]
    ·subst hL0;have r9':e 9=.nil:=r9;have hmx:(if (0:Int) > ((QK A w i:Nat):Int) then (0:Int) else ((QK A w i:Nat):Int))=((QK A w (i+1):Nat):Int):=hmx;refine RT (Ad5 r7 r8 r9' hmx hw1) ?_
     exact⟨r - 1,OM,i+1,OM,Z1 r1,Z1 r2,.inr ⟨hnx,Z1 r9'⟩,Z1 hmx,Z0,m2⟩
    ·have hne:(L.map cfC)≠[]:=by simpa using hL0
     refine X_nx ?_;refine Yb ?_;have hst:=Hj 61 5 hne;refine Du 61 (sz:=5) (es:=L.map cfC) (ho.h hne) (Qkl _) ?_;generalize hO:ZT 61 (L.map cfC) o=O;have m2':O 2=some (.row 15 [auC A]):=by
      have:ZE 61 (L.map cfC) (auC A)=auC A:=Qd2 _ _ (by obtain⟨⟨ak,as_,ap,al,ah⟩,S,Cs,R,Fi,Mo,La,Em⟩:=A;rfl)
      rw[← hO];simp only[m2,this,go_sem]
     generalize hE:Wc 61 (L.map cfC) e=E1;have k1:E1 1=wdV w:=by rw[← hE];simp only[r1,wdV,go_sem]
     have k2:E1 2=.pt 2 0 0:=by rw[← hE];simp only[r2,go_sem]
     have k7:E1 7=.i .i64 (QK A w i:Nat):=by rw[← hE];simp only[r7,go_sem]
     have k8:E1 8=.i .i64 i:=by rw[← hE];simp only[r8,go_sem]
     have k9:E1 9=.sl (L.map cfC):=by rw[← hE];simp only[r9,hst,go_sem]
     clear hE hO r1 r2 r6 r7 r8 r9 m2 ho hst;refine RT (Ad5 k7 k8 k9 hmx hw1) ?_
     exact⟨r - 1,OM,i+1,OM,Z1 k1,Z1 k2,.inl (by rw[hnx];simp only[k9,go_sem]),Z1 hmx,Z0,m2'⟩
   ·have hz:YB A w[i] ([]:List Cf)=[]:=rfl;rw[hz] at hmo;have hmx:(if (0:Int) > ((QK A w i:Nat):Int) then (0:Int) else ((QK A w i:Nat):Int))=((QK A w (i+1):Nat):Int):=by
     rw[← hmo];simp;omega
    refine RT (Ad4 r1 r2 r8 c0) ?_;refine Yd (fun e o=>e 1=wdV w∧e 2=.pt 2 0 0∧e 7=.i .i64 (QK A w i:Nat)∧e 8=.i .i64 i∧e 9=.nil∧o 2=some (.row 15 [auC A])) ?_ ?_
    ·refine U_lp (fun r e o=>e 6=.nil∧e 1=wdV w∧e 2=.pt 2 0 0∧e 7=.i .i64 (QK A w i:Nat)∧e 8=.i .i64 i∧e 9=.nil∧e 10=.i .i64 0∧o 2=some (.row 15 [auC A])) (k:=0) ?_ (Qa F) ?_
     ·exact⟨Z1 r6,Z1 r1,Z1 r2,Z1 r7,Z1 r8,Z0,Z0,Z1 m2⟩
     clear r1 r2 r6 r7 r8 m2;rintro r e o ⟨r6,r1,r2,r7,r8,r9,r10,m2⟩;dsimp only[Qc8];refine RN (Ad2 r6 r10) ?_
     exact⟨rfl,Z1 r1,Z1 r2,Z1 r7,Z1 r8,Z1 r9,m2⟩
    clear r1 r2 r6 r7 r8 m2;rintro e o ⟨r1,r2,r7,r8,r9,m2⟩;refine RT (Ad5 r7 r8 r9 hmx hw1) ?_
    exact⟨r - 1,OM,i+1,OM,Z1 r1,Z1 r2,.inr ⟨hnx.trans hz,Z1 r9⟩,Z1 hmx,Z0,m2⟩
 ·have hi:i=w.length:=by
   have:¬ i < w.length:=by simpa using hc
   omega
  subst hi;refine RN r7 ?_;exact Qit r6
def QaH (hW:WF A) (hfn:A.first.Nodup):A.first.length≤1000:=by
 have:=YX A.first (List.range 41) hfn fun p hp=>List.mem_range.2 (by have:=(hW.f p hp).2;have:=hW.n;omega)
 have:A.first.length≤41:=by simpa using this
 omega
set_option maxHeartbeats 4000000 in
def Qan (n:Nd) (hs:ZB n) (w:List Nat) (hw:∀ b∈w,b < 256):Pu F 7 [.ag (cel n),wdV w] (.bo true):=by
 have haw:=Qcq;obtain⟨A,ok,hA,hok⟩:=Qhe n hs;refine Qe e7 rfl rfl (by simp only[go_sem,Bool.and_true,wdV]) ?_;dsimp only[fn7,c7];refine RT wdV.eq_1 ?_;refine PRT trivial (r:=.bo true) haw ?_;by_cases h1:w.length≤40
 ·have c1:decide ((w.length:Int) > 40)=false:=decide_eq_false OM;refine RT (Ad2 wdV.eq_1 c1) ?_;refine U_pc (vs:=[.ag (cel n)]) (ws:=[.ag (cel n)]) (Z0) (QbW n _) (Bool.or_eq_true_iff.2 (.inl (VJ n))) (by simp only[Bool.and_true,go_sem]) hA ?_;cases ok with
  | false =>
   refine RT trivial ?_;rfl
  | true =>
   obtain⟨hAm,_,hW,hL,_⟩:=hok rfl;have hfn:A.first.Nodup:=by rw[hAm];exact Vv _
   have hf:=QaH hW hfn;clear hAm hok;have hB:Pu F 10 [.ag (auC A),.sl (w.map fun b:Nat=>[V.i .u8 (b:Int)])] (.sl ((bhS A w).map cfC)):=Xq hW hf hL w hw OM;have hM:Pu F 17 [.ag (auC A),.sl (w.map fun b:Nat=>[V.i .u8 (b:Int)])] (.i .i64 (QK A w w.length:Nat)):=QgI hW hf hL w hw OM;have hR:Pu F 16 [.ag (auC A),.sl (w.map fun b:Nat=>[V.i .u8 (b:Int)])] (.tp [.sl ((refN A w w.length).map cfC),.i .i64 (QK A w w.length:Nat)]):=QaO hW hf hfn hL w hw OM;obtain⟨g1,g2⟩:=W5 hfn w w.length;have hS:Pu F 15 [.sl ((bhS A w).map cfC),.sl ((refN A w w.length).map cfC)] (.bo true) :=
    QaE (l:=bhS A w) (want:=refN A w w.length) (by have:=Qdu hW w OM;omega) (QaY g1 g2) (fun y hy=>(g2 y).2 ((Y8 _ y).1 hy)) (Qgn _)
   clear g1 g2;generalize refN A w w.length=N at hR hS;generalize QK A w w.length=mo at hM hR;generalize bhS A w=S at hB hS;refine RT wdV.eq_1 ?_;refine U_pc (vs:=[.ag (auC A),.sl (w.map fun b:Nat=>[V.i .u8 (b:Int)])]) (ws:=[.ag (auC A),.sl (w.map fun b:Nat=>[V.i .u8 (b:Int)])]) (by simp only[wdV,List.take_succ_cons,List.take_zero,List.drop_succ_cons,List.drop_zero,go_sem]) (ZO (by simp only[List.all_cons,List.all_nil,Bool.and_true,go_sem])) (Bool.or_eq_true_iff.2 (.inl (by simp only[clos,List.all_cons,List.all_nil,Bool.and_true,go_sem]))) (by simp only[Bool.and_true,go_sem]) hR ?_;refine RT wdV.eq_1 ?_;refine PCT wdV.eq_1 (r:=.sl (S.map cfC)) hB ?_;refine RT trivial ?_;refine PRT trivial (r:=.bo true) hS ?_;refine RT wdV.eq_1 ?_;refine PRT wdV.eq_1 (r:=.i .i64 (mo:Nat)) hM ?_;refine RT trivial ?_;rfl
 ·have c1:decide ((w.length:Int) > 40)=true:=decide_eq_true OM;refine RT (Ad2 wdV.eq_1 c1) ?_;refine PRT trivial (r:=.bo true) haw ?_;refine RT trivial ?_;rfl
end Go.Proofs.YtocmjakchgcioaaGreat
