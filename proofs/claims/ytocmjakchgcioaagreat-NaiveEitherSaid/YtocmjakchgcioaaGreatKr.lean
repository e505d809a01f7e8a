import Derived.Test.YtocmjakchgcioaaGreatKq

namespace Go.Proofs.YtocmjakchgcioaaGreat
set_option linter.all false
variable {m:Nm} {y:Ob} {L:List (Cf × Int)} {l:List Cf} {g d s:Nat} {e:E} {o:O} {ods:List Od} {k:List Stp} {K:E→O→Prop} {A:Au}
attribute [-go_sem] Qw Qe rfOb V.cells
def OR.one {v:V} (h:OR m (.row 1 [[v]]) y):∃ x,y=.row 1 [[x]]∧VR m v x:=by
 cases h with
 | row _ _ fs h =>
  have hl:=h.len
  match fs,hl with
  | [c],_ =>
   have h1:=h.at_ 0 [v] c rfl rfl;obtain⟨x,ds,rfl,h2,h3⟩:=h1.inv;obtain rfl:=h3.inv0
   exact⟨x,rfl,h2⟩
def QeR (h:OR m (cfM L) y):∃ ents clock,y=.map ents clock∧ents.map (·.2.1)=(keyF L).map (fun x=>.ag (cfC x)):=by
 have hgen:∀ (es:List (Nat × V × V)) (c:Nat),cfM L=.map es c→∃ ents clock,y=.map ents clock∧ents.map (·.2.1)=es.map (·.2.1):=by
  intro es c he;rw[he] at h;cases h with
  | map _ fs clock hl h =>
   refine⟨fs,c,rfl,?_⟩
   apply List.ext_getElem?;intro j;rw[List.getElem?_map,List.getElem?_map];cases hb:fs[j]? with
   | none=>rw[List.getElem?_eq_none (by rw[← hl];exact List.getElem?_eq_none_iff.1 hb)]
   | some b =>
    have hj:j < es.length:=by rw[← hl];exact (List.getElem?_eq_some_iff.1 hb).1
    obtain⟨_,h2,_⟩:=h j es[j] b (List.getElem?_eq_getElem hj) hb;rw[List.getElem?_eq_getElem hj];have hk:ok es[j].2.1=true:=by
     have he2:Qj 0 (encL cfV (L.map cfP))=es:=by
      have:cfM L=.map (Qj 0 (encL cfV (L.map cfP))) (encL cfV (L.map cfP)).length:=rfl
      rw[this] at he;injection he
     have:=W6 (P:=fun x=>ok x.2.1=true) (fun n k i=>rfl) L 0 es[j] (by rw[he2];exact List.getElem_mem hj)
     exact this
    simp only[Option.map_some,Qa0 h2 hk]
 obtain⟨ents,clock,h1,h2⟩:=hgen (Qj 0 (encL cfV (L.map cfP))) _ rfl
 refine⟨ents,clock,h1,?_⟩
 rw[h2];clear h2 h1 hgen h
 have:∀ (M:List (Cf × Int)) (n:Nat),(Qj n (encL cfV (M.map cfP))).map (·.2.1)=(keyF M).map (fun x=>V.ag (cfC x)):=by
  intro M;induction M with
  | nil=>intro n;rfl
  | cons x M ih=>intro n;have:=ih (n+1);simp only[encL,List.map_cons,cfP,Qj,keyF] at this ⊢;rw[this];rfl
 exact this L 0
def kyB (L:List (Cf × Int)):List (Nat × Ob):=[(1000000,cfM L),(1000001,.row 1 [[.mp 1000000]])]
def Qfe (L:List (Cf × Int)) (hn:L.length≤2147483648):KV (Call F) 42 [.fn 44 [.pt 1000001 0 0]] (kyB L) [] (fun ss:List Cf=>ss.Perm (keyF L)) (fun ss=>ownV 20 5 (ss.map cfC)) (fun _=>kyB L) (fun ss=>[(20,5,ss.map cfC)]) [1000000,1000001] []:=by
 intro m xs o K hxs hS hdom hK;obtain⟨a,ya,ha1,ha2,ha3⟩:=hS.ob 1000000 (cfM L) rfl;obtain⟨c,yc,hc1,hc2,hc3⟩:=hS.ob 1000001 (.row 1 [[.mp 1000000]]) rfl;obtain⟨x,ds,rfl,h1,h2⟩:=hxs.inv;obtain rfl:=h2.inv0;obtain⟨y,rfl,hy⟩:=hc3.one;obtain⟨ents,clock,rfl,hke⟩:=QeR ha3;have hF:F 42=none:=rfl;cases h1 with
 | fn _ _ ds hl hr =>
  have h3:VRs m [.pt 1000001 0 0] ds:=⟨hl,hr⟩;obtain⟨z,zs,rfl,h4,h5⟩:=h3.inv;obtain rfl:=h5.inv0;cases h4 with
  | pt _ id _ _ hid =>
   rw[hc1] at hid;cases hid;cases hy with
   | mp _ id hid =>
    rw[ha1] at hid;cases hid;refine Z6 hF (QmT ⟨rfl,c,a,ents,clock,keyF L,rfl,hc2,ha2,hke,by simpa [keyF] using hn,fun h0=>?_,fun ss hss hne id hid=>?_⟩)
    ·refine hK [] (by rw[h0]) m .nil o .nil ?_ (fun _ _=>rfl) ?_ fun j x h h2=>⟨h,h2⟩
     ·exact hS
     ·exact hdom
    ·have hs0:ss≠[]:=fun h=>hne (by rw[h] at hss;exact List.nil_perm.1 hss);have hm20:m 20=none:=by
      cases h:m 20 with
      | none=>rfl
      | some i=>have:=hdom 20 i h;simp [domA,obs,kyB,Yk] at this
     have hnew:=hS.new (d:=20) (id:=id) (x:=.row 5 (ss.map cfC)) (y:=.row 5 (ss.map cfC)) hid (.row _ _ _ ⟨rfl,fun j c d h1 h2=>by
      rw[h1] at h2;cases h2;obtain⟨x,_,rfl⟩:=List.mem_map.1 (List.mem_of_getElem? h1);exact Q4 _ _ rfl⟩)
     have hof:ofA (obs (kyB L) [(20,5,ss.map cfC)])=upd (swpO 20 (ofA (obs (kyB L) []))) 20 (some (.row 5 (ss.map cfC))):=by
      have hne:(ss.map cfC)≠[]:=by simpa using hs0
      funext t
      simp only[obs,kyB,Yk,if_neg hne,List.cons_append,List.nil_append,List.append_nil,ofA,upd,swpO];by_cases t0:t=1000000
      ·subst t0;simp [HX]
      ·by_cases t1:t=1000001
       ·subst t1;simp [Qw,swpR,swpL,swp]
       ·by_cases t2:t=20
        ·subst t2;simp
        ·simp [t0,t1,t2,emp]
     refine hK ss hss _ _ _ ?_ (by rw[hof];exact hnew) ?_ ?_ ?_
     ·show VR _ (ownV 20 5 (ss.map cfC)) _;rw[Qn hs0]
      have:=VR.rw (m:=upd m 20 (some id)) 20 id 5 0 ss.length (by simp [upd])
      exact this
     ·intro s hs;simp [stOf,Yk,domA] at hs;rcases hs with rfl|rfl<;>simp [upd]
     ·intro s i hi;have hne:(ss.map cfC)≠[]:=by simpa using hs0
      simp only[upd] at hi;simp only[domA,obs,kyB,Yk,if_neg hne];split at hi
      ·rename_i h;subst h;simp
      ·have:=hdom s i hi;simp [domA,obs,kyB,Yk] at this;rcases this with rfl|rfl<;>simp
     ·intro j x hj hno;have hji:j≠id:=fun h=>by rw[h,hid] at hj;cases hj
      refine⟨by simp [upd,hji,hj],fun s hs=>?_⟩
      simp only[upd] at hs;split at hs
      ·cases hs;exact hji rfl
      ·exact hno s hs
def QeW {ss:List Cf} (hn:ss.Nodup) (hm:∀ y,y∈ss↔y∈l):srtC ss=sdC l:=by
 refine List.Perm.eq_of_pairwise (le:=fun x y=>ordC x y≤0) (fun a b _ _ h1 h2=>?_) (Qc6 ss) ((Qjy l).imp fun h=>by omega) ?_
 ·have:=Zv a b
  exact (Yy a b).1 OM
 ·exact (HG ss).trans ((List.perm_ext_iff_of_nodup hn (DG l)).2 fun y=>by rw[hm,J4])
def QaK (s:Nat) (ss:List Cf):ownV s 5 ((srtC ss).map cfC)=ownV s 5 (ss.map cfC):=by
 by_cases h:ss=[]
 ·subst h;simp [srtC]
 ·have h2:srtC ss≠[]:=fun hh=>h (List.eq_nil_of_length_eq_zero (by rw[← YI,hh];rfl));rw[Qn h,Qn h2,YI]
def Qef (L:List (Cf × Int)):GenO (Call F) 23 [.mp 1000000] [(1000000,cfM L)] [] (.fn 44 [.pt 20 0 0]) [(1000000,cfM L),(20,.row 1 [[.mp 1000000]])] [] [1000000] []:=by
 refine Yl e23 rfl rfl (by simp [domA]) SM SM (by simp [domA]) fun o hb0 _=>?_;dsimp only[fn23,c23];have m0:=hb0 _ (List.mem_cons_self ..);dsimp only at m0;refine RT m0 ?_;refine QE [(1000000,cfM L),(1,.row 1 [[.mp 1000000]])] [] (fun s=>if s=1 then 20 else s) RM ?_ rfl SM ?_ SM RM ?_ ?_ SM
 ·simp only[List.map_cons,List.map_nil,Q9,ZD,renL,ren];rfl
 ·intro p hp;simp only[List.mem_cons,List.not_mem_nil,or_false] at hp;rcases hp with rfl|rfl
  ·simp only[m0,go_sem]
  ·simp only[go_sem]
 ·simp only[List.all_cons,List.all_nil,ZM];rfl
 ·simp [domA]
def Qc0 (L:List (Cf × Int)) (owns:List Ow):((kyB L).all fun p=>rfOb (domA (obs (kyB L) owns)) p.2)=true:=by
 have h:=Zc (base:=kyB L) (owns:=owns) (s:=1000000) (by simp [domA,kyB]);have h1:rfI (domA (obs (kyB L) owns)) (.mp 1000000)=true:=by rw[rfI];exact h
 generalize domA (obs (kyB L) owns)=D at h1;simp only[kyB,List.all_cons,List.all_nil,ZM,WV,rfL,h1,Bool.and_true]
def VG (ss:List Cf):QL (ss.map cfC)=true:=QJ (fun _=>rfl) ss
def Qjp {vs:List V} {Z:List Cf→List Cf} (hgen:KV (Call F) g (.fn 44 [.pt 1000001 0 0]::vs) (kyB L) [] (fun ss:List Cf=>ss.Perm (keyF L)) (fun ss=>ownV 20 5 ((Z ss).map cfC)) (fun _=>kyB L) (fun ss=>[(20,5,(Z ss).map cfC)]) [1000000,1000001] []) (hvs:cldL vs=true) {b:Nat} (t:Nat) (h1:s≠b) (h2:s≠t) (h3:b≠t) (ht:t < 1000000) (hargs:ods.map (Od.ev e)=.fn 44 [.pt b 0 0]::vs) (ms:o s=some (cfM L)) (mb:o b=some (.row 1 [[.mp s]]))
  (h:∀ ss:List Cf,ss.Perm (keyF L)→∀ o1,Own o1 t 5 ((Z ss).map cfC)→o1 s=some (cfM L)→o1 b=some (.row 1 [[.mp s]])→(∀ u,u≠s→u≠b→u≠t→o1 u=swpO t o u)→wpRU (Call F) k K (upd (swpE t e) d (ownV t 5 ((Z ss).map cfC))) o1):wpRU (Call F) (⟨some d,none,.nc g ods,[]⟩::k) K e o:=by
 refine Df (fun u=>if u=1000000 then s else if u=1000001 then b else u) (fun u=>if u=1000000 then s else if u=1000001 then b else if u=20 then t else u) [t] hgen ?_ ?_ SM ⟨keyF L,List.Perm.refl _⟩ (fun ss hss=>?_) SM (fun ss _=>by simp [VG]) fun ss hss o1 g1 g2 g3=>?_
 ·rw[hargs,renL,Yb _ _ hvs];rfl
 ·intro p hp;simp only[kyB,List.mem_cons,List.not_mem_nil,or_false] at hp;rcases hp with rfl|rfl
  ·simpa [Q9] using ms
  ·simpa [Qe,renL,ren] using mb
 ·refine QB (by simp [domA,kyB,h1]) (by simp [domA,kyB,h1,h2,h3]) (by simp [domA,kyB]) ?_ (Qc0 _ _) ?_ (Qc0 _ _) SM (by simp [VG]) ?_ SM ?_ SM ?_ ?_
  ·simp only[rfL,Jd _ _ hvs,rfI,Bool.and_true];exact Zc (base:=kyB L) (s:=1000001) (by simp [domA,kyB])
  ·exact Q8 SM
  ·simp [domA,kyB,h1,h2,h3]
  ·simp [domA,kyB]
  ·simp [domA,kyB]
  ·simp [ht]
 ·rw[show ren (fun u=>if u=1000000 then s else if u=1000001 then b else if u=20 then t else u) (ownV 20 5 ((Z ss).map cfC))=ownV t 5 ((Z ss).map cfC) from by rw[QT];rfl];refine h ss hss o1 ⟨HT _,g2 (20,5,(Z ss).map cfC) SM⟩ ?_ ?_ fun u h4 h5 h6=>g3 u ?_
  ·have:=g1 (1000000,cfM L) (by simp [kyB])
   simpa [Q9] using this
  ·have:=g1 (1000001,.row 1 [[.mp 1000000]]) (by simp [kyB])
   simpa [Qe,renL,ren] using this
  ·intro s' hs';simp [domA,kyB] at hs';rcases hs' with rfl|rfl|rfl
   ·simpa using Ne.symm h4
   ·simpa using Ne.symm h5
   ·simpa using Ne.symm h6
def VN (L:List (Cf × Int)) (hn:L.length≤2147483648):KV (Call F) 22 [.fn 44 [.pt 1000001 0 0],.fn 24 []] (kyB L) [] (fun ss:List Cf=>ss.Perm (keyF L)) (fun ss=>ownV 20 5 ((srtC ss).map cfC)) (fun _=>kyB L) (fun ss=>[(20,5,(srtC ss).map cfC)]) [1000000,1000001] []:=by
 refine D0 e22 rfl rfl (fun i hi=>by simp [domA,kyB]) SM SM (by simp [domA,kyB]) fun o hb0 _=>?_;dsimp only[fn22,c22];have m0:=hb0 (1000000,cfM L) (by simp [kyB]);have m1:=hb0 (1000001,.row 1 [[.mp 1000000]]) (by simp [kyB]);dsimp only at m0 m1;clear hb0;refine RT trivial ?_;refine Qjp (Z:=fun ss=>ss) (Qfe L hn) rfl (s:=1000000) (b:=1000001) 2000 LM LM LM LM (Z0) (Z1 m0) (Z1 m1) fun ss hss o1 f1 p0 p1 _=>?_;have hlen:ss.length≤2147483648:=by rw[hss.length_eq];simpa [keyF] using hn
 refine RN trivial ?_;refine VQ 2000 (l0:=ss) OM (Z0) f1 fun o2 f2 p2=>?_;refine RN trivial ?_
 refine⟨ss,hss,QE (kyB L) [(2000,5,(srtC ss).map cfC)] (fun u=>if u=2000 then 20 else u) ?_ ?_ rfl (by simp [VG]) ?_ ?_ ?_ (Qc0 _ _) ?_ SM⟩
 ·rw[← QaK 2000 ss,QT];rfl
 ·simp only[kyB,List.map_cons,List.map_nil,Q9,ZD,renL,ren];rfl
 ·intro p hp;simp only[kyB,List.mem_cons,List.not_mem_nil,or_false] at hp;rcases hp with rfl|rfl
  ·rw[p2 _ SM];exact p0
  ·rw[p2 _ SM];exact p1
 ·intro q hq;rw[List.mem_singleton.1 hq];exact f2.h
 ·rw[← QaK 2000 ss];exact Q8 SM
 ·simp [domA,kyB]
def bhS (A:Au) (w:List Nat):List Cf:=sdC (bhF A w w.length)
set_option maxHeartbeats 1000000 in
def HL (hW:WF A) (hf:A.first.length≤1000) (hL:∀ l∈A.moves,l.length < 2147483648) (w:List Nat) (hw:∀ b∈w,b < 256) (hl:w.length≤41):Pu F 10 [.ag (auC A),wdV w] (.sl ((bhS A w).map cfC)):=by
 refine Ql e10 rfl rfl (by simp only[go_sem,Bool.and_true,wdV]) ?_;dsimp only[fn10,c10];have hau:cldL (auC A)=true:=Kk A;have hra:∀ D,rfL D [.ag (auC A),wdV w,.fn 21 []]=true:=fun D=>Jd D _ (by simp only[go_sem,Bool.and_true,wdV]);have hre:∀ f,renL f [.ag (auC A),wdV w,.fn 21 []]=[.ag (auC A),wdV w,.fn 21 []]:=fun f=>Yb f _ (by simp only[go_sem,Bool.and_true,wdV]);refine RT trivial ?_;refine Df (fun u=>u) (fun u=>if u=20 then 2000 else u) [2000] (QbS hW hf hL w hw OM) ?_ SM SM (QnB A w w.length) (fun L hL=>?_) SM SM fun L hwk o1 g1 _ g3=>?_
 ·rw[hre];simp only[wdV,List.take_succ_cons,List.take_zero,List.drop_succ_cons,List.drop_zero,go_sem]
 ·refine QB (by simp [domA]) (by simp [domA]) (by simp [domA]) (hra _) SM ?_ ?_ SM SM SM SM (by simp [domA]) SM ?_ SM
  ·rw[rfI];exact Zc (base:=[(20,cfM L)]) (s:=20) (by simp [domA])
  ·simp only[List.all_cons,List.all_nil,ZM];rfl
  ·simp [domA]
 have p0:o1 2000=some (cfM L):=by
  have:=g1 (20,cfM L) SM
  simpa [Q9] using this
 clear g1 g3;have hlen:L.length≤130691232:=by
  have:=Qcx hW (w:=w) hl hwk.nd fun y hy=>(hwk.mem y).1 hy
  simpa [keyF] using this
 rw[show ren (fun u=>if u=20 then 2000 else u) (.mp 20)=.mp 2000 from rfl];refine RN trivial ?_;refine ZL (fun u=>2000) (fun u=>if u=1000000 then 2000 else if u=20 then 2001 else u) [2001] (Qef L) ?_ ?_ SM ?_ SM SM fun o2 g1 _ _=>?_
 ·(simp only[go_sem]<;>rfl)
 ·intro p hp;rw[List.mem_singleton.1 hp];simpa [Q9] using p0
 ·refine QB (by simp [domA]) (by simp [domA]) (by simp [domA]) ?_ ?_ ?_ ?_ SM SM (by simp [domA]) SM (by simp [domA]) SM (by simp [domA]) SM
  ·simp only[rfL,rfI,Bool.and_true];exact Zc (base:=[(1000000,cfM L)]) (s:=1000000) (by simp [domA])
  ·simp only[List.all_cons,List.all_nil,ZM];rfl
  ·simp only[rfI,rfL,Bool.and_true];exact Zc (base:=[(1000000,cfM L),(20,.row 1 [[.mp 1000000]])]) (s:=20) (by simp [domA])
  ·have h1:rfI (domA (obs [(1000000,cfM L),(20,.row 1 [[.mp 1000000]])] [])) (.mp 1000000)=true:=by rw[rfI];exact Zc (base:=[(1000000,cfM L),(20,.row 1 [[.mp 1000000]])]) (s:=1000000) (by simp [domA])
   generalize domA (obs [(1000000,cfM L),(20,.row 1 [[.mp 1000000]])] [])=D at h1;simp only[List.all_cons,List.all_nil,ZM,WV,rfL,h1,Bool.and_true]
 have q0:o2 2000=some (cfM L):=by
  have:=g1 (1000000,cfM L) SM
  simpa [Q9] using this
 have q1:o2 2001=some (.row 1 [[.mp 2000]]):=by
  have:=g1 (20,.row 1 [[.mp 1000000]]) SM
  simpa [Qe,renL,ren] using this
 clear g1 p0;rw[show ren (fun u=>if u=1000000 then 2000 else if u=20 then 2001 else u) (.fn 44 [.pt 20 0 0])=.fn 44 [.pt 2001 0 0] from rfl];refine RN trivial ?_;refine Qjp (Z:=srtC) (VN L OM) rfl (s:=2000) (b:=2001) 2002 LM LM LM LM (Z0) (Z1 q0) (Z1 q1) fun ss hss o3 f1 _ _ _=>?_;have he:srtC ss=bhS A w:=QeW (hss.nodup_iff.2 hwk.nd) fun y=>by rw[hss.mem_iff,hwk.mem]
 rw[he] at f1 ⊢;refine RN trivial ?_;exact Y0 f1 (QfP _) 22
def QkX (h:o s=some (.row 15 [auC A])):fzU o (.pt s 0 0)=some (.ip (auC A) 0):=by
 have h1:=QaD A;have h2:(auC A).all (okf 23)=true:=h1;have h3:(auC A).mapM (frzU 23 o)=some (auC A):=ZV fun v hv=>JK _ v (List.all_eq_true.1 h2 v hv);show frzU (23+1) o _=_;simp only[frzU,Qs,h,List.getElem?_cons_zero,h3,Option.map_some]
def QmM (hW:WF A) (x:Cf):Pu F 26 [.ag (cfC x),.ip (auC A) 0] (.bo (accB A x)):=by
 have ha:=Qmo hW x;refine Ql e26 rfl rfl (by simp only[go_sem,Bool.and_true]) ?_;dsimp only[fn26,c26];refine RT trivial ?_;refine PRT trivial (r:=.bo (accB A x)) ha ?_;refine RT trivial ?_;exact QS rfl rfl
def mtB (A:Au):List (Nat × Ob):=[(1000000,.row 15 [auC A])]
def DW (A:Au) (D:List Nat):((mtB A).all fun p=>rfOb D p.2)=true:=by
 have:rfL D (auC A)=true:=Jd D _ (Kk A)
 simp only[mtB,List.all_cons,List.all_nil,WV,this,Bool.and_true]
def QfN (A:Au) (f:Nat→Nat):Qe f (.row 15 [auC A])=.row 15 [auC A]:=by
 rw[ZD,List.map_cons,Yb f _ (Kk A)];rfl
def QfC (hW:WF A) (l:List Cf) (hl:l.length < 4294967296):GenO (Call F) 48 [.sl (l.map cfC),.fn 26 [.pt 1000000 0 0]] (mtB A) [] (.i .i64 (idxF (accB A) l)) (mtB A) [] [1000000] []:=by
 refine Yl e48 rfl rfl (by simp [domA,mtB]) SM SM (by simp [domA,mtB]) fun o hb0 _=>?_;dsimp only[fn48,c48];have m0:=hb0 _ (List.mem_cons_self ..);dsimp only at m0;clear hb0;have fin:∀ (n:Int) (o:O),o 1000000=some (.row 15 [auC A])→n=idxF (accB A) l→GenE (domA (obs (mtB A) [])) (obs (mtB A) []) (.i .i64 (idxF (accB A) l)) (stOf [1000000] []) (.i .i64 n) o:=fun n o h1 h2=>by
  subst h2;refine QE (mtB A) [] (fun s=>s) RM ?_ rfl SM ?_ SM RM (DW A _) ?_ SM
  ·simp [mtB,Ye]
  ·simp [mtB,h1]
  ·simp [domA,mtB]
 refine RT trivial ?_;refine U_lp (fun r e o=>∃ i:Nat,i+r=l.length∧e 0=.sl (l.map cfC)∧e 1=.fn 26 [.pt 1000000 0 0]∧e 7=.i .i64 l.length∧e 8=.i .i64 i∧o 1000000=some (.row 15 [auC A])∧∀ x∈l.take i,accB A x=false) (k:=l.length) ?_ (Qa F) ?_
 ·exact⟨0,OM,Z0,Z0,by simp only[List.length_map,go_sem],Zr0,m0,SM⟩
 clear m0;rintro r e o ⟨i,hir,h0,h1,h7,h8,m0,hp⟩;dsimp only[Qmv];refine RN (Ad2 h7 h8) ?_;refine Qx (q:=decide ((i:Int) < (l.length:Int))) (Z0) (fun hc=>?_) (fun hc=>?_)
 ·have hi:i < l.length:=by simpa using hc
  have hxi:=Vy hi;have hw1:=Wb (i:=i) OM;have hpos:(0:Int)≤(i:Int):=by omega
  have hpt:=QkX m0;refine RT (Ad2 h0 (Ad5 h1 h7 h8 hpos hxi)) ?_;refine U_pv (g:=26) (cs:=[.pt 1000000 0 0]) (vs:=[.ag (cfC l[i]),.pt 1000000 0 0]) (ws:=[.ag (cfC l[i]),.ip (auC A) 0]) (r:=.bo (accB A l[i])) (Z1 h1) (Zr0) ?_ (Bool.or_eq_true_iff.2 (.inr rfl)) rfl (QmM hW l[i]) ?_
  ·have hx:fzU o (.ag (cfC l[i]))=some (.ag (cfC l[i])):=JL rfl;simp [fzsU,hx,hpt]
  refine RN trivial ?_;refine Qx (q:=accB A l[i]) (Z0) (fun hc2=>?_) (fun hc2=>?_)
  ·refine RN h8 ?_;have h2:l.any (accB A)=true:=List.any_eq_true.2 ⟨l[i],List.getElem_mem _,hc2⟩;have h3:l.findIdx (accB A)=i:=(List.findIdx_eq hi).2 ⟨hc2,fun j hj=>hp _ (by rw[List.mem_take_iff_getElem];exact⟨j,OM,rfl⟩)⟩;exact fin _ _ m0 (by simp [idxF,h2,h3])
  ·refine RN (Ad2 h8 hw1) ?_
   refine⟨r - 1,OM,i+1,OM,Z1 h0,Z1 h1,Z1 h7,Z0,m0,fun x hx=>?_⟩
   rw[List.take_add_one,List.getElem?_eq_getElem hi] at hx;rcases List.mem_append.1 hx with hx|hx
   ·exact hp x hx
   ·simp at hx;rw[hx];exact hc2
 ·have hi:i=l.length:=by
   have:¬ i < l.length:=by simpa using hc
   omega
  subst hi;rw[List.take_length] at hp
  have:l.any (accB A)=false:=by
   rw[Bool.eq_false_iff];intro h;obtain⟨x,hx,hx2⟩:=List.any_eq_true.1 h;rw[hp x hx] at hx2;cases hx2
  refine RN trivial ?_;exact fin _ _ m0 (by simp [idxF,this])
def Qml {r:V} (hr:cld r=true) (hgen:GenO (Call F) g [.sl (l.map cfC),.fn 26 [.pt 1000000 0 0]] (mtB A) [] r (mtB A) [] [1000000] []) (hargs:ods.map (Od.ev e)=[.sl (l.map cfC),.fn 26 [.pt s 0 0]]) (ms:o s=some (.row 15 [auC A]))
  (h:∀ o1,o1 s=some (.row 15 [auC A])→(∀ u,u≠s→o1 u=o u)→wpRU (Call F) k K (upd e d r) o1):wpRU (Call F) (⟨some d,none,.nc g ods,[]⟩::k) K e o:=by
 refine ZL (fun _=>s) (fun _=>s) [] hgen ?_ ?_ SM ?_ SM SM fun o1 g1 _ g3=>?_
 ·rw[hargs];rfl
 ·intro p hp;rw[List.mem_singleton.1 hp];rw[QfN];exact ms
 ·refine QB (by simp [domA,mtB]) (by simp [domA,mtB]) (by simp [domA,mtB]) ?_ (DW A _) (Jy _ _ hr) (DW A _) SM SM (by simp [domA,mtB]) SM (by simp [domA,mtB]) SM (by simp [domA,mtB]) SM;simp only[rfL,rfI,Bool.and_true,Bool.true_and];exact Zc (base:=mtB A) (s:=1000000) (by simp [domA,mtB])
 ·rw[Wk _ _ hr];refine h o1 ?_ fun u hu=>g3 u fun s' _=>Ne.symm hu
  have:=g1 (1000000,.row 15 [auC A]) (by simp [mtB])
  rw[QfN] at this;exact this
def QfJ (hW:WF A) (l:List Cf) (hl:l.length < 4294967296):GenO (Call F) 25 [.sl (l.map cfC),.fn 26 [.pt 1000000 0 0]] (mtB A) [] (.bo (l.any (accB A))) (mtB A) [] [1000000] []:=by
 refine Yl e25 rfl rfl (by simp [domA,mtB]) SM SM (by simp [domA,mtB]) fun o hb0 _=>?_;dsimp only[fn25,c25];have m0:=hb0 _ (List.mem_cons_self ..);dsimp only at m0;clear hb0;have hdi:=Zp (accB A) l;refine RT trivial ?_;refine Qml RM (QfC hW l hl) (s:=1000000) (Z0) (Z1 m0) fun o1 m1 _=>?_;refine RN hdi ?_;refine QE (mtB A) [] (fun s=>s) RM ?_ rfl SM ?_ SM RM (DW A _) ?_ SM
 ·simp [mtB,Ye]
 ·simp [mtB,m1]
 ·simp [domA,mtB]
def mtF (A:Au) (w:List Nat):Bool:=if w=[] then A.empty else (bhS A w).any (accB A)
def Qjc (hW:WF A) (w:List Nat) (hl:w.length≤41):(bhS A w).length≤130691232 :=
 Qcx hW hl (DG _) fun y hy=>(J4 _ y).1 hy
set_option maxHeartbeats 1000000 in
def Xd (hW:WF A) (hf:A.first.length≤1000) (hL:∀ l∈A.moves,l.length < 2147483648) (w:List Nat) (hw:∀ b∈w,b < 256) (hl:w.length≤41):Pu F 11 [.ag (auC A),wdV w] (.bo (mtF A w)):=by
 have hbh:=HL hW hf hL w hw hl;have hlen:=Qjc hW w hl;refine Ql e11 rfl rfl (by simp only[go_sem,Bool.and_true,wdV]) ?_;dsimp only[fn11,c11];by_cases h0:w=[]
 ·subst h0;(repeat (with_reducible (first|refine YJ ?_|refine Z9 ?_|refine Y9 ?_|refine JH ?_|refine X_nx ?_|refine X_rt ?_|((first|refine U_q (v:=?_) ?h1 ?_|refine U_ld (v:=?_) ?h1 ?_|refine E_1 (v:=?_) ?h1 ?_|refine Jt ?h1 ?_);case h1=>((try simp only[wdV,List.map_nil,List.length_nil,QgW,List.take_succ_cons,List.take_zero,List.drop_succ_cons,List.drop_zero,go_sem])<;>rfl))|(refine Ka (cs:=?_) (cs':=?_) (n:=?_) ?h1 ?h2 ?h3 ?h4 ?_;case h1|h2|h3|h4=>((try simp only[wdV,List.map_nil,List.length_nil,QgW,List.take_succ_cons,List.take_zero,List.drop_succ_cons,List.drop_zero,go_sem])<;>rfl)))));exact QS rfl rfl
 ·have c0:((w.length:Int)==0)=false:=by simp [h0]
  have he:mtF A w=(bhS A w).any (accB A):=by rw[mtF,if_neg h0]
  rw[he];refine RT (Ad2 wdV.eq_1 c0) ?_;have hbh':Pu F 10 [.ag (auC A),.sl (w.map fun b:Nat=>[.i .u8 (b:Int)])] (.sl ((bhS A w).map cfC)):=hbh;refine PCT trivial (r:=.sl ((bhS A w).map cfC)) (hbh') ?_;refine RT trivial ?_;refine Qml RM (QfJ hW (bhS A w) OM) (s:=2) (Z0) (by simp only[List.take_succ_cons,List.take_zero,List.drop_succ_cons,List.drop_zero,go_sem]) fun o1 _ _=>?_;refine RN trivial ?_;exact QS rfl rfl
def QgE:bhS (Qr twoT) [1]=[twoC]:=by
 have h:bhF (Qr twoT) [1] 1=begF (Qr twoT) 1:=rfl;show sdC (bhF (Qr twoT) [1] 1)=_;rw[h,Qiq,Qgy]
def QlA:mtF (Qr twoT) [1]=true:=by
 rw[mtF,if_neg SM,QgE];simp [QgY]
def Qc2:Pu F 8 [] (.bo true):=by
 have hA:=QeL;have hL:∀ l∈(Qr twoT).moves,l.length < 2147483648:=by
  intro l hl;have hl:l∈(List.range (plT twoT).sets.length).map fun p=>srtM (Za (wk twoT 0 0 []).L p):=hl;rw[Qgc] at hl;obtain⟨p,_,rfl⟩:=List.mem_map.1 hl;simp [srtM,Za]
 have hf:(Qr twoT).first.length≤1000:=by rw[XA];simp
 have hB:=HL Qgm hf hL [1] SM SM;rw[QgE] at hB;have hM:=Xd Qgm hf hL [1] SM SM;rw[QlA] at hM;have hcel:V.ag (cel twoT)=.ag [.i .i64 1,.i .u64 2,.i .u64 0,.i .u64 0,.i .u64 0,.sl [],.i .i64 0,.i .i64 0]:=rfl;rw[hcel] at hA;have hfl:(V.sl ((Qr twoT).first.map inC))=.sl [[.i .i64 1]]:=by rw[XA];rfl
 generalize Qr twoT=A at hA hB hM hfl;have hB':Pu F 10 [.ag (auC A),.sl [[.i .u8 1]]] (.sl [cfC twoC]):=hB;have hM':Pu F 11 [.ag (auC A),.sl [[.i .u8 1]]] (.bo true):=hM;refine Ql e8 rfl rfl (by simp only[go_sem,Bool.and_true]) ?_;dsimp only[fn8,c8];refine RT trivial ?_;refine U_pc (ws:=[.ag [.i .i64 1,.i .u64 2,.i .u64 0,.i .u64 0,.i .u64 0,.sl [],.i .i64 0,.i .i64 0]]) (Zr0) rfl (Bool.or_eq_true_iff.2 (.inl ?_)) ?_ hA ?_
 ·rfl
 ·simp only[Bool.and_true,go_sem]
 refine RT hfl ?_;refine U_q (v:=.sl [[.i .u8 1]]) (by (simp only[litV,List.take_succ_cons,List.take_zero,List.drop_succ_cons,List.drop_zero,go_sem]<;>rfl)) ?_;refine RT trivial ?_;refine PRT trivial (r:=.bo true) (hM') ?_;refine RT trivial ?_;refine U_q (v:=.sl [[.i .u8 1]]) (by (simp only[litV,List.take_succ_cons,List.take_zero,List.drop_succ_cons,List.drop_zero,go_sem]<;>rfl)) ?_;refine RT trivial ?_;refine PCT trivial (r:=.sl [cfC twoC]) (hB') ?_;refine RT trivial ?_;rfl
end Go.Proofs.YtocmjakchgcioaaGreat
