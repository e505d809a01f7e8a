import Derived.Test.YtocmjakchgcioaaGreatKq

namespace Go.Proofs.YtocmjakchgcioaaGreat
set_option linter.all false
attribute [-go_sem] QE Qn rfOb V.cells
theorem OR.one {m:Nm} {v:V} {y:Ob} (h:OR m (.row 1 [[v]]) y):∃ x,y=.row 1 [[x]]∧VR m v x:=by
 cases h with
 | row _ _ fs h =>
  have hl:=h.len
  match fs,hl with
  | [c],_ =>
   have h1:=h.at_ 0 [v] c rfl rfl;obtain⟨x,ds,rfl,h2,h3⟩:=h1.inv;obtain rfl:=h3.inv0
   exact⟨x,rfl,h2⟩
theorem Qdr {m:Nm} {L:List (Cf × Int)} {y:Ob} (h:OR m (cfM L) y):∃ ents clock,y=.map ents clock∧ents.map (·.2.1)=(keyF L).map (fun x=>.ag (cfC x)):=by
 have hgen:∀ (es:List (Nat × V × V)) (c:Nat),cfM L=.map es c→∃ ents clock,y=.map ents clock∧ents.map (·.2.1)=es.map (·.2.1):=by
  intro es c he;rw[he] at h;cases h with
  | map _ fs clock hl h =>
   refine⟨fs,c,rfl,?_⟩
   apply List.ext_getElem?;intro j;rw[List.getElem?_map,List.getElem?_map];cases hb:fs[j]? with
   | none=>rw[List.getElem?_eq_none (by rw[← hl];exact List.getElem?_eq_none_iff.1 hb)]
   | some b =>
    have hj:j < es.length:=by rw[← hl];exact (List.getElem?_eq_some_iff.1 hb).1
    obtain⟨_,h2,_⟩:=h j es[j] b (List.getElem?_eq_getElem hj) hb;rw[List.getElem?_eq_getElem hj];have hk:ok es[j].2.1=true:=by
     have he2:Qu 0 (encL cfV (L.map cfP))=es:=by
      have:cfM L=.map (Qu 0 (encL cfV (L.map cfP))) (encL cfV (L.map cfP)).length:=rfl
      rw[this] at he;injection he
     have:=WC (P:=fun x=>ok x.2.1=true) (fun n k i=>rfl) L 0 es[j] (by rw[he2];exact List.getElem_mem hj)
     exact this
    simp only[Option.map_some,Qay h2 hk]
 obtain⟨ents,clock,h1,h2⟩:=hgen (Qu 0 (encL cfV (L.map cfP))) _ rfl
 refine⟨ents,clock,h1,?_⟩
 rw[h2];clear h2 h1 hgen h
 have:∀ (M:List (Cf × Int)) (n:Nat),(Qu n (encL cfV (M.map cfP))).map (·.2.1)=(keyF M).map (fun x=>V.ag (cfC x)):=by
  intro M;induction M with
  | nil=>intro n;rfl
  | cons x M ih=>intro n;have:=ih (n+1);simp only[encL,List.map_cons,cfP,Qu,keyF] at this ⊢;rw[this];rfl
 exact this L 0
def kyB (L:List (Cf × Int)):List (Nat × Ob):=[(1000000,cfM L),(1000001,.row 1 [[.mp 1000000]])]
theorem QdB (L:List (Cf × Int)) (hn:L.length≤2147483648):KD (Call F) 42 [.fn 44 [.pt 1000001 0 0]] (kyB L) [] (fun ss:List Cf=>ss.Perm (keyF L)) (fun ss=>ownV 20 5 (ss.map cfC)) (fun _=>kyB L) (fun ss=>[(20,5,ss.map cfC)]) [1000000,1000001] []:=by
 intro m xs o K hxs hS hdom hK;obtain⟨a,ya,ha1,ha2,ha3⟩:=hS.ob 1000000 (cfM L) rfl;obtain⟨c,yc,hc1,hc2,hc3⟩:=hS.ob 1000001 (.row 1 [[.mp 1000000]]) rfl;obtain⟨x,ds,rfl,h1,h2⟩:=hxs.inv;obtain rfl:=h2.inv0;obtain⟨y,rfl,hy⟩:=hc3.one;obtain⟨ents,clock,rfl,hke⟩:=Qdr ha3;have hF:F 42=none:=rfl;cases h1 with
 | fn _ _ ds hl hr =>
  have h3:VRs m [.pt 1000001 0 0] ds:=⟨hl,hr⟩;obtain⟨z,zs,rfl,h4,h5⟩:=h3.inv;obtain rfl:=h5.inv0;cases h4 with
  | pt _ id _ _ hid =>
   rw[hc1] at hid;cases hid;cases hy with
   | mp _ id hid =>
    rw[ha1] at hid;cases hid;refine Z9 hF (Ql1 ⟨rfl,c,a,ents,clock,keyF L,rfl,hc2,ha2,hke,by simpa [keyF] using hn,fun h0=>?_,fun ss hss hne id hid=>?_⟩)
    ·refine hK [] (by rw[h0]) m .nil o .nil ?_ (fun _ _=>rfl) ?_ fun j x h h2=>⟨h,h2⟩
     ·exact hS
     ·exact hdom
    ·have hs0:ss≠[]:=fun h=>hne (by rw[h] at hss;exact List.nil_perm.1 hss);have hm20:m 20=none:=by
      cases h:m 20 with
      | none=>rfl
      | some i=>have:=hdom 20 i h;simp [domA,obs,kyB,Yp] at this
     have hnew:=hS.new (d:=20) (id:=id) (x:=.row 5 (ss.map cfC)) (y:=.row 5 (ss.map cfC)) hid (.row _ _ _ ⟨rfl,fun j c d h1 h2=>by
      rw[h1] at h2;cases h2;obtain⟨x,_,rfl⟩:=List.mem_map.1 (List.mem_of_getElem? h1);exact Zf _ _ rfl⟩)
     have hof:ofA (obs (kyB L) [(20,5,ss.map cfC)])=upd (swpO 20 (ofA (obs (kyB L) []))) 20 (some (.row 5 (ss.map cfC))):=by
      have hne:(ss.map cfC)≠[]:=by simpa using hs0
      funext t
      simp only[obs,kyB,Yp,if_neg hne,List.cons_append,List.nil_append,List.append_nil,ofA,upd,swpO];by_cases t0:t=1000000
      ·subst t0;simp [Hx]
      ·by_cases t1:t=1000001
       ·subst t1;simp [QE,swpR,swpL,swp]
       ·by_cases t2:t=20
        ·subst t2;simp
        ·simp [t0,t1,t2,emp]
     refine hK ss hss _ _ _ ?_ (by rw[hof];exact hnew) ?_ ?_ ?_
     ·show VR _ (ownV 20 5 (ss.map cfC)) _;rw[Qx hs0]
      have:=VR.rw (m:=upd m 20 (some id)) 20 id 5 0 ss.length (by simp [upd])
      exact this
     ·intro s hs;simp [stOf,Yp,domA] at hs;rcases hs with rfl|rfl<;>simp [upd]
     ·intro s i hi;have hne:(ss.map cfC)≠[]:=by simpa using hs0
      simp only[upd] at hi;simp only[domA,obs,kyB,Yp,if_neg hne];split at hi
      ·rename_i h;subst h;simp
      ·have:=hdom s i hi;simp [domA,obs,kyB,Yp] at this;rcases this with rfl|rfl<;>simp
     ·intro j x hj hno;have hji:j≠id:=fun h=>by rw[h,hid] at hj;cases hj
      refine⟨by simp [upd,hji,hj],fun s hs=>?_⟩
      simp only[upd] at hs;split at hs
      ·cases hs;exact hji rfl
      ·exact hno s hs
end Go.Proofs.YtocmjakchgcioaaGreat
namespace Go.Proofs.YtocmjakchgcioaaGreat
set_option linter.all false
attribute [-go_sem] QE Qn rfOb V.cells
theorem Qde {ss l:List Cf} (hn:ss.Nodup) (hm:∀ y,y∈ss↔y∈l):srtC ss=sdC l:=by
 refine List.Perm.eq_of_pairwise (le:=fun x y=>ordC x y≤0) (fun a b _ _ h1 h2=>?_) (Qcp ss) ((QgZ l).imp fun h=>by omega) ?_
 ·have:=Zz a b
  exact (YC a b).1 (by omega)
 ·exact (Hg ss).trans ((List.perm_ext_iff_of_nodup hn (Ke l)).2 fun y=>by rw[hm,Jh])
theorem Du (s:Nat) (ss:List Cf):ownV s 5 ((srtC ss).map cfC)=ownV s 5 (ss.map cfC):=by
 by_cases h:ss=[]
 ·subst h;simp [srtC]
 ·have h2:srtC ss≠[]:=fun hh=>h (List.eq_nil_of_length_eq_zero (by rw[← YN,hh];rfl));rw[Qx h,Qx h2,YN]
theorem Qed (L:List (Cf × Int)):GenO (Call F) 23 [.mp 1000000] [(1000000,cfM L)] [] (.fn 44 [.pt 20 0 0]) [(1000000,cfM L),(20,.row 1 [[.mp 1000000]])] [] [1000000] []:=by
 refine Yw e23 rfl rfl (by simp [domA]) (by simp) (by simp) (by simp [domA]) fun o hb0 _=>?_;dsimp only[fn23,c23];have m0:=hb0 _ (List.mem_cons_self ..);dsimp only at m0;(repeat (with_reducible (first|refine Qa ?_|refine Qc ?_|refine Qb ?_|refine Qf ?_|refine X_nx ?_|((first|refine U_q (v:=?_) ?h1 ?_|refine E_1 (v:=?_) ?h1 ?_);case h1=>((try simp only[m0,List.take_succ_cons,List.take_zero,List.drop_succ_cons,List.drop_zero,go_sem])<;>rfl))|(refine QC (cs:=?_) (cs':=?_) (n:=?_) ?h1 ?h2 ?h3 ?h4 ?_;case h1|h2|h3|h4=>((try simp only[m0,List.take_succ_cons,List.take_zero,List.drop_succ_cons,List.drop_zero,go_sem])<;>rfl)))));refine QL [(1000000,cfM L),(1,.row 1 [[.mp 1000000]])] [] (fun s=>if s=1 then 20 else s) (by rfl) ?_ rfl (by simp) ?_ (by simp) (by rfl) ?_ ?_ (by simp)
 ·simp only[List.map_cons,List.map_nil,Zo,ZM,renL,ren];rfl
 ·intro p hp;simp only[List.mem_cons,List.not_mem_nil,or_false] at hp;rcases hp with rfl|rfl
  ·simp only[m0,go_sem]
  ·simp only[go_sem]
 ·simp only[List.all_cons,List.all_nil,ZW];rfl
 ·simp [domA]
theorem QaQ (L:List (Cf × Int)) (owns:List Ow):((kyB L).all fun p=>rfOb (domA (obs (kyB L) owns)) p.2)=true:=by
 have h:=Zq (base:=kyB L) (owns:=owns) (s:=1000000) (by simp [domA,kyB]);have h1:rfI (domA (obs (kyB L) owns)) (.mp 1000000)=true:=by rw[rfI];exact h
 generalize domA (obs (kyB L) owns)=D at h1;simp only[kyB,List.all_cons,List.all_nil,ZW,WH,rfL,h1,Bool.and_true]
theorem H6 (ss:List Cf):QT (ss.map cfC)=true:=QS (fun _=>rfl) ss
theorem Qjd {g:Nat} {vs:List V} {L:List (Cf × Int)} {Z:List Cf→List Cf} (hgen:KD (Call F) g (.fn 44 [.pt 1000001 0 0]::vs) (kyB L) [] (fun ss:List Cf=>ss.Perm (keyF L)) (fun ss=>ownV 20 5 ((Z ss).map cfC)) (fun _=>kyB L) (fun ss=>[(20,5,(Z ss).map cfC)]) [1000000,1000001] []) (hvs:cldL vs=true)
  {e:E} {o:O} {d s b:Nat} (t:Nat) (h1:s≠b) (h2:s≠t) (h3:b≠t) (ht:t < 1000000) {ods:List Od} {k:List Stp} {K:E→O→Prop} (hargs:ods.map (Od.ev e)=.fn 44 [.pt b 0 0]::vs) (ms:o s=some (cfM L)) (mb:o b=some (.row 1 [[.mp s]]))
  (h:∀ ss:List Cf,ss.Perm (keyF L)→∀ o1,Own o1 t 5 ((Z ss).map cfC)→o1 s=some (cfM L)→o1 b=some (.row 1 [[.mp s]])→(∀ u,u≠s→u≠b→u≠t→o1 u=swpO t o u)→wpRU (Call F) k K (upd (swpE t e) d (ownV t 5 ((Z ss).map cfC))) o1):wpRU (Call F) (⟨some d,none,.nc g ods,[]⟩::k) K e o:=by
 refine HU (fun u=>if u=1000000 then s else if u=1000001 then b else u) (fun u=>if u=1000000 then s else if u=1000001 then b else if u=20 then t else u) [t] hgen ?_ ?_ (by simp) ⟨keyF L,List.Perm.refl _⟩ (fun ss hss=>?_) (by simp) (fun ss _=>by simp [H6]) fun ss hss o1 g1 g2 g3=>?_
 ·rw[hargs,renL,Yn _ _ hvs];rfl
 ·intro p hp;simp only[kyB,List.mem_cons,List.not_mem_nil,or_false] at hp;rcases hp with rfl|rfl
  ·simpa [Zo] using ms
  ·simpa [Qn,renL,ren] using mb
 ·refine QI (by simp [domA,kyB,h1]) (by simp [domA,kyB,h1,h2,h3]) (by simp [domA,kyB]) ?_ (QaQ _ _) ?_ (QaQ _ _) (by simp) (by simp [H6]) ?_ (by simp) ?_ (by simp) ?_ ?_
  ·simp only[rfL,Jb _ _ hvs,rfI,Bool.and_true];exact Zq (base:=kyB L) (s:=1000001) (by simp [domA,kyB])
  ·exact Zm (by simp)
  ·simp [domA,kyB,h1,h2,h3]
  ·simp [domA,kyB]
  ·simp [domA,kyB]
  ·simp [ht]
 ·rw[show ren (fun u=>if u=1000000 then s else if u=1000001 then b else if u=20 then t else u) (ownV 20 5 ((Z ss).map cfC))=ownV t 5 ((Z ss).map cfC) from by rw[Q6];rfl];refine h ss hss o1 ⟨XE _,g2 (20,5,(Z ss).map cfC) (by simp)⟩ ?_ ?_ fun u h4 h5 h6=>g3 u ?_
  ·have:=g1 (1000000,cfM L) (by simp [kyB])
   simpa [Zo] using this
  ·have:=g1 (1000001,.row 1 [[.mp 1000000]]) (by simp [kyB])
   simpa [Qn,renL,ren] using this
  ·intro s' hs';simp [domA,kyB] at hs';rcases hs' with rfl|rfl|rfl
   ·simpa using Ne.symm h4
   ·simpa using Ne.symm h5
   ·simpa using Ne.symm h6
theorem Vo (L:List (Cf × Int)) (hn:L.length≤2147483648):KD (Call F) 22 [.fn 44 [.pt 1000001 0 0],.fn 24 []] (kyB L) [] (fun ss:List Cf=>ss.Perm (keyF L)) (fun ss=>ownV 20 5 ((srtC ss).map cfC)) (fun _=>kyB L) (fun ss=>[(20,5,(srtC ss).map cfC)]) [1000000,1000001] []:=by
 refine VL e22 rfl rfl (fun i hi=>by simp [domA,kyB]) (by simp) (by simp) (by simp [domA,kyB]) fun o hb0 _=>?_;dsimp only[fn22,c22];have m0:=hb0 (1000000,cfM L) (by simp [kyB]);have m1:=hb0 (1000001,.row 1 [[.mp 1000000]]) (by simp [kyB]);dsimp only at m0 m1;clear hb0;(repeat (with_reducible (first|refine Qa ?_|refine Qc ?_|refine Qb ?_|refine X_nx ?_|(refine U_q (v:=?_) ?h1 ?_;case h1=>((try simp only[List.take_succ_cons,List.take_zero,List.drop_succ_cons,List.drop_zero,go_sem])<;>rfl)))));refine Qjd (Z:=fun ss=>ss) (QdB L hn) rfl (s:=1000000) (b:=1000001) 2000 (by decide) (by decide) (by decide) (by decide) (Z0) (Z1 m0) (Z1 m1) fun ss hss o1 f1 p0 p1 _=>?_;have hlen:ss.length≤2147483648:=by rw[hss.length_eq];simpa [keyF] using hn
 (repeat (with_reducible (first|refine Qa ?_|refine Qc ?_|refine Qb ?_|refine X_nx ?_|(refine U_q (v:=?_) ?h1 ?_;case h1=>((try simp only[go_sem])<;>rfl)))));refine Vx 2000 (l0:=ss) (by omega) (Z0) f1 fun o2 f2 p2=>?_;(repeat (with_reducible (first|refine Qa ?_|refine Qc ?_|refine Qb ?_|refine Qf ?_|refine X_nx ?_|((first|refine U_q (v:=?_) ?h1 ?_|refine E_1 (v:=?_) ?h1 ?_);case h1=>((try simp only[go_sem])<;>rfl)))))
 refine⟨ss,hss,QL (kyB L) [(2000,5,(srtC ss).map cfC)] (fun u=>if u=2000 then 20 else u) ?_ ?_ rfl (by simp [H6]) ?_ ?_ ?_ (QaQ _ _) ?_ (by simp)⟩
 ·rw[← Du 2000 ss,Q6];rfl
 ·simp only[kyB,List.map_cons,List.map_nil,Zo,ZM,renL,ren];rfl
 ·intro p hp;simp only[kyB,List.mem_cons,List.not_mem_nil,or_false] at hp;rcases hp with rfl|rfl
  ·rw[p2 _ (by simp)];exact p0
  ·rw[p2 _ (by simp)];exact p1
 ·intro q hq;rw[List.mem_singleton.1 hq];exact f2.h
 ·rw[← Du 2000 ss];exact Zm (by simp)
 ·simp [domA,kyB]
def bhS (A:Au) (w:List Nat):List Cf:=sdC (bhF A w w.length)
set_option maxHeartbeats 1000000 in
theorem Jx {A:Au} (hW:WF A) (hf:A.first.length≤1000) (hL:∀ l∈A.moves,l.length < 2147483648) (w:List Nat) (hw:∀ b∈w,b < 256) (hl:w.length≤41):Pu F 10 [.ag (auC A),wdV w] (.sl ((bhS A w).map cfC)):=by
 refine Qr e10 rfl rfl (by simp only[go_sem,Bool.and_true,wdV]) ?_;dsimp only[fn10,c10];have hau:cldL (auC A)=true:=XT A;have hra:∀ D,rfL D [.ag (auC A),wdV w,.fn 21 []]=true:=fun D=>Jb D _ (by simp only[go_sem,Bool.and_true,wdV]);have hre:∀ f,renL f [.ag (auC A),wdV w,.fn 21 []]=[.ag (auC A),wdV w,.fn 21 []]:=fun f=>Yn f _ (by simp only[go_sem,Bool.and_true,wdV]);(repeat (with_reducible (first|refine Qa ?_|refine Qc ?_|refine Qb ?_|refine X_nx ?_|((first|refine U_q (v:=?_) ?h1 ?_|refine U_ld (v:=?_) ?h1 ?_);case h1=>((try simp only[List.take_succ_cons,List.take_zero,List.drop_succ_cons,List.drop_zero,go_sem])<;>rfl))|(refine QC (cs:=?_) (cs':=?_) (n:=?_) ?h1 ?h2 ?h3 ?h4 ?_;case h1|h2|h3|h4=>((try simp only[List.take_succ_cons,List.take_zero,List.drop_succ_cons,List.drop_zero,go_sem])<;>rfl)))));refine HU (fun u=>u) (fun u=>if u=20 then 2000 else u) [2000] (QaK hW hf hL w hw (by omega)) ?_ (by simp) (by simp) (QlX A w w.length) (fun L hL=>?_) (by simp) (by simp) fun L hwk o1 g1 _ g3=>?_
 ·rw[hre];simp only[wdV,List.take_succ_cons,List.take_zero,List.drop_succ_cons,List.drop_zero,go_sem]
 ·refine QI (by simp [domA]) (by simp [domA]) (by simp [domA]) (hra _) (by simp) ?_ ?_ (by simp) (by simp) (by simp) (by simp) (by simp [domA]) (by simp) ?_ (by simp)
  ·rw[rfI];exact Zq (base:=[(20,cfM L)]) (s:=20) (by simp [domA])
  ·simp only[List.all_cons,List.all_nil,ZW];rfl
  ·simp [domA]
 have p0:o1 2000=some (cfM L):=by
  have:=g1 (20,cfM L) (by simp)
  simpa [Zo] using this
 clear g1 g3;have hlen:L.length≤130691232:=by
  have:=H5 hW (w:=w) hl hwk.nd fun y hy=>(hwk.mem y).1 hy
  simpa [keyF] using this
 rw[show ren (fun u=>if u=20 then 2000 else u) (.mp 20)=.mp 2000 from rfl];(repeat (with_reducible (first|refine Qa ?_|refine Qc ?_|refine Qb ?_|refine X_nx ?_|(refine U_q (v:=?_) ?h1 ?_;case h1=>((try simp only[go_sem])<;>rfl))|rw[Qd])));refine ZX (fun u=>2000) (fun u=>if u=1000000 then 2000 else if u=20 then 2001 else u) [2001] (Qed L) ?_ ?_ (by simp) ?_ (by simp) (by simp) fun o2 g1 _ _=>?_
 ·(simp only[go_sem]<;>rfl)
 ·intro p hp;rw[List.mem_singleton.1 hp];simpa [Zo] using p0
 ·refine QI (by simp [domA]) (by simp [domA]) (by simp [domA]) ?_ ?_ ?_ ?_ (by simp) (by simp) (by simp [domA]) (by simp) (by simp [domA]) (by simp) (by simp [domA]) (by simp)
  ·simp only[rfL,rfI,Bool.and_true];exact Zq (base:=[(1000000,cfM L)]) (s:=1000000) (by simp [domA])
  ·simp only[List.all_cons,List.all_nil,ZW];rfl
  ·simp only[rfI,rfL,Bool.and_true];exact Zq (base:=[(1000000,cfM L),(20,.row 1 [[.mp 1000000]])]) (s:=20) (by simp [domA])
  ·have h1:rfI (domA (obs [(1000000,cfM L),(20,.row 1 [[.mp 1000000]])] [])) (.mp 1000000)=true:=by rw[rfI];exact Zq (base:=[(1000000,cfM L),(20,.row 1 [[.mp 1000000]])]) (s:=1000000) (by simp [domA])
   generalize domA (obs [(1000000,cfM L),(20,.row 1 [[.mp 1000000]])] [])=D at h1;simp only[List.all_cons,List.all_nil,ZW,WH,rfL,h1,Bool.and_true]
 have q0:o2 2000=some (cfM L):=by
  have:=g1 (1000000,cfM L) (by simp)
  simpa [Zo] using this
 have q1:o2 2001=some (.row 1 [[.mp 2000]]):=by
  have:=g1 (20,.row 1 [[.mp 1000000]]) (by simp)
  simpa [Qn,renL,ren] using this
 clear g1 p0;rw[show ren (fun u=>if u=1000000 then 2000 else if u=20 then 2001 else u) (.fn 44 [.pt 20 0 0])=.fn 44 [.pt 2001 0 0] from rfl];(repeat (with_reducible (first|rw[Qd])));refine Qjd (Z:=srtC) (Vo L (by omega)) rfl (s:=2000) (b:=2001) 2002 (by decide) (by decide) (by decide) (by decide) (Z0) (Z1 q0) (Z1 q1) fun ss hss o3 f1 _ _ _=>?_;have he:srtC ss=bhS A w:=Qde (hss.nodup_iff.2 hwk.nd) fun y=>by rw[hss.mem_iff,hwk.mem]
 rw[he] at f1 ⊢;(repeat (with_reducible (first|refine Qa ?_|refine Qf ?_|refine X_nx ?_|((first|refine U_q (v:=?_) ?h1 ?_|refine E_1 (v:=?_) ?h1 ?_);case h1=>((try simp only[go_sem])<;>rfl)))));exact Yh f1 (Ht _) 22
end Go.Proofs.YtocmjakchgcioaaGreat
namespace Go.Proofs.YtocmjakchgcioaaGreat
set_option linter.all false
attribute [-go_sem] QE Qn rfOb V.cells
theorem Qj0 {o:O} {s:Nat} {A:Au} (h:o s=some (.row 15 [auC A])):fzU o (.pt s 0 0)=some (.ip (auC A) 0):=by
 have h1:=D6 A;have h2:(auC A).all (okf 23)=true:=h1;have h3:(auC A).mapM (frzU 23 o)=some (auC A):=Yb fun v hv=>JD _ v (List.all_eq_true.1 h2 v hv);show frzU (23+1) o _=_;simp only[frzU,QD,h,List.getElem?_cons_zero,h3,Option.map_some]
theorem QlF {A:Au} (hW:WF A) (x:Cf):Pu F 26 [.ag (cfC x),.ip (auC A) 0] (.bo (accB A x)):=by
 have ha:=Qir hW x;refine Qr e26 rfl rfl (by simp only[go_sem,Bool.and_true]) ?_;dsimp only[fn26,c26];(repeat (with_reducible (first|refine Qa ?_|refine Qc ?_|refine Qb ?_|refine X_nx ?_|((first|refine U_q (v:=?_) ?h1 ?_|refine U_ld (v:=?_) ?h1 ?_);case h1=>((try simp only[List.take_succ_cons,List.take_zero,List.drop_succ_cons,List.drop_zero,go_sem])<;>rfl))|(refine QC (cs:=?_) (cs':=?_) (n:=?_) ?h1 ?h2 ?h3 ?h4 ?_;case h1|h2|h3|h4=>((try simp only[List.take_succ_cons,List.take_zero,List.drop_succ_cons,List.drop_zero,go_sem])<;>rfl)))))
 (refine ZU (r:=.bo (accB A x)) ha ?h1 ?h2 rfl ?_;(case h1=>((try simp only[List.take_succ_cons,List.take_zero,List.drop_succ_cons,List.drop_zero,go_sem])<;>rfl));(case h2=>simp only[List.all_cons,List.all_nil,Bool.and_true,go_sem]))
 (repeat (with_reducible (first|refine Qa ?_|refine Qf ?_|refine X_nx ?_|((first|refine U_q (v:=?_) ?h1 ?_|refine E_1 (v:=?_) ?h1 ?_);case h1=>((try simp only[List.take_succ_cons,List.take_zero,List.drop_succ_cons,List.drop_zero,go_sem])<;>rfl)))));exact QJ rfl rfl
def mtB (A:Au):List (Nat × Ob):=[(1000000,.row 15 [auC A])]
theorem DI (A:Au) (D:List Nat):((mtB A).all fun p=>rfOb D p.2)=true:=by
 have:rfL D (auC A)=true:=Jb D _ (XT A)
 simp only[mtB,List.all_cons,List.all_nil,WH,this,Bool.and_true]
theorem QeY (A:Au) (f:Nat→Nat):Qn f (.row 15 [auC A])=.row 15 [auC A]:=by
 rw[ZM,List.map_cons,Yn f _ (XT A)];rfl
theorem QdM {A:Au} (hW:WF A) (l:List Cf) (hl:l.length < 4294967296):GenO (Call F) 48 [.sl (l.map cfC),.fn 26 [.pt 1000000 0 0]] (mtB A) [] (.i .i64 (idxF (accB A) l)) (mtB A) [] [1000000] []:=by
 refine Yw e48 rfl rfl (by simp [domA,mtB]) (by simp) (by simp) (by simp [domA,mtB]) fun o hb0 _=>?_;dsimp only[fn48,c48];have m0:=hb0 _ (List.mem_cons_self ..);dsimp only at m0;clear hb0;have fin:∀ (n:Int) (o:O),o 1000000=some (.row 15 [auC A])→n=idxF (accB A) l→GenE (domA (obs (mtB A) [])) (obs (mtB A) []) (.i .i64 (idxF (accB A) l)) (stOf [1000000] []) (.i .i64 n) o:=fun n o h1 h2=>by
  subst h2;refine QL (mtB A) [] (fun s=>s) (by rfl) ?_ rfl (by simp) ?_ (by simp) (by rfl) (DI A _) ?_ (by simp)
  ·simp [mtB,Yl]
  ·simp [mtB,h1]
  ·simp [domA,mtB]
 (repeat (with_reducible (first|refine Qa ?_|refine Qc ?_|refine Qb ?_|refine Ql ?_|refine X_nx ?_|(refine U_q (v:=?_) ?h1 ?_;case h1=>((try simp only[List.length_map,List.take_succ_cons,List.take_zero,List.drop_succ_cons,List.drop_zero,go_sem])<;>rfl)))));refine U_lp (fun r e o=>∃ i:Nat,i+r=l.length∧e 0=.sl (l.map cfC)∧e 1=.fn 26 [.pt 1000000 0 0]∧e 7=.i .i64 l.length∧e 8=.i .i64 i∧o 1000000=some (.row 15 [auC A])∧∀ x∈l.take i,accB A x=false) (k:=l.length) ?_ (Qh F) ?_
 ·exact⟨0,by omega,Z0,Z0,by simp only[List.length_map,go_sem],Zr0,m0,by simp⟩
 clear m0;rintro r e o ⟨i,hir,h0,h1,h7,h8,m0,hp⟩;dsimp only[Qh8];(repeat (with_reducible (first|refine Qa ?_|refine Qc ?_|refine Qb ?_|refine X_nx ?_|(refine U_q (v:=?_) ?h1 ?_;case h1=>((try simp only[h7,h8,go_sem])<;>rfl)))));refine Qe (q:=decide ((i:Int) < (l.length:Int))) (Z0) (fun hc=>?_) (fun hc=>?_)
 ·have hi:i < l.length:=by simpa using hc
  have hxi:=Ji hi;have hw1:=Yc (i:=i) (by omega);have hpos:(0:Int)≤(i:Int):=by omega
  have hpt:=Qj0 m0;(repeat (with_reducible (first|refine Qa ?_|refine Qc ?_|refine Qb ?_|refine Ql ?_|refine Qg ?_|refine X_nx ?_|((first|refine U_q (v:=?_) ?h1 ?_|refine U_ld (v:=?_) ?h1 ?_);case h1=>((try simp only[h0,h1,h7,h8,hpos,Int.toNat_natCast,hxi,List.take_succ_cons,List.take_zero,List.drop_succ_cons,List.drop_zero,go_sem])<;>rfl)))));refine U_pv (g:=26) (cs:=[.pt 1000000 0 0]) (vs:=[.ag (cfC l[i]),.pt 1000000 0 0]) (ws:=[.ag (cfC l[i]),.ip (auC A) 0]) (r:=.bo (accB A l[i])) (Z1 h1) (Zr0) ?_ (Bool.or_eq_true_iff.2 (.inr rfl)) rfl (QlF hW l[i]) ?_
  ·have hx:fzU o (.ag (cfC l[i]))=some (.ag (cfC l[i])):=Y6 rfl;simp [fzsU,hx,hpt]
  (repeat (with_reducible (first|refine Qa ?_|refine X_nx ?_)));refine Qe (q:=accB A l[i]) (Z0) (fun hc2=>?_) (fun hc2=>?_)
  ·(repeat (with_reducible (first|refine Qa ?_|refine Qc ?_|refine Qb ?_|refine Qf ?_|refine X_nx ?_|refine X_rt ?_|refine B_rt ?_|((first|refine U_q (v:=?_) ?h1 ?_|refine E_1 (v:=?_) ?h1 ?_);case h1=>((try simp only[h8,go_sem])<;>rfl)))));have h2:l.any (accB A)=true:=List.any_eq_true.2 ⟨l[i],List.getElem_mem _,hc2⟩;have h3:l.findIdx (accB A)=i:=(List.findIdx_eq hi).2 ⟨hc2,fun j hj=>hp _ (by rw[List.mem_take_iff_getElem];exact⟨j,by omega,rfl⟩)⟩;exact fin _ _ m0 (by simp [idxF,h2,h3])
  ·(repeat (with_reducible (first|refine Qa ?_|refine Qb ?_|refine Qg ?_|refine X_nx ?_|refine B_nx ?_|(refine U_q (v:=?_) ?h1 ?_;case h1=>((try simp only[h8,hw1,go_sem])<;>rfl)))))
   refine⟨r - 1,by omega,i+1,by omega,Z1 h0,Z1 h1,Z1 h7,Z0,m0,fun x hx=>?_⟩
   rw[List.take_add_one,List.getElem?_eq_getElem hi] at hx;rcases List.mem_append.1 hx with hx|hx
   ·exact hp x hx
   ·simp at hx;rw[hx];exact hc2
 ·have hi:i=l.length:=by
   have:¬ i < l.length:=by simpa using hc
   omega
  subst hi;rw[List.take_length] at hp
  have:l.any (accB A)=false:=by
   rw[Bool.eq_false_iff];intro h;obtain⟨x,hx,hx2⟩:=List.any_eq_true.1 h;rw[hp x hx] at hx2;cases hx2
  (repeat (with_reducible (first|refine Qa ?_|refine Qc ?_|refine Qb ?_|refine QW ?_|refine Qf ?_|refine X_nx ?_|refine X_ex ?_|refine Qi ?_|((first|refine U_q (v:=?_) ?h1 ?_|refine E_1 (v:=?_) ?h1 ?_);case h1=>((try simp only[go_sem])<;>rfl)))));exact fin _ _ m0 (by simp [idxF,this])
theorem Qj2 {g:Nat} {A:Au} {l:List Cf} {r:V} (hr:cld r=true) (hgen:GenO (Call F) g [.sl (l.map cfC),.fn 26 [.pt 1000000 0 0]] (mtB A) [] r (mtB A) [] [1000000] [])
  {e:E} {o:O} {d s:Nat} {ods:List Od} {k:List Stp} {K:E→O→Prop} (hargs:ods.map (Od.ev e)=[.sl (l.map cfC),.fn 26 [.pt s 0 0]]) (ms:o s=some (.row 15 [auC A]))
  (h:∀ o1,o1 s=some (.row 15 [auC A])→(∀ u,u≠s→o1 u=o u)→wpRU (Call F) k K (upd e d r) o1):wpRU (Call F) (⟨some d,none,.nc g ods,[]⟩::k) K e o:=by
 refine ZX (fun _=>s) (fun _=>s) [] hgen ?_ ?_ (by simp) ?_ (by simp) (by simp) fun o1 g1 _ g3=>?_
 ·rw[hargs];rfl
 ·intro p hp;rw[List.mem_singleton.1 hp];rw[QeY];exact ms
 ·refine QI (by simp [domA,mtB]) (by simp [domA,mtB]) (by simp [domA,mtB]) ?_ (DI A _) (Jr _ _ hr) (DI A _) (by simp) (by simp) (by simp [domA,mtB]) (by simp) (by simp [domA,mtB]) (by simp) (by simp [domA,mtB]) (by simp);simp only[rfL,rfI,Bool.and_true,Bool.true_and];exact Zq (base:=mtB A) (s:=1000000) (by simp [domA,mtB])
 ·rw[J4 _ _ hr];refine h o1 ?_ fun u hu=>g3 u fun s' _=>Ne.symm hu
  have:=g1 (1000000,.row 15 [auC A]) (by simp [mtB])
  rw[QeY] at this;exact this
theorem QdE {A:Au} (hW:WF A) (l:List Cf) (hl:l.length < 4294967296):GenO (Call F) 25 [.sl (l.map cfC),.fn 26 [.pt 1000000 0 0]] (mtB A) [] (.bo (l.any (accB A))) (mtB A) [] [1000000] []:=by
 refine Yw e25 rfl rfl (by simp [domA,mtB]) (by simp) (by simp) (by simp [domA,mtB]) fun o hb0 _=>?_;dsimp only[fn25,c25];have m0:=hb0 _ (List.mem_cons_self ..);dsimp only at m0;clear hb0;have hdi:=ZF (accB A) l;(repeat (with_reducible (first|refine Qa ?_|refine Qc ?_|refine Qb ?_|refine X_nx ?_|(refine U_q (v:=?_) ?h1 ?_;case h1=>((try simp only[List.take_succ_cons,List.take_zero,List.drop_succ_cons,List.drop_zero,go_sem])<;>rfl)))));refine Qj2 (by rfl) (QdM hW l hl) (s:=1000000) (Z0) (Z1 m0) fun o1 m1 _=>?_;(repeat (with_reducible (first|refine Qa ?_|refine Qf ?_|refine X_nx ?_|((first|refine U_q (v:=?_) ?h1 ?_|refine E_1 (v:=?_) ?h1 ?_);case h1=>((try simp only[hdi,go_sem])<;>rfl)))));refine QL (mtB A) [] (fun s=>s) (by rfl) ?_ rfl (by simp) ?_ (by simp) (by rfl) (DI A _) ?_ (by simp)
 ·simp [mtB,Yl]
 ·simp [mtB,m1]
 ·simp [domA,mtB]
def mtF (A:Au) (w:List Nat):Bool:=if w=[] then A.empty else (bhS A w).any (accB A)
theorem HV {A:Au} (hW:WF A) (w:List Nat) (hl:w.length≤41):(bhS A w).length≤130691232 :=
 H5 hW hl (Ke _) fun y hy=>(Jh _ y).1 hy
set_option maxHeartbeats 1000000 in
theorem Qdf {A:Au} (hW:WF A) (hf:A.first.length≤1000) (hL:∀ l∈A.moves,l.length < 2147483648) (w:List Nat) (hw:∀ b∈w,b < 256) (hl:w.length≤41):Pu F 11 [.ag (auC A),wdV w] (.bo (mtF A w)):=by
 have hbh:=Jx hW hf hL w hw hl;have hlen:=HV hW w hl;refine Qr e11 rfl rfl (by simp only[go_sem,Bool.and_true,wdV]) ?_;dsimp only[fn11,c11];by_cases h0:w=[]
 ·subst h0;(repeat (with_reducible (first|refine Qa ?_|refine Qc ?_|refine Qb ?_|refine Qf ?_|refine X_nx ?_|refine X_rt ?_|((first|refine U_q (v:=?_) ?h1 ?_|refine U_ld (v:=?_) ?h1 ?_|refine E_1 (v:=?_) ?h1 ?_|refine Qm ?h1 ?_);case h1=>((try simp only[wdV,List.map_nil,List.length_nil,QgW,List.take_succ_cons,List.take_zero,List.drop_succ_cons,List.drop_zero,go_sem])<;>rfl))|(refine QC (cs:=?_) (cs':=?_) (n:=?_) ?h1 ?h2 ?h3 ?h4 ?_;case h1|h2|h3|h4=>((try simp only[wdV,List.map_nil,List.length_nil,QgW,List.take_succ_cons,List.take_zero,List.drop_succ_cons,List.drop_zero,go_sem])<;>rfl)))));exact QJ rfl rfl
 ·have c0:((w.length:Int)==0)=false:=by simp [h0]
  have he:mtF A w=(bhS A w).any (accB A):=by rw[mtF,if_neg h0]
  rw[he];(repeat (with_reducible (first|refine Qa ?_|refine Qc ?_|refine Qb ?_|refine Qg ?_|refine X_nx ?_|((first|refine U_q (v:=?_) ?h1 ?_|refine U_ld (v:=?_) ?h1 ?_);case h1=>((try simp only[wdV,List.length_map,c0,List.take_succ_cons,List.take_zero,List.drop_succ_cons,List.drop_zero,go_sem])<;>rfl))|(refine QC (cs:=?_) (cs':=?_) (n:=?_) ?h1 ?h2 ?h3 ?h4 ?_;case h1|h2|h3|h4=>((try simp only[wdV,List.length_map,c0,List.take_succ_cons,List.take_zero,List.drop_succ_cons,List.drop_zero,go_sem])<;>rfl))|(refine Qk ?h1 ?_;case h1=>((try simp only[wdV,List.length_map,c0,List.take_succ_cons,List.take_zero,List.drop_succ_cons,List.drop_zero,go_sem])<;>rfl)))));have hbh':Pu F 10 [.ag (auC A),.sl (w.map fun b:Nat=>[.i .u8 (b:Int)])] (.sl ((bhS A w).map cfC)):=hbh
  (refine U_pc (g:=10) (r:=.sl ((bhS A w).map cfC)) (vs:=?_) (ws:=?_) ?h1 ?h2 ?h3 ?h4 ?h5 ?_;(case h1=>((try simp only[List.take_succ_cons,List.take_zero,List.drop_succ_cons,List.drop_zero,go_sem])<;>rfl));(case h2=>refine Qj ?_;first|rfl|simp only[List.all_cons,List.all_nil,Bool.and_true,go_sem]);(case h5=>exact hbh');(case h3=>first|exact Bool.or_eq_true_iff.2 (.inr rfl)|(refine Bool.or_eq_true_iff.2 (.inl ?_);simp only[clos,List.all_cons,List.all_nil,Bool.and_true,go_sem]));(case h4=>first|rfl|simp only[go_sem,Bool.and_true]))
  (repeat (with_reducible (first|(refine U_q (v:=?_) ?h1 ?_;case h1=>((try simp only[List.take_succ_cons,List.take_zero,List.drop_succ_cons,List.drop_zero,go_sem])<;>rfl)))));refine Qj2 (by rfl) (QdE hW (bhS A w) (by omega)) (s:=2) (Z0) (by simp only[List.take_succ_cons,List.take_zero,List.drop_succ_cons,List.drop_zero,go_sem]) fun o1 _ _=>?_;(repeat (with_reducible (first|refine Qa ?_|refine Qf ?_|refine X_nx ?_|((first|refine U_q (v:=?_) ?h1 ?_|refine E_1 (v:=?_) ?h1 ?_);case h1=>((try simp only[go_sem])<;>rfl)))));exact QJ rfl rfl
end Go.Proofs.YtocmjakchgcioaaGreat
namespace Go.Proofs.YtocmjakchgcioaaGreat
set_option linter.all false
attribute [-go_sem] QE Qn rfOb V.cells
theorem Qet:bhS (Zy twoT) [1]=[twoC]:=by
 have h:bhF (Zy twoT) [1] 1=begF (Zy twoT) 1:=rfl;show sdC (bhF (Zy twoT) [1] 1)=_;rw[h,QhS,QeM]
theorem Qj6:mtF (Zy twoT) [1]=true:=by
 rw[mtF,if_neg (by simp),Qet];simp [Qhe]
theorem Qbx:Pu F 8 [] (.bo true):=by
 have hA:=QdP;have hL:∀ l∈(Zy twoT).moves,l.length < 2147483648:=by
  intro l hl;have hl:l∈(List.range (plT twoT).sets.length).map fun p=>srtM (ZG (wk twoT 0 0 []).L p):=hl;rw[Qep] at hl;obtain⟨p,_,rfl⟩:=List.mem_map.1 hl;simp [srtM,ZG]
 have hf:(Zy twoT).first.length≤1000:=by rw[Xk];simp
 have hB:=Jx Qe3 hf hL [1] (by simp) (by simp);rw[Qet] at hB;have hM:=Qdf Qe3 hf hL [1] (by simp) (by simp);rw[Qj6] at hM;have hcel:V.ag (cel twoT)=.ag [.i .i64 1,.i .u64 2,.i .u64 0,.i .u64 0,.i .u64 0,.sl [],.i .i64 0,.i .i64 0]:=rfl;rw[hcel] at hA;have hfl:(V.sl ((Zy twoT).first.map inC))=.sl [[.i .i64 1]]:=by rw[Xk];rfl
 generalize Zy twoT=A at hA hB hM hfl;have hB':Pu F 10 [.ag (auC A),.sl [[.i .u8 1]]] (.sl [cfC twoC]):=hB;have hM':Pu F 11 [.ag (auC A),.sl [[.i .u8 1]]] (.bo true):=hM;refine Qr e8 rfl rfl (by simp only[go_sem,Bool.and_true]) ?_;dsimp only[fn8,c8];(repeat (with_reducible (first|refine Qa ?_|refine Qc ?_|refine Qb ?_|refine X_nx ?_|(refine U_q (v:=?_) ?h1 ?_;case h1=>((try simp only[List.take_succ_cons,List.take_zero,List.drop_succ_cons,List.drop_zero,go_sem])<;>rfl)))));refine U_pc (ws:=[.ag [.i .i64 1,.i .u64 2,.i .u64 0,.i .u64 0,.i .u64 0,.sl [],.i .i64 0,.i .i64 0]]) (Zr0) rfl (Bool.or_eq_true_iff.2 (.inl ?_)) ?_ hA ?_
 ·rfl
 ·simp only[Bool.and_true,go_sem]
 (repeat (with_reducible (first|refine Qa ?_|refine Qc ?_|refine Qb ?_|refine X_nx ?_|((first|refine U_q (v:=?_) ?h1 ?_|refine U_ld (v:=?_) ?h1 ?_|refine QK (n:=?_) ?h1 ?_|refine U_gt ?h1 ?_);case h1=>((try simp only[hfl,List.take_succ_cons,List.take_zero,List.drop_succ_cons,List.drop_zero,go_sem])<;>rfl))|(refine Qq (id:=?_) (i:=?_) (j:=?_) (q:=?_) (es:=?_) (cs:=?_) (vs:=?_) (es':=?_) ?h1 ?h2 ?h3 ?h4 ?h5 ?h6 ?h7 ?_;case h1|h2|h3|h4|h5|h6|h7=>((try simp only[hfl,List.take_succ_cons,List.take_zero,List.drop_succ_cons,List.drop_zero,go_sem])<;>rfl)))));refine U_q (v:=.sl [[.i .u8 1]]) (by (simp only[litV,List.take_succ_cons,List.take_zero,List.drop_succ_cons,List.drop_zero,go_sem]<;>rfl)) ?_;(repeat (with_reducible (first|(refine U_gt ?h1 ?_;case h1=>((try simp only[List.take_succ_cons,List.take_zero,List.drop_succ_cons,List.drop_zero,go_sem])<;>rfl)))))
 (refine ZU (r:=.bo true) hM' ?h1 ?h2 rfl ?_;(case h1=>((try simp only[List.take_succ_cons,List.take_zero,List.drop_succ_cons,List.drop_zero,go_sem])<;>rfl));(case h2=>simp only[List.all_cons,List.all_nil,Bool.and_true,go_sem]))
 (repeat (with_reducible (first|((first|refine U_q (v:=?_) ?h1 ?_|refine U_ld (v:=?_) ?h1 ?_|refine U_gt ?h1 ?_);case h1=>((try simp only[List.take_succ_cons,List.take_zero,List.drop_succ_cons,List.drop_zero,go_sem])<;>rfl)))));refine U_q (v:=.sl [[.i .u8 1]]) (by (simp only[litV,List.take_succ_cons,List.take_zero,List.drop_succ_cons,List.drop_zero,go_sem]<;>rfl)) ?_;(repeat (with_reducible (first|(refine U_gt ?h1 ?_;case h1=>((try simp only[List.take_succ_cons,List.take_zero,List.drop_succ_cons,List.drop_zero,go_sem])<;>rfl)))))
 (refine U_pc (g:=10) (r:=.sl [cfC twoC]) (vs:=?_) (ws:=?_) ?h1 ?h2 ?h3 ?h4 ?h5 ?_;(case h1=>((try simp only[List.take_succ_cons,List.take_zero,List.drop_succ_cons,List.drop_zero,go_sem])<;>rfl));(case h2=>refine Qj ?_;first|rfl|simp only[List.all_cons,List.all_nil,Bool.and_true,go_sem]);(case h5=>exact hB');(case h3=>first|exact Bool.or_eq_true_iff.2 (.inr rfl)|(refine Bool.or_eq_true_iff.2 (.inl ?_);simp only[clos,List.all_cons,List.all_nil,Bool.and_true,go_sem]));(case h4=>first|rfl|simp only[go_sem,Bool.and_true]))
 (repeat (with_reducible (first|refine Qa ?_|refine Qf ?_|refine X_nx ?_|((first|refine U_q (v:=?_) ?h1 ?_|refine E_1 (v:=?_) ?h1 ?_|refine U_gt ?h1 ?_);case h1=>((try simp only[List.take_succ_cons,List.take_zero,List.drop_succ_cons,List.drop_zero,go_sem])<;>rfl)))));rfl
theorem Qcy (A:Au) (w m:List Nat):∀ (k:Nat),k≤w.length→bhF A (w++m) k=bhF A w k
 | 0,_=>rfl
 | k+1,h=>by
  rw[bhF,bhF,List.getElem?_append_left (by omega),Qcy A w m k (by omega)]
theorem wd_1 (w:List Nat):∀ c∈w.map fun b:Nat=>[V.i .u8 (b:Int)],c.length=1:=fun c hc=>by obtain⟨x,_,rfl⟩:=List.mem_map.1 hc;rfl
end Go.Proofs.YtocmjakchgcioaaGreat
