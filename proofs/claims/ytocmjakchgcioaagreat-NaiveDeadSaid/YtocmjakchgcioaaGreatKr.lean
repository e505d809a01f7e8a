import Derived.Test.YtocmjakchgcioaaGreatKq

namespace Go.Proofs.YtocmjakchgcioaaGreat
set_option linter.all false
attribute [-go_sem] swpOb renOb rfOb V.cells
theorem OR.one {m:Nm} {v:V} {y:Ob} (h:OR m (.row 1 [[v]]) y):∃ x,y=.row 1 [[x]]∧VR m v x:=by
 cases h with
 | row _ _ fs h =>
  have hl:=h.len
  match fs,hl with
  | [c],_ =>
   have h1:=h.at_ 0 [v] c rfl rfl;obtain⟨x,ds,rfl,h2,h3⟩:=h1.inv;obtain rfl:=h3.inv0
   exact⟨x,rfl,h2⟩
theorem cfM_keys {m:Nm} {L:List (Cf × Int)} {y:Ob} (h:OR m (cfM L) y):∃ ents clock,y=.map ents clock∧ents.map (·.2.1)=(keyF L).map (fun x=>.ag (cfC x)):=by
 have hgen:∀ (es:List (Nat × V × V)) (c:Nat),cfM L=.map es c→∃ ents clock,y=.map ents clock∧ents.map (·.2.1)=es.map (·.2.1):=by
  intro es c he;rw[he] at h;cases h with
  | map _ fs clock hl h =>
   refine⟨fs,c,rfl,?_⟩
   apply List.ext_getElem?;intro j;rw[List.getElem?_map,List.getElem?_map];cases hb:fs[j]? with
   | none=>rw[List.getElem?_eq_none (by rw[← hl];exact List.getElem?_eq_none_iff.1 hb)]
   | some b =>
    have hj:j < es.length:=by rw[← hl];exact (List.getElem?_eq_some_iff.1 hb).1
    obtain⟨_,h2,_⟩:=h j es[j] b (List.getElem?_eq_getElem hj) hb;rw[List.getElem?_eq_getElem hj];have hk:ok es[j].2.1=true:=by
     have he2:entsOf 0 (encL cfV (L.map cfP))=es:=by
      have:cfM L=.map (entsOf 0 (encL cfV (L.map cfP))) (encL cfV (L.map cfP)).length:=rfl
      rw[this] at he;injection he
     have:=cfM_ents (P:=fun x=>ok x.2.1=true) (fun n k i=>rfl) L 0 es[j] (by rw[he2];exact List.getElem_mem hj)
     exact this
    simp only[Option.map_some,ok_eq h2 hk]
 obtain⟨ents,clock,h1,h2⟩:=hgen (entsOf 0 (encL cfV (L.map cfP))) _ rfl
 refine⟨ents,clock,h1,?_⟩
 rw[h2];clear h2 h1 hgen h
 have:∀ (M:List (Cf × Int)) (n:Nat),(entsOf n (encL cfV (M.map cfP))).map (·.2.1)=(keyF M).map (fun x=>V.ag (cfC x)):=by
  intro M;induction M with
  | nil=>intro n;rfl
  | cons x M ih=>intro n;have:=ih (n+1);simp only[encL,List.map_cons,cfP,entsOf,keyF] at this ⊢;rw[this];rfl
 exact this L 0
def kyB (L:List (Cf × Int)):List (Nat × Ob):=[(1000000,cfM L),(1000001,.row 1 [[.mp 1000000]])]
theorem coll_gen (L:List (Cf × Int)) (hn:L.length≤2147483648):GenOI (Call F) 42 [.fn 44 [.pt 1000001 0 0]] (kyB L) [] (fun ss:List Cf=>ss.Perm (keyF L)) (fun ss=>ownV 20 5 (ss.map cfC)) (fun _=>kyB L) (fun ss=>[(20,5,ss.map cfC)]) [1000000,1000001] []:=by
 intro m xs o K hxs hS hdom hK;obtain⟨a,ya,ha1,ha2,ha3⟩:=hS.ob 1000000 (cfM L) rfl;obtain⟨c,yc,hc1,hc2,hc3⟩:=hS.ob 1000001 (.row 1 [[.mp 1000000]]) rfl;obtain⟨x,ds,rfl,h1,h2⟩:=hxs.inv;obtain rfl:=h2.inv0;obtain⟨y,rfl,hy⟩:=hc3.one;obtain⟨ents,clock,rfl,hke⟩:=cfM_keys ha3;have hF:F 42=none:=rfl;cases h1 with
 | fn _ _ ds hl hr =>
  have h3:VRs m [.pt 1000001 0 0] ds:=⟨hl,hr⟩;obtain⟨z,zs,rfl,h4,h5⟩:=h3.inv;obtain rfl:=h5.inv0;cases h4 with
  | pt _ id _ _ hid =>
   rw[hc1] at hid;cases hid;cases hy with
   | mp _ id hid =>
    rw[ha1] at hid;cases hid;refine Call_base hF (bas_k ⟨rfl,c,a,ents,clock,keyF L,rfl,hc2,ha2,hke,by simpa [keyF] using hn,fun h0=>?_,fun ss hss hne id hid=>?_⟩)
    ·refine hK [] (by rw[h0]) m .nil o .nil ?_ (fun _ _=>rfl) ?_ fun j x h h2=>⟨h,h2⟩
     ·exact hS
     ·exact hdom
    ·have hs0:ss≠[]:=fun h=>hne (by rw[h] at hss;exact List.nil_perm.1 hss);have hm20:m 20=none:=by
      cases h:m 20 with
      | none=>rfl
      | some i=>have:=hdom 20 i h;simp [domA,obs,kyB,ofOwn] at this
     have hnew:=hS.new (d:=20) (id:=id) (x:=.row 5 (ss.map cfC)) (y:=.row 5 (ss.map cfC)) hid (.row _ _ _ ⟨rfl,fun j c d h1 h2=>by
      rw[h1] at h2;cases h2;obtain⟨x,_,rfl⟩:=List.mem_map.1 (List.mem_of_getElem? h1);exact cldL_VR _ _ rfl⟩)
     have hof:ofA (obs (kyB L) [(20,5,ss.map cfC)])=upd (swpO 20 (ofA (obs (kyB L) []))) 20 (some (.row 5 (ss.map cfC))):=by
      have hne:(ss.map cfC)≠[]:=by simpa using hs0
      funext t
      simp only[obs,kyB,ofOwn,if_neg hne,List.cons_append,List.nil_append,List.append_nil,ofA,upd,swpO];by_cases t0:t=1000000
      ·subst t0;simp [swpOb_cfM]
      ·by_cases t1:t=1000001
       ·subst t1;simp [swpOb,swpR,swpL,swp]
       ·by_cases t2:t=20
        ·subst t2;simp
        ·simp [t0,t1,t2,emp]
     refine hK ss hss _ _ _ ?_ (by rw[hof];exact hnew) ?_ ?_ ?_
     ·show VR _ (ownV 20 5 (ss.map cfC)) _;rw[ownV_map_ne hs0]
      have:=VR.rw (m:=upd m 20 (some id)) 20 id 5 0 ss.length (by simp [upd])
      exact this
     ·intro s hs;simp [stOf,ofOwn,domA] at hs;rcases hs with rfl|rfl<;>simp [upd]
     ·intro s i hi;have hne:(ss.map cfC)≠[]:=by simpa using hs0
      simp only[upd] at hi;simp only[domA,obs,kyB,ofOwn,if_neg hne];split at hi
      ·rename_i h;subst h;simp
      ·have:=hdom s i hi;simp [domA,obs,kyB,ofOwn] at this;rcases this with rfl|rfl<;>simp
     ·intro j x hj hno;have hji:j≠id:=fun h=>by rw[h,hid] at hj;cases hj
      refine⟨by simp [upd,hji,hj],fun s hs=>?_⟩
      simp only[upd] at hs;split at hs
      ·cases hs;exact hji rfl
      ·exact hno s hs
end Go.Proofs.YtocmjakchgcioaaGreat
namespace Go.Proofs.YtocmjakchgcioaaGreat
set_option linter.all false
attribute [-go_sem] swpOb renOb rfOb V.cells
theorem srt_uniq {ss l:List Cf} (hn:ss.Nodup) (hm:∀ y,y∈ss↔y∈l):srtC ss=sdC l:=by
 refine List.Perm.eq_of_pairwise (le:=fun x y=>ordC x y≤0) (fun a b _ _ h1 h2=>?_) (srtC_pw ss) ((sd_pw l).imp fun h=>by omega) ?_
 ·have:=ordC_swap a b
  exact (ordC_zero a b).1 (by omega)
 ·exact (srtC_perm ss).trans ((List.perm_ext_iff_of_nodup hn (sd_nodup l)).2 fun y=>by rw[hm,sd_mem])
theorem ownV_srt (s:Nat) (ss:List Cf):ownV s 5 ((srtC ss).map cfC)=ownV s 5 (ss.map cfC):=by
 by_cases h:ss=[]
 ·subst h;simp [srtC]
 ·have h2:srtC ss≠[]:=fun hh=>h (List.eq_nil_of_length_eq_zero (by rw[← srtC_len,hh];rfl));rw[ownV_map_ne h,ownV_map_ne h2,srtC_len]
theorem keys_gen (L:List (Cf × Int)):GenO (Call F) 23 [.mp 1000000] [(1000000,cfM L)] [] (.fn 44 [.pt 20 0 0]) [(1000000,cfM L),(20,.row 1 [[.mp 1000000]])] [] [1000000] []:=by
 refine U_gfo e23 rfl rfl (by simp [domA]) (by simp) (by simp) (by simp [domA]) fun o hb0 _=>?_;dsimp only[fn23,c23];have m0:=hb0 _ (List.mem_cons_self ..);dsimp only at m0;(repeat (with_reducible (first|refine U_nil ?_|refine UC_sq ?_|refine UC_rg ?_|refine UC_rt ?_|refine X_nx ?_|((first|refine U_q (v:=?_) ?h1 ?_|refine E_1 (v:=?_) ?h1 ?_);case h1=>((try simp only[m0,List.take_succ_cons,List.take_zero,List.drop_succ_cons,List.drop_zero,go_sem])<;>rfl))|(refine U_box (cs:=?_) (cs':=?_) (n:=?_) ?h1 ?h2 ?h3 ?h4 ?_;case h1|h2|h3|h4=>((try simp only[m0,List.take_succ_cons,List.take_zero,List.drop_succ_cons,List.drop_zero,go_sem])<;>rfl)))));refine GenE_own [(1000000,cfM L),(1,.row 1 [[.mp 1000000]])] [] (fun s=>if s=1 then 20 else s) (by rfl) ?_ rfl (by simp) ?_ (by simp) (by rfl) ?_ ?_ (by simp)
 ·simp only[List.map_cons,List.map_nil,cfM_ren,renOb_row,renL,ren];rfl
 ·intro p hp;simp only[List.mem_cons,List.not_mem_nil,or_false] at hp;rcases hp with rfl|rfl
  ·simp only[m0,go_sem]
  ·simp only[go_sem]
 ·simp only[List.all_cons,List.all_nil,cfM_rf];rfl
 ·simp [domA]
theorem kyB_rf (L:List (Cf × Int)) (owns:List Ow):((kyB L).all fun p=>rfOb (domA (obs (kyB L) owns)) p.2)=true:=by
 have h:=con_ob (base:=kyB L) (owns:=owns) (s:=1000000) (by simp [domA,kyB]);have h1:rfI (domA (obs (kyB L) owns)) (.mp 1000000)=true:=by rw[rfI];exact h
 generalize domA (obs (kyB L) owns)=D at h1;simp only[kyB,List.all_cons,List.all_nil,cfM_rf,rfOb_row,rfL,h1,Bool.and_true]
theorem cfs_cll (ss:List Cf):cldLL (ss.map cfC)=true:=cldLL_map (fun _=>rfl) ss
theorem U_kyC {g:Nat} {vs:List V} {L:List (Cf × Int)} {Z:List Cf→List Cf} (hgen:GenOI (Call F) g (.fn 44 [.pt 1000001 0 0]::vs) (kyB L) [] (fun ss:List Cf=>ss.Perm (keyF L)) (fun ss=>ownV 20 5 ((Z ss).map cfC)) (fun _=>kyB L) (fun ss=>[(20,5,(Z ss).map cfC)]) [1000000,1000001] []) (hvs:cldL vs=true)
  {e:E} {o:O} {d s b:Nat} (t:Nat) (h1:s≠b) (h2:s≠t) (h3:b≠t) (ht:t < 1000000) {ods:List Od} {k:List Stp} {K:E→O→Prop} (hargs:ods.map (Od.ev e)=.fn 44 [.pt b 0 0]::vs) (ms:o s=some (cfM L)) (mb:o b=some (.row 1 [[.mp s]]))
  (h:∀ ss:List Cf,ss.Perm (keyF L)→∀ o1,Own o1 t 5 ((Z ss).map cfC)→o1 s=some (cfM L)→o1 b=some (.row 1 [[.mp s]])→(∀ u,u≠s→u≠b→u≠t→o1 u=swpO t o u)→wpRU (Call F) k K (upd (swpE t e) d (ownV t 5 ((Z ss).map cfC))) o1):wpRU (Call F) (⟨some d,none,.nc g ods,[]⟩::k) K e o:=by
 refine U_genoI (fun u=>if u=1000000 then s else if u=1000001 then b else u) (fun u=>if u=1000000 then s else if u=1000001 then b else if u=20 then t else u) [t] hgen ?_ ?_ (by simp) ⟨keyF L,List.Perm.refl _⟩ (fun ss hss=>?_) (by simp) (fun ss _=>by simp [cfs_cll]) fun ss hss o1 g1 g2 g3=>?_
 ·rw[hargs,renL,renL_cld _ _ hvs];rfl
 ·intro p hp;simp only[kyB,List.mem_cons,List.not_mem_nil,or_false] at hp;rcases hp with rfl|rfl
  ·simpa [cfM_ren] using ms
  ·simpa [renOb,renL,ren] using mb
 ·refine GenK_own (by simp [domA,kyB,h1]) (by simp [domA,kyB,h1,h2,h3]) (by simp [domA,kyB]) ?_ (kyB_rf _ _) ?_ (kyB_rf _ _) (by simp) (by simp [cfs_cll]) ?_ (by simp) ?_ (by simp) ?_ ?_
  ·simp only[rfL,rfL_cld _ _ hvs,rfI,Bool.and_true];exact con_ob (base:=kyB L) (s:=1000001) (by simp [domA,kyB])
  ·exact rfI_ob (by simp)
  ·simp [domA,kyB,h1,h2,h3]
  ·simp [domA,kyB]
  ·simp [domA,kyB]
  ·simp [ht]
 ·rw[show ren (fun u=>if u=1000000 then s else if u=1000001 then b else if u=20 then t else u) (ownV 20 5 ((Z ss).map cfC))=ownV t 5 ((Z ss).map cfC) from by rw[ren_own];rfl];refine h ss hss o1 ⟨cf_cls _,g2 (20,5,(Z ss).map cfC) (by simp)⟩ ?_ ?_ fun u h4 h5 h6=>g3 u ?_
  ·have:=g1 (1000000,cfM L) (by simp [kyB])
   simpa [cfM_ren] using this
  ·have:=g1 (1000001,.row 1 [[.mp 1000000]]) (by simp [kyB])
   simpa [renOb,renL,ren] using this
  ·intro s' hs';simp [domA,kyB] at hs';rcases hs' with rfl|rfl|rfl
   ·simpa using Ne.symm h4
   ·simpa using Ne.symm h5
   ·simpa using Ne.symm h6
theorem sortedf_gen (L:List (Cf × Int)) (hn:L.length≤2147483648):GenOI (Call F) 22 [.fn 44 [.pt 1000001 0 0],.fn 24 []] (kyB L) [] (fun ss:List Cf=>ss.Perm (keyF L)) (fun ss=>ownV 20 5 ((srtC ss).map cfC)) (fun _=>kyB L) (fun ss=>[(20,5,(srtC ss).map cfC)]) [1000000,1000001] []:=by
 refine U_gfoI e22 rfl rfl (fun i hi=>by simp [domA,kyB]) (by simp) (by simp) (by simp [domA,kyB]) fun o hb0 _=>?_;dsimp only[fn22,c22];have m0:=hb0 (1000000,cfM L) (by simp [kyB]);have m1:=hb0 (1000001,.row 1 [[.mp 1000000]]) (by simp [kyB]);dsimp only at m0 m1;clear hb0;(repeat (with_reducible (first|refine U_nil ?_|refine UC_sq ?_|refine UC_rg ?_|refine X_nx ?_|(refine U_q (v:=?_) ?h1 ?_;case h1=>((try simp only[List.take_succ_cons,List.take_zero,List.drop_succ_cons,List.drop_zero,go_sem])<;>rfl)))));refine U_kyC (Z:=fun ss=>ss) (coll_gen L hn) rfl (s:=1000000) (b:=1000001) 2000 (by decide) (by decide) (by decide) (by decide) (Z0) (Z1 m0) (Z1 m1) fun ss hss o1 f1 p0 p1 _=>?_;have hlen:ss.length≤2147483648:=by rw[hss.length_eq];simpa [keyF] using hn
 (repeat (with_reducible (first|refine U_nil ?_|refine UC_sq ?_|refine UC_rg ?_|refine X_nx ?_|(refine U_q (v:=?_) ?h1 ?_;case h1=>((try simp only[go_sem])<;>rfl)))));refine U_sortC 2000 (l0:=ss) (by omega) (Z0) f1 fun o2 f2 p2=>?_;(repeat (with_reducible (first|refine U_nil ?_|refine UC_sq ?_|refine UC_rg ?_|refine UC_rt ?_|refine X_nx ?_|((first|refine U_q (v:=?_) ?h1 ?_|refine E_1 (v:=?_) ?h1 ?_);case h1=>((try simp only[go_sem])<;>rfl)))))
 refine⟨ss,hss,GenE_own (kyB L) [(2000,5,(srtC ss).map cfC)] (fun u=>if u=2000 then 20 else u) ?_ ?_ rfl (by simp [cfs_cll]) ?_ ?_ ?_ (kyB_rf _ _) ?_ (by simp)⟩
 ·rw[← ownV_srt 2000 ss,ren_own];rfl
 ·simp only[kyB,List.map_cons,List.map_nil,cfM_ren,renOb_row,renL,ren];rfl
 ·intro p hp;simp only[kyB,List.mem_cons,List.not_mem_nil,or_false] at hp;rcases hp with rfl|rfl
  ·rw[p2 _ (by simp)];exact p0
  ·rw[p2 _ (by simp)];exact p1
 ·intro q hq;rw[List.mem_singleton.1 hq];exact f2.h
 ·rw[← ownV_srt 2000 ss];exact rfI_ob (by simp)
 ·simp [domA,kyB]
def bhS (A:Au) (w:List Nat):List Cf:=sdC (bhF A w w.length)
set_option maxHeartbeats 1000000 in
theorem behind_pu {A:Au} (hW:WF A) (hf:A.first.length≤1000) (hL:∀ l∈A.moves,l.length < 2147483648) (w:List Nat) (hw:∀ b∈w,b < 256) (hl:w.length≤41):Pu F 10 [.ag (auC A),wdV w] (.sl ((bhS A w).map cfC)):=by
 refine U_pure e10 rfl rfl (by simp only[go_sem,Bool.and_true,wdV]) ?_;dsimp only[fn10,c10];have hau:cldL (auC A)=true:=au_cld A;have hra:∀ D,rfL D [.ag (auC A),wdV w,.fn 21 []]=true:=fun D=>rfL_cld D _ (by simp only[go_sem,Bool.and_true,wdV]);have hre:∀ f,renL f [.ag (auC A),wdV w,.fn 21 []]=[.ag (auC A),wdV w,.fn 21 []]:=fun f=>renL_cld f _ (by simp only[go_sem,Bool.and_true,wdV]);(repeat (with_reducible (first|refine U_nil ?_|refine UC_sq ?_|refine UC_rg ?_|refine X_nx ?_|((first|refine U_q (v:=?_) ?h1 ?_|refine U_ld (v:=?_) ?h1 ?_);case h1=>((try simp only[List.take_succ_cons,List.take_zero,List.drop_succ_cons,List.drop_zero,go_sem])<;>rfl))|(refine U_box (cs:=?_) (cs':=?_) (n:=?_) ?h1 ?h2 ?h3 ?h4 ?_;case h1|h2|h3|h4=>((try simp only[List.take_succ_cons,List.take_zero,List.drop_succ_cons,List.drop_zero,go_sem])<;>rfl)))));refine U_genoI (fun u=>u) (fun u=>if u=20 then 2000 else u) [2000] (walk_gen0 hW hf hL w hw (by omega)) ?_ (by simp) (by simp) (wk_ex A w w.length) (fun L hL=>?_) (by simp) (by simp) fun L hwk o1 g1 _ g3=>?_
 ·rw[hre];simp only[wdV,List.take_succ_cons,List.take_zero,List.drop_succ_cons,List.drop_zero,go_sem]
 ·refine GenK_own (by simp [domA]) (by simp [domA]) (by simp [domA]) (hra _) (by simp) ?_ ?_ (by simp) (by simp) (by simp) (by simp) (by simp [domA]) (by simp) ?_ (by simp)
  ·rw[rfI];exact con_ob (base:=[(20,cfM L)]) (s:=20) (by simp [domA])
  ·simp only[List.all_cons,List.all_nil,cfM_rf];rfl
  ·simp [domA]
 have p0:o1 2000=some (cfM L):=by
  have:=g1 (20,cfM L) (by simp)
  simpa [cfM_ren] using this
 clear g1 g3;have hlen:L.length≤130691232:=by
  have:=beh_len hW (w:=w) hl hwk.nd fun y hy=>(hwk.mem y).1 hy
  simpa [keyF] using this
 rw[show ren (fun u=>if u=20 then 2000 else u) (.mp 20)=.mp 2000 from rfl];(repeat (with_reducible (first|refine U_nil ?_|refine UC_sq ?_|refine UC_rg ?_|refine X_nx ?_|(refine U_q (v:=?_) ?h1 ?_;case h1=>((try simp only[go_sem])<;>rfl))|rw[put_some])));refine U_geno (fun u=>2000) (fun u=>if u=1000000 then 2000 else if u=20 then 2001 else u) [2001] (keys_gen L) ?_ ?_ (by simp) ?_ (by simp) (by simp) fun o2 g1 _ _=>?_
 ·(simp only[go_sem]<;>rfl)
 ·intro p hp;rw[List.mem_singleton.1 hp];simpa [cfM_ren] using p0
 ·refine GenK_own (by simp [domA]) (by simp [domA]) (by simp [domA]) ?_ ?_ ?_ ?_ (by simp) (by simp) (by simp [domA]) (by simp) (by simp [domA]) (by simp) (by simp [domA]) (by simp)
  ·simp only[rfL,rfI,Bool.and_true];exact con_ob (base:=[(1000000,cfM L)]) (s:=1000000) (by simp [domA])
  ·simp only[List.all_cons,List.all_nil,cfM_rf];rfl
  ·simp only[rfI,rfL,Bool.and_true];exact con_ob (base:=[(1000000,cfM L),(20,.row 1 [[.mp 1000000]])]) (s:=20) (by simp [domA])
  ·have h1:rfI (domA (obs [(1000000,cfM L),(20,.row 1 [[.mp 1000000]])] [])) (.mp 1000000)=true:=by rw[rfI];exact con_ob (base:=[(1000000,cfM L),(20,.row 1 [[.mp 1000000]])]) (s:=1000000) (by simp [domA])
   generalize domA (obs [(1000000,cfM L),(20,.row 1 [[.mp 1000000]])] [])=D at h1;simp only[List.all_cons,List.all_nil,cfM_rf,rfOb_row,rfL,h1,Bool.and_true]
 have q0:o2 2000=some (cfM L):=by
  have:=g1 (1000000,cfM L) (by simp)
  simpa [cfM_ren] using this
 have q1:o2 2001=some (.row 1 [[.mp 2000]]):=by
  have:=g1 (20,.row 1 [[.mp 1000000]]) (by simp)
  simpa [renOb,renL,ren] using this
 clear g1 p0;rw[show ren (fun u=>if u=1000000 then 2000 else if u=20 then 2001 else u) (.fn 44 [.pt 20 0 0])=.fn 44 [.pt 2001 0 0] from rfl];(repeat (with_reducible (first|rw[put_some])));refine U_kyC (Z:=srtC) (sortedf_gen L (by omega)) rfl (s:=2000) (b:=2001) 2002 (by decide) (by decide) (by decide) (by decide) (Z0) (Z1 q0) (Z1 q1) fun ss hss o3 f1 _ _ _=>?_;have he:srtC ss=bhS A w:=srt_uniq (hss.nodup_iff.2 hwk.nd) fun y=>by rw[hss.mem_iff,hwk.mem]
 rw[he] at f1 ⊢;(repeat (with_reducible (first|refine U_nil ?_|refine UC_rt ?_|refine X_nx ?_|((first|refine U_q (v:=?_) ?h1 ?_|refine E_1 (v:=?_) ?h1 ?_);case h1=>((try simp only[go_sem])<;>rfl)))));exact frz_own f1 (fza_cf _) 22
end Go.Proofs.YtocmjakchgcioaaGreat
namespace Go.Proofs.YtocmjakchgcioaaGreat
set_option linter.all false
attribute [-go_sem] swpOb renOb rfOb V.cells
theorem fz_ptA {o:O} {s:Nat} {A:Au} (h:o s=some (.row 15 [auC A])):fzU o (.pt s 0 0)=some (.ip (auC A) 0):=by
 have h1:=okf_au A;have h2:(auC A).all (okf 23)=true:=h1;have h3:(auC A).mapM (frzU 23 o)=some (auC A):=mapM_self fun v hv=>frzU_okf _ v (List.all_eq_true.1 h2 v hv);show frzU (23+1) o _=_;simp only[frzU,cellsAt,h,List.getElem?_cons_zero,h3,Option.map_some]
theorem m1_pu {A:Au} (hW:WF A) (x:Cf):Pu F 26 [.ag (cfC x),.ip (auC A) 0] (.bo (accB A x)):=by
 have ha:=acc_pu hW x;refine U_pure e26 rfl rfl (by simp only[go_sem,Bool.and_true]) ?_;dsimp only[fn26,c26];(repeat (with_reducible (first|refine U_nil ?_|refine UC_sq ?_|refine UC_rg ?_|refine X_nx ?_|((first|refine U_q (v:=?_) ?h1 ?_|refine U_ld (v:=?_) ?h1 ?_);case h1=>((try simp only[List.take_succ_cons,List.take_zero,List.drop_succ_cons,List.drop_zero,go_sem])<;>rfl))|(refine U_box (cs:=?_) (cs':=?_) (n:=?_) ?h1 ?h2 ?h3 ?h4 ?_;case h1|h2|h3|h4=>((try simp only[List.take_succ_cons,List.take_zero,List.drop_succ_cons,List.drop_zero,go_sem])<;>rfl)))))
 (refine U_pcr (r:=.bo (accB A x)) ha ?h1 ?h2 rfl ?_;(case h1=>((try simp only[List.take_succ_cons,List.take_zero,List.drop_succ_cons,List.drop_zero,go_sem])<;>rfl));(case h2=>simp only[List.all_cons,List.all_nil,Bool.and_true,go_sem]))
 (repeat (with_reducible (first|refine U_nil ?_|refine UC_rt ?_|refine X_nx ?_|((first|refine U_q (v:=?_) ?h1 ?_|refine E_1 (v:=?_) ?h1 ?_);case h1=>((try simp only[List.take_succ_cons,List.take_zero,List.drop_succ_cons,List.drop_zero,go_sem])<;>rfl)))));exact fz_of rfl rfl
def mtB (A:Au):List (Nat × Ob):=[(1000000,.row 15 [auC A])]
theorem mtB_rf (A:Au) (D:List Nat):((mtB A).all fun p=>rfOb D p.2)=true:=by
 have:rfL D (auC A)=true:=rfL_cld D _ (au_cld A)
 simp only[mtB,List.all_cons,List.all_nil,rfOb_row,this,Bool.and_true]
theorem mtB_rn (A:Au) (f:Nat→Nat):renOb f (.row 15 [auC A])=.row 15 [auC A]:=by
 rw[renOb_row,List.map_cons,renL_cld f _ (au_cld A)];rfl
theorem idxC_gen {A:Au} (hW:WF A) (l:List Cf) (hl:l.length < 4294967296):GenO (Call F) 48 [.sl (l.map cfC),.fn 26 [.pt 1000000 0 0]] (mtB A) [] (.i .i64 (idxF (accB A) l)) (mtB A) [] [1000000] []:=by
 refine U_gfo e48 rfl rfl (by simp [domA,mtB]) (by simp) (by simp) (by simp [domA,mtB]) fun o hb0 _=>?_;dsimp only[fn48,c48];have m0:=hb0 _ (List.mem_cons_self ..);dsimp only at m0;clear hb0;have fin:∀ (n:Int) (o:O),o 1000000=some (.row 15 [auC A])→n=idxF (accB A) l→GenE (domA (obs (mtB A) [])) (obs (mtB A) []) (.i .i64 (idxF (accB A) l)) (stOf [1000000] []) (.i .i64 n) o:=fun n o h1 h2=>by
  subst h2;refine GenE_own (mtB A) [] (fun s=>s) (by rfl) ?_ rfl (by simp) ?_ (by simp) (by rfl) (mtB_rf A _) ?_ (by simp)
  ·simp [mtB,renOb_id]
  ·simp [mtB,h1]
  ·simp [domA,mtB]
 (repeat (with_reducible (first|refine U_nil ?_|refine UC_sq ?_|refine UC_rg ?_|refine UC_bk ?_|refine X_nx ?_|(refine U_q (v:=?_) ?h1 ?_;case h1=>((try simp only[List.length_map,List.take_succ_cons,List.take_zero,List.drop_succ_cons,List.drop_zero,go_sem])<;>rfl)))));refine U_lp (fun r e o=>∃ i:Nat,i+r=l.length∧e 0=.sl (l.map cfC)∧e 1=.fn 26 [.pt 1000000 0 0]∧e 7=.i .i64 l.length∧e 8=.i .i64 i∧o 1000000=some (.row 15 [auC A])∧∀ x∈l.take i,accB A x=false) (k:=l.length) ?_ (Call_le F) ?_
 ·exact⟨0,by omega,Z0,Z0,by simp only[List.length_map,go_sem],Zr0,m0,by simp⟩
 clear m0;rintro r e o ⟨i,hir,h0,h1,h7,h8,m0,hp⟩;dsimp only[b48_0];(repeat (with_reducible (first|refine U_nil ?_|refine UC_sq ?_|refine UC_rg ?_|refine X_nx ?_|(refine U_q (v:=?_) ?h1 ?_;case h1=>((try simp only[h7,h8,go_sem])<;>rfl)))));refine UC_cdb (q:=decide ((i:Int) < (l.length:Int))) (Z0) (fun hc=>?_) (fun hc=>?_)
 ·have hi:i < l.length:=by simpa using hc
  have hxi:=cfs_at hi;have hw1:=wrap1 (i:=i) (by omega);have hpos:(0:Int)≤(i:Int):=by omega
  have hpt:=fz_ptA m0;(repeat (with_reducible (first|refine U_nil ?_|refine UC_sq ?_|refine UC_rg ?_|refine UC_bk ?_|refine UC_sk ?_|refine X_nx ?_|((first|refine U_q (v:=?_) ?h1 ?_|refine U_ld (v:=?_) ?h1 ?_);case h1=>((try simp only[h0,h1,h7,h8,hpos,Int.toNat_natCast,hxi,List.take_succ_cons,List.take_zero,List.drop_succ_cons,List.drop_zero,go_sem])<;>rfl)))));refine U_pv (g:=26) (cs:=[.pt 1000000 0 0]) (vs:=[.ag (cfC l[i]),.pt 1000000 0 0]) (ws:=[.ag (cfC l[i]),.ip (auC A) 0]) (r:=.bo (accB A l[i])) (Z1 h1) (Zr0) ?_ (Bool.or_eq_true_iff.2 (.inr rfl)) rfl (m1_pu hW l[i]) ?_
  ·have hx:fzU o (.ag (cfC l[i]))=some (.ag (cfC l[i])):=fzU_ok rfl;simp [fzsU,hx,hpt]
  (repeat (with_reducible (first|refine U_nil ?_|refine X_nx ?_)));refine UC_cdb (q:=accB A l[i]) (Z0) (fun hc2=>?_) (fun hc2=>?_)
  ·(repeat (with_reducible (first|refine U_nil ?_|refine UC_sq ?_|refine UC_rg ?_|refine UC_rt ?_|refine X_nx ?_|refine X_rt ?_|refine B_rt ?_|((first|refine U_q (v:=?_) ?h1 ?_|refine E_1 (v:=?_) ?h1 ?_);case h1=>((try simp only[h8,go_sem])<;>rfl)))));have h2:l.any (accB A)=true:=List.any_eq_true.2 ⟨l[i],List.getElem_mem _,hc2⟩;have h3:l.findIdx (accB A)=i:=(List.findIdx_eq hi).2 ⟨hc2,fun j hj=>hp _ (by rw[List.mem_take_iff_getElem];exact⟨j,by omega,rfl⟩)⟩;exact fin _ _ m0 (by simp [idxF,h2,h3])
  ·(repeat (with_reducible (first|refine U_nil ?_|refine UC_rg ?_|refine UC_sk ?_|refine X_nx ?_|refine B_nx ?_|(refine U_q (v:=?_) ?h1 ?_;case h1=>((try simp only[h8,hw1,go_sem])<;>rfl)))))
   refine⟨r - 1,by omega,i+1,by omega,Z1 h0,Z1 h1,Z1 h7,Z0,m0,fun x hx=>?_⟩
   rw[List.take_add_one,List.getElem?_eq_getElem hi] at hx;rcases List.mem_append.1 hx with hx|hx
   ·exact hp x hx
   ·simp at hx;rw[hx];exact hc2
 ·have hi:i=l.length:=by
   have:¬ i < l.length:=by simpa using hc
   omega
  subst hi;rw[List.take_length] at hp
  have:l.any (accB A)=false:=by
   rw[Bool.eq_false_iff];intro h;obtain⟨x,hx,hx2⟩:=List.any_eq_true.1 h;rw[hp x hx] at hx2;cases hx2
  (repeat (with_reducible (first|refine U_nil ?_|refine UC_sq ?_|refine UC_rg ?_|refine UC_ex ?_|refine UC_rt ?_|refine X_nx ?_|refine X_ex ?_|refine B_self ?_|((first|refine U_q (v:=?_) ?h1 ?_|refine E_1 (v:=?_) ?h1 ?_);case h1=>((try simp only[go_sem])<;>rfl)))));exact fin _ _ m0 (by simp [idxF,this])
theorem U_mtC {g:Nat} {A:Au} {l:List Cf} {r:V} (hr:cld r=true) (hgen:GenO (Call F) g [.sl (l.map cfC),.fn 26 [.pt 1000000 0 0]] (mtB A) [] r (mtB A) [] [1000000] [])
  {e:E} {o:O} {d s:Nat} {ods:List Od} {k:List Stp} {K:E→O→Prop} (hargs:ods.map (Od.ev e)=[.sl (l.map cfC),.fn 26 [.pt s 0 0]]) (ms:o s=some (.row 15 [auC A]))
  (h:∀ o1,o1 s=some (.row 15 [auC A])→(∀ u,u≠s→o1 u=o u)→wpRU (Call F) k K (upd e d r) o1):wpRU (Call F) (⟨some d,none,.nc g ods,[]⟩::k) K e o:=by
 refine U_geno (fun _=>s) (fun _=>s) [] hgen ?_ ?_ (by simp) ?_ (by simp) (by simp) fun o1 g1 _ g3=>?_
 ·rw[hargs];rfl
 ·intro p hp;rw[List.mem_singleton.1 hp];rw[mtB_rn];exact ms
 ·refine GenK_own (by simp [domA,mtB]) (by simp [domA,mtB]) (by simp [domA,mtB]) ?_ (mtB_rf A _) (rfI_cld _ _ hr) (mtB_rf A _) (by simp) (by simp) (by simp [domA,mtB]) (by simp) (by simp [domA,mtB]) (by simp) (by simp [domA,mtB]) (by simp);simp only[rfL,rfI,Bool.and_true,Bool.true_and];exact con_ob (base:=mtB A) (s:=1000000) (by simp [domA,mtB])
 ·rw[ren_cld _ _ hr];refine h o1 ?_ fun u hu=>g3 u fun s' _=>Ne.symm hu
  have:=g1 (1000000,.row 15 [auC A]) (by simp [mtB])
  rw[mtB_rn] at this;exact this
theorem conC_gen {A:Au} (hW:WF A) (l:List Cf) (hl:l.length < 4294967296):GenO (Call F) 25 [.sl (l.map cfC),.fn 26 [.pt 1000000 0 0]] (mtB A) [] (.bo (l.any (accB A))) (mtB A) [] [1000000] []:=by
 refine U_gfo e25 rfl rfl (by simp [domA,mtB]) (by simp) (by simp) (by simp [domA,mtB]) fun o hb0 _=>?_;dsimp only[fn25,c25];have m0:=hb0 _ (List.mem_cons_self ..);dsimp only at m0;clear hb0;have hdi:=idxF_pos (accB A) l;(repeat (with_reducible (first|refine U_nil ?_|refine UC_sq ?_|refine UC_rg ?_|refine X_nx ?_|(refine U_q (v:=?_) ?h1 ?_;case h1=>((try simp only[List.take_succ_cons,List.take_zero,List.drop_succ_cons,List.drop_zero,go_sem])<;>rfl)))));refine U_mtC (by rfl) (idxC_gen hW l hl) (s:=1000000) (Z0) (Z1 m0) fun o1 m1 _=>?_;(repeat (with_reducible (first|refine U_nil ?_|refine UC_rt ?_|refine X_nx ?_|((first|refine U_q (v:=?_) ?h1 ?_|refine E_1 (v:=?_) ?h1 ?_);case h1=>((try simp only[hdi,go_sem])<;>rfl)))));refine GenE_own (mtB A) [] (fun s=>s) (by rfl) ?_ rfl (by simp) ?_ (by simp) (by rfl) (mtB_rf A _) ?_ (by simp)
 ·simp [mtB,renOb_id]
 ·simp [mtB,m1]
 ·simp [domA,mtB]
def mtF (A:Au) (w:List Nat):Bool:=if w=[] then A.empty else (bhS A w).any (accB A)
theorem bhS_len {A:Au} (hW:WF A) (w:List Nat) (hl:w.length≤41):(bhS A w).length≤130691232 :=
 beh_len hW hl (sd_nodup _) fun y hy=>(sd_mem _ y).1 hy
set_option maxHeartbeats 1000000 in
theorem match_pu {A:Au} (hW:WF A) (hf:A.first.length≤1000) (hL:∀ l∈A.moves,l.length < 2147483648) (w:List Nat) (hw:∀ b∈w,b < 256) (hl:w.length≤41):Pu F 11 [.ag (auC A),wdV w] (.bo (mtF A w)):=by
 have hbh:=behind_pu hW hf hL w hw hl;have hlen:=bhS_len hW w hl;refine U_pure e11 rfl rfl (by simp only[go_sem,Bool.and_true,wdV]) ?_;dsimp only[fn11,c11];by_cases h0:w=[]
 ·subst h0;(repeat (with_reducible (first|refine U_nil ?_|refine UC_sq ?_|refine UC_rg ?_|refine UC_rt ?_|refine X_nx ?_|refine X_rt ?_|((first|refine U_q (v:=?_) ?h1 ?_|refine U_ld (v:=?_) ?h1 ?_|refine E_1 (v:=?_) ?h1 ?_|refine UC_cdt ?h1 ?_);case h1=>((try simp only[wdV,List.map_nil,List.length_nil,au_14,List.take_succ_cons,List.take_zero,List.drop_succ_cons,List.drop_zero,go_sem])<;>rfl))|(refine U_box (cs:=?_) (cs':=?_) (n:=?_) ?h1 ?h2 ?h3 ?h4 ?_;case h1|h2|h3|h4=>((try simp only[wdV,List.map_nil,List.length_nil,au_14,List.take_succ_cons,List.take_zero,List.drop_succ_cons,List.drop_zero,go_sem])<;>rfl)))));exact fz_of rfl rfl
 ·have c0:((w.length:Int)==0)=false:=by simp [h0]
  have he:mtF A w=(bhS A w).any (accB A):=by rw[mtF,if_neg h0]
  rw[he];(repeat (with_reducible (first|refine U_nil ?_|refine UC_sq ?_|refine UC_rg ?_|refine UC_sk ?_|refine X_nx ?_|((first|refine U_q (v:=?_) ?h1 ?_|refine U_ld (v:=?_) ?h1 ?_);case h1=>((try simp only[wdV,List.length_map,c0,List.take_succ_cons,List.take_zero,List.drop_succ_cons,List.drop_zero,go_sem])<;>rfl))|(refine U_box (cs:=?_) (cs':=?_) (n:=?_) ?h1 ?h2 ?h3 ?h4 ?_;case h1|h2|h3|h4=>((try simp only[wdV,List.length_map,c0,List.take_succ_cons,List.take_zero,List.drop_succ_cons,List.drop_zero,go_sem])<;>rfl))|(refine UC_cdf ?h1 ?_;case h1=>((try simp only[wdV,List.length_map,c0,List.take_succ_cons,List.take_zero,List.drop_succ_cons,List.drop_zero,go_sem])<;>rfl)))));have hbh':Pu F 10 [.ag (auC A),.sl (w.map fun b:Nat=>[.i .u8 (b:Int)])] (.sl ((bhS A w).map cfC)):=hbh
  (refine U_pc (g:=10) (r:=.sl ((bhS A w).map cfC)) (vs:=?_) (ws:=?_) ?h1 ?h2 ?h3 ?h4 ?h5 ?_;(case h1=>((try simp only[List.take_succ_cons,List.take_zero,List.drop_succ_cons,List.drop_zero,go_sem])<;>rfl));(case h2=>refine fzsU_ok ?_;first|rfl|simp only[List.all_cons,List.all_nil,Bool.and_true,go_sem]);(case h5=>exact hbh');(case h3=>first|exact Bool.or_eq_true_iff.2 (.inr rfl)|(refine Bool.or_eq_true_iff.2 (.inl ?_);simp only[clos,List.all_cons,List.all_nil,Bool.and_true,go_sem]));(case h4=>first|rfl|simp only[go_sem,Bool.and_true]))
  (repeat (with_reducible (first|(refine U_q (v:=?_) ?h1 ?_;case h1=>((try simp only[List.take_succ_cons,List.take_zero,List.drop_succ_cons,List.drop_zero,go_sem])<;>rfl)))));refine U_mtC (by rfl) (conC_gen hW (bhS A w) (by omega)) (s:=2) (Z0) (by simp only[List.take_succ_cons,List.take_zero,List.drop_succ_cons,List.drop_zero,go_sem]) fun o1 _ _=>?_;(repeat (with_reducible (first|refine U_nil ?_|refine UC_rt ?_|refine X_nx ?_|((first|refine U_q (v:=?_) ?h1 ?_|refine E_1 (v:=?_) ?h1 ?_);case h1=>((try simp only[go_sem])<;>rfl)))));exact fz_of rfl rfl
end Go.Proofs.YtocmjakchgcioaaGreat
namespace Go.Proofs.YtocmjakchgcioaaGreat
set_option linter.all false
attribute [-go_sem] swpOb renOb rfOb V.cells
theorem still_q (d:Nat) (es:List (List V)):∀ (v:V),cls1 v=true→still d es v=v:=by
 have main:(∀ v:V,cls1 v=true→still d es v=v):=by
  intro v;exact V.rec (motive_1:=fun v=>cls1 v=true→still d es v=v) (motive_2:=fun cs=>cls1L cs=true→stillL d es cs=cs) (motive_3:=fun _=>True)
   (fun _=>rfl) (fun _ _=>rfl) (fun _ _ _=>rfl) (fun _ _=>rfl)
   (fun cs ih h=>by rw[cls1] at h;rw[still,ih h]) (fun cs ih h=>by rw[cls1] at h;rw[still,ih h])
   (fun _=>rfl) (fun _ _ _=>rfl) (fun _ _ _ _ h=>by rw[cls1] at h;cases h) (fun _ _ _ _ h=>by rw[cls1] at h;cases h) (fun _ _ _ h=>by rw[cls1] at h;cases h)
   (fun _ _ _ _=>rfl) (fun _=>rfl) (fun g cs ih h=>by rw[cls1] at h;rw[still,ih h]) (fun _=>rfl) (fun _ h=>by rw[cls1] at h;cases h) (fun _=>rfl) (fun _ h=>by rw[cls1] at h;cases h)
   (fun _=>rfl) (fun v vs ih1 ih2 h=>by rw[cls1L,Bool.and_eq_true] at h;rw[stillL,ih1 h.1,ih2 h.2]) trivial (fun _ _ _ _=>trivial) v
 exact main
theorem stillL_q (d:Nat) (es:List (List V)) {cs:List V} (h:cls1L cs=true):stillL d es cs=cs:=by
 induction cs with
 | nil=>rfl
 | cons v cs ih =>
  rw[cls1L,Bool.and_eq_true] at h;rw[stillL,still_q d es v h.1,ih h.2]
theorem two_bh:bhS (makeT twoT) [1]=[twoC]:=by
 have h:bhF (makeT twoT) [1] 1=begF (makeT twoT) 1:=rfl;show sdC (bhF (makeT twoT) [1] 1)=_;rw[h,two_beg,sd_one]
theorem two_mt:mtF (makeT twoT) [1]=true:=by
 rw[mtF,if_neg (by simp),two_bh];simp [two_acc]
theorem nawake_pu:Pu F 8 [] (.bo true):=by
 have hA:=two_auto;have hL:∀ l∈(makeT twoT).moves,l.length < 2147483648:=by
  intro l hl;have hl:l∈(List.range (plT twoT).sets.length).map fun p=>srtM (movesOf (wk twoT 0 0 []).L p):=hl;rw[two_wk] at hl;obtain⟨p,_,rfl⟩:=List.mem_map.1 hl;simp [srtM,movesOf]
 have hf:(makeT twoT).first.length≤1000:=by rw[two_first];simp
 have hB:=behind_pu two_wf hf hL [1] (by simp) (by simp);rw[two_bh] at hB;have hM:=match_pu two_wf hf hL [1] (by simp) (by simp);rw[two_mt] at hM;have hcel:V.ag (cel twoT)=.ag [.i .i64 1,.i .u64 2,.i .u64 0,.i .u64 0,.i .u64 0,.sl [],.i .i64 0,.i .i64 0]:=rfl;rw[hcel] at hA;have hfl:(V.sl ((makeT twoT).first.map inC))=.sl [[.i .i64 1]]:=by rw[two_first];rfl
 generalize makeT twoT=A at hA hB hM hfl;have hB':Pu F 10 [.ag (auC A),.sl [[.i .u8 1]]] (.sl [cfC twoC]):=hB;have hM':Pu F 11 [.ag (auC A),.sl [[.i .u8 1]]] (.bo true):=hM;refine U_pure e8 rfl rfl (by simp only[go_sem,Bool.and_true]) ?_;dsimp only[fn8,c8];(repeat (with_reducible (first|refine U_nil ?_|refine UC_sq ?_|refine UC_rg ?_|refine X_nx ?_|(refine U_q (v:=?_) ?h1 ?_;case h1=>((try simp only[List.take_succ_cons,List.take_zero,List.drop_succ_cons,List.drop_zero,go_sem])<;>rfl)))));refine U_pc (ws:=[.ag [.i .i64 1,.i .u64 2,.i .u64 0,.i .u64 0,.i .u64 0,.sl [],.i .i64 0,.i .i64 0]]) (Zr0) rfl (Bool.or_eq_true_iff.2 (.inl ?_)) ?_ hA ?_
 ·rfl
 ·simp only[Bool.and_true,go_sem]
 (repeat (with_reducible (first|refine U_nil ?_|refine UC_sq ?_|refine UC_rg ?_|refine X_nx ?_|((first|refine U_q (v:=?_) ?h1 ?_|refine U_ld (v:=?_) ?h1 ?_|refine U_alc (n:=?_) ?h1 ?_|refine U_gt ?h1 ?_);case h1=>((try simp only[hfl,List.take_succ_cons,List.take_zero,List.drop_succ_cons,List.drop_zero,go_sem])<;>rfl))|(refine U_sto (id:=?_) (i:=?_) (j:=?_) (q:=?_) (es:=?_) (cs:=?_) (vs:=?_) (es':=?_) ?h1 ?h2 ?h3 ?h4 ?h5 ?h6 ?h7 ?_;case h1|h2|h3|h4|h5|h6|h7=>((try simp only[hfl,List.take_succ_cons,List.take_zero,List.drop_succ_cons,List.drop_zero,go_sem])<;>rfl)))));refine U_q (v:=.sl [[.i .u8 1]]) (by (simp only[litV,List.take_succ_cons,List.take_zero,List.drop_succ_cons,List.drop_zero,go_sem]<;>rfl)) ?_;(repeat (with_reducible (first|(refine U_gt ?h1 ?_;case h1=>((try simp only[List.take_succ_cons,List.take_zero,List.drop_succ_cons,List.drop_zero,go_sem])<;>rfl)))))
 (refine U_pcr (r:=.bo true) hM' ?h1 ?h2 rfl ?_;(case h1=>((try simp only[List.take_succ_cons,List.take_zero,List.drop_succ_cons,List.drop_zero,go_sem])<;>rfl));(case h2=>simp only[List.all_cons,List.all_nil,Bool.and_true,go_sem]))
 (repeat (with_reducible (first|((first|refine U_q (v:=?_) ?h1 ?_|refine U_ld (v:=?_) ?h1 ?_|refine U_gt ?h1 ?_);case h1=>((try simp only[List.take_succ_cons,List.take_zero,List.drop_succ_cons,List.drop_zero,go_sem])<;>rfl)))));refine U_q (v:=.sl [[.i .u8 1]]) (by (simp only[litV,List.take_succ_cons,List.take_zero,List.drop_succ_cons,List.drop_zero,go_sem]<;>rfl)) ?_;(repeat (with_reducible (first|(refine U_gt ?h1 ?_;case h1=>((try simp only[List.take_succ_cons,List.take_zero,List.drop_succ_cons,List.drop_zero,go_sem])<;>rfl)))))
 (refine U_pc (g:=10) (r:=.sl [cfC twoC]) (vs:=?_) (ws:=?_) ?h1 ?h2 ?h3 ?h4 ?h5 ?_;(case h1=>((try simp only[List.take_succ_cons,List.take_zero,List.drop_succ_cons,List.drop_zero,go_sem])<;>rfl));(case h2=>refine fzsU_ok ?_;first|rfl|simp only[List.all_cons,List.all_nil,Bool.and_true,go_sem]);(case h5=>exact hB');(case h3=>first|exact Bool.or_eq_true_iff.2 (.inr rfl)|(refine Bool.or_eq_true_iff.2 (.inl ?_);simp only[clos,List.all_cons,List.all_nil,Bool.and_true,go_sem]));(case h4=>first|rfl|simp only[go_sem,Bool.and_true]))
 (repeat (with_reducible (first|refine U_nil ?_|refine UC_rt ?_|refine X_nx ?_|((first|refine U_q (v:=?_) ?h1 ?_|refine E_1 (v:=?_) ?h1 ?_|refine U_gt ?h1 ?_);case h1=>((try simp only[List.take_succ_cons,List.take_zero,List.drop_succ_cons,List.drop_zero,go_sem])<;>rfl)))));rfl
theorem sd_nil {l:List Cf}:sdC l=[]↔l=[]:=by
 constructor
 ·intro h;cases l with
  | nil=>rfl
  | cons x l=>have:=(sd_mem (x::l) x).2 (by simp);rw[h] at this;cases this
 ·rintro rfl;exact List.eq_nil_iff_forall_not_mem.2 fun y hy=>by have:=(sd_mem [] y).1 hy;cases this
theorem bhF_app (A:Au) (w m:List Nat):∀ (k:Nat),k≤w.length→bhF A (w++m) k=bhF A w k
 | 0,_=>rfl
 | k+1,h=>by
  rw[bhF,bhF,List.getElem?_append_left (by omega),bhF_app A w m k (by omega)]
theorem bhF_dead {A:Au} {w m:List Nat} (h0:w≠[]) (h:bhF A w w.length=[]):∀ (j:Nat),bhF A (w++m) (w.length+j)=[]
 | 0=>by rw[Nat.add_zero,bhF_app A w m _ (Nat.le_refl _)];exact h
 | j+1=>by
  have hl:w.length≠0:=by simpa using h0
  rw[← Nat.add_assoc,bhF];split
  ·rfl
  ·rw[if_neg (by omega),bhF_dead h0 h j];rfl
theorem dead_bh {A:Au} {w:List Nat} (m:List Nat) (h0:w≠[]) (h:bhS A w=[]):bhS A (w++m)=[]:=by
 rw[bhS,sd_nil] at h ⊢;rw[List.length_append];exact bhF_dead h0 h m.length
theorem dead_mt {A:Au} {w:List Nat} (m:List Nat) (h0:w≠[]) (h:bhS A w=[]):mtF A (w++m)=false:=by
 rw[mtF,if_neg (by simp [h0]),dead_bh m h0 h];rfl
theorem U_appx {cl:CallT} {e:E} {o:O} (s:Nat) {d sz byt:Nat} {x y:Od} {L ys:List (List V)} {l:List Stp} {K:E→O→Prop} (hx:x.ev e=ownV s sz L) (hL:L≠[]) (ho:o s=some (.row sz L)) (hs:src o (y.ev e)=some ys) (hsz:∀ c∈ys,c.length=sz) (hp:s < 1000000) (hso:sizeOk (L.length+ys.length) byt) (hc:swpR s L=L) (hy:swpR s ys=ys)
  (h:∀ e1 o1,e1 d=ownV s sz (L++ys)→(∀ t,t≠d→e1 t=e t∨e1 t=swp s (e t))→o1 s=some (.row sz (L++ys))→(∀ t,t≠s→o1 t=o t∨o1 t=swpO s o t)→wpRU cl l K e1 o1):wpRU cl (⟨some d,none,.app sz byt x y,[]⟩::l) K e o:=by
 by_cases h0:ys=[]
 ·subst h0;rw[List.append_nil] at h;have hx':x.ev e=.rw s sz 0 L.length:=by rw[hx,ownV,if_neg hL]
  refine U_app0 hx' ho (Nat.le_refl _) hs (by simpa using hso) (h _ _ ?_ (fun t ht=>.inl ?_) ho fun t _=>.inl rfl)
  ·simp [upd,ownV,hL]
  ·simp [upd,ht]
 ·refine U_appo s hx (fun _=>ho) hs hsz h0 hp hso hc hy (h _ _ ?_ (fun t ht=>.inr ?_) ?_ fun t ht=>.inr ?_)
  ·simp [upd]
  ·simp [upd,ht,swpE]
  ·simp [upd]
  ·simp [upd,ht]
theorem wd_cls (w:List Nat):(w.map fun b:Nat=>[V.i .u8 (b:Int)]).all cls1L=true:=List.all_eq_true.2 fun c hc=>by obtain⟨x,_,rfl⟩:=List.mem_map.1 hc;rfl
theorem wd_ok (w:List Nat):okLL (w.map fun b:Nat=>[V.i .u8 (b:Int)])=true:=by rw[okLL,List.all_eq_true];intro c hc;obtain⟨x,_,rfl⟩:=List.mem_map.1 hc;rfl
theorem wd_1 (w:List Nat):∀ c∈w.map fun b:Nat=>[V.i .u8 (b:Int)],c.length=1:=fun c hc=>by obtain⟨x,_,rfl⟩:=List.mem_map.1 hc;rfl
set_option maxHeartbeats 4000000 in
theorem dead_law (n:Nd) (hs:small n) (w m:List Nat) (hw:∀ b∈w,b < 256) (hm:∀ b∈m,b < 256):Pu F 3 [.ag (cel n),wdV w,wdV m] (.bo true):=by
 have haw:=nawake_pu;obtain⟨A,ok,hA,hok⟩:=auto_pu n hs;refine U_pure e3 rfl rfl (by simp only[go_sem,Bool.and_true,wdV]) ?_;dsimp only[fn3,c3];(repeat (with_reducible (first|refine U_nil ?_|refine UC_sq ?_|refine UC_rg ?_|refine X_nx ?_|(refine U_q (v:=?_) ?h1 ?_;case h1=>((try simp only[wdV,List.take_succ_cons,List.take_zero,List.drop_succ_cons,List.drop_zero,go_sem])<;>rfl))|(refine U_box (cs:=?_) (cs':=?_) (n:=?_) ?h1 ?h2 ?h3 ?h4 ?_;case h1|h2|h3|h4=>((try simp only[wdV,List.take_succ_cons,List.take_zero,List.drop_succ_cons,List.drop_zero,go_sem])<;>rfl)))))
 (refine U_pcr (r:=.bo true) haw ?h1 ?h2 rfl ?_;(case h1=>((try simp only[List.take_succ_cons,List.take_zero,List.drop_succ_cons,List.drop_zero,go_sem])<;>rfl));(case h2=>simp only[List.all_cons,List.all_nil,Bool.and_true,go_sem]))
 by_cases hl:w.length≤30∧w≠[]∧m.length≤10
 case neg =>
  by_cases h1:w.length≤30
  ·have c1:decide ((w.length:Int) > 30)=false:=decide_eq_false (by omega);by_cases h2:w=[]
   ·have c2:((w.length:Int)==0)=true:=by simp [h2]
    (repeat (with_reducible (first|refine U_nil ?_|refine UC_sq ?_|refine UC_rg ?_|refine X_nx ?_|((first|refine U_q (v:=?_) ?h1 ?_|refine U_gt ?h1 ?_|refine UC_cdt ?h1 ?_);case h1=>((try simp only[wdV,c1,c2,List.length_map,List.take_succ_cons,List.take_zero,List.drop_succ_cons,List.drop_zero,go_sem])<;>rfl))|(refine U_gs1 ?h1 ?_;case h1=>((try simp only[wdV,c1,c2,List.length_map,List.take_succ_cons,List.take_zero,List.drop_succ_cons,List.drop_zero,go_sem])<;>rfl))|rw[put_some])))
    (refine U_pcr (r:=.bo true) haw ?h1 ?h2 rfl ?_;(case h1=>((try simp only[List.take_succ_cons,List.take_zero,List.drop_succ_cons,List.drop_zero,go_sem])<;>rfl));(case h2=>simp only[List.all_cons,List.all_nil,Bool.and_true,go_sem]))
    (repeat (with_reducible (first|refine U_nil ?_|refine UC_rt ?_|refine X_nx ?_|refine X_rt ?_|((first|refine U_q (v:=?_) ?h1 ?_|refine E_1 (v:=?_) ?h1 ?_);case h1=>((try simp only[List.take_succ_cons,List.take_zero,List.drop_succ_cons,List.drop_zero,go_sem])<;>rfl)))));rfl
   ·have c2:((w.length:Int)==0)=false:=by simp [h2]
    have c3:decide ((m.length:Int) > 10)=true:=decide_eq_true (by
     have:¬ m.length≤10:=fun h=>hl ⟨h1,h2,h⟩
     omega)
    (repeat (with_reducible (first|refine U_nil ?_|refine UC_sq ?_|refine UC_rg ?_|refine X_nx ?_|((first|refine U_q (v:=?_) ?h1 ?_|refine U_gt ?h1 ?_|refine UC_cdt ?h1 ?_);case h1=>((try simp only[wdV,c1,c2,c3,List.length_map,List.take_succ_cons,List.take_zero,List.drop_succ_cons,List.drop_zero,go_sem])<;>rfl)))))
    (refine U_pcr (r:=.bo true) haw ?h1 ?h2 rfl ?_;(case h1=>((try simp only[List.take_succ_cons,List.take_zero,List.drop_succ_cons,List.drop_zero,go_sem])<;>rfl));(case h2=>simp only[List.all_cons,List.all_nil,Bool.and_true,go_sem]))
    (repeat (with_reducible (first|refine U_nil ?_|refine UC_rt ?_|refine X_nx ?_|refine X_rt ?_|((first|refine U_q (v:=?_) ?h1 ?_|refine E_1 (v:=?_) ?h1 ?_);case h1=>((try simp only[List.take_succ_cons,List.take_zero,List.drop_succ_cons,List.drop_zero,go_sem])<;>rfl)))));rfl
  ·have c1:decide ((w.length:Int) > 30)=true:=decide_eq_true (by omega);(repeat (with_reducible (first|refine U_nil ?_|refine UC_sq ?_|refine UC_rg ?_|refine X_nx ?_|((first|refine U_q (v:=?_) ?h1 ?_|refine U_gt ?h1 ?_|refine UC_cdt ?h1 ?_);case h1=>((try simp only[wdV,c1,List.length_map,List.take_succ_cons,List.take_zero,List.drop_succ_cons,List.drop_zero,go_sem])<;>rfl))|(refine U_gs1 ?h1 ?_;case h1=>((try simp only[wdV,c1,List.length_map,List.take_succ_cons,List.take_zero,List.drop_succ_cons,List.drop_zero,go_sem])<;>rfl))|rw[put_some])))
   (refine U_pcr (r:=.bo true) haw ?h1 ?h2 rfl ?_;(case h1=>((try simp only[List.take_succ_cons,List.take_zero,List.drop_succ_cons,List.drop_zero,go_sem])<;>rfl));(case h2=>simp only[List.all_cons,List.all_nil,Bool.and_true,go_sem]))
   (repeat (with_reducible (first|refine U_nil ?_|refine UC_rt ?_|refine X_nx ?_|refine X_rt ?_|((first|refine U_q (v:=?_) ?h1 ?_|refine E_1 (v:=?_) ?h1 ?_);case h1=>((try simp only[List.take_succ_cons,List.take_zero,List.drop_succ_cons,List.drop_zero,go_sem])<;>rfl)))));rfl
 case pos =>
  obtain⟨h1,h2,h3⟩:=hl;have c1:decide ((w.length:Int) > 30)=false:=decide_eq_false (by omega);have c2:((w.length:Int)==0)=false:=by simp [h2]
  have c3:decide ((m.length:Int) > 10)=false:=decide_eq_false (by omega);(repeat (with_reducible (first|refine U_nil ?_|refine UC_sq ?_|refine UC_rg ?_|refine UC_sk ?_|refine X_nx ?_|((first|refine U_q (v:=?_) ?h1 ?_|refine U_ld (v:=?_) ?h1 ?_|refine U_gt ?h1 ?_);case h1=>((try simp only[wdV,c1,c2,c3,List.length_map,List.take_succ_cons,List.take_zero,List.drop_succ_cons,List.drop_zero,go_sem])<;>rfl))|(refine UC_cdf ?h1 ?_;case h1=>((try simp only[wdV,c1,c2,c3,List.length_map,List.take_succ_cons,List.take_zero,List.drop_succ_cons,List.drop_zero,go_sem])<;>rfl)))));refine U_pc (vs:=[.ag (cel n)]) (ws:=[.ag (cel n)]) (Z0) (fzs_cel n _) (Bool.or_eq_true_iff.2 (.inl (clos_cel n))) (by simp only[Bool.and_true,go_sem]) hA ?_;cases ok with
  | false =>
   (repeat (with_reducible (first|refine U_nil ?_|refine UC_sq ?_|refine UC_rg ?_|refine UC_rt ?_|refine X_nx ?_|refine X_rt ?_|((first|refine U_q (v:=?_) ?h1 ?_|refine E_1 (v:=?_) ?h1 ?_|refine U_alc (n:=?_) ?h1 ?_|refine UC_cdt ?h1 ?_);case h1=>((try simp only[List.take_succ_cons,List.take_zero,List.drop_succ_cons,List.drop_zero,go_sem])<;>rfl))|(refine U_sto (id:=?_) (i:=?_) (j:=?_) (q:=?_) (es:=?_) (cs:=?_) (vs:=?_) (es':=?_) ?h1 ?h2 ?h3 ?h4 ?h5 ?h6 ?h7 ?_;case h1|h2|h3|h4|h5|h6|h7=>((try simp only[List.take_succ_cons,List.take_zero,List.drop_succ_cons,List.drop_zero,go_sem])<;>rfl))|(refine U_gs1 ?h1 ?_;case h1=>((try simp only[List.take_succ_cons,List.take_zero,List.drop_succ_cons,List.drop_zero,go_sem])<;>rfl)))));rfl
  | true =>
   obtain⟨hAm,_,hW,hL,_⟩:=hok rfl;have hfn:A.first.Nodup:=by rw[hAm];exact first_nodup _
   have hf:A.first.length≤1000:=by
    have:=nodup_len A.first (List.range 41) hfn fun p hp=>List.mem_range.2 (by have:=(hW.f p hp).2;have:=hW.n;omega)
    have:A.first.length≤41:=by simpa using this
    omega
   clear hAm;have hB:Pu F 10 [.ag (auC A),.sl (w.map fun b:Nat=>[.i .u8 (b:Int)])] (.sl ((bhS A w).map cfC)):=behind_pu hW hf hL w hw (by omega);by_cases hb:bhS A w=[]
   ·rw[hb] at hB;have hB0:Pu F 10 [.ag (auC A),.sl (w.map fun b:Nat=>[.i .u8 (b:Int)])] (.sl []):=hB;have hwm:∀ b∈w++m,b < 256:=fun b hb=>by
     rcases List.mem_append.1 hb with hb|hb
     ·exact hw b hb
     ·exact hm b hb
    have hB2:Pu F 10 [.ag (auC A),.sl ((w++m).map fun b:Nat=>[.i .u8 (b:Int)])] (.sl []):=by
     have:=behind_pu hW hf hL (w++m) hwm (by rw[List.length_append];omega)
     rw[dead_bh m h2 hb] at this;exact this
    have hM2:Pu F 11 [.ag (auC A),.sl ((w++m).map fun b:Nat=>[.i .u8 (b:Int)])] (.bo false):=by
     have:=match_pu hW hf hL (w++m) hwm (by rw[List.length_append];omega)
     rw[dead_mt m h2 hb] at this;exact this
    (repeat (with_reducible (first|refine U_nil ?_|refine UC_sq ?_|refine UC_rg ?_|refine X_nx ?_|((first|refine U_q (v:=?_) ?h1 ?_|refine U_ld (v:=?_) ?h1 ?_|refine U_alc (n:=?_) ?h1 ?_|refine U_gt ?h1 ?_);case h1=>((try simp only[wdV,List.take_succ_cons,List.take_zero,List.drop_succ_cons,List.drop_zero,go_sem])<;>rfl))|(refine U_sto (id:=?_) (i:=?_) (j:=?_) (q:=?_) (es:=?_) (cs:=?_) (vs:=?_) (es':=?_) ?h1 ?h2 ?h3 ?h4 ?h5 ?h6 ?h7 ?_;case h1|h2|h3|h4|h5|h6|h7=>((try simp only[wdV,List.take_succ_cons,List.take_zero,List.drop_succ_cons,List.drop_zero,go_sem])<;>rfl)))))
    (refine U_pc (g:=10) (r:=.sl []) (vs:=?_) (ws:=?_) ?h1 ?h2 ?h3 ?h4 ?h5 ?_;(case h1=>((try simp only[wdV,List.take_succ_cons,List.take_zero,List.drop_succ_cons,List.drop_zero,go_sem])<;>rfl));(case h2=>refine fzsU_ok ?_;first|rfl|simp only[wdV,List.all_cons,List.all_nil,Bool.and_true,go_sem]);(case h5=>exact hB0);(case h3=>first|exact Bool.or_eq_true_iff.2 (.inr rfl)|(refine Bool.or_eq_true_iff.2 (.inl ?_);simp only[clos,wdV,List.all_cons,List.all_nil,Bool.and_true,go_sem]));(case h4=>first|rfl|simp only[wdV,go_sem,Bool.and_true]))
    have hne:(w.map fun b:Nat=>[V.i .u8 (b:Int)])≠[]:=by simpa using h2
    (repeat (with_reducible (first|refine U_nil ?_|refine UC_sq ?_|refine UC_rg ?_|refine UC_sk ?_|refine X_nx ?_|((first|refine U_q (v:=?_) ?h1 ?_|refine U_gt ?h1 ?_);case h1=>((try simp only[wdV,List.take_succ_cons,List.take_zero,List.drop_succ_cons,List.drop_zero,go_sem])<;>rfl))|refine U_bsl0 ?_|(refine UC_cdf ?h1 ?_;case h1=>((try simp only[wdV,List.take_succ_cons,List.take_zero,List.drop_succ_cons,List.drop_zero,go_sem])<;>rfl)))));refine U_appo 44 (L:=[]) (ys:=w.map fun b:Nat=>[.i .u8 (b:Int)]) (Zr0) (fun hh=>absurd rfl hh) (by simp only[src,wdV,go_sem]) (wd_1 w) hne (by omega) ⟨by simp;omega,by omega⟩ rfl (swpR_cls _ (wd_cls w)) ?_;rw[List.nil_append];(repeat (with_reducible (first|(refine U_q (v:=?_) ?h1 ?_;case h1=>((try simp only[wdV,List.take_succ_cons,List.take_zero,List.drop_succ_cons,List.drop_zero,go_sem])<;>rfl)))));refine U_appx 44 (L:=w.map fun b:Nat=>[.i .u8 (b:Int)]) (ys:=m.map fun b:Nat=>[.i .u8 (b:Int)]) (Z0) hne (Z0) (by simp only[src,wdV,go_sem]) (wd_1 m) (by omega) ⟨by simp;omega,by omega⟩ (swpR_cls _ (wd_cls w)) (swpR_cls _ (wd_cls m)) fun e1 o1 q1 q2 q3 q4=>?_;have hap:(w.map fun b:Nat=>[V.i .u8 (b:Int)])++(m.map fun b:Nat=>[V.i .u8 (b:Int)])=(w++m).map fun b:Nat=>[V.i .u8 (b:Int)]:=(List.map_append ..).symm;rw[hap] at q1 q3;have hne2:((w++m).map fun b:Nat=>[V.i .u8 (b:Int)])≠[]:=by simp [h2]
    have r7:e1 7=.pt 7 0 0:=by
     rcases q2 7 (by decide) with h|h
     ·rw[h];simp only[go_sem]
     ·rw[h];simp only[go_sem]
    have m7:o1 7=some (.row 15 [auC A]):=by
     rcases q4 7 (by decide) with h|h
     ·rw[h];simp only[go_sem]
     ·rw[h];simp only[au_sw,go_sem]
    clear q2 q4;refine U_q (v:=ownV 44 1 ((w++m).map fun b:Nat=>[.i .u8 (b:Int)])) (Z1 q1) ?_;refine U_nil ?_;refine X_nx ?_;refine UC_sq ?_;have hst:=still_own 44 1 hne2;refine UC_still 44 (sz:=1) (es:=(w++m).map fun b:Nat=>[.i .u8 (b:Int)]) (Z1 q3) (wd_ok _) ?_;generalize hO:stillOU 44 ((w++m).map fun b:Nat=>[.i .u8 (b:Int)]) _=O;have m7':O 7=some (.row 15 [auC A]):=by
     have:stillL 44 ((w++m).map fun b:Nat=>[V.i .u8 (b:Int)]) (auC A)=auC A:=stillL_q _ _ (by obtain⟨⟨ak,as_,ap,al,ah⟩,S,Cs,R,Fi,Mo,La,Em⟩:=A;rfl)
     rw[← hO];simp only[m7,this,go_sem]
    generalize hE:stillE 44 ((w++m).map fun b:Nat=>[.i .u8 (b:Int)]) _=E1;have k7:E1 7=.pt 7 0 0:=by rw[← hE];simp only[r7,go_sem]
    have k9:E1 9=.sl ((w++m).map fun b:Nat=>[.i .u8 (b:Int)]):=by rw[← hE];simp only[hst,go_sem]
    clear hE hO;(repeat (with_reducible (first|refine UC_rg ?_|((first|refine U_q (v:=?_) ?h1 ?_|refine U_ld (v:=?_) ?h1 ?_);case h1=>((try simp only[k7,k9,m7',List.take_succ_cons,List.take_zero,List.drop_succ_cons,List.drop_zero,go_sem])<;>rfl)))))
    (refine U_pc (g:=10) (r:=.sl []) (vs:=?_) (ws:=?_) ?h1 ?h2 ?h3 ?h4 ?h5 ?_;(case h1=>((try simp only[k7,k9,m7',List.take_succ_cons,List.take_zero,List.drop_succ_cons,List.drop_zero,go_sem])<;>rfl));(case h2=>refine fzsU_ok ?_;first|rfl|simp only[k7,k9,m7',List.all_cons,List.all_nil,Bool.and_true,go_sem]);(case h5=>exact hB2);(case h3=>first|exact Bool.or_eq_true_iff.2 (.inr rfl)|(refine Bool.or_eq_true_iff.2 (.inl ?_);simp only[clos,k7,k9,m7',List.all_cons,List.all_nil,Bool.and_true,go_sem]));(case h4=>first|rfl|simp only[k7,k9,m7',go_sem,Bool.and_true]))
    (repeat (with_reducible (first|((first|refine U_q (v:=?_) ?h1 ?_|refine U_ld (v:=?_) ?h1 ?_|refine U_gt ?h1 ?_);case h1=>((try simp only[k7,k9,m7',List.take_succ_cons,List.take_zero,List.drop_succ_cons,List.drop_zero,go_sem])<;>rfl)))))
    (refine U_pcr (r:=.bo false) hM2 ?h1 ?h2 rfl ?_;(case h1=>((try simp only[k7,k9,m7',List.take_succ_cons,List.take_zero,List.drop_succ_cons,List.drop_zero,go_sem])<;>rfl));(case h2=>simp only[k7,k9,m7',List.all_cons,List.all_nil,Bool.and_true,go_sem]))
    (repeat (with_reducible (first|refine U_nil ?_|refine UC_rt ?_|refine X_nx ?_|((first|refine U_q (v:=?_) ?h1 ?_|refine E_1 (v:=?_) ?h1 ?_|refine U_gt ?h1 ?_);case h1=>((try simp only[List.take_succ_cons,List.take_zero,List.drop_succ_cons,List.drop_zero,go_sem])<;>rfl)))));rfl
   ·have hpos:0 < (bhS A w).length:=List.length_pos_iff.2 hb;have c5:decide (((bhS A w).length:Int) > 0)=true:=decide_eq_true (by omega);(repeat (with_reducible (first|refine U_nil ?_|refine UC_sq ?_|refine UC_rg ?_|refine X_nx ?_|((first|refine U_q (v:=?_) ?h1 ?_|refine U_ld (v:=?_) ?h1 ?_|refine U_alc (n:=?_) ?h1 ?_|refine U_gt ?h1 ?_);case h1=>((try simp only[wdV,List.take_succ_cons,List.take_zero,List.drop_succ_cons,List.drop_zero,go_sem])<;>rfl))|(refine U_sto (id:=?_) (i:=?_) (j:=?_) (q:=?_) (es:=?_) (cs:=?_) (vs:=?_) (es':=?_) ?h1 ?h2 ?h3 ?h4 ?h5 ?h6 ?h7 ?_;case h1|h2|h3|h4|h5|h6|h7=>((try simp only[wdV,List.take_succ_cons,List.take_zero,List.drop_succ_cons,List.drop_zero,go_sem])<;>rfl)))))
    (refine U_pc (g:=10) (r:=.sl ((bhS A w).map cfC)) (vs:=?_) (ws:=?_) ?h1 ?h2 ?h3 ?h4 ?h5 ?_;(case h1=>((try simp only[wdV,List.take_succ_cons,List.take_zero,List.drop_succ_cons,List.drop_zero,go_sem])<;>rfl));(case h2=>refine fzsU_ok ?_;first|rfl|simp only[wdV,List.all_cons,List.all_nil,Bool.and_true,go_sem]);(case h5=>exact hB);(case h3=>first|exact Bool.or_eq_true_iff.2 (.inr rfl)|(refine Bool.or_eq_true_iff.2 (.inl ?_);simp only[clos,wdV,List.all_cons,List.all_nil,Bool.and_true,go_sem]));(case h4=>first|rfl|simp only[wdV,go_sem,Bool.and_true]))
    (repeat (with_reducible (first|refine U_nil ?_|refine UC_sq ?_|refine UC_rg ?_|refine UC_rt ?_|refine X_nx ?_|refine X_rt ?_|((first|refine U_q (v:=?_) ?h1 ?_|refine E_1 (v:=?_) ?h1 ?_|refine U_gt ?h1 ?_|refine UC_cdt ?h1 ?_);case h1=>((try simp only[c5,List.length_map,List.take_succ_cons,List.take_zero,List.drop_succ_cons,List.drop_zero,go_sem])<;>rfl)))));rfl
end Go.Proofs.YtocmjakchgcioaaGreat
