import Derived.Test.YtocmjakchgcioaaGreatKc

namespace Go.Proofs.YtocmjakchgcioaaGreat
set_option linter.all false
attribute [-go_sem] swpOb renOb rfOb V.cells
theorem nan64_pu (a:Int):Pu F 111 [.i .i64 a] (.bo false):=by
 refine U_pure e111 rfl rfl (by simp only[go_sem,Bool.and_true]) ?_;dsimp only[fn111,c111];(repeat (with_reducible (first|refine U_nil ?_|refine UC_sq ?_|refine UC_rg ?_|refine UC_rt ?_|refine X_nx ?_|((first|refine U_q (v:=?_) ?h1 ?_|refine E_1 (v:=?_) ?h1 ?_);case h1=>((try simp only[go_sem])<;>rfl)))));exact fz_of (by simp) rfl
theorem compare64_pu (a b:Int):Pu F 71 [.i .i64 a,.i .i64 b] (.i .i64 (cmpI a b)):=by
 have h1:=nan64_pu a;have h2:=nan64_pu b;refine U_pure e71 rfl rfl (by simp only[go_sem,Bool.and_true]) ?_;dsimp only[fn71,c71];(repeat' (first|(with_reducible (first|refine U_nil ?_|refine UC_sq ?_|refine UC_rg ?_|refine UC_sk ?_|refine UC_rt ?_|refine X_nx ?_|refine X_rt ?_|((first|refine U_q (v:=?_) ?h1 ?_|refine E_1 (v:=?_) ?h1 ?_);case h1=>((try simp only[go_sem])<;>rfl))|(refine UC_cdf ?h1 ?_;case h1=>((try simp only[go_sem])<;>rfl))))|((with_reducible refine U_pc (g:=111) (r:=.bo false) (vs:=?_) (ws:=?_) ?h1 ?h2 ?h3 ?h4 ?h5 ?_);(case h1=>((try simp only[go_sem])<;>rfl));(case h2=>refine fzsU_ok ?_;first|rfl|simp only[List.all_cons,List.all_nil,Bool.and_true,go_sem]);(case h5=>exact h1);(case h3=>first|exact Bool.or_eq_true_iff.2 (.inr rfl)|(refine Bool.or_eq_true_iff.2 (.inl ?_);simp only[clos,List.all_cons,List.all_nil,Bool.and_true,go_sem]));(case h4=>first|rfl|simp only[go_sem,Bool.and_true]))|((with_reducible refine U_pc (g:=111) (r:=.bo false) (vs:=?_) (ws:=?_) ?h1 ?h2 ?h3 ?h4 ?h5 ?_);(case h1=>((try simp only[go_sem])<;>rfl));(case h2=>refine fzsU_ok ?_;first|rfl|simp only[List.all_cons,List.all_nil,Bool.and_true,go_sem]);(case h5=>exact h2);(case h3=>first|exact Bool.or_eq_true_iff.2 (.inr rfl)|(refine Bool.or_eq_true_iff.2 (.inl ?_);simp only[clos,List.all_cons,List.all_nil,Bool.and_true,go_sem]));(case h4=>first|rfl|simp only[go_sem,Bool.and_true]))|with_reducible (refine U_gb (q:=?_) ?h1 (fun _=>?_) (fun _=>?_);case h1=>((try simp only[go_sem])<;>rfl))|with_reducible (refine UC_cdb (q:=?_) ?h1 (fun _=>?_) (fun _=>?_);case h1=>((try simp only[go_sem])<;>rfl))));all_goals
  refine fz_of ?_ rfl;simp only[decide_eq_true_eq,decide_eq_false_iff_not] at *;congr 1;unfold cmpI;(repeat' split)<;>first|rfl|omega
def cmp4 (x y:Cf):Int:=orI2 (cmpI x.c0 y.c0) (orI2 (cmpI x.c1 y.c1) (orI2 (cmpI x.c2 y.c2) (cmpI x.c3 y.c3)))
theorem cmpI_self (a:Int):cmpI a a=0:=cmpI_eq.2 rfl
theorem cmp4_at {x y:Cf} {i:Nat} (hi:i < 4) (h:∀ j,j < i→x.c j=y.c j) (hn:cmpI (x.c i) (y.c i)≠0):cmp4 x y=cmpI (x.c i) (y.c i):=by
 match i,hi with
 | 0,_=>simp only[Cf.c] at hn ⊢;simp [cmp4,orI2,hn]
 | 1,_ =>
  have h0:=h 0 (by omega);simp only[Cf.c] at hn h0 ⊢;simp [cmp4,orI2,hn,h0,cmpI_self]
 | 2,_ =>
  have h0:=h 0 (by omega);have h1:=h 1 (by omega);simp only[Cf.c] at hn h0 h1 ⊢;simp [cmp4,orI2,hn,h0,h1,cmpI_self]
 | 3,_ =>
  have h0:=h 0 (by omega);have h1:=h 1 (by omega);have h2:=h 2 (by omega);simp only[Cf.c] at hn h0 h1 h2 ⊢;simp [cmp4,orI2,h0,h1,h2,cmpI_self]
theorem cmp4_all {x y:Cf} (h:∀ j,j < 4→x.c j=y.c j):cmp4 x y=0:=by
 have h0:=h 0 (by omega);have h1:=h 1 (by omega);have h2:=h 2 (by omega);have h3:=h 3 (by omega);simp only[Cf.c] at h0 h1 h2 h3;simp [cmp4,orI2,h0,h1,h2,h3,cmpI_self]
theorem cmp4_pu (x y:Cf):Pu F 47 [.sl ((cl4 x).map i1),.sl ((cl4 y).map i1)] (.i .i64 (cmp4 x y)):=by
 refine U_pure e47 rfl rfl (by simp only[go_sem,Bool.and_true]) ?_;dsimp only[fn47,c47];have hl:∀ z:Cf,(cl4 z).length=4:=fun z=>rfl;(repeat (with_reducible (first|refine U_nil ?_|refine UC_sq ?_|refine UC_rg ?_|refine UC_bk ?_|refine X_nx ?_|(refine U_q (v:=?_) ?h1 ?_;case h1=>((try simp only[List.length_map,hl,go_sem])<;>rfl)))));refine U_lp (fun r e o=>∃ i:Nat,i+r=4∧e 0=.sl ((cl4 x).map i1)∧e 1=.sl ((cl4 y).map i1)∧e 9=.sl ((cl4 x).map i1)∧e 10=.i .i64 4∧e 11=.i .i64 i∧∀ j,j < i→x.c j=y.c j) (k:=4) ?_ (Call_le F) ?_
 ·exact⟨0,by omega,Z0,Z0,Z0,by simp only[List.length_map,hl,go_sem],Zr0,fun j h=>absurd h (by omega)⟩
 rintro r e o ⟨i,hir,r0,r1,r9,r10,r11,hq⟩;dsimp only[b47_0];(repeat (with_reducible (first|refine U_nil ?_|refine UC_sq ?_|refine UC_rg ?_|refine X_nx ?_|(refine U_q (v:=?_) ?h1 ?_;case h1=>((try simp only[r10,r11,go_sem])<;>rfl)))));refine UC_cdb (q:=decide ((i:Int) < 4)) (Z0) (fun hc=>?_) (fun hc=>?_)
 ·have hi:i < 4:=by simp at hc;omega
  have hip:(0:Int)≤(i:Int):=by omega
  have hw:=wrap1 (i:=i) (by omega);have c1:decide ((i:Int)≥4)=false:=by simp;omega
  have hx:((cl4 x).map i1)[i]?=some [.i .i64 (x.c i)]:=by rw[List.getElem?_map,cl4_get x hi];rfl
  have hy:((cl4 y).map i1)[i]?=some [.i .i64 (y.c i)]:=by rw[List.getElem?_map,cl4_get y hi];rfl
  have hcp:=compare64_pu (x.c i) (y.c i);(repeat (with_reducible (first|refine U_nil ?_|refine UC_sq ?_|refine UC_rg ?_|refine UC_bk ?_|refine UC_sk ?_|refine X_nx ?_|((first|refine U_q (v:=?_) ?h1 ?_|refine U_ld (v:=?_) ?h1 ?_);case h1=>((try simp only[r0,r1,r9,r11,hip,hx,hy,c1,List.length_map,hl,Int.toNat_natCast,go_sem])<;>rfl))|(refine UC_cdf ?h1 ?_;case h1=>((try simp only[r0,r1,r9,r11,hip,hx,hy,c1,List.length_map,hl,Int.toNat_natCast,go_sem])<;>rfl)))))
  (refine U_pcr (r:=.i .i64 (cmpI (x.c i) (y.c i))) hcp ?h1 ?h2 rfl ?_;(case h1=>((try simp only[go_sem])<;>rfl));(case h2=>simp only[List.all_cons,List.all_nil,Bool.and_true,go_sem]))
  by_cases hz:cmpI (x.c i) (y.c i)=0
  ·have c2:(cmpI (x.c i) (y.c i) != 0)=false:=by simpa using hz
   (repeat (with_reducible (first|refine U_nil ?_|refine UC_sq ?_|refine UC_rg ?_|refine UC_sk ?_|refine X_nx ?_|refine B_nx ?_|(refine U_q (v:=?_) ?h1 ?_;case h1=>((try simp only[c2,r11,hw,go_sem])<;>rfl))|(refine UC_cdf ?h1 ?_;case h1=>((try simp only[c2,r11,hw,go_sem])<;>rfl)))))
   refine⟨r - 1,by omega,i+1,by omega,Z1 r0,Z1 r1,Z1 r9,Z1 r10,Z0,fun j hj=>?_⟩
   by_cases hji:j=i
   ·subst hji;exact cmpI_eq.1 hz
   ·exact hq j (by omega)
  ·have c2:(cmpI (x.c i) (y.c i) != 0)=true:=by simpa using hz
   (repeat (with_reducible (first|refine U_nil ?_|refine UC_sq ?_|refine UC_rg ?_|refine UC_rt ?_|refine X_nx ?_|refine X_rt ?_|refine B_rt ?_|((first|refine U_q (v:=?_) ?h1 ?_|refine E_1 (v:=?_) ?h1 ?_|refine UC_cdt ?h1 ?_);case h1=>((try simp only[c2,go_sem])<;>rfl)))));rw[cmp4_at hi hq hz];exact fz_of (by simp) rfl
 ·have hi:i=4:=by simp at hc;omega
  subst hi;(repeat (with_reducible (first|refine U_nil ?_|refine UC_sq ?_|refine UC_rg ?_|refine UC_sk ?_|refine UC_ex ?_|refine UC_rt ?_|refine X_nx ?_|refine X_ex ?_|refine B_self ?_|((first|refine U_q (v:=?_) ?h1 ?_|refine E_1 (v:=?_) ?h1 ?_);case h1=>((try simp only[r0,r1,List.length_map,hl,go_sem])<;>rfl))|(refine UC_cdf ?h1 ?_;case h1=>((try simp only[r0,r1,List.length_map,hl,go_sem])<;>rfl)))));rw[cmp4_all hq];exact fz_of (by simp) rfl
theorem ordC_or (x y:Cf):ordC x y=orI2 (cmpI x.p y.p) (cmp4 x y):=rfl
theorem cfg_order_pu (x y:Cf):Pu F 24 [.ag (cfC x),.ag (cfC y)] (.i .i64 (ordC x y)):=by
 have h1:=compare_pu x.p y.p;have h2:=cmp4_pu x y;have h3:=or2_pu (cmpI x.p y.p) (cmp4 x y);rw[ordC_or];generalize cmpI x.p y.p=c1 at h1 h3 ⊢;generalize cmp4 x y=c2 at h2 h3 ⊢;generalize orI2 c1 c2=c3 at h3 ⊢;refine U_pure e24 rfl rfl (by simp only[go_sem,Bool.and_true]) ?_;dsimp only[fn24,c24];(repeat (with_reducible (first|refine U_nil ?_|refine UC_sq ?_|refine UC_rg ?_|refine X_nx ?_|((first|refine U_q (v:=?_) ?h1 ?_|refine U_ld (v:=?_) ?h1 ?_);case h1=>((try simp only[go_sem])<;>rfl))|(refine U_box (cs:=?_) (cs':=?_) (n:=?_) ?h1 ?h2 ?h3 ?h4 ?_;case h1|h2|h3|h4=>((try simp only[go_sem])<;>rfl)))))
 (refine U_pcr (r:=.i .i64 c1) h1 ?h1 ?h2 rfl ?_;(case h1=>((try simp only[go_sem])<;>rfl));(case h2=>simp only[List.all_cons,List.all_nil,Bool.and_true,go_sem]))
 (repeat fail);refine U_pc (vs:=[.ra 2 0 1 4,.ra 3 0 1 4]) (ws:=[.sl ((cl4 x).map i1),.sl ((cl4 y).map i1)]) (r:=.i .i64 c2) (Z0) rfl (Bool.or_eq_true_iff.2 (.inr rfl)) rfl h2 ?_;(repeat (with_reducible (first|(refine U_bsl (es:=?_) (es':=?_) ?h1 ?h2 ?h3 ?_;case h1|h2|h3=>((try simp only[go_sem])<;>rfl)))));refine U_pc (vs:=[.rw 15 1 0 2]) (ws:=[.sl [[.i .i64 c1],[.i .i64 c2]]]) (r:=.i .i64 c3) (Z0) rfl (Bool.or_eq_true_iff.2 (.inr rfl)) rfl h3 ?_;(repeat (with_reducible (first|refine U_nil ?_|refine UC_rt ?_|refine X_nx ?_|((first|refine U_q (v:=?_) ?h1 ?_|refine E_1 (v:=?_) ?h1 ?_);case h1=>((try simp only[go_sem])<;>rfl)))));exact fz_of (by simp) rfl
def Cf.v (x:Cf):Nat→Int
 | 0=>x.p
 | j+1=>x.c j
def srtC (l:List Cf):List Cf:=l.mergeSort fun x y=>!(ltOf ordC) y x
theorem cfg_order_snd (x y:Cf):Snd Tryz.prog 24 [.ag (cfC x),.ag (cfC y)] emp (fun v _=>v=.i .i64 (ordC x y)) :=
 sound mixed Bas_ok (Call_le F _ _ _ _ _ (fun _ _ h=>fz_i h) (cfg_order_pu x y))
theorem U_sortC {e:E} {o:O} {d:Nat} {ods:List Od} (s:Nat) {l0:List Cf} {l:List Stp} {K:E→O→Prop} (h1:l0.length < 4611686018427387904) (hargs:ods.map (Od.ev e)=[ownV s 5 (l0.map cfC),.fn 24 []]) (f1:Own o s 5 (l0.map cfC))
  (h:∀ o1,Own o1 s 5 ((srtC l0).map cfC)→(∀ t,t≠s→o1 t=o t)→wpRU (Call F) l K (upd e d (.tp [])) o1):wpRU (Call F) (⟨some d,none,.nc 43 ods,[]⟩::l) K e o:=by
 have hF:F 43=none:=rfl;by_cases h0:l0=[]
 ·subst h0;refine U_rd s (L:=[]) (sz:=5) (res:=fun _=>.tp []) (pre:=[]) (post:=[.fn 24 []]) hargs rfl rfl rfl (fun hh=>absurd rfl hh) (fun v o' K' hv hK=>?_) (fun m x _=>.tp [] [] rfl (fun j _ _ h1=>by simp at h1)) ?_
  ·rcases hv with⟨_,rfl⟩|⟨hh,_⟩
   ·exact Call_base hF (bas_c ⟨rfl,_,cfg_order_snd,.inl ⟨rfl,hK o' fun i x hx=>hx⟩⟩)
   ·exact absurd rfl hh
  ·exact h o ⟨by simp [srtC],fun hh=>by simp [srtC] at hh⟩ fun _ _=>rfl
 ·have hl:(l0.map cfC)≠[]:=by simpa using h0
  have ho:=f1.h hl;rw[ownV_map_ne h0] at hargs;refine U_nc (s:=s) (q:=5) (es:=l0.map cfC) (es':=(srtC l0).map cfC) (r:=.tp []) hargs ho ?_ ?_ rfl (by simp only[List.all_cons,List.all_nil,refOk,beq_self_eq_true];rfl) (fun id o' K' ho' hK=>?_) ?_
  ·rw[okLL,List.all_eq_true];intro c hc;obtain⟨x,_,rfl⟩:=List.mem_map.1 hc;rfl
  ·rw[okLL,List.all_eq_true];intro c hc;obtain⟨x,_,rfl⟩:=List.mem_map.1 hc;rfl
  ·simp only[List.map_cons,List.map_nil,refV,beq_self_eq_true,if_true];refine Call_base hF (bas_c ⟨rfl,_,cfg_order_snd,.inr ⟨id,l0,rfl,ho',by omega,?_⟩⟩);exact hK _ (by simp [upd];rfl) fun i x hi hx=>by simp [upd,hi,hx]
  ·exact h _ (.to (cf_cls _)) fun t ht=>by simp [upd,ht]
end Go.Proofs.YtocmjakchgcioaaGreat
