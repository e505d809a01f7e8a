import Derived.Test.YtgiedknghbpdfaaR4

namespace Go.Proofs.Ytgiedknghbpdfaa
set_option linter.all false
attribute [-go_sem] swpOb renOb rfOb V.cells
theorem still_cls (d:Nat) (es:List (List V)):∀ (v:V),cls1 v=true→still d es v=v:=by
 have main:(∀ v:V,cls1 v=true→still d es v=v):=by
  intro v;exact V.rec (motive_1:=fun v=>cls1 v=true→still d es v=v) (motive_2:=fun cs=>cls1L cs=true→stillL d es cs=cs) (motive_3:=fun _=>True)
   (fun _=>rfl) (fun _ _=>rfl) (fun _ _ _=>rfl) (fun _ _=>rfl)
   (fun cs ih h=>by rw[cls1] at h;rw[still,ih h]) (fun cs ih h=>by rw[cls1] at h;rw[still,ih h])
   (fun _=>rfl) (fun _ _ _=>rfl) (fun _ _ _ _ h=>by rw[cls1] at h;cases h) (fun _ _ _ _ h=>by rw[cls1] at h;cases h) (fun _ _ _ h=>by rw[cls1] at h;cases h)
   (fun _ _ _ _=>rfl) (fun _=>rfl) (fun g cs ih h=>by rw[cls1] at h;rw[still,ih h]) (fun _=>rfl) (fun _ h=>by rw[cls1] at h;cases h) (fun _=>rfl) (fun _ h=>by rw[cls1] at h;cases h)
   (fun _=>rfl) (fun v vs ih1 ih2 h=>by rw[cls1L,Bool.and_eq_true] at h;rw[stillL,ih1 h.1,ih2 h.2]) trivial (fun _ _ _ _=>trivial) v
 exact main
theorem stillL_cls (d:Nat) (es:List (List V)) {cs:List V} (h:cls1L cs=true):stillL d es cs=cs:=by
 induction cs with
 | nil=>rfl
 | cons v cs ih =>
  rw[cls1L,Bool.and_eq_true] at h;rw[stillL,still_cls d es v h.1,ih h.2]
theorem stillR_cls (d:Nat) (fs:List (List V)) {es:List (List V)} (h:es.all cls1L=true):es.map (stillL d fs)=es:=by
 induction es with
 | nil=>rfl
 | cons c es ih =>
  rw[List.all_cons,Bool.and_eq_true] at h;rw[List.map_cons,stillL_cls d fs h.1,ih h.2]
theorem still_ownNe (d s sz:Nat) (es L:List (List V)) (h:(s==d)=false):still d es (ownV s sz L)=ownV s sz L:=by
 unfold ownV;split
 ·rfl
 ·rw[still,if_neg (by rw[h];simp)]
theorem Own.st {o:O} {s d sz:Nat} {es L:List (List V)} (hn:(s==d)=false) (h:Own o s sz L):Own (stillOU d es o) s sz L:=⟨h.c,fun hl=>by
 rw[stillOU_ne _ _ _ _ hn,h.h hl,Option.bind_some,stillObU,stillR_cls d es h.c]⟩
theorem in_cls (l:List Nat):(l.map inC).all cls1L=true:=List.all_eq_true.2 fun c hc=>by obtain⟨x,_,rfl⟩:=List.mem_map.1 hc;rfl
theorem ls_cls (l:List (List Nat)):(l.map lsC).all cls1L=true:=List.all_eq_true.2 fun c hc=>by obtain⟨x,_,rfl⟩:=List.mem_map.1 hc;rfl
theorem in_ok (l:List Nat):okLL (l.map inC)=true:=List.all_eq_true.2 fun c hc=>by obtain⟨x,_,rfl⟩:=List.mem_map.1 hc;rfl
def lowR (lo:Int):Int:=if lo=0 then 1 else lo
def cntR (k lo hi:Int):Bool:=k==4&&(decide (hi > 1)||(decide (hi < 0)&&decide (lowR lo > 1)))
theorem rcounts_pu (n:Nd):Pu F 26 [.ag (cel n)] (.tp [.ag [.i .i64 (lowR n.lo),.i .i64 n.hi],.bo (cntR n.kind n.lo n.hi)]):=by
 refine U_pure e26 rfl rfl (by simp only[go_sem,Bool.and_true]) ?_;dsimp only[fn26,c26];unfold cntR lowR;by_cases h0:n.lo=0
 ·have d0:(n.lo==0)=true:=by simpa using h0
  rw[if_pos h0];cases c1:(n.kind==4)
  ·(repeat (with_reducible (first|refine U_nil ?_|refine UC_sq ?_|refine UC_rg ?_|refine UC_rt ?_|refine X_nx ?_|((first|refine U_q (v:=?_) ?h1 ?_|refine U_ld (v:=?_) ?h1 ?_|refine U_alc (n:=?_) ?h1 ?_|refine UC_cdt ?h1 ?_);case h1=>((try simp only[d0,c1,go_sem])<;>rfl))|(refine U_box (cs:=?_) (cs':=?_) (n:=?_) ?h1 ?h2 ?h3 ?h4 ?_;case h1|h2|h3|h4=>((try simp only[d0,c1,go_sem])<;>rfl))|(refine U_sto (id:=?_) (i:=?_) (j:=?_) (q:=?_) (es:=?_) (cs:=?_) (vs:=?_) (es':=?_) ?h1 ?h2 ?h3 ?h4 ?h5 ?h6 ?h7 ?_;case h1|h2|h3|h4|h5|h6|h7=>((try simp only[d0,c1,go_sem])<;>rfl))|(refine U_gs2 ?h1 ?_;case h1=>((try simp only[d0,c1,go_sem])<;>rfl))|(refine U_gj (vs:=?_) ?h1 ?_;case h1=>((try simp only[d0,c1,go_sem])<;>rfl))|(refine E_2 (v:=?_) (u:=?_) ?h1 ?h2 ?_;case h1|h2=>((try simp only[d0,c1,go_sem])<;>rfl)))));exact fz_of rfl rfl
  ·cases c2:decide (n.hi > 1)
   ·cases c3:decide (n.hi < 0)
    ·(repeat (with_reducible (first|refine U_nil ?_|refine UC_sq ?_|refine UC_rg ?_|refine UC_rt ?_|refine X_nx ?_|((first|refine U_q (v:=?_) ?h1 ?_|refine U_ld (v:=?_) ?h1 ?_|refine U_alc (n:=?_) ?h1 ?_|refine U_gt ?h1 ?_|refine UC_cdt ?h1 ?_);case h1=>((try simp only[d0,c1,c2,c3,go_sem])<;>rfl))|(refine U_box (cs:=?_) (cs':=?_) (n:=?_) ?h1 ?h2 ?h3 ?h4 ?_;case h1|h2|h3|h4=>((try simp only[d0,c1,c2,c3,go_sem])<;>rfl))|(refine U_sto (id:=?_) (i:=?_) (j:=?_) (q:=?_) (es:=?_) (cs:=?_) (vs:=?_) (es':=?_) ?h1 ?h2 ?h3 ?h4 ?h5 ?h6 ?h7 ?_;case h1|h2|h3|h4|h5|h6|h7=>((try simp only[d0,c1,c2,c3,go_sem])<;>rfl))|(refine U_gs2 ?h1 ?_;case h1=>((try simp only[d0,c1,c2,c3,go_sem])<;>rfl))|(refine E_2 (v:=?_) (u:=?_) ?h1 ?h2 ?_;case h1|h2=>((try simp only[d0,c1,c2,c3,go_sem])<;>rfl)))));exact fz_of rfl rfl
    ·(repeat (with_reducible (first|refine U_nil ?_|refine UC_sq ?_|refine UC_rg ?_|refine UC_rt ?_|refine X_nx ?_|((first|refine U_q (v:=?_) ?h1 ?_|refine U_ld (v:=?_) ?h1 ?_|refine U_alc (n:=?_) ?h1 ?_|refine U_gt ?h1 ?_|refine UC_cdt ?h1 ?_);case h1=>((try simp only[d0,c1,c2,c3,go_sem])<;>rfl))|(refine U_box (cs:=?_) (cs':=?_) (n:=?_) ?h1 ?h2 ?h3 ?h4 ?_;case h1|h2|h3|h4=>((try simp only[d0,c1,c2,c3,go_sem])<;>rfl))|(refine U_sto (id:=?_) (i:=?_) (j:=?_) (q:=?_) (es:=?_) (cs:=?_) (vs:=?_) (es':=?_) ?h1 ?h2 ?h3 ?h4 ?h5 ?h6 ?h7 ?_;case h1|h2|h3|h4|h5|h6|h7=>((try simp only[d0,c1,c2,c3,go_sem])<;>rfl))|(refine E_2 (v:=?_) (u:=?_) ?h1 ?h2 ?_;case h1|h2=>((try simp only[d0,c1,c2,c3,go_sem])<;>rfl)))));exact fz_of rfl rfl
   ·(repeat (with_reducible (first|refine U_nil ?_|refine UC_sq ?_|refine UC_rg ?_|refine UC_rt ?_|refine X_nx ?_|((first|refine U_q (v:=?_) ?h1 ?_|refine U_ld (v:=?_) ?h1 ?_|refine U_alc (n:=?_) ?h1 ?_|refine U_gt ?h1 ?_|refine UC_cdt ?h1 ?_);case h1=>((try simp only[d0,c1,c2,go_sem])<;>rfl))|(refine U_box (cs:=?_) (cs':=?_) (n:=?_) ?h1 ?h2 ?h3 ?h4 ?_;case h1|h2|h3|h4=>((try simp only[d0,c1,c2,go_sem])<;>rfl))|(refine U_sto (id:=?_) (i:=?_) (j:=?_) (q:=?_) (es:=?_) (cs:=?_) (vs:=?_) (es':=?_) ?h1 ?h2 ?h3 ?h4 ?h5 ?h6 ?h7 ?_;case h1|h2|h3|h4|h5|h6|h7=>((try simp only[d0,c1,c2,go_sem])<;>rfl))|(refine U_gs1 ?h1 ?_;case h1=>((try simp only[d0,c1,c2,go_sem])<;>rfl))|(refine U_gj (vs:=?_) ?h1 ?_;case h1=>((try simp only[d0,c1,c2,go_sem])<;>rfl))|(refine E_2 (v:=?_) (u:=?_) ?h1 ?h2 ?_;case h1|h2=>((try simp only[d0,c1,c2,go_sem])<;>rfl)))));exact fz_of rfl rfl
 ·have d0:(n.lo==0)=false:=by simpa using h0
  rw[if_neg h0];cases c1:(n.kind==4)
  ·(repeat (with_reducible (first|refine U_nil ?_|refine UC_sq ?_|refine UC_rg ?_|refine UC_sk ?_|refine UC_rt ?_|refine X_nx ?_|((first|refine U_q (v:=?_) ?h1 ?_|refine U_ld (v:=?_) ?h1 ?_|refine U_alc (n:=?_) ?h1 ?_);case h1=>((try simp only[d0,c1,go_sem])<;>rfl))|(refine U_box (cs:=?_) (cs':=?_) (n:=?_) ?h1 ?h2 ?h3 ?h4 ?_;case h1|h2|h3|h4=>((try simp only[d0,c1,go_sem])<;>rfl))|(refine U_sto (id:=?_) (i:=?_) (j:=?_) (q:=?_) (es:=?_) (cs:=?_) (vs:=?_) (es':=?_) ?h1 ?h2 ?h3 ?h4 ?h5 ?h6 ?h7 ?_;case h1|h2|h3|h4|h5|h6|h7=>((try simp only[d0,c1,go_sem])<;>rfl))|((first|refine U_gs2 ?h1 ?_|refine UC_cdf ?h1 ?_);case h1=>((try simp only[d0,c1,go_sem])<;>rfl))|(refine U_gj (vs:=?_) ?h1 ?_;case h1=>((try simp only[d0,c1,go_sem])<;>rfl))|(refine E_2 (v:=?_) (u:=?_) ?h1 ?h2 ?_;case h1|h2=>((try simp only[d0,c1,go_sem])<;>rfl)))));exact fz_of rfl rfl
  ·cases c2:decide (n.hi > 1)
   ·cases c3:decide (n.hi < 0)
    ·(repeat (with_reducible (first|refine U_nil ?_|refine UC_sq ?_|refine UC_rg ?_|refine UC_sk ?_|refine UC_rt ?_|refine X_nx ?_|((first|refine U_q (v:=?_) ?h1 ?_|refine U_ld (v:=?_) ?h1 ?_|refine U_alc (n:=?_) ?h1 ?_|refine U_gt ?h1 ?_);case h1=>((try simp only[d0,c1,c2,c3,go_sem])<;>rfl))|(refine U_box (cs:=?_) (cs':=?_) (n:=?_) ?h1 ?h2 ?h3 ?h4 ?_;case h1|h2|h3|h4=>((try simp only[d0,c1,c2,c3,go_sem])<;>rfl))|(refine U_sto (id:=?_) (i:=?_) (j:=?_) (q:=?_) (es:=?_) (cs:=?_) (vs:=?_) (es':=?_) ?h1 ?h2 ?h3 ?h4 ?h5 ?h6 ?h7 ?_;case h1|h2|h3|h4|h5|h6|h7=>((try simp only[d0,c1,c2,c3,go_sem])<;>rfl))|((first|refine U_gs2 ?h1 ?_|refine UC_cdf ?h1 ?_);case h1=>((try simp only[d0,c1,c2,c3,go_sem])<;>rfl))|(refine E_2 (v:=?_) (u:=?_) ?h1 ?h2 ?_;case h1|h2=>((try simp only[d0,c1,c2,c3,go_sem])<;>rfl)))));exact fz_of rfl rfl
    ·cases c4:decide (n.lo > 1)
     ·(repeat (with_reducible (first|refine U_nil ?_|refine UC_sq ?_|refine UC_rg ?_|refine UC_sk ?_|refine UC_rt ?_|refine X_nx ?_|((first|refine U_q (v:=?_) ?h1 ?_|refine U_ld (v:=?_) ?h1 ?_|refine U_alc (n:=?_) ?h1 ?_|refine U_gt ?h1 ?_);case h1=>((try simp only[d0,c1,c2,c3,c4,go_sem])<;>rfl))|(refine U_box (cs:=?_) (cs':=?_) (n:=?_) ?h1 ?h2 ?h3 ?h4 ?_;case h1|h2|h3|h4=>((try simp only[d0,c1,c2,c3,c4,go_sem])<;>rfl))|(refine U_sto (id:=?_) (i:=?_) (j:=?_) (q:=?_) (es:=?_) (cs:=?_) (vs:=?_) (es':=?_) ?h1 ?h2 ?h3 ?h4 ?h5 ?h6 ?h7 ?_;case h1|h2|h3|h4|h5|h6|h7=>((try simp only[d0,c1,c2,c3,c4,go_sem])<;>rfl))|(refine UC_cdf ?h1 ?_;case h1=>((try simp only[d0,c1,c2,c3,c4,go_sem])<;>rfl))|(refine E_2 (v:=?_) (u:=?_) ?h1 ?h2 ?_;case h1|h2=>((try simp only[d0,c1,c2,c3,c4,go_sem])<;>rfl)))));exact fz_of rfl rfl
     ·(repeat (with_reducible (first|refine U_nil ?_|refine UC_sq ?_|refine UC_rg ?_|refine UC_sk ?_|refine UC_rt ?_|refine X_nx ?_|((first|refine U_q (v:=?_) ?h1 ?_|refine U_ld (v:=?_) ?h1 ?_|refine U_alc (n:=?_) ?h1 ?_|refine U_gt ?h1 ?_);case h1=>((try simp only[d0,c1,c2,c3,c4,go_sem])<;>rfl))|(refine U_box (cs:=?_) (cs':=?_) (n:=?_) ?h1 ?h2 ?h3 ?h4 ?_;case h1|h2|h3|h4=>((try simp only[d0,c1,c2,c3,c4,go_sem])<;>rfl))|(refine U_sto (id:=?_) (i:=?_) (j:=?_) (q:=?_) (es:=?_) (cs:=?_) (vs:=?_) (es':=?_) ?h1 ?h2 ?h3 ?h4 ?h5 ?h6 ?h7 ?_;case h1|h2|h3|h4|h5|h6|h7=>((try simp only[d0,c1,c2,c3,c4,go_sem])<;>rfl))|(refine UC_cdf ?h1 ?_;case h1=>((try simp only[d0,c1,c2,c3,c4,go_sem])<;>rfl))|(refine E_2 (v:=?_) (u:=?_) ?h1 ?h2 ?_;case h1|h2=>((try simp only[d0,c1,c2,c3,c4,go_sem])<;>rfl)))));exact fz_of rfl rfl
   ·(repeat (with_reducible (first|refine U_nil ?_|refine UC_sq ?_|refine UC_rg ?_|refine UC_sk ?_|refine UC_rt ?_|refine X_nx ?_|((first|refine U_q (v:=?_) ?h1 ?_|refine U_ld (v:=?_) ?h1 ?_|refine U_alc (n:=?_) ?h1 ?_|refine U_gt ?h1 ?_);case h1=>((try simp only[d0,c1,c2,go_sem])<;>rfl))|(refine U_box (cs:=?_) (cs':=?_) (n:=?_) ?h1 ?h2 ?h3 ?h4 ?_;case h1|h2|h3|h4=>((try simp only[d0,c1,c2,go_sem])<;>rfl))|(refine U_sto (id:=?_) (i:=?_) (j:=?_) (q:=?_) (es:=?_) (cs:=?_) (vs:=?_) (es':=?_) ?h1 ?h2 ?h3 ?h4 ?h5 ?h6 ?h7 ?_;case h1|h2|h3|h4|h5|h6|h7=>((try simp only[d0,c1,c2,go_sem])<;>rfl))|((first|refine U_gs1 ?h1 ?_|refine UC_cdf ?h1 ?_);case h1=>((try simp only[d0,c1,c2,go_sem])<;>rfl))|(refine U_gj (vs:=?_) ?h1 ?_;case h1=>((try simp only[d0,c1,c2,go_sem])<;>rfl))|(refine E_2 (v:=?_) (u:=?_) ?h1 ?h2 ?_;case h1|h2=>((try simp only[d0,c1,c2,go_sem])<;>rfl)))));exact fz_of rfl rfl
mutual
def pathsN:Nd→List Nat→Nat→List (List Nat)
 | .mk _ _ ps _ _,up,f=>up::pathsL ps (up++[f]) (f+1)
def pathsL:List Nd→List Nat→Nat→List (List Nat)
 | [],_,_=>[]
 | p::ps,up,f=>pathsN p up f++pathsL ps up (f+cntN p)
end
mutual
def preN:Nd→List Nd
 | .mk k s ps lo hi=>.mk k s ps lo hi::preL ps
def preL:List Nd→List Nd
 | []=>[]
 | p::ps=>preN p++preL ps
end
mutual
theorem preN_len:∀ n:Nd,(preN n).length=cntN n
 | .mk k s ps lo hi=>by rw[preN,cntN,List.length_cons,preL_len ps];omega
theorem preL_len:∀ l:List Nd,(preL l).length=cntL l
 | []=>by rw[preL,cntL];rfl
 | p::ps=>by rw[preL,cntL,List.length_append,preN_len p,preL_len ps]
end
mutual
theorem paN_len:∀ (n:Nd) (up:List Nat) (f:Nat),(pathsN n up f).length=cntN n
 | .mk k s ps lo hi,up,f=>by rw[pathsN,cntN,List.length_cons,paL_len ps];omega
theorem paL_len:∀ (l:List Nd) (up:List Nat) (f:Nat),(pathsL l up f).length=cntL l
 | [],_,_=>by rw[pathsL,cntL];rfl
 | p::ps,up,f=>by rw[pathsL,cntL,List.length_append,paN_len p,paL_len ps]
end
theorem preL_app:∀ (a b:List Nd),preL (a++b)=preL a++preL b
 | [],b=>by simp [preL]
 | p::a,b=>by rw[List.cons_append,preL,preL,preL_app a b,List.append_assoc]
theorem paL_app:∀ (a b:List Nd) (up:List Nat) (f:Nat),pathsL (a++b) up f=pathsL a up f++pathsL b up (f+cntL a)
 | [],b,up,f=>by simp [pathsL,cntL]
 | p::a,b,up,f=>by rw[List.cons_append,pathsL,pathsL,paL_app a b,List.append_assoc,cntL,Nat.add_assoc]
theorem preL_one (p:Nd):preL [p]=preN p:=by rw[preL,preL,List.append_nil]
theorem paL_one (p:Nd) (up:List Nat) (f:Nat):pathsL [p] up f=pathsN p up f:=by rw[pathsL,pathsL,List.append_nil]
theorem preN_ne (p:Nd):preN p≠[]:=by cases p;rw[preN];simp
theorem paN_ne (p:Nd) (up:List Nat) (f:Nat):pathsN p up f≠[]:=by cases p;rw[pathsN];simp
theorem cls_len (l:List (List Nat)):∀ c∈l.map lsC,c.length=1:=fun c hc=>by obtain⟨x,_,rfl⟩:=List.mem_map.1 hc;rfl
theorem cnt_pos (p:Nd):1≤cntN p:=by cases p;rw[cntN];omega
theorem cls8_len (l:List Nd):∀ c∈l.map cel,c.length=8:=fun c hc=>by obtain⟨x,_,rfl⟩:=List.mem_map.1 hc;exact cel_len x
theorem fza_ls (l:List (List Nat)) {o:O}:∀ c∈l.map lsC,∀ v∈c,∀ n,frzU (n+1) o v=some v:=fun c hc v hv n=>by
 obtain⟨x,_,rfl⟩:=List.mem_map.1 hc;simp only[lsC,List.mem_singleton] at hv;rw[hv];rfl
theorem fz_tp2 {o:O} {x y x' y':V} (h1:frzU 23 o x=some x') (h2:frzU 23 o y=some y'):fzU o (.tp [x,y])=some (.tp [x',y']):=by
 show frzU 24 o _=_;simp [frzU,h1,h2]
set_option maxHeartbeats 2000000 in
theorem nodes_pu:∀ (n:Nd) (up:List Nat) (f:Nat),up.length≤f→f+cntN n≤2000→Pu F 25 [.ag (cel n),.sl (up.map inC),.i .i64 f] (.tp [.sl ((preN n).map cel),.sl ((pathsN n up f).map lsC)])
 | .mk k s ps lo hi,up,f,hu,hf=>by
  have ih:∀ p∈ps,∀ (up:List Nat) (f:Nat),up.length≤f→f+cntN p≤2000→Pu F 25 [.ag (cel p),.sl (up.map inC),.i .i64 f] (.tp [.sl ((preN p).map cel),.sl ((pathsN p up f).map lsC)]):=fun p hp=>nodes_pu p;rw[preN,pathsN];have hcl:f+1+cntL ps≤2000:=by rw[cntN] at hf;omega
  have hpl:ps.length≤1999:=by have:=len_cnt ps;omega
  obtain⟨a,hae⟩:∃ a:Nd,a=.mk k s ps lo hi:=⟨_,rfl⟩;have h5:a.parts=ps:=by rw[hae];rfl
  rw[← hae];clear hae hf;refine U_pure e25 rfl rfl (by simp only[go_sem,cldLL_in,Bool.and_true]) ?_;dsimp only[fn25,c25];(repeat (with_reducible (first|refine U_nil ?_|refine UC_sq ?_|refine UC_rg ?_|refine UC_bk ?_|refine X_nx ?_|((first|refine U_q (v:=?_) ?h1 ?_|refine U_ld (v:=?_) ?h1 ?_);case h1=>((try simp only[go_sem])<;>rfl))|(refine U_box (cs:=?_) (cs':=?_) (n:=?_) ?h1 ?h2 ?h3 ?h4 ?_;case h1|h2|h3|h4=>((try simp only[go_sem])<;>rfl))|(refine U_bsl (es:=?_) (es':=?_) ?h1 ?h2 ?h3 ?_;case h1|h2|h3=>((try simp only[go_sem])<;>rfl)))));refine UC_cutx (fun e o=>e 8=ownV 15 8 ((a::preL ps).map cel)∧Own o 15 8 ((a::preL ps).map cel)∧e 9=ownV 17 1 ((up::pathsL ps (up++[f]) (f+1)).map lsC)∧Own o 17 1 ((up::pathsL ps (up++[f]) (f+1)).map lsC)) ?_ ?_
  ·refine U_lp (fun r e o=>∃ i:Nat,i+r=ps.length∧e 1=.sl (up.map inC)∧e 2=.i .i64 f∧e 3=.pt 3 0 0∧e 10=.i .i64 i∧e 8=ownV 15 8 ((a::preL (ps.take i)).map cel)∧Own o 15 8 ((a::preL (ps.take i)).map cel)∧e 9=ownV 17 1 ((up::pathsL (ps.take i) (up++[f]) (f+1)).map lsC)∧Own o 17 1 ((up::pathsL (ps.take i) (up++[f]) (f+1)).map lsC)∧o 3=some (.row 8 [cel a])) (k:=ps.length) ?_ (Call_le F) ?_
   ·refine⟨0,by omega,Z0,Z0,Z0,Zr0,Zr0,?_,Zr0,?_,Z0⟩
    ·exact Own.up rfl (Own.sw rfl (Own.to (cels_cls [a])))
    ·exact Own.to (ls_cls [up])
   rintro r e o ⟨i,hir,r1,r2,r3,r10,r8,ho8,r9,ho9,o3⟩;dsimp only[b25_0];(repeat (with_reducible (first|refine U_nil ?_|refine UC_sq ?_|refine UC_rg ?_|refine X_nx ?_|((first|refine U_q (v:=?_) ?h1 ?_|refine U_ld (v:=?_) ?h1 ?_);case h1=>((try simp only[h5,r3,r10,o3,List.length_map,go_sem])<;>rfl)))));refine UC_cdb (q:=decide ((i:Int) < (ps.length:Int))) (Z0) (fun hc1=>?_) (fun hc1=>?_)
   ·have hi:i < ps.length:=by simpa using hc1
    have hip:(0:Int)≤(i:Int):=by omega
    have hx:=cels_at hi;have hw:=wrapN1 (i:=i) (by omega);have hti:ps.take (i+1)=ps.take i++[ps[i]]:=by rw[List.take_add_one,List.getElem?_eq_getElem hi];rfl
    have hcl2:cntL (ps.take (i+1))≤cntL ps:=by
     have:=cntL_app (ps.take (i+1)) (ps.drop (i+1))
     rw[List.take_append_drop] at this;omega
    rw[hti,cntL_app,cntL,cntL] at hcl2;have hih:=ih _ (List.getElem_mem hi) (up++[f]) (f+1+cntL (ps.take i)) (by simp;omega) (by omega);have hpr:preL (ps.take (i+1))=preL (ps.take i)++preN ps[i]:=by rw[hti,preL_app,preL_one]
    have hpa:pathsL (ps.take (i+1)) (up++[f]) (f+1)=pathsL (ps.take i) (up++[f]) (f+1)++pathsN ps[i] (up++[f]) (f+1+cntL (ps.take i)):=by rw[hti,paL_app,paL_one]
    have hl1:=preL_len (ps.take i);have hl2:=paL_len (ps.take i) (up++[f]) (f+1);have hl3:=preN_len ps[i];have hl4:=paN_len ps[i] (up++[f]) (f+1+cntL (ps.take i));have hl5:=cnt_pos ps[i];have hn1:=preN_ne ps[i];have hn2:=paN_ne ps[i] (up++[f]) (f+1+cntL (ps.take i));have s1:=slenV_own 15 8 ((a::preL (ps.take i)).map cel);rw[List.length_map,List.length_cons,hl1] at s1;simp only[slenV,List.map_cons] at s1;generalize ps[i]=p at hx hcl2 hih hpr hpa hl3 hl4 hl5 hn1 hn2;generalize preL (ps.take i)=PL at r8 ho8 hpr hl1 s1;generalize pathsL (ps.take i) (up++[f]) (f+1)=QL at r9 ho9 hpa hl2;generalize cntL (ps.take i)=ct at hcl2 hih hpa hl1 hl2 hl4 hn2 s1;generalize preN p=PN at hpr hl3 hn1 hih;generalize pathsN p (up++[f]) (f+1+ct)=QN at hpa hl4 hn2 hih;repeat (with_reducible (first|refine UC_sk ?_|refine UC_sq ?_|refine UC_bk ?_|refine X_nx ?_))
    refine UC_cut (fun e o=>e 1=.sl (up.map inC)∧e 2=.i .i64 f∧e 3=.pt 3 0 0∧e 10=.i .i64 i∧e 8=ownV 15 8 ((a::PL).map cel)∧Own o 15 8 ((a::PL).map cel)∧e 9=ownV 17 1 ((up::QL).map lsC)∧Own o 17 1 ((up::QL).map lsC)∧o 3=some (.row 8 [cel a])∧e 11=ownV 27 1 ((up++[f]).map inC)∧Own o 27 1 ((up++[f]).map inC)) ?_ ?_
    ·(repeat (with_reducible (first|refine UC_rg ?_|(refine U_q (v:=?_) ?h1 ?_;case h1=>((try simp only[r1,go_sem])<;>rfl))|refine U_bsl0 ?_)));by_cases hup:up=[]
     ·subst hup;refine U_app00 (Z0) (by (simp only[src,r1,go_sem]<;>rfl)) (by decide) ?_;(repeat (with_reducible (first|(refine U_q (v:=?_) ?h1 ?_;case h1=>((try simp only[r1,r2,go_sem])<;>rfl))|(refine U_bsl (es:=?_) (es':=?_) ?h1 ?h2 ?h3 ?_;case h1|h2|h3=>((try simp only[r1,r2,go_sem])<;>rfl)))));refine U_appo 27 (L:=[]) (ys:=[inC f]) (Zr0) (fun h=>absurd rfl h) (by (simp only[src,go_sem]<;>rfl)) (by simp [inC]) (by simp) (by omega) ⟨by simp,by omega⟩ rfl rfl ?_;(repeat (with_reducible (first|refine U_nil ?_|(refine U_q (v:=?_) ?h1 ?_;case h1=>((try simp only[go_sem])<;>rfl)))))
      exact⟨rfl,Zr1 r1,Z1 r2,Z1 r3,Z1 r10,Z1 r8,by (repeat first|with_reducible assumption|refine .up rfl ?_|refine .sw rfl ?_|refine .swN rfl ?_),Z1 r9,by (repeat first|with_reducible assumption|refine .up rfl ?_|refine .sw rfl ?_|refine .swN rfl ?_),Z1 o3,Zr0,Own.to rfl⟩
     ·refine U_appo 27 (L:=[]) (ys:=up.map inC) (Zr0) (fun h=>absurd rfl h) (by simp only[src,r1,go_sem]) (by intro c hc;obtain⟨x,_,rfl⟩:=List.mem_map.1 hc;rfl) (by simpa using hup) (by omega) ⟨by simp;omega,by omega⟩ rfl (swpR_cls _ (in_cls up)) ?_;simp only[List.nil_append];(repeat (with_reducible (first|(refine U_q (v:=?_) ?h1 ?_;case h1=>((try simp only[r1,r2,go_sem])<;>rfl))|(refine U_bsl (es:=?_) (es':=?_) ?h1 ?h2 ?h3 ?_;case h1|h2|h3=>((try simp only[r1,r2,go_sem])<;>rfl)))));refine U_appo 27 (L:=up.map inC) (ys:=[inC f]) (Z0) ?_ (by (simp only[src,go_sem]<;>rfl)) (by simp [inC]) (by simp) (by omega) ⟨by simp;omega,by omega⟩ (swpR_cls _ (in_cls up)) rfl ?_
      ·exact Own.h (Own.up rfl (Own.sw rfl (Own.to (in_cls up))))
      (repeat (with_reducible (first|refine U_nil ?_|(refine U_q (v:=?_) ?h1 ?_;case h1=>((try simp only[go_sem])<;>rfl)))));have hm1:(up++[f]).map inC=up.map inC++[inC f]:=by simp
      rw[hm1]
      exact⟨by trivial,Z1 r1,Z1 r2,Z1 r3,Z1 r10,Z1 r8,by (repeat first|with_reducible assumption|refine .up rfl ?_|refine .sw rfl ?_|refine .swN rfl ?_),Z1 r9,by (repeat first|with_reducible assumption|refine .up rfl ?_|refine .sw rfl ?_|refine .swN rfl ?_),Z1 o3,Z0,Own.to (by rw[← hm1];exact in_cls _)⟩
    clear r1 r2 r3 r10 r8 ho8 r9 ho9 o3;rintro e o ⟨r1,r2,r3,r10,r8,ho8,r9,ho9,o3,r11,ho11⟩;repeat (with_reducible (first|refine UC_sk ?_|refine UC_sq ?_|refine UC_bk ?_|refine X_nx ?_))
    have hpn:(up++[f]).map inC≠[]:=by simp
    have hst:=still_own 27 1 hpn;refine UC_still 27 (sz:=1) (es:=(up++[f]).map inC) (ho11.h hpn) (in_ok _) ?_;have q8:Own (stillOU 27 ((up++[f]).map inC) o) 15 8 ((a::PL).map cel):=ho8.st rfl;have q9:Own (stillOU 27 ((up++[f]).map inC) o) 17 1 ((up::QL).map lsC):=ho9.st rfl;have p8:still 27 ((up++[f]).map inC) (ownV 15 8 ((a::PL).map cel))=ownV 15 8 ((a::PL).map cel):=still_ownNe _ _ _ _ _ rfl;have p9:still 27 ((up++[f]).map inC) (ownV 17 1 ((up::QL).map lsC))=ownV 17 1 ((up::QL).map lsC):=still_ownNe _ _ _ _ _ rfl;generalize hQ:stillOU 27 ((up++[f]).map inC) o=O at q8 q9;have o3':O 3=some (.row 8 [cel a]):=by rw[← hQ];simp only[o3,stillL_cel,go_sem]
    generalize hE:stillE 27 ((up++[f]).map inC) e=E1;have k1:E1 1=.sl (up.map inC):=by rw[← hE];simp only[r1,go_sem]
    have k2:E1 2=.i .i64 f:=by rw[← hE];simp only[r2,go_sem]
    have k3:E1 3=.pt 3 0 0:=by rw[← hE];simp only[r3,go_sem]
    have k10:E1 10=.i .i64 i:=by rw[← hE];simp only[r10,go_sem]
    have k8:E1 8=ownV 15 8 ((a::PL).map cel):=by rw[← hE,stillE_at,r8];exact p8
    have k9:E1 9=ownV 17 1 ((up::QL).map lsC):=by rw[← hE,stillE_at,r9];exact p9
    have k11:E1 11=.sl ((up++[f]).map inC):=by rw[← hE];simp only[r11,hst,go_sem]
    clear hE hQ r1 r2 r3 r10 r8 ho8 r9 ho9 o3 r11 ho11 hst p8 p9;have hwf:IntKind.i64.wrap ((f:Int)+((ct+1:Nat):Int))=((f+1+ct:Nat):Int):=by rw[wrap_i64 (by omega) (by omega)];omega
    (repeat (with_reducible (first|refine UC_rg ?_|((first|refine U_q (v:=?_) ?h1 ?_|refine U_ld (v:=?_) ?h1 ?_);case h1=>((try simp only[h5,k1,k2,k3,k8,k10,k11,o3',s1,hip,hx,hwf,Int.toNat_natCast,go_sem])<;>rfl)))));refine U_pc (vs:=[.ag (cel p),.sl ((up++[f]).map inC),.i .i64 (f+1+ct:Nat)]) (ws:=[.ag (cel p),.sl ((up++[f]).map inC),.i .i64 (f+1+ct:Nat)]) (Z0) (fzsU_ok ?_) (Bool.or_eq_true_iff.2 (.inl ?_)) ?_ hih ?_
    ·simp only[List.all_cons,List.all_nil,Bool.and_true,okf_cel];rfl
    ·simp only[clos,List.all_cons,List.all_nil,Bool.and_true,go_sem]
    ·simp only[cldL,cld,cldLL_map cld_cel,ls_cld,Bool.and_true]
    (repeat (with_reducible (first|refine U_nil ?_|refine UC_sq ?_|refine UC_rg ?_|refine X_nx ?_|(refine U_q (v:=?_) ?h1 ?_;case h1=>((try simp only[k8,go_sem])<;>rfl)))));refine U_appo 15 (L:=(a::PL).map cel) (ys:=PN.map cel) (Zr1 k8) q8.h (by simp only[src,go_sem]) (cls8_len PN) (by simpa using hn1) (by omega) ⟨by simp;omega,by omega⟩ (swpR_cls _ q8.c) (swpR_cls _ (cels_cls PN)) ?_;(repeat (with_reducible (first|refine U_nil ?_|refine UC_rg ?_|refine X_nx ?_|(refine U_q (v:=?_) ?h1 ?_;case h1=>((try simp only[k9,go_sem])<;>rfl)))));refine U_appo 17 (L:=(up::QL).map lsC) (ys:=QN.map lsC) (Zr1 k9) ?_ (by simp only[src,go_sem]) (cls_len QN) (by simpa using hn2) (by omega) ⟨by simp;omega,by omega⟩ (swpR_cls _ q9.c) (swpR_cls _ (ls_cls QN)) ?_
    ·exact Own.h (by (repeat first|with_reducible assumption|refine .up rfl ?_|refine .sw rfl ?_|refine .swN rfl ?_))
    (repeat (with_reducible (first|refine U_nil ?_|refine UC_rg ?_|refine X_nx ?_|refine B_nx ?_|(refine U_q (v:=?_) ?h1 ?_;case h1=>((try simp only[k10,hw,go_sem])<;>rfl)))));have hm1:(a::(PL++PN)).map cel=(a::PL).map cel++PN.map cel:=by simp
    have hm2:(up::(QL++QN)).map lsC=(up::QL).map lsC++QN.map lsC:=by simp
    refine⟨r - 1,by omega,i+1,by omega,Z1 k1,Z1 k2,Z1 k3,Z0,?_,?_,?_,?_,Z1 o3'⟩
    ·rw[hpr,hm1];simp only[go_sem]
    ·rw[hpr,hm1];exact Own.up rfl (Own.sw rfl (Own.to (by rw[← hm1];exact cels_cls _)))
    ·rw[hpa,hm2];simp only[go_sem]
    ·rw[hpa,hm2];exact Own.to (by rw[← hm2];exact ls_cls _)
   ·have hi:i=ps.length:=by
     have:¬ i < ps.length:=by simpa using hc1
     omega
    rw[hi,List.take_length] at r8 ho8 r9 ho9;(repeat (with_reducible (first|refine UC_ex ?_|refine X_ex ?_)))
    exact⟨rfl,Z1 r8,ho8,Z1 r9,ho9⟩
  rintro e o ⟨r8,ho8,r9,ho9⟩;(repeat (with_reducible (first|refine U_nil ?_|refine UC_sq ?_|refine UC_rg ?_|refine UC_rt ?_|refine X_nx ?_|(refine U_q (v:=?_) ?h1 ?_;case h1=>((try simp only[r8,r9,go_sem])<;>rfl))|(refine E_2 (v:=?_) (u:=?_) ?h1 ?h2 ?_;case h1|h2=>((try simp only[r8,r9,go_sem])<;>rfl)))));exact fz_tp2 (frz_own ho8 (fza_cel (a::preL ps)) 21) (frz_own ho9 (fza_ls _) 21)
end Go.Proofs.Ytgiedknghbpdfaa
