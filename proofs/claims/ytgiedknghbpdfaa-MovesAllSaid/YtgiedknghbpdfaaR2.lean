import Derived.Test.YtgiedknghbpdfaaR1

namespace Go.Proofs.Ytgiedknghbpdfaa
set_option linter.all false
attribute [-go_sem] swpOb renOb rfOb V.cells
theorem cel_0 (n:Nd):(cel n)[0]?=some (.i .i64 n.kind):=by cases n;rfl
theorem cel_5 (n:Nd):(cel n)[5]?=some (.sl (n.parts.map cel)):=by cases n;rw[cel_mk];rfl
theorem cel_6 (n:Nd):(cel n)[6]?=some (.i .i64 n.lo):=by cases n;rfl
theorem cel_7 (n:Nd):(cel n)[7]?=some (.i .i64 n.hi):=by cases n;rfl
theorem cel_s (n:Nd):List.take 4 (List.drop 1 (cel n))=u4 n.set:=by cases n;rfl
theorem cel_sw (n:Nd) (d:Nat):swpL d (cel n)=cel n:=swpL_cls d (by cases n;rfl)
theorem cels_cls (l:List Nd):(l.map cel).all cls1L=true:=List.all_eq_true.2 fun c hc=>by obtain⟨x,_,rfl⟩:=List.mem_map.1 hc;cases x;rfl
theorem ag_cells' (l:List V):V.cells (.ag l)=l:=rfl
theorem i_cells' (k:IntKind) (n:Int):V.cells (.i k n)=[.i k n]:=rfl
theorem spl_cel (n:Nd) (a b c d e f g h:V):splice 0 (cel n) [a,b,c,d,e,f,g,h]=cel n:=by cases n;rfl
theorem fza_cel (l:List Nd) {o:O}:∀ c∈l.map cel,∀ v∈c,∀ n,frzU (n+1) o v=some v:=fun c hc v hv n=>by
 obtain⟨x,_,rfl⟩:=List.mem_map.1 hc;exact frzU_okf _ _ (celOkf x n v hv)
theorem bne_f' (b:Bool):(b != false)=b:=by cases b<;>rfl
theorem bne_t' (b:Bool):(b != true)=!b:=by cases b<;>rfl
theorem celsC (l:List Nd):cldLL (l.map cel)=true:=cldLL_map cld_cel l
attribute [go_sem] celsC bne_f' bne_t' ag_cells' i_cells' cel_0 cel_5 cel_6 cel_7 cel_s cel_sw okf_cel clo_celN cld_cel spl_cel
def u4eq (a b:Nat→Nat):Bool:=a 0==b 0&&(a 1==b 1&&(a 2==b 2&&a 3==b 3))
theorem u4_eqps (a b:Nat→Nat):eqps [.i .u64,.i .u64,.i .u64,.i .u64] (u4 a) (u4 b)=some (u4eq a b):=by
 simp only[u4,eqps,lfEq,and_self,if_true,Bool.and_true,u4eq];congr 1;rw[Bool.eq_iff_iff];simp
 constructor
 ·rintro⟨h1,h2,h3,h4⟩;exact⟨by omega,by omega,by omega,by omega⟩
 ·rintro⟨h1,h2,h3,h4⟩;exact⟨by omega,by omega,by omega,by omega⟩
theorem u4_eqV (a b:Nat→Nat):eqV true [.i .u64,.i .u64,.i .u64,.i .u64] (.ag (u4 a)) (.ag (u4 b))=some (u4eq a b):=u4_eqps a b
attribute [go_sem] u4_eqps u4_eqV
theorem same_eq (a b:Nd):sameN a b=((a.kind==b.kind)&&u4eq a.set b.set&&(a.lo==b.lo)&&(a.hi==b.hi)&&(a.parts.length==b.parts.length&&zipAll sameN a.parts b.parts)):=by
 cases a;cases b;rw[sameN,sameL_zip];rfl
set_option maxHeartbeats 2000000 in
theorem rsame_pu:∀ (a b:Nd),small a→small b→Pu F 42 [.ag (cel a),.ag (cel b)] (.bo (sameN a b))
 | .mk k s ps lo hi,b,ha,hb=>by
  have ih:∀ p∈ps,∀ q,small q→Pu F 42 [.ag (cel p),.ag (cel q)] (.bo (sameN p q)):=fun p hp q hq=>rsame_pu p q ((smallL_all ps).1 ha.2.2 p hp) hq;have hpl:=ha.2.1;have hbp:(∀ q∈b.parts,small q)∧b.parts.length < 9223372036854775808:=by
   cases b;exact⟨fun q hq=>(smallL_all _).1 hb.2.2 q hq,hb.2.1⟩
  obtain⟨hbq,hbl⟩:=hbp;rw[same_eq];obtain⟨a,hae⟩:∃ a:Nd,a=.mk k s ps lo hi:=⟨_,rfl⟩;have hps:a.parts=ps:=by rw[hae];rfl
  rw[← hae];rw[← hps] at ih hpl;clear hae hps ha hb;refine U_pure e42 rfl rfl (by simp only[go_sem,Bool.and_true]) ?_;dsimp only[fn42,c42];by_cases h1:a.kind=b.kind
  case neg =>
   have c1:(a.kind != b.kind)=true:=by simpa using h1
   have d1:(a.kind==b.kind)=false:=by simpa using h1
   (repeat (with_reducible (first|refine U_nil ?_|refine UC_sq ?_|refine UC_rg ?_|refine UC_rt ?_|refine X_nx ?_|refine X_rt ?_|((first|refine U_q (v:=?_) ?h1 ?_|refine U_ld (v:=?_) ?h1 ?_|refine E_1 (v:=?_) ?h1 ?_|refine UC_cdt ?h1 ?_);case h1=>((try simp only[c1,go_sem])<;>rfl))|(refine U_box (cs:=?_) (cs':=?_) (n:=?_) ?h1 ?h2 ?h3 ?h4 ?_;case h1|h2|h3|h4=>((try simp only[c1,go_sem])<;>rfl))|(refine U_gs1 ?h1 ?_;case h1=>((try simp only[c1,go_sem])<;>rfl)))));rw[d1];exact fz_of (by simp) rfl
  have c1:(a.kind != b.kind)=false:=by simpa using h1
  have d1:(a.kind==b.kind)=true:=by simpa using h1
  cases h2:u4eq a.set b.set
  case false =>
   (repeat (with_reducible (first|refine U_nil ?_|refine UC_sq ?_|refine UC_rg ?_|refine UC_rt ?_|refine X_nx ?_|refine X_rt ?_|((first|refine U_q (v:=?_) ?h1 ?_|refine U_ld (v:=?_) ?h1 ?_|refine E_1 (v:=?_) ?h1 ?_|refine U_gt ?h1 ?_|refine UC_cdt ?h1 ?_);case h1=>((try simp only[c1,h2,go_sem])<;>rfl))|(refine U_box (cs:=?_) (cs':=?_) (n:=?_) ?h1 ?h2 ?h3 ?h4 ?_;case h1|h2|h3|h4=>((try simp only[c1,h2,go_sem])<;>rfl))|(refine U_gs1 ?h1 ?_;case h1=>((try simp only[c1,h2,go_sem])<;>rfl)))));exact fz_of (by simp) rfl
  by_cases h3:a.lo=b.lo
  case neg =>
   have c3:(a.lo != b.lo)=true:=by simpa using h3
   have d3:(a.lo==b.lo)=false:=by simpa using h3
   (repeat (with_reducible (first|refine U_nil ?_|refine UC_sq ?_|refine UC_rg ?_|refine UC_rt ?_|refine X_nx ?_|refine X_rt ?_|((first|refine U_q (v:=?_) ?h1 ?_|refine U_ld (v:=?_) ?h1 ?_|refine E_1 (v:=?_) ?h1 ?_|refine U_gt ?h1 ?_|refine UC_cdt ?h1 ?_);case h1=>((try simp only[c1,h2,c3,go_sem])<;>rfl))|(refine U_box (cs:=?_) (cs':=?_) (n:=?_) ?h1 ?h2 ?h3 ?h4 ?_;case h1|h2|h3|h4=>((try simp only[c1,h2,c3,go_sem])<;>rfl))|(refine U_gs1 ?h1 ?_;case h1=>((try simp only[c1,h2,c3,go_sem])<;>rfl)))));rw[d3];exact fz_of (by simp) rfl
  have c3:(a.lo != b.lo)=false:=by simpa using h3
  have d3:(a.lo==b.lo)=true:=by simpa using h3
  by_cases h4:a.hi=b.hi
  case neg =>
   have c4:(a.hi != b.hi)=true:=by simpa using h4
   have d4:(a.hi==b.hi)=false:=by simpa using h4
   (repeat (with_reducible (first|refine U_nil ?_|refine UC_sq ?_|refine UC_rg ?_|refine UC_rt ?_|refine X_nx ?_|refine X_rt ?_|((first|refine U_q (v:=?_) ?h1 ?_|refine U_ld (v:=?_) ?h1 ?_|refine E_1 (v:=?_) ?h1 ?_|refine U_gt ?h1 ?_|refine UC_cdt ?h1 ?_);case h1=>((try simp only[c1,h2,c3,c4,go_sem])<;>rfl))|(refine U_box (cs:=?_) (cs':=?_) (n:=?_) ?h1 ?h2 ?h3 ?h4 ?_;case h1|h2|h3|h4=>((try simp only[c1,h2,c3,c4,go_sem])<;>rfl))|(refine U_gs1 ?h1 ?_;case h1=>((try simp only[c1,h2,c3,c4,go_sem])<;>rfl)))));rw[d4];exact fz_of (by simp) rfl
  have c4:(a.hi != b.hi)=false:=by simpa using h4
  have d4:(a.hi==b.hi)=true:=by simpa using h4
  by_cases h5:a.parts.length=b.parts.length
  case neg =>
   have c5:((a.parts.length:Int) != (b.parts.length:Int))=true:=by simp;omega
   have d5:(a.parts.length==b.parts.length)=false:=by simpa using h5
   (repeat (with_reducible (first|refine U_nil ?_|refine UC_sq ?_|refine UC_rg ?_|refine UC_rt ?_|refine X_nx ?_|refine X_rt ?_|((first|refine U_q (v:=?_) ?h1 ?_|refine U_ld (v:=?_) ?h1 ?_|refine E_1 (v:=?_) ?h1 ?_|refine U_gt ?h1 ?_|refine UC_cdt ?h1 ?_);case h1=>((try simp only[c1,h2,c3,c4,c5,List.length_map,go_sem])<;>rfl))|(refine U_box (cs:=?_) (cs':=?_) (n:=?_) ?h1 ?h2 ?h3 ?h4 ?_;case h1|h2|h3|h4=>((try simp only[c1,h2,c3,c4,c5,List.length_map,go_sem])<;>rfl)))));rw[d5];exact fz_of (by simp) rfl
  have c5:((a.parts.length:Int) != (b.parts.length:Int))=false:=by simp;omega
  have d5:(a.parts.length==b.parts.length)=true:=by simpa using h5
  rw[d1,d3,d4,d5];simp only[Bool.true_and];(repeat (with_reducible (first|refine U_nil ?_|refine UC_sq ?_|refine UC_rg ?_|refine UC_bk ?_|refine UC_sk ?_|refine X_nx ?_|((first|refine U_q (v:=?_) ?h1 ?_|refine U_ld (v:=?_) ?h1 ?_|refine U_gt ?h1 ?_);case h1=>((try simp only[c1,h2,c3,c4,c5,List.length_map,go_sem])<;>rfl))|(refine U_box (cs:=?_) (cs':=?_) (n:=?_) ?h1 ?h2 ?h3 ?h4 ?_;case h1|h2|h3|h4=>((try simp only[c1,h2,c3,c4,c5,List.length_map,go_sem])<;>rfl))|(refine UC_cdf ?h1 ?_;case h1=>((try simp only[c1,h2,c3,c4,c5,List.length_map,go_sem])<;>rfl)))));refine U_lp (fun r e o=>∃ i:Nat,i+r=a.parts.length∧e 2=.pt 2 0 0∧e 3=.pt 3 0 0∧e 5=.i .i64 i∧o 2=some (.row 8 [cel a])∧o 3=some (.row 8 [cel b])∧zipAll sameN a.parts b.parts=zipAll sameN (a.parts.drop i) (b.parts.drop i)) (k:=a.parts.length) ?_ (Call_le F) ?_
  ·exact⟨0,by omega,Z0,Z0,Zr0,Z0,Z0,rfl⟩
  rintro r e o ⟨i,hir,r2,r3,r5,o2,o3,hz⟩;dsimp only[b42_0];(repeat (with_reducible (first|refine U_nil ?_|refine UC_sq ?_|refine UC_rg ?_|refine X_nx ?_|((first|refine U_q (v:=?_) ?h1 ?_|refine U_ld (v:=?_) ?h1 ?_);case h1=>((try simp only[r2,r5,o2,List.length_map,go_sem])<;>rfl)))));refine UC_cdb (q:=decide ((i:Int) < (a.parts.length:Int))) (Z0) (fun hc=>?_) (fun hc=>?_)
  ·have hi:i < a.parts.length:=by simpa using hc
   have hi2:i < b.parts.length:=by omega
   have hip:(0:Int)≤(i:Int):=by omega
   have hx:=cels_at hi;have hy:=cels_at hi2;have hw:=wrapN1 (i:=i) (by omega);have hih:=ih _ (List.getElem_mem hi) _ (hbq _ (List.getElem_mem hi2));rw[List.drop_eq_getElem_cons hi,List.drop_eq_getElem_cons hi2,zipAll] at hz;generalize a.parts[i]=x at hx hz hih;generalize b.parts[i]=y at hy hz hih;(repeat (with_reducible (first|refine UC_sq ?_|refine UC_rg ?_|refine UC_bk ?_|refine UC_sk ?_|refine X_nx ?_|((first|refine U_q (v:=?_) ?h1 ?_|refine U_ld (v:=?_) ?h1 ?_);case h1=>((try simp only[r2,r3,r5,o2,o3,hip,hx,hy,Int.toNat_natCast,go_sem])<;>rfl)))))
   (refine U_pcr (r:=.bo (sameN x y)) hih ?h1 ?h2 rfl ?_;(case h1=>((try simp only[go_sem])<;>rfl));(case h2=>simp only[List.all_cons,List.all_nil,Bool.and_true,go_sem]))
   cases hv:sameN x y with
   | false =>
    rw[hv,Bool.false_and] at hz;(repeat (with_reducible (first|refine U_nil ?_|refine UC_sq ?_|refine UC_rg ?_|refine UC_rt ?_|refine X_nx ?_|refine X_rt ?_|refine B_rt ?_|((first|refine U_q (v:=?_) ?h1 ?_|refine E_1 (v:=?_) ?h1 ?_|refine UC_cdt ?h1 ?_);case h1=>((try simp only[go_sem])<;>rfl)))));rw[hz];exact fz_of (by simp) rfl
   | true =>
    rw[hv,Bool.true_and] at hz;(repeat (with_reducible (first|refine U_nil ?_|refine UC_rg ?_|refine UC_sk ?_|refine X_nx ?_|refine B_nx ?_|(refine U_q (v:=?_) ?h1 ?_;case h1=>((try simp only[r5,hw,go_sem])<;>rfl))|(refine UC_cdf ?h1 ?_;case h1=>((try simp only[r5,hw,go_sem])<;>rfl)))))
    exact⟨r - 1,by omega,i+1,by omega,Z1 r2,Z1 r3,Z0,Z1 o2,Z1 o3,hz⟩
  ·have hi:i=a.parts.length:=by
    have:¬ i < a.parts.length:=by simpa using hc
    omega
   rw[hi,List.drop_length,zipAll_nil] at hz;(repeat (with_reducible (first|refine U_nil ?_|refine UC_sq ?_|refine UC_rg ?_|refine UC_ex ?_|refine UC_rt ?_|refine X_nx ?_|refine X_ex ?_|refine B_self ?_|((first|refine U_q (v:=?_) ?h1 ?_|refine E_1 (v:=?_) ?h1 ?_);case h1=>((try simp only[go_sem])<;>rfl)))));rw[hz];exact fz_of rfl rfl
def sprN (k:Int) (l:List Nd):List Nd:=l.flatMap fun p=>if p.kind=k then p.parts else [p]
theorem sprN_snoc (k:Int) (l:List Nd) (p:Nd):sprN k (l++[p])=sprN k l++(if p.kind=k then p.parts else [p]):=by simp [sprN]
theorem sprN_cnt (k:Int):∀ (l:List Nd),(sprN k l).length≤cntL l
 | []=>by simp [sprN]
 | p::l=>by
  have:=sprN_cnt k l
  have h1:(if p.kind=k then p.parts else [p]).length≤cntN p:=by
   cases p with
   | mk a b c d e =>
    have h2:=len_cnt c;rw[cntN];split
    ·simp only[Nd.parts];omega
    ·simp
  simp only[sprN,List.flatMap_cons,List.length_append] at *;rw[cntL];omega
set_option maxHeartbeats 1000000 in
theorem spread_pu {k:Int} (hk:k=2∨k=3) (l:List Nd) (hl:∀ p∈l,okN p) (hc:cntL l≤1000):Pu F 41 [.i .i64 k,.sl (l.map cel)] (.sl ((sprN k l).map cel)):=by
 have hll:l.length≤1000:=Nat.le_trans (len_cnt l) hc;have hne:∀ p∈l,p.kind=k→p.parts≠[]:=fun p hp he h0=>by
  have:=(hl p hp).2
  cases p with
  | mk k' s' ps' lo' hi' =>
   rw[formed,Bool.and_eq_true] at this;have h1:=this.1;simp only[Nd.kind] at he;simp only[Nd.parts] at h0;subst he;subst h0;rcases hk with rfl|rfl<;>simp [shapedB] at h1
 refine U_pure e41 rfl rfl (by simp only[go_sem,Bool.and_true]) ?_;dsimp only[fn41,c41];(repeat (with_reducible (first|refine U_nil ?_|refine UC_sq ?_|refine UC_rg ?_|refine UC_bk ?_|refine X_nx ?_|(refine U_q (v:=?_) ?h1 ?_;case h1=>((try simp only[go_sem])<;>rfl)))));refine U_lp (fun r e o=>∃ i:Nat,i+r=l.length∧e 0=.i .i64 k∧e 1=.sl (l.map cel)∧e 6=.i .i64 i∧e 5=ownV 26 8 ((sprN k (l.take i)).map cel)∧Own o 26 8 ((sprN k (l.take i)).map cel)) (k:=l.length) ?_ (Call_le F) ?_
 ·exact⟨0,by omega,Z0,Z0,Zr0,Zr0,⟨rfl,fun h=>absurd rfl h⟩⟩
 rintro r e o ⟨i,hir,r0,r1,r6,r5,ho⟩;dsimp only[b41_0];(repeat (with_reducible (first|refine U_nil ?_|refine UC_sq ?_|refine UC_rg ?_|refine X_nx ?_|(refine U_q (v:=?_) ?h1 ?_;case h1=>((try simp only[r1,r6,List.length_map,go_sem])<;>rfl)))));refine UC_cdb (q:=decide ((i:Int) < (l.length:Int))) (Z0) (fun hc1=>?_) (fun hc1=>?_)
 ·have hi:i < l.length:=by simpa using hc1
  have hip:(0:Int)≤(i:Int):=by omega
  have hx:=cels_at hi;have hw:=wrapN1 (i:=i) (by omega);have htk:sprN k (l.take (i+1))=sprN k (l.take i)++(if l[i].kind=k then l[i].parts else [l[i]]):=by
   rw[← sprN_snoc,List.take_add_one,List.getElem?_eq_getElem hi];rfl
  have hln:(sprN k (l.take (i+1))).length≤1000:=by
   have h1:=sprN_cnt k (l.take (i+1));have h2:=cntL_app (l.take (i+1)) (l.drop (i+1));rw[List.take_append_drop] at h2;omega
  rw[htk,List.length_append] at hln;have hnp:=hne l[i] (List.getElem_mem hi);generalize l[i]=p at hx htk hln hnp;by_cases hkp:p.kind=k
  ·have d1:(p.kind==k)=true:=by simpa using hkp
   rw[if_pos hkp] at htk hln;have hnp:=hnp hkp;(repeat (with_reducible (first|refine U_nil ?_|refine UC_sq ?_|refine UC_rg ?_|refine UC_bk ?_|refine UC_sk ?_|refine X_nx ?_|((first|refine U_q (v:=?_) ?h1 ?_|refine U_ld (v:=?_) ?h1 ?_|refine UC_cdt ?h1 ?_);case h1=>((try simp only[r0,r1,r5,r6,hip,hx,d1,Int.toNat_natCast,go_sem])<;>rfl)))));refine U_appo 26 (L:=(sprN k (l.take i)).map cel) (ys:=p.parts.map cel) (Z1 r5) ho.h (by simp only[src,go_sem]) (by intro c hc;obtain⟨x,_,rfl⟩:=List.mem_map.1 hc;exact cel_len x) (by simpa using hnp) (by omega) ⟨by simp;omega,by omega⟩ (swpR_cls _ ho.c) (swpR_cls _ (cels_cls _)) ?_;(repeat (with_reducible (first|refine U_nil ?_|refine UC_rg ?_|refine X_nx ?_|refine B_nx ?_|(refine U_q (v:=?_) ?h1 ?_;case h1=>((try simp only[r6,hw,go_sem])<;>rfl)))))
   refine⟨r - 1,by omega,i+1,by omega,Z1 r0,Z1 r1,Z0,by simp only[htk,List.map_append,go_sem],?_⟩
   rw[htk,List.map_append];exact Own.to (by have:=cels_cls (sprN k (l.take i)++p.parts);rw[List.map_append] at this;exact this)
  ·have d1:(p.kind==k)=false:=by simpa using hkp
   rw[if_neg hkp] at htk hln;(repeat (with_reducible (first|refine U_nil ?_|refine UC_sq ?_|refine UC_rg ?_|refine UC_bk ?_|refine UC_sk ?_|refine X_nx ?_|((first|refine U_q (v:=?_) ?h1 ?_|refine U_ld (v:=?_) ?h1 ?_);case h1=>((try simp only[r0,r1,r5,r6,hip,hx,d1,Int.toNat_natCast,go_sem])<;>rfl))|(refine U_bsl (es:=?_) (es':=?_) ?h1 ?h2 ?h3 ?_;case h1|h2|h3=>((try simp only[r0,r1,r5,r6,hip,hx,d1,Int.toNat_natCast,go_sem])<;>rfl))|(refine UC_cdf ?h1 ?_;case h1=>((try simp only[r0,r1,r5,r6,hip,hx,d1,Int.toNat_natCast,go_sem])<;>rfl)))));refine U_appo 26 (L:=(sprN k (l.take i)).map cel) (ys:=[cel p]) (Z1 r5) ?_ (by (simp only[src,go_sem]<;>rfl)) (by simp [cel_len]) (by simp) (by omega) ⟨by simp at hln ⊢;omega,by omega⟩ (swpR_cls _ ho.c) (by simp [swpR,cel_sw]) ?_
   ·exact Own.h (by (repeat first|with_reducible assumption|refine .up rfl ?_|refine .sw rfl ?_|refine .swN rfl ?_))
   (repeat (with_reducible (first|refine U_nil ?_|refine UC_rg ?_|refine X_nx ?_|refine B_nx ?_|(refine U_q (v:=?_) ?h1 ?_;case h1=>((try simp only[r6,hw,go_sem])<;>rfl)))))
   refine⟨r - 1,by omega,i+1,by omega,Z1 r0,Z1 r1,Z0,by simp only[htk,List.map_append,go_sem],?_⟩
   rw[htk,List.map_append];exact Own.to (by have:=cels_cls (sprN k (l.take i)++[p]);rw[List.map_append] at this;exact this)
 ·have hi:i=l.length:=by
   have:¬ i < l.length:=by simpa using hc1
   omega
  subst hi;rw[List.take_length] at r5 ho;(repeat (with_reducible (first|refine U_nil ?_|refine UC_sq ?_|refine UC_rg ?_|refine UC_ex ?_|refine UC_rt ?_|refine X_nx ?_|refine X_ex ?_|refine B_self ?_|((first|refine U_q (v:=?_) ?h1 ?_|refine E_1 (v:=?_) ?h1 ?_);case h1=>((try simp only[r5,go_sem])<;>rfl)))));exact frz_own ho (fza_cel _) 22
end Go.Proofs.Ytgiedknghbpdfaa
