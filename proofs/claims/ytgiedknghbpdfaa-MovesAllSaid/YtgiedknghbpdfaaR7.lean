import Derived.Test.YtgiedknghbpdfaaR6

namespace Go.Proofs.Ytgiedknghbpdfaa
set_option linter.all false
attribute [-go_sem] swpOb renOb rfOb V.cells
theorem UC_stillOr {cl:CallT} {e:E} {o:O} {l:List Stp} {K:X→E→O→Prop} (P:E→O→Prop) (s:Nat) {sz:Nat} {L:List (List V)} (hc:okLL L=true) (ho:L≠[]→o s=some (.row sz L)) (h0:L=[]→P e o) (h1:L≠[]→P (stillE s L e) (stillOU s L o)) (h:∀ E O,P E O→wpU true cl (.rg l) K E O):wpU true cl (.rg l) K e o:=by
 by_cases hL:L=[]
 ·exact h _ _ (h0 hL)
 ·exact UC_still s (ho hL) hc (h _ _ (h1 hL))
def nlV (l:List Nat):V:=if l=[] then .nil else .sl (l.map inC)
def nlC (l:List Nat):List V:=[nlV l]
theorem nlC_frz {o:O} (n:Nat):∀ (L:List (List Nat)),((L.map nlC).mapM fun c:List V=>c.mapM (frzU (n+1) o))=some (L.map lsC)
 | []=>rfl
 | y::L=>by
  have h0:frzU (n+1) o (nlV y)=some (.sl (y.map inC)):=by
   unfold nlV;split
   ·rename_i h;rw[h];rfl
   ·rfl
  rw[List.map_cons,List.mapM_cons,nlC,List.mapM_cons,h0,nlC_frz n L];rfl
theorem frz_nl {o:O} {s:Nat} {L:List (List Nat)} (h:Own o s 1 (L.map nlC)) (n:Nat):frzU (n+2) o (ownV s 1 (L.map nlC))=some (.sl (L.map lsC)):=by
 unfold ownV;split
 ·rename_i hL
  have:L=[]:=by simpa using hL
  rw[this];rfl
 ·rename_i hL;have hs:=src_own h.h;rw[ownV_ne hL] at hs;simp only[frzU,hs,nlC_frz n L];rfl
theorem nlV_cls (l:List Nat):cls1 (nlV l)=true:=by unfold nlV;split<;>rfl
theorem nlV_cells (l:List Nat):V.cells (nlV l)=[nlV l]:=by unfold nlV;split<;>rfl
theorem nlV_swp (d:Nat) (l:List Nat):swp d (nlV l)=nlV l:=swp_cls d _ (nlV_cls l)
attribute [go_sem] nlV_cells nlV_swp
theorem nl_cls (L:List (List Nat)):(L.map nlC).all cls1L=true:=List.all_eq_true.2 fun c hc=>by
 obtain⟨x,_,rfl⟩:=List.mem_map.1 hc;rw[nlC,cls1L,nlV_cls];rfl
theorem u4_cls (L:List (Nat→Nat)):(L.map u4).all cls1L=true:=List.all_eq_true.2 fun c hc=>by obtain⟨x,_,rfl⟩:=List.mem_map.1 hc;rfl
theorem sc_cls (L:List (Int × Int)):(L.map scC).all cls1L=true:=List.all_eq_true.2 fun c hc=>by obtain⟨x,_,rfl⟩:=List.mem_map.1 hc;rfl
def numAt (l:List Nd) (j:Nat):Int:=if isC l j then (cntOf l j:Nat) else -1
def numC (l:List Nd) (j:Nat):List V:=[.i .i64 (numAt l j)]
def numL (l:List Nd) (i:Nat):List (List V):=(List.range i).map (numC l)
theorem numL_succ (l:List Nd) (i:Nat):numL l (i+1)=numL l i++[numC l i]:=by simp [numL,List.range_succ]
theorem numL_len (l:List Nd) (i:Nat):(numL l i).length=i:=by simp [numL]
theorem numL_cls (l:List Nd) (i:Nat):(numL l i).all cls1L=true:=List.all_eq_true.2 fun c hc=>by
 simp only[numL] at hc;obtain⟨x,_,rfl⟩:=List.mem_map.1 hc;rfl
theorem numL_at (l:List Nd) {i j:Nat} (h:j < i):(numL l i)[j]?=some (numC l j):=by simp [numL,h]
theorem set_last {α:Type} (l:List α) (a b:α):(l++[a]).set l.length b=l++[b]:=by simp
theorem scs_snoc (l:List Nd) {i:Nat} (hi:i < l.length):scsN (l.take (i+1))=scsN (l.take i)++(if cN l[i] then [(lowR l[i].lo,l[i].hi)] else []):=by
 rw[List.take_add_one,List.getElem?_eq_getElem hi];simp only[scsN,Option.toList_some,List.filter_append,List.map_append];congr 1;cases h:cN l[i]<;>simp [h]
theorem isC_at (l:List Nd) {i:Nat} (hi:i < l.length):isC l i=cN l[i]:=by unfold isC;rw[List.getElem?_eq_getElem hi]
theorem scs_len (l:List Nd) (i:Nat):(scsN (l.take i)).length=cntOf l i:=by simp [scsN,cntOf]
theorem cntOf_le (l:List Nd) (i:Nat):cntOf l i≤i:=by
 have h1:=List.length_filter_le cN (l.take i);have h2:(l.take i).length≤i:=by rw[List.length_take];omega
 unfold cntOf;omega
theorem lvSet_snoc (l:List Nd) {i:Nat} (hi:i < l.length):lvSet (l.take (i+1))=lvSet (l.take i)++(if leafN l[i] then [l[i].set] else []):=by
 rw[List.take_add_one,List.getElem?_eq_getElem hi];simp only[lvSet,Option.toList_some,List.filter_append,List.map_append];congr 1;cases h:leafN l[i]<;>simp [h]
theorem lvAr_snoc (all l:List Nd) (P:List (List Nat)) {i:Nat} (hi:i < l.length) (hp:i < P.length):lvAr all (l.take (i+1)) (P.take (i+1))=lvAr all (l.take i) (P.take i)++(if leafN l[i] then [selA all P[i]] else []):=by
 rw[List.take_add_one,List.getElem?_eq_getElem hi,List.take_add_one,List.getElem?_eq_getElem hp];simp only[lvAr,Option.toList_some];rw[List.zip_append (by simp;omega)];simp only[List.filter_append,List.map_append];congr 1;cases h:leafN l[i]<;>simp [h]
theorem UC_cutr {F:En} {gh:Bool} {a:C} {id:Nat} {K:X→E→O→Prop} {e:E} {o:O} (P:E→O→Prop) (h:wpU gh (Call F) a (fun x e o=>(x=.ex id∧P e o)∨(x=.rt∧K .rt e o)) e o) (h2:∀ e o,P e o→K .nx e o):wpU gh (Call F) a (blkX id K) e o :=
 wpU_le (Call_le F) (fun x e o hx=>by
  rcases hx with⟨rfl,hp⟩|⟨rfl,hp⟩
  ·simp only[blkX,if_true];exact h2 e o hp
  ·exact hp) h
theorem u4_eqz (a:Nat→Nat):eqps [.i .u64,.i .u64,.i .u64,.i .u64] (u4 a) [.i .u64 0,.i .u64 0,.i .u64 0,.i .u64 0]=some (emptyS a):=by
 simp only[u4,eqps,lfEq,and_self,if_true,Bool.and_true,emptyS];congr 1;rw[Bool.eq_iff_iff];simp
theorem u4_eqzV (a:Nat→Nat):eqV true [.i .u64,.i .u64,.i .u64,.i .u64] (.ag (u4 a)) (.ag [.i .u64 0,.i .u64 0,.i .u64 0,.i .u64 0])=some (emptyS a):=u4_eqz a
set_option maxHeartbeats 4000000 in
theorem rof_gen (t:Nd) (n:Nd) (l:List Nd) (P:List (List Nat)) (hS:Pu F 24 [.ag (cel n)] (.ag (cel t))) (hN:Pu F 25 [.ag (cel t),.sl [],.i .i64 0] (.tp [.sl (l.map cel),.sl (P.map lsC)])) (hl:l.length≤900) (hlP:l.length=P.length) (hPl:∀ p∈P,p.length≤900∧∀ j∈p,j < l.length) :
  Pu F 12 [.ag (cel n)] (if plOk (refPl l P) then .tp [mpR t (refPl l P),.i .i64 0] else .tp [noP,.i .i64 3]):=by
 obtain⟨tk,ts,tp,tl,th⟩:=t;rw[cel_mk] at hS hN;simp only[nd8] at hS hN;refine U_pure e12 rfl rfl (by simp only[go_sem,Bool.and_true]) ?_;dsimp only[fn12,c12];(repeat (with_reducible (first|refine U_nil ?_|refine UC_sq ?_|refine UC_rg ?_|refine X_nx ?_|((first|refine U_q (v:=?_) ?h1 ?_|refine U_ld (v:=?_) ?h1 ?_|refine U_alc (n:=?_) ?h1 ?_);case h1=>((try simp only[go_sem])<;>rfl))|(refine U_box (cs:=?_) (cs':=?_) (n:=?_) ?h1 ?h2 ?h3 ?h4 ?_;case h1|h2|h3|h4=>((try simp only[go_sem])<;>rfl)))));refine U_pc (vs:=[.ag (cel n)]) (ws:=[.ag (cel n)]) (Z0) (fzsU_ok ?_) (Bool.or_eq_true_iff.2 (.inl ?_)) ?_ hS ?_
 ·simp only[List.all_cons,List.all_nil,Bool.and_true,okf_cel]
 ·simp only[clos,List.all_cons,List.all_nil,Bool.and_true,go_sem]
 ·simp only[cldL,cld,cldLL_map cld_cel,ls_cld,Bool.and_true]
 (repeat (with_reducible (first|refine U_nil ?_|refine UC_sq ?_|refine UC_rg ?_|refine X_nx ?_|((first|refine U_q (v:=?_) ?h1 ?_|refine U_ld (v:=?_) ?h1 ?_|refine U_alc (n:=?_) ?h1 ?_);case h1=>((try simp only[List.take_succ_cons,List.take_zero,List.drop_succ_cons,List.drop_zero,go_sem])<;>rfl))|(refine U_sto (id:=?_) (i:=?_) (j:=?_) (q:=?_) (es:=?_) (cs:=?_) (vs:=?_) (es':=?_) ?h1 ?h2 ?h3 ?h4 ?h5 ?h6 ?h7 ?_;case h1|h2|h3|h4|h5|h6|h7=>((try simp only[List.take_succ_cons,List.take_zero,List.drop_succ_cons,List.drop_zero,go_sem])<;>rfl))|(refine U_bsl (es:=?_) (es':=?_) ?h1 ?h2 ?h3 ?_;case h1|h2|h3=>((try simp only[List.take_succ_cons,List.take_zero,List.drop_succ_cons,List.drop_zero,go_sem])<;>rfl)))));refine U_pc (vs:=[.ag [.i .i64 tk,.i .u64 (ts 0),.i .u64 (ts 1),.i .u64 (ts 2),.i .u64 (ts 3),.sl (tp.map cel),.i .i64 tl,.i .i64 th],.nil,.i .i64 0]) (ws:=[.ag [.i .i64 tk,.i .u64 (ts 0),.i .u64 (ts 1),.i .u64 (ts 2),.i .u64 (ts 3),.sl (tp.map cel),.i .i64 tl,.i .i64 th],.sl [],.i .i64 0]) (Z0) (by rfl) (Bool.or_eq_true_iff.2 (.inl rfl)) ?_ hN ?_
 ·simp only[cldL,cld,cldLL_map cld_cel,ls_cld,Bool.and_true]
 (repeat (with_reducible (first|refine U_nil ?_|refine UC_sq ?_|refine UC_rg ?_|refine UC_bk ?_|refine X_nx ?_|(refine U_q (v:=?_) ?h1 ?_;case h1=>((try simp only[go_sem])<;>rfl)))));refine UC_cutx (fun e o=>e 2=.pt 2 0 0∧e 5=.pt 5 0 0∧e 6=.sl (l.map cel)∧e 7=.sl (P.map lsC)∧e 8=ownV 43 1 (numL l l.length)∧Own o 43 1 (numL l l.length)∧o 2=some (.row 11 [[.i .i64 0,.i .u64 0,.i .u64 0,.i .u64 0,.i .u64 0,.nil,.i .i64 0,.i .i64 0,.nil,.nil,.nil]])∧o 5=some (.row 11 [[.i .i64 tk,.i .u64 (ts 0),.i .u64 (ts 1),.i .u64 (ts 2),.i .u64 (ts 3),.sl (tp.map cel),.i .i64 tl,.i .i64 th,ownV 19 4 ([u4 zSet]),ownV 55 2 ((scsN (l.take l.length)).map scC),ownV 20 1 ([nlC []])]])∧Own o 19 4 [u4 zSet]∧Own o 55 2 ((scsN (l.take l.length)).map scC)∧Own o 20 1 [nlC []]) ?_ ?_
 ·refine U_lp (fun r e o=>∃ i:Nat,i+r=l.length∧e 9=.i .i64 i∧e 2=.pt 2 0 0∧e 5=.pt 5 0 0∧e 6=.sl (l.map cel)∧e 7=.sl (P.map lsC)∧e 8=ownV 43 1 (numL l i)∧Own o 43 1 (numL l i)∧o 2=some (.row 11 [[.i .i64 0,.i .u64 0,.i .u64 0,.i .u64 0,.i .u64 0,.nil,.i .i64 0,.i .i64 0,.nil,.nil,.nil]])∧o 5=some (.row 11 [[.i .i64 tk,.i .u64 (ts 0),.i .u64 (ts 1),.i .u64 (ts 2),.i .u64 (ts 3),.sl (tp.map cel),.i .i64 tl,.i .i64 th,ownV 19 4 ([u4 zSet]),ownV 55 2 ((scsN (l.take i)).map scC),ownV 20 1 ([nlC []])]])∧Own o 19 4 [u4 zSet]∧Own o 55 2 ((scsN (l.take i)).map scC)∧Own o 20 1 [nlC []]) (k:=l.length) ?_ (Call_le F) ?_
  ·refine⟨0,by omega,Zr0,Z0,Z0,Z0,Z0,Zr0,⟨rfl,fun h=>absurd rfl h⟩,Z0,Zr0,?_,⟨rfl,fun h=>absurd rfl h⟩,?_⟩
   ·(repeat first|with_reducible assumption|refine .up rfl ?_|refine .sw rfl ?_|refine .swN rfl ?_);exact Own.to rfl
   ·(repeat first|with_reducible assumption|refine .up rfl ?_|refine .sw rfl ?_|refine .swN rfl ?_);exact Own.to rfl
  rintro r e o ⟨i,hir,r9,r2,r5,r6,r7,r8,ho8,o2,o5,ho19,ho55,ho20⟩;dsimp only[b12_0];(repeat (with_reducible (first|refine U_nil ?_|refine UC_sq ?_|refine UC_rg ?_|refine X_nx ?_|(refine U_q (v:=?_) ?h1 ?_;case h1=>((try simp only[r6,r9,List.length_map,go_sem])<;>rfl)))));refine UC_cdb (q:=decide ((i:Int) < (l.length:Int))) (Z0) (fun hc1=>?_) (fun hc1=>?_)
  ·have hi:i < l.length:=by simpa using hc1
   have hip:(0:Int)≤(i:Int):=by omega
   have hx:=cels_at hi;have hw:=wrapN1 (i:=i) (by omega);have hC:=rcounts_pu l[i];have hsn:=scs_snoc l hi;have hiC:=isC_at l hi;have hsl:=scs_len l i;have hcl:=cntOf_le l i;have hnl:=numL_len l i;have hns:=numL_succ l i;have hna:numC l i=[.i .i64 (if cN l[i] then (cntOf l i:Nat) else -1)]:=by unfold numC numAt;rw[hiC]
   have hcc:cntR l[i].kind l[i].lo l[i].hi=cN l[i]:=rfl;rw[hcc] at hC;generalize l[i]=q at hx hC hsn hna;(repeat (with_reducible (first|refine UC_sq ?_|refine UC_rg ?_|refine UC_bk ?_|refine UC_sk ?_|refine X_nx ?_|((first|refine U_q (v:=?_) ?h1 ?_|refine U_ld (v:=?_) ?h1 ?_);case h1=>((try simp only[r6,r9,hip,hx,Int.toNat_natCast,go_sem])<;>rfl)))))
   (refine U_pcr (r:=.tp [.ag [.i .i64 (lowR q.lo),.i .i64 q.hi],.bo (cN q)]) hC ?h1 ?h2 rfl ?_;(case h1=>((try simp only[go_sem])<;>rfl));(case h2=>simp only[List.all_cons,List.all_nil,Bool.and_true,go_sem]))
   (repeat (with_reducible (first|refine U_nil ?_|refine UC_sq ?_|refine UC_rg ?_|refine X_nx ?_|((first|refine U_q (v:=?_) ?h1 ?_|refine U_alc (n:=?_) ?h1 ?_);case h1=>((try simp only[r8,go_sem])<;>rfl))|(refine U_sto (id:=?_) (i:=?_) (j:=?_) (q:=?_) (es:=?_) (cs:=?_) (vs:=?_) (es':=?_) ?h1 ?h2 ?h3 ?h4 ?h5 ?h6 ?h7 ?_;case h1|h2|h3|h4|h5|h6|h7=>((try simp only[r8,go_sem])<;>rfl))|(refine U_bsl (es:=?_) (es':=?_) ?h1 ?h2 ?h3 ?_;case h1|h2|h3=>((try simp only[r8,go_sem])<;>rfl)))));refine U_appo 43 (L:=numL l i) (ys:=[[.i .i64 (-1)]]) (Z1 r8) ?_ (by (simp only[src,go_sem]<;>rfl)) (by simp) (by simp) (by omega) ⟨by simp [hnl];omega,by omega⟩ (swpR_cls _ (numL_cls l i)) rfl ?_
   ·exact Own.h (by (repeat first|with_reducible assumption|refine .up rfl ?_|refine .sw rfl ?_|refine .swN rfl ?_))
   have hap:Own o 8 1 []:=⟨rfl,fun h=>absurd rfl h⟩;clear hap;cases hq:cN q with
   | false =>
    rw[hq] at hsn hna;rw[if_neg (by decide),List.append_nil] at hsn;rw[if_neg (by decide)] at hna;rw[← hna,← hns];(repeat (with_reducible (first|refine U_nil ?_|refine UC_sq ?_|refine UC_rg ?_|refine UC_sk ?_|refine X_nx ?_|refine B_nx ?_|(refine U_q (v:=?_) ?h1 ?_;case h1=>((try simp only[r9,hw,go_sem])<;>rfl))|(refine UC_cdf ?h1 ?_;case h1=>((try simp only[r9,hw,go_sem])<;>rfl)))))
    exact⟨r - 1,by omega,i+1,by omega,Z0,Z1 r2,Z1 r5,Z1 r6,Z1 r7,Z0,by (repeat first|with_reducible assumption|refine .up rfl ?_|refine .sw rfl ?_|refine .swN rfl ?_);exact Own.to (numL_cls l (i+1)),Z1 o2,by rw[hsn];simp only[o5,go_sem],by (repeat first|with_reducible assumption|refine .up rfl ?_|refine .sw rfl ?_|refine .swN rfl ?_),by rw[hsn];(repeat first|with_reducible assumption|refine .up rfl ?_|refine .sw rfl ?_|refine .swN rfl ?_),by (repeat first|with_reducible assumption|refine .up rfl ?_|refine .sw rfl ?_|refine .swN rfl ?_)⟩
   | true =>
    rw[hq] at hsn hna;rw[if_pos rfl] at hsn hna;have hne:ownV 43 1 (numL l i++[[.i .i64 (-1)]])=.rw 43 1 0 (i+1):=by
     rw[ownV_ne (by simp),List.length_append,hnl];rfl
    rw[hne];have s1:=slenV_own 55 2 ((scsN (l.take i)).map scC);rw[List.length_map,hsl] at s1;simp only[slenV] at s1;have hlt:(i:Int) < ((i+1:Nat):Int):=by omega
    have hgt:(numL l i++[[V.i .i64 (-1)]])[i]?=some [.i .i64 (-1)]:=by
     rw[List.getElem?_append_right (by omega),hnl];simp
    have hst:(numL l i++[[V.i .i64 (-1)]]).set i [.i .i64 (cntOf l i:Nat)]=numL l (i+1):=by
     rw[hns,hna]
     have:=set_last (numL l i) [V.i .i64 (-1)] [.i .i64 (cntOf l i:Nat)]
     rw[hnl] at this;exact this
    have hsr:swpR 54 (numL l (i+1))=numL l (i+1):=swpR_cls _ (numL_cls l (i+1));(repeat (with_reducible (first|refine U_nil ?_|refine UC_sq ?_|refine UC_rg ?_|refine X_nx ?_|((first|refine U_q (v:=?_) ?h1 ?_|refine U_ld (v:=?_) ?h1 ?_|refine UC_cdt ?h1 ?_);case h1=>((try simp only[r5,r9,o5,s1,hip,hlt,Int.toNat_natCast,Nat.zero_add,go_sem])<;>rfl))|(refine U_sto (id:=?_) (i:=?_) (j:=?_) (q:=?_) (es:=?_) (cs:=?_) (vs:=?_) (es':=?_) ?h1 ?h2 ?h3 ?h4 ?h5 ?h6 ?h7 ?_;case h1|h2|h3|h4|h5|h6|h7=>((try simp only[r5,r9,o5,s1,hip,hlt,Int.toNat_natCast,Nat.zero_add,go_sem])<;>rfl)))));refine U_sto (id:=43) (i:=i) (j:=0) (q:=1) (es:=numL l i++[[V.i .i64 (-1)]]) (cs:=[.i .i64 (-1)]) (vs:=[.i .i64 (cntOf l i:Nat)]) (es':=numL l (i+1)) (Z0) (Z0) hgt (Zr0) rfl (by simp) (by rw[← hst];rfl) ?_;(repeat (with_reducible (first|refine U_nil ?_|refine UC_rg ?_|refine X_nx ?_|((first|refine U_q (v:=?_) ?h1 ?_|refine U_ld (v:=?_) ?h1 ?_);case h1=>((try simp only[r5,o5,go_sem])<;>rfl))|(refine U_bsl (es:=?_) (es':=?_) ?h1 ?h2 ?h3 ?_;case h1|h2|h3=>((try simp only[r5,o5,go_sem])<;>rfl)))));refine U_appo 55 (L:=(scsN (l.take i)).map scC) (ys:=[scC (lowR q.lo,q.hi)]) (Z2 r5 o5) ?_ (by (simp only[src,go_sem]<;>rfl)) (by simp [scC]) (by simp) (by omega) ⟨by simp [hsl];omega,by omega⟩ (swpR_cls _ ho55.c) rfl ?_
    ·exact Own.h (by (repeat first|with_reducible assumption|refine .up rfl ?_|refine .sw rfl ?_|refine .swN rfl ?_))
    have hm1:(scsN (l.take i)++[(lowR q.lo,q.hi)]).map scC=(scsN (l.take i)).map scC++[scC (lowR q.lo,q.hi)]:=by simp
    rw[← hm1,← hsn];(repeat (with_reducible (first|refine U_nil ?_|refine UC_rg ?_|refine X_nx ?_|refine B_nx ?_|(refine U_q (v:=?_) ?h1 ?_;case h1=>((try simp only[r5,r9,o5,hw,go_sem])<;>rfl))|(refine U_sto (id:=?_) (i:=?_) (j:=?_) (q:=?_) (es:=?_) (cs:=?_) (vs:=?_) (es':=?_) ?h1 ?h2 ?h3 ?h4 ?h5 ?h6 ?h7 ?_;case h1|h2|h3|h4|h5|h6|h7=>((try simp only[r5,r9,o5,hw,go_sem])<;>rfl)))));have hne2:ownV 43 1 (numL l (i+1))=.rw 43 1 0 (i+1):=by
     rw[ownV_ne (by rw[hns];simp),numL_len]
    exact⟨r - 1,by omega,i+1,by omega,Z0,Z1 r2,Z1 r5,Z1 r6,Z1 r7,by rw[hne2];simp only[go_sem],by (repeat first|with_reducible assumption|refine .up rfl ?_|refine .sw rfl ?_|refine .swN rfl ?_);exact Own.to (numL_cls l (i+1)),Z1 o2,Z0,by (repeat first|with_reducible assumption|refine .up rfl ?_|refine .sw rfl ?_|refine .swN rfl ?_),by (repeat first|with_reducible assumption|refine .up rfl ?_|refine .sw rfl ?_|refine .swN rfl ?_);exact Own.to (sc_cls _),by (repeat first|with_reducible assumption|refine .up rfl ?_|refine .sw rfl ?_|refine .swN rfl ?_)⟩
  ·have hi:i=l.length:=by
    have:¬ i < l.length:=by simpa using hc1
    omega
   subst hi;(repeat (with_reducible (first|refine UC_ex ?_|refine X_ex ?_)))
   exact⟨rfl,Z1 r2,Z1 r5,Z1 r6,Z1 r7,Z1 r8,by (repeat first|with_reducible assumption|refine .up rfl ?_|refine .sw rfl ?_|refine .swN rfl ?_),Z1 o2,Z1 o5,by (repeat first|with_reducible assumption|refine .up rfl ?_|refine .sw rfl ?_|refine .swN rfl ?_),by (repeat first|with_reducible assumption|refine .up rfl ?_|refine .sw rfl ?_|refine .swN rfl ?_),by (repeat first|with_reducible assumption|refine .up rfl ?_|refine .sw rfl ?_|refine .swN rfl ?_)⟩
 rintro e o ⟨r2,r5,r6,r7,r8,ho8,o2,o5,ho19,ho55,ho20⟩;rw[List.take_length] at o5 ho55;have hRS:(refPl l P).sets=zSet::lvSet l:=rfl;(repeat (with_reducible (first|refine U_nil ?_|refine UC_sq ?_|refine UC_rg ?_|refine UC_bk ?_|refine X_nx ?_|(refine U_q (v:=?_) ?h1 ?_;case h1=>((try simp only[go_sem])<;>rfl)))));refine UC_cutr (fun e o=>(refPl l P).around.any (fun l=>decide (l.length > 4))=false∧e 2=.pt 2 0 0∧e 5=.pt 5 0 0∧e 6=.sl (l.map cel)∧e 7=.sl (P.map lsC)∧e 8=ownV 43 1 (numL l l.length)∧Own o 43 1 (numL l l.length)∧o 2=some (.row 11 [[.i .i64 0,.i .u64 0,.i .u64 0,.i .u64 0,.i .u64 0,.nil,.i .i64 0,.i .i64 0,.nil,.nil,.nil]])∧o 5=some (.row 11 [[.i .i64 tk,.i .u64 (ts 0),.i .u64 (ts 1),.i .u64 (ts 2),.i .u64 (ts 3),.sl (tp.map cel),.i .i64 tl,.i .i64 th,ownV 19 4 ((zSet::lvSet (l.take l.length)).map u4),ownV 55 2 ((scsN l).map scC),ownV 20 1 (([]::lvAr l (l.take l.length) (P.take l.length)).map nlC)]])∧Own o 19 4 ((zSet::lvSet (l.take l.length)).map u4)∧Own o 55 2 ((scsN l).map scC)∧Own o 20 1 (([]::lvAr l (l.take l.length) (P.take l.length)).map nlC)) ?_ ?_
 ·refine U_lp (fun r e o=>∃ i:Nat,i+r=l.length∧e 12=.i .i64 i∧([]::lvAr l (l.take i) (P.take i)).any (fun l=>decide (l.length > 4))=false∧e 2=.pt 2 0 0∧e 5=.pt 5 0 0∧e 6=.sl (l.map cel)∧e 7=.sl (P.map lsC)∧e 8=ownV 43 1 (numL l l.length)∧Own o 43 1 (numL l l.length)∧o 2=some (.row 11 [[.i .i64 0,.i .u64 0,.i .u64 0,.i .u64 0,.i .u64 0,.nil,.i .i64 0,.i .i64 0,.nil,.nil,.nil]])∧o 5=some (.row 11 [[.i .i64 tk,.i .u64 (ts 0),.i .u64 (ts 1),.i .u64 (ts 2),.i .u64 (ts 3),.sl (tp.map cel),.i .i64 tl,.i .i64 th,ownV 19 4 ((zSet::lvSet (l.take i)).map u4),ownV 55 2 ((scsN l).map scC),ownV 20 1 (([]::lvAr l (l.take i) (P.take i)).map nlC)]])∧Own o 19 4 ((zSet::lvSet (l.take i)).map u4)∧Own o 55 2 ((scsN l).map scC)∧Own o 20 1 (([]::lvAr l (l.take i) (P.take i)).map nlC)) (k:=l.length) ?_ (Call_le F) ?_
  ·refine⟨0,by omega,Zr0,rfl,Z1 r2,Z1 r5,Z1 r6,Z1 r7,Z1 r8,by (repeat first|with_reducible assumption|refine .up rfl ?_|refine .sw rfl ?_|refine .swN rfl ?_),Z1 o2,Zr1 o5,by (repeat first|with_reducible assumption|refine .up rfl ?_|refine .sw rfl ?_|refine .swN rfl ?_);exact ho19,by (repeat first|with_reducible assumption|refine .up rfl ?_|refine .sw rfl ?_|refine .swN rfl ?_),by (repeat first|with_reducible assumption|refine .up rfl ?_|refine .sw rfl ?_|refine .swN rfl ?_);exact ho20⟩
  clear r2 r5 r6 r7 r8 ho8 o2 o5 ho19 ho55 ho20;rintro r e o ⟨i,hir,r12,hany,r2,r5,r6,r7,r8,ho8,o2,o5,ho19,ho55,ho20⟩;dsimp only[b12_2];(repeat (with_reducible (first|refine U_nil ?_|refine UC_sq ?_|refine UC_rg ?_|refine X_nx ?_|(refine U_q (v:=?_) ?h1 ?_;case h1=>((try simp only[r6,r12,List.length_map,go_sem])<;>rfl)))));refine UC_cdb (q:=decide ((i:Int) < (l.length:Int))) (Z0) (fun hc1=>?_) (fun hc1=>?_)
  ·have hi:i < l.length:=by simpa using hc1
   have hip:(0:Int)≤(i:Int):=by omega
   have hiP:i < P.length:=by omega
   have hx:=cels_at hi;have hw:=wrapN1 (i:=i) (by omega);have hy:(P.map lsC)[i]?=some [.sl (P[i].map inC)]:=by rw[List.getElem?_map,List.getElem?_eq_getElem hiP];rfl
   have hSs:=lvSet_snoc l hi;have hRs:=lvAr_snoc l l P hi hiP;have hPp:=hPl P[i] (List.getElem_mem hiP);have hbig:leafN l[i]=true→(selA l P[i]).length > 4→plOk (refPl l P)=false:=fun h1 h2=>by
    have hm:selA l P[i]∈(refPl l P).around:=by
     have h3:selA l P[i]∈lvAr l (l.take (i+1)) (P.take (i+1)):=by rw[hRs,h1];simp
     have h4:lvAr l l P=lvAr l (l.take (i+1)) (P.take (i+1))++lvAr l (l.drop (i+1)) (P.drop (i+1)):=by
      have:=List.zip_append (l₁:=l.take (i+1)) (r₁:=l.drop (i+1)) (l₂:=P.take (i+1)) (r₂:=P.drop (i+1)) (by simp;omega)
      rw[List.take_append_drop,List.take_append_drop] at this;simp only[lvAr,this,List.filter_append,List.map_append]
     show selA l P[i]∈[]::lvAr l l P;rw[h4];simp [h3]
    have ha:(refPl l P).around.any (fun l=>decide (l.length > 4))=true:=List.any_eq_true.2 ⟨_,hm,by simpa using h2⟩;rw[plOk,ha];simp
   have hlS:(lvSet (l.take i)).length≤i:=by
    have h1:=List.length_filter_le leafN (l.take i);have h2:(l.take i).length≤i:=by rw[List.length_take];omega
    rw[lvSet,List.length_map];omega
   have hlR:(lvAr l (l.take i) (P.take i)).length≤i:=by
    have h1:=List.length_filter_le (fun x:Nd × List Nat=>leafN x.1) ((l.take i).zip (P.take i));have h2:((l.take i).zip (P.take i)).length≤i:=by rw[List.length_zip,List.length_take];omega
    rw[lvAr,List.length_map];omega
   obtain⟨S,hS1⟩:∃ S,S=zSet::lvSet (l.take i):=⟨_,rfl⟩;obtain⟨R,hR1⟩:∃ R,R=[]::lvAr l (l.take i) (P.take i):=⟨_,rfl⟩;have hS2:zSet::lvSet (l.take (i+1))=S++(if leafN l[i] then [l[i].set] else []):=by rw[hSs,hS1];rfl
   have hR2:[]::lvAr l (l.take (i+1)) (P.take (i+1))=R++(if leafN l[i] then [selA l P[i]] else []):=by rw[hRs,hR1];rfl
   have hS3:S.length≤i+1:=by rw[hS1,List.length_cons];omega
   have hR3:R.length≤i+1:=by rw[hR1,List.length_cons];omega
   rw[← hS1] at o5 ho19;rw[← hR1] at o5 ho20 hany;clear hSs hRs hlS hlR hS1 hR1;generalize l[i]=q at hx hS2 hR2 hbig;generalize P[i]=pa at hy hPp hR2 hbig;by_cases hk1:q.kind=1
   case neg =>
    have c1:(q.kind != 1)=true:=by simpa using hk1
    have hlf:leafN q=false:=by simp [leafN,hk1]
    rw[hlf,if_neg (by decide),List.append_nil] at hS2 hR2;(repeat (with_reducible (first|refine U_nil ?_|refine UC_sq ?_|refine UC_rg ?_|refine UC_bk ?_|refine UC_sk ?_|refine UC_ex ?_|refine X_nx ?_|refine X_ex ?_|refine B_self ?_|((first|refine U_q (v:=?_) ?h1 ?_|refine U_ld (v:=?_) ?h1 ?_|refine UC_cdt ?h1 ?_);case h1=>((try simp only[r6,r12,hip,hx,c1,hw,Int.toNat_natCast,go_sem])<;>rfl))|(refine U_gs1 ?h1 ?_;case h1=>((try simp only[r6,r12,hip,hx,c1,hw,Int.toNat_natCast,go_sem])<;>rfl))|rw[put_some])))
    exact⟨r - 1,by omega,i+1,by omega,Z0,by rw[hR2];exact hany,Z1 r2,Z1 r5,Z1 r6,Z1 r7,Z1 r8,by (repeat first|with_reducible assumption|refine .up rfl ?_|refine .sw rfl ?_|refine .swN rfl ?_),Z1 o2,by rw[hS2,hR2];simp only[o5,go_sem],by rw[hS2];(repeat first|with_reducible assumption|refine .up rfl ?_|refine .sw rfl ?_|refine .swN rfl ?_),by (repeat first|with_reducible assumption|refine .up rfl ?_|refine .sw rfl ?_|refine .swN rfl ?_),by rw[hR2];(repeat first|with_reducible assumption|refine .up rfl ?_|refine .sw rfl ?_|refine .swN rfl ?_)⟩
   have c1:(q.kind != 1)=false:=by simp [hk1]
   cases hem:emptyS q.set with
   | true =>
    have hlf:leafN q=false:=by simp [leafN,hem]
    rw[hlf,if_neg (by decide),List.append_nil] at hS2 hR2;(repeat (with_reducible (first|refine U_nil ?_|refine UC_sq ?_|refine UC_rg ?_|refine UC_bk ?_|refine UC_sk ?_|refine UC_ex ?_|refine X_nx ?_|refine X_ex ?_|refine B_self ?_|((first|refine U_q (v:=?_) ?h1 ?_|refine U_ld (v:=?_) ?h1 ?_|refine U_gt ?h1 ?_|refine UC_cdt ?h1 ?_);case h1=>((try simp only[r6,r12,hip,hx,c1,u4_eqz,u4_eqzV,hem,hw,Int.toNat_natCast,go_sem])<;>rfl)))))
    exact⟨r - 1,by omega,i+1,by omega,Z0,by rw[hR2];exact hany,Z1 r2,Z1 r5,Z1 r6,Z1 r7,Z1 r8,by (repeat first|with_reducible assumption|refine .up rfl ?_|refine .sw rfl ?_|refine .swN rfl ?_),Z1 o2,by rw[hS2,hR2];simp only[o5,go_sem],by rw[hS2];(repeat first|with_reducible assumption|refine .up rfl ?_|refine .sw rfl ?_|refine .swN rfl ?_),by (repeat first|with_reducible assumption|refine .up rfl ?_|refine .sw rfl ?_|refine .swN rfl ?_),by rw[hR2];(repeat first|with_reducible assumption|refine .up rfl ?_|refine .sw rfl ?_|refine .swN rfl ?_)⟩
   | false =>
    have hlf:leafN q=true:=by simp [leafN,hem,hk1]
    rw[hlf,if_pos rfl] at hS2 hR2;have hbig:=hbig hlf;(repeat (with_reducible (first|refine U_nil ?_|refine UC_sq ?_|refine UC_rg ?_|refine UC_bk ?_|refine UC_sk ?_|refine X_nx ?_|((first|refine U_q (v:=?_) ?h1 ?_|refine U_ld (v:=?_) ?h1 ?_|refine U_gt ?h1 ?_);case h1=>((try simp only[r6,r12,hip,hx,c1,u4_eqz,u4_eqzV,hem,Int.toNat_natCast,go_sem])<;>rfl))|(refine UC_cdf ?h1 ?_;case h1=>((try simp only[r6,r12,hip,hx,c1,u4_eqz,u4_eqzV,hem,Int.toNat_natCast,go_sem])<;>rfl)))));refine UC_cutx (fun e o=>e 12=.i .i64 i∧e 13=ownV 110 1 ((selA l pa).map inC)∧Own o 110 1 ((selA l pa).map inC)∧e 2=.pt 2 0 0∧e 5=.pt 5 0 0∧e 6=.sl (l.map cel)∧e 7=.sl (P.map lsC)∧e 8=ownV 43 1 (numL l l.length)∧Own o 43 1 (numL l l.length)∧o 2=some (.row 11 [[.i .i64 0,.i .u64 0,.i .u64 0,.i .u64 0,.i .u64 0,.nil,.i .i64 0,.i .i64 0,.nil,.nil,.nil]])∧o 5=some (.row 11 [[.i .i64 tk,.i .u64 (ts 0),.i .u64 (ts 1),.i .u64 (ts 2),.i .u64 (ts 3),.sl (tp.map cel),.i .i64 tl,.i .i64 th,ownV 19 4 (S.map u4),ownV 55 2 ((scsN l).map scC),ownV 20 1 (R.map nlC)]])∧Own o 19 4 (S.map u4)∧Own o 55 2 ((scsN l).map scC)∧Own o 20 1 (R.map nlC)) ?_ ?_
    ·refine U_lp (fun r e o=>∃ k:Nat,k+r=pa.length∧e 14=.i .i64 k∧e 12=.i .i64 i∧e 13=ownV 110 1 ((selA l (pa.take k)).map inC)∧Own o 110 1 ((selA l (pa.take k)).map inC)∧e 2=.pt 2 0 0∧e 5=.pt 5 0 0∧e 6=.sl (l.map cel)∧e 7=.sl (P.map lsC)∧e 8=ownV 43 1 (numL l l.length)∧Own o 43 1 (numL l l.length)∧o 2=some (.row 11 [[.i .i64 0,.i .u64 0,.i .u64 0,.i .u64 0,.i .u64 0,.nil,.i .i64 0,.i .i64 0,.nil,.nil,.nil]])∧o 5=some (.row 11 [[.i .i64 tk,.i .u64 (ts 0),.i .u64 (ts 1),.i .u64 (ts 2),.i .u64 (ts 3),.sl (tp.map cel),.i .i64 tl,.i .i64 th,ownV 19 4 (S.map u4),ownV 55 2 ((scsN l).map scC),ownV 20 1 (R.map nlC)]])∧Own o 19 4 (S.map u4)∧Own o 55 2 ((scsN l).map scC)∧Own o 20 1 (R.map nlC)) (k:=pa.length) ?_ (Call_le F) ?_
     ·refine⟨0,by omega,Zr0,Z1 r12,Zr0,⟨rfl,fun h=>absurd rfl h⟩,Z1 r2,Z1 r5,Z1 r6,Z1 r7,Z1 r8,by (repeat first|with_reducible assumption|refine .up rfl ?_|refine .sw rfl ?_|refine .swN rfl ?_),Z1 o2,Z1 o5,by (repeat first|with_reducible assumption|refine .up rfl ?_|refine .sw rfl ?_|refine .swN rfl ?_),by (repeat first|with_reducible assumption|refine .up rfl ?_|refine .sw rfl ?_|refine .swN rfl ?_),by (repeat first|with_reducible assumption|refine .up rfl ?_|refine .sw rfl ?_|refine .swN rfl ?_)⟩
     clear r12 r2 r5 r6 r7 r8 ho8 o2 o5 ho19 ho55 ho20;rintro r' e o ⟨k,hkr,r14,r12,r13,ho13,r2,r5,r6,r7,r8,ho8,o2,o5,ho19,ho55,ho20⟩;dsimp only[b12_1];(repeat (with_reducible (first|refine U_nil ?_|refine UC_sq ?_|refine UC_rg ?_|refine X_nx ?_|((first|refine U_q (v:=?_) ?h1 ?_|refine U_ld (v:=?_) ?h1 ?_);case h1=>((try simp only[r7,r12,r14,hip,hy,Int.toNat_natCast,List.length_map,go_sem])<;>rfl)))));refine UC_cdb (q:=decide ((k:Int) < (pa.length:Int))) (Z0) (fun hc2=>?_) (fun hc2=>?_)
     ·have hk:k < pa.length:=by simpa using hc2
      have hkp:(0:Int)≤(k:Int):=by omega
      have hz:(pa.map inC)[k]?=some [.i .i64 (pa[k]:Nat)]:=by rw[List.getElem?_map,List.getElem?_eq_getElem hk];rfl
      have hj:=hPp.2 pa[k] (List.getElem_mem hk);have hsn:selA l (pa.take (k+1))=selA l (pa.take k)++(if isC l pa[k] then [cntOf l pa[k]] else []):=by
       rw[← selA_snoc,List.take_add_one,List.getElem?_eq_getElem hk];rfl
      have hsll:(selA l (pa.take k)).length≤k:=by
       have h1:=List.length_filter_le (isC l) (pa.take k);have h2:(pa.take k).length≤k:=by rw[List.length_take];omega
       rw[selA,List.length_map];omega
      have hnA:=numL_at l hj;have hj2:((pa[k]:Nat):Int) < (l.length:Int):=by omega
      have hjp:(0:Int)≤((pa[k]:Nat):Int):=by omega
      have hcnt:=cntOf_le l pa[k];have hnu:numC l pa[k]=[.i .i64 (if isC l pa[k] then (cntOf l pa[k]:Nat) else -1)]:=rfl;have hwk:=wrapN1 (i:=k) (by omega);have hne3:ownV 43 1 (numL l l.length)=.rw 43 1 0 l.length:=by
       have h0:numL l l.length≠[]:=by
        intro h0
        have:=numL_len l l.length
        rw[h0] at this;simp at this;omega
       rw[ownV_ne h0,numL_len]
      have r8':=r8;rw[hne3] at r8;have o43:=ho8.h (by intro h0;rw[h0] at hnA;simp at hnA);generalize pa[k]=j at hz hj hsn hnA hj2 hjp hcnt hnu;generalize selA l (pa.take k)=X at r13 ho13 hsn hsll;cases hcj:isC l j with
      | false =>
       rw[hcj] at hsn hnu;rw[if_neg (by decide),List.append_nil] at hsn;rw[if_neg (by decide)] at hnu;rw[hnu] at hnA;(repeat (with_reducible (first|refine U_nil ?_|refine UC_sq ?_|refine UC_rg ?_|refine UC_bk ?_|refine UC_sk ?_|refine X_nx ?_|refine B_nx ?_|((first|refine U_q (v:=?_) ?h1 ?_|refine U_ld (v:=?_) ?h1 ?_);case h1=>((try simp only[r7,r8,r12,r14,o43,hip,hkp,hjp,hj2,hy,hz,hnA,hwk,Int.toNat_natCast,Nat.zero_add,go_sem])<;>rfl))|(refine UC_cdf ?h1 ?_;case h1=>((try simp only[r7,r8,r12,r14,o43,hip,hkp,hjp,hj2,hy,hz,hnA,hwk,Int.toNat_natCast,Nat.zero_add,go_sem])<;>rfl)))))
       exact⟨r' - 1,by omega,k+1,by omega,Z1 hwk,Z1 r12,by rw[hsn];simp only[r13,go_sem],by rw[hsn];(repeat first|with_reducible assumption|refine .up rfl ?_|refine .sw rfl ?_|refine .swN rfl ?_),Z1 r2,Z1 r5,Z1 r6,Z1 r7,Z1 r8',by (repeat first|with_reducible assumption|refine .up rfl ?_|refine .sw rfl ?_|refine .swN rfl ?_),Z1 o2,Z1 o5,by (repeat first|with_reducible assumption|refine .up rfl ?_|refine .sw rfl ?_|refine .swN rfl ?_),by (repeat first|with_reducible assumption|refine .up rfl ?_|refine .sw rfl ?_|refine .swN rfl ?_),by (repeat first|with_reducible assumption|refine .up rfl ?_|refine .sw rfl ?_|refine .swN rfl ?_)⟩
      | true =>
       rw[hcj] at hsn hnu;rw[if_pos rfl] at hsn hnu;rw[hnu] at hnA;have hge:decide (((cntOf l j:Nat):Int)≥0)=true:=by simp
       (repeat (with_reducible (first|refine U_nil ?_|refine UC_sq ?_|refine UC_rg ?_|refine UC_bk ?_|refine UC_sk ?_|refine X_nx ?_|((first|refine U_q (v:=?_) ?h1 ?_|refine U_ld (v:=?_) ?h1 ?_|refine UC_cdt ?h1 ?_);case h1=>((try simp only[r7,r8,r12,r13,r14,o43,hip,hkp,hjp,hj2,hy,hz,hnA,hge,Int.toNat_natCast,Nat.zero_add,go_sem])<;>rfl))|(refine U_bsl (es:=?_) (es':=?_) ?h1 ?h2 ?h3 ?_;case h1|h2|h3=>((try simp only[r7,r8,r12,r13,r14,o43,hip,hkp,hjp,hj2,hy,hz,hnA,hge,Int.toNat_natCast,Nat.zero_add,go_sem])<;>rfl)))));refine U_appo 110 (L:=X.map inC) (ys:=[inC (cntOf l j)]) (Z1 r13) ?_ (by (simp only[src,go_sem]<;>rfl)) (by simp [inC]) (by simp) (by omega) ⟨by simp;omega,by omega⟩ (swpR_cls _ ho13.c) rfl ?_
       ·exact Own.h (by (repeat first|with_reducible assumption|refine .up rfl ?_|refine .sw rfl ?_|refine .swN rfl ?_))
       have hm1:(X++[cntOf l j]).map inC=X.map inC++[inC (cntOf l j)]:=by simp
       rw[← hm1,← hsn];(repeat (with_reducible (first|refine U_nil ?_|refine UC_rg ?_|refine X_nx ?_|refine B_nx ?_|(refine U_q (v:=?_) ?h1 ?_;case h1=>((try simp only[r14,hwk,go_sem])<;>rfl)))))
       exact⟨r' - 1,by omega,k+1,by omega,Z0,Z1 r12,Z0,by (repeat first|with_reducible assumption|refine .up rfl ?_|refine .sw rfl ?_|refine .swN rfl ?_);exact Own.to (in_cls _),Z1 r2,Z1 r5,Z1 r6,Z1 r7,Z1 r8',by (repeat first|with_reducible assumption|refine .up rfl ?_|refine .sw rfl ?_|refine .swN rfl ?_),Z1 o2,Z1 o5,by (repeat first|with_reducible assumption|refine .up rfl ?_|refine .sw rfl ?_|refine .swN rfl ?_),by (repeat first|with_reducible assumption|refine .up rfl ?_|refine .sw rfl ?_|refine .swN rfl ?_),by (repeat first|with_reducible assumption|refine .up rfl ?_|refine .sw rfl ?_|refine .swN rfl ?_)⟩
     ·have hk:k=pa.length:=by
       have:¬ k < pa.length:=by simpa using hc2
       omega
      rw[hk,List.take_length] at r13 ho13;(repeat (with_reducible (first|refine UC_ex ?_|refine X_ex ?_)))
      exact⟨rfl,Z1 r12,Z1 r13,by (repeat first|with_reducible assumption|refine .up rfl ?_|refine .sw rfl ?_|refine .swN rfl ?_),Z1 r2,Z1 r5,Z1 r6,Z1 r7,Z1 r8,by (repeat first|with_reducible assumption|refine .up rfl ?_|refine .sw rfl ?_|refine .swN rfl ?_),Z1 o2,Z1 o5,by (repeat first|with_reducible assumption|refine .up rfl ?_|refine .sw rfl ?_|refine .swN rfl ?_),by (repeat first|with_reducible assumption|refine .up rfl ?_|refine .sw rfl ?_|refine .swN rfl ?_),by (repeat first|with_reducible assumption|refine .up rfl ?_|refine .sw rfl ?_|refine .swN rfl ?_)⟩
    clear r12 r2 r5 r6 r7 r8 ho8 o2 o5 ho19 ho55 ho20;rintro e o ⟨r12,r13,ho13,r2,r5,r6,r7,r8,ho8,o2,o5,ho19,ho55,ho20⟩;have s1:=slenV_own 110 1 ((selA l pa).map inC);rw[List.length_map] at s1;simp only[slenV] at s1;generalize selA l pa=ar at r13 ho13 hR2 hbig s1;by_cases h4:ar.length > 4
    ·have c4:decide ((ar.length:Int) > 4)=true:=by simp;omega
     (repeat (with_reducible (first|refine U_nil ?_|refine UC_sq ?_|refine UC_rg ?_|refine UC_rt ?_|refine X_nx ?_|refine X_rt ?_|refine B_rt ?_|((first|refine U_q (v:=?_) ?h1 ?_|refine UC_cdt ?h1 ?_);case h1=>((try simp only[r2,r13,o2,s1,c4,go_sem])<;>rfl))|(refine U_sto (id:=?_) (i:=?_) (j:=?_) (q:=?_) (es:=?_) (cs:=?_) (vs:=?_) (es':=?_) ?h1 ?h2 ?h3 ?h4 ?h5 ?h6 ?h7 ?_;case h1|h2|h3|h4|h5|h6|h7=>((try simp only[r2,r13,o2,s1,c4,go_sem])<;>rfl)))));refine .inr ⟨rfl,?_⟩;rw[hbig h4,if_neg (by decide)];(repeat (with_reducible (first|refine X_rt ?_|(refine E_2 (v:=?_) (u:=?_) ?h1 ?h2 ?_;case h1|h2=>((try simp only[r2,o2,go_sem])<;>rfl)))));rfl
    have c4:decide ((ar.length:Int) > 4)=false:=by simp;omega
    refine X_nx ?_;refine UC_sq ?_;refine UC_cut (fun e o=>e 12=.i .i64 i∧e 13=ownV 110 1 (ar.map inC)∧Own o 110 1 (ar.map inC)∧e 2=.pt 2 0 0∧e 5=.pt 5 0 0∧e 6=.sl (l.map cel)∧e 7=.sl (P.map lsC)∧e 8=ownV 43 1 (numL l l.length)∧Own o 43 1 (numL l l.length)∧o 2=some (.row 11 [[.i .i64 0,.i .u64 0,.i .u64 0,.i .u64 0,.i .u64 0,.nil,.i .i64 0,.i .i64 0,.nil,.nil,.nil]])∧o 5=some (.row 11 [[.i .i64 tk,.i .u64 (ts 0),.i .u64 (ts 1),.i .u64 (ts 2),.i .u64 (ts 3),.sl (tp.map cel),.i .i64 tl,.i .i64 th,ownV 19 4 (S.map u4),ownV 55 2 ((scsN l).map scC),ownV 20 1 (R.map nlC)]])∧Own o 19 4 (S.map u4)∧Own o 55 2 ((scsN l).map scC)∧Own o 20 1 (R.map nlC)) ?_ ?_
    ·refine UC_sq ?_;(repeat (with_reducible (first|refine U_nil ?_|refine UC_rg ?_|refine UC_sk ?_|refine X_nx ?_|(refine U_q (v:=?_) ?h1 ?_;case h1=>((try simp only[r13,s1,c4,go_sem])<;>rfl))|(refine UC_cdf ?h1 ?_;case h1=>((try simp only[r13,s1,c4,go_sem])<;>rfl)))))
     exact⟨by trivial,Z1 r12,Z1 r13,by (repeat first|with_reducible assumption|refine .up rfl ?_|refine .sw rfl ?_|refine .swN rfl ?_),Z1 r2,Z1 r5,Z1 r6,Z1 r7,Z1 r8,by (repeat first|with_reducible assumption|refine .up rfl ?_|refine .sw rfl ?_|refine .swN rfl ?_),Z1 o2,Z1 o5,by (repeat first|with_reducible assumption|refine .up rfl ?_|refine .sw rfl ?_|refine .swN rfl ?_),by (repeat first|with_reducible assumption|refine .up rfl ?_|refine .sw rfl ?_|refine .swN rfl ?_),by (repeat first|with_reducible assumption|refine .up rfl ?_|refine .sw rfl ?_|refine .swN rfl ?_)⟩
    clear r12 r13 ho13 r2 r5 r6 r7 r8 ho8 o2 o5 ho19 ho55 ho20;rintro e o ⟨r12,r13,ho13,r2,r5,r6,r7,r8,ho8,o2,o5,ho19,ho55,ho20⟩;repeat (with_reducible (first|refine UC_sk ?_|refine UC_sq ?_|refine UC_bk ?_|refine X_nx ?_|refine X_ex ?_|refine B_self ?_))
    refine UC_stillOr (fun e o=>e 12=.i .i64 i∧e 13=nlV ar∧e 2=.pt 2 0 0∧e 5=.pt 5 0 0∧e 6=.sl (l.map cel)∧e 7=.sl (P.map lsC)∧e 8=ownV 43 1 (numL l l.length)∧Own o 43 1 (numL l l.length)∧o 2=some (.row 11 [[.i .i64 0,.i .u64 0,.i .u64 0,.i .u64 0,.i .u64 0,.nil,.i .i64 0,.i .i64 0,.nil,.nil,.nil]])∧o 5=some (.row 11 [[.i .i64 tk,.i .u64 (ts 0),.i .u64 (ts 1),.i .u64 (ts 2),.i .u64 (ts 3),.sl (tp.map cel),.i .i64 tl,.i .i64 th,ownV 19 4 (S.map u4),ownV 55 2 ((scsN l).map scC),ownV 20 1 (R.map nlC)]])∧Own o 19 4 (S.map u4)∧Own o 55 2 ((scsN l).map scC)∧Own o 20 1 (R.map nlC)) 110 (in_ok ar) ho13.h (fun h0=>?_) (fun h0=>?_) ?_
    ·have h0:ar=[]:=by simpa using h0
     subst h0
     exact⟨r12,r13,r2,r5,r6,r7,r8,ho8,o2,o5,ho19,ho55,ho20⟩
    ·have h0':ar≠[]:=by simpa using h0
     have hv:nlV ar=.sl (ar.map inC):=if_neg h0';have k8:still 110 (ar.map inC) (ownV 43 1 (numL l l.length))=ownV 43 1 (numL l l.length):=still_ownNe _ _ _ _ _ rfl;have k1:still 110 (ar.map inC) (ownV 19 4 (S.map u4))=ownV 19 4 (S.map u4):=still_ownNe _ _ _ _ _ rfl;have k2:still 110 (ar.map inC) (ownV 55 2 ((scsN l).map scC))=ownV 55 2 ((scsN l).map scC):=still_ownNe _ _ _ _ _ rfl;have k3:still 110 (ar.map inC) (ownV 20 1 (R.map nlC))=ownV 20 1 (R.map nlC):=still_ownNe _ _ _ _ _ rfl
     refine⟨Z1 r12,by rw[stillE_at,r13,still_own _ _ h0,hv],Z1 r2,Z1 r5,Z1 r6,Z1 r7,by rw[stillE_at,r8];exact k8,ho8.st rfl,Z1 o2,Z4 o5 k1 k2 k3,ho19.st rfl,ho55.st rfl,ho20.st rfl⟩
    clear r12 r13 ho13 r2 r5 r6 r7 r8 ho8 o2 o5 ho19 ho55 ho20;rintro e o ⟨r12,r13,r2,r5,r6,r7,r8,ho8,o2,o5,ho19,ho55,ho20⟩;(repeat (with_reducible (first|refine UC_rg ?_|((first|refine U_q (v:=?_) ?h1 ?_|refine U_ld (v:=?_) ?h1 ?_);case h1=>((try simp only[r5,r6,r12,o5,hip,hx,u4,Int.toNat_natCast,go_sem])<;>rfl))|(refine U_bsl (es:=?_) (es':=?_) ?h1 ?h2 ?h3 ?_;case h1|h2|h3=>((try simp only[r5,r6,r12,o5,hip,hx,u4,Int.toNat_natCast,go_sem])<;>rfl)))));refine U_appo 19 (L:=S.map u4) (ys:=[u4 q.set]) (Z2 r5 o5) ?_ (by (simp only[src,go_sem]<;>rfl)) (by simp [u4]) (by simp) (by omega) ⟨by simp;omega,by omega⟩ (swpR_cls _ ho19.c) rfl ?_
    ·exact Own.h (by (repeat first|with_reducible assumption|refine .up rfl ?_|refine .sw rfl ?_|refine .swN rfl ?_))
    have hm1:(S++[q.set]).map u4=S.map u4++[u4 q.set]:=by simp
    rw[← hm1];(repeat (with_reducible (first|refine U_nil ?_|refine UC_rg ?_|refine X_nx ?_|((first|refine U_q (v:=?_) ?h1 ?_|refine U_ld (v:=?_) ?h1 ?_);case h1=>((try simp only[r5,r13,o5,go_sem])<;>rfl))|(refine U_sto (id:=?_) (i:=?_) (j:=?_) (q:=?_) (es:=?_) (cs:=?_) (vs:=?_) (es':=?_) ?h1 ?h2 ?h3 ?h4 ?h5 ?h6 ?h7 ?_;case h1|h2|h3|h4|h5|h6|h7=>((try simp only[r5,r13,o5,go_sem])<;>rfl))|(refine U_bsl (es:=?_) (es':=?_) ?h1 ?h2 ?h3 ?_;case h1|h2|h3=>((try simp only[r5,r13,o5,go_sem])<;>rfl)))));refine U_appo 20 (L:=R.map nlC) (ys:=[nlC ar]) (Z2 r5 o5) ?_ (by (simp only[src,r13,go_sem]<;>rfl)) (by simp [nlC]) (by simp) (by omega) ⟨by simp;omega,by omega⟩ (swpR_cls _ ho20.c) (by simp [swpR,nlC,swpL,swp_cls _ _ (nlV_cls ar)]) ?_
    ·exact Own.h (by (repeat first|with_reducible assumption|refine .up rfl ?_|refine .sw rfl ?_|refine .swN rfl ?_))
    have hm2:(R++[ar]).map nlC=R.map nlC++[nlC ar]:=by simp
    rw[← hm2];(repeat (with_reducible (first|refine U_nil ?_|refine UC_rg ?_|refine X_nx ?_|refine B_nx ?_|(refine U_q (v:=?_) ?h1 ?_;case h1=>((try simp only[r5,r12,o5,hw,go_sem])<;>rfl))|(refine U_sto (id:=?_) (i:=?_) (j:=?_) (q:=?_) (es:=?_) (cs:=?_) (vs:=?_) (es':=?_) ?h1 ?h2 ?h3 ?h4 ?h5 ?h6 ?h7 ?_;case h1|h2|h3|h4|h5|h6|h7=>((try simp only[r5,r12,o5,hw,go_sem])<;>rfl)))))
    refine⟨r - 1,by omega,i+1,by omega,Z0,?_,Z1 r2,Z1 r5,Z1 r6,Z1 r7,Z1 r8,by (repeat first|with_reducible assumption|refine .up rfl ?_|refine .sw rfl ?_|refine .swN rfl ?_),Z1 o2,?_,?_,by (repeat first|with_reducible assumption|refine .up rfl ?_|refine .sw rfl ?_|refine .swN rfl ?_),?_⟩
    ·rw[hR2,List.any_append,hany];simp;omega
    ·rw[hS2,hR2];simp only[o5,go_sem]
    ·rw[hS2];(repeat first|with_reducible assumption|refine .up rfl ?_|refine .sw rfl ?_|refine .swN rfl ?_);exact Own.to (u4_cls _)
    ·rw[hR2];(repeat first|with_reducible assumption|refine .up rfl ?_|refine .sw rfl ?_|refine .swN rfl ?_);exact Own.to (nl_cls _)
  ·have hi:i=l.length:=by
    have:¬ i < l.length:=by simpa using hc1
    omega
   subst hi;have hb:(refPl l P).around.any (fun l=>decide (l.length > 4))=false:=by
    rw[List.take_length,hlP,List.take_length] at hany;exact hany
   (repeat (with_reducible (first|refine UC_ex ?_|refine X_ex ?_)));exact .inl ⟨rfl,hb,Z1 r2,Z1 r5,Z1 r6,Z1 r7,Z1 r8,by (repeat first|with_reducible assumption|refine .up rfl ?_|refine .sw rfl ?_|refine .swN rfl ?_),Z1 o2,Z1 o5,by (repeat first|with_reducible assumption|refine .up rfl ?_|refine .sw rfl ?_|refine .swN rfl ?_),by (repeat first|with_reducible assumption|refine .up rfl ?_|refine .sw rfl ?_|refine .swN rfl ?_),by (repeat first|with_reducible assumption|refine .up rfl ?_|refine .sw rfl ?_|refine .swN rfl ?_)⟩
 clear r2 r5 r6 r7 r8 ho8 o2 o5 ho19 ho55 ho20;rintro e o ⟨hb,r2,r5,r6,r7,r8,ho8,o2,o5,ho19,ho55,ho20⟩;have hT1:zSet::lvSet (l.take l.length)=(refPl l P).sets:=by rw[List.take_length];rfl
 have hT2:[]::lvAr l (l.take l.length) (P.take l.length)=(refPl l P).around:=by rw[List.take_length,hlP,List.take_length];rfl
 have hT3:scsN l=(refPl l P).scopes:=rfl;rw[hT1] at o5 ho19;rw[hT2] at o5 ho20;rw[hT3] at o5 ho55;generalize refPl l P=Q at o5 ho19 ho20 ho55 hb;have s1:=slenV_own 19 4 (Q.sets.map u4);rw[List.length_map] at s1;simp only[slenV] at s1;by_cases hL:Q.sets.length > 41
 ·have cL:decide (((Q.sets.length:Nat):Int) > 41)=true:=by simp;omega
  have hp:plOk Q=false:=by simp [plOk];intro h2;omega
  rw[hp,if_neg (by decide)];(repeat (with_reducible (first|refine U_nil ?_|refine UC_sq ?_|refine UC_rg ?_|refine UC_rt ?_|refine X_nx ?_|refine X_rt ?_|((first|refine U_q (v:=?_) ?h1 ?_|refine U_ld (v:=?_) ?h1 ?_|refine UC_cdt ?h1 ?_);case h1=>((try simp only[r2,r5,o2,o5,s1,cL,go_sem])<;>rfl))|(refine U_sto (id:=?_) (i:=?_) (j:=?_) (q:=?_) (es:=?_) (cs:=?_) (vs:=?_) (es':=?_) ?h1 ?h2 ?h3 ?h4 ?h5 ?h6 ?h7 ?_;case h1|h2|h3|h4|h5|h6|h7=>((try simp only[r2,r5,o2,o5,s1,cL,go_sem])<;>rfl))|(refine E_2 (v:=?_) (u:=?_) ?h1 ?h2 ?_;case h1|h2=>((try simp only[r2,r5,o2,o5,s1,cL,go_sem])<;>rfl)))));rfl
 ·have cL:decide (((Q.sets.length:Nat):Int) > 41)=false:=by simp;omega
  have hp:plOk Q=true:=by
   rw[plOk,hb];simp;omega
  rw[hp,if_pos rfl];(repeat (with_reducible (first|refine U_nil ?_|refine UC_sq ?_|refine UC_rg ?_|refine UC_sk ?_|refine UC_rt ?_|refine X_nx ?_|((first|refine U_q (v:=?_) ?h1 ?_|refine U_ld (v:=?_) ?h1 ?_);case h1=>((try simp only[r2,r5,o2,o5,s1,cL,go_sem])<;>rfl))|(refine U_sto (id:=?_) (i:=?_) (j:=?_) (q:=?_) (es:=?_) (cs:=?_) (vs:=?_) (es':=?_) ?h1 ?h2 ?h3 ?h4 ?h5 ?h6 ?h7 ?_;case h1|h2|h3|h4|h5|h6|h7=>((try simp only[r2,r5,o2,o5,s1,cL,go_sem])<;>rfl))|(refine UC_cdf ?h1 ?_;case h1=>((try simp only[r2,r5,o2,o5,s1,cL,go_sem])<;>rfl))|(refine E_2 (v:=?_) (u:=?_) ?h1 ?h2 ?_;case h1|h2=>((try simp only[r2,r5,o2,o5,s1,cL,go_sem])<;>rfl)))));generalize hrow:some (Ob.row 11 _)=row;have z1:frzU 22 (upd o 2 row) (ownV 19 4 (Q.sets.map u4))=_:=frz_own (ho19.up (by rfl)) (fza_u4 _) 20;have z2:frzU 22 (upd o 2 row) (ownV 55 2 (Q.scopes.map scC))=_:=frz_own (ho55.up (by rfl)) (fza_sc _) 20;have z3:frzU 22 (upd o 2 row) (ownV 20 1 (Q.around.map nlC))=_:=frz_nl (ho20.up (by rfl)) 20;refine frz_pair ?_;simp only[List.mapM_cons,z1,z2,z3];simp only[mpC,cel_mk,nd8];rfl
mutual
theorem paN_mem:∀ (n:Nd) (up:List Nat) (f:Nat) (p:List Nat),p∈pathsN n up f→p.length≤up.length+cntN n∧∀ j∈p,j∈up∨j < f+cntN n
 | .mk k s ps lo hi,up,f,p,h=>by
  rw[pathsN] at h;rw[cntN];rcases List.mem_cons.1 h with rfl|h
  ·exact⟨by omega,fun j hj=>.inl hj⟩
  ·obtain⟨h1,h2⟩:=paL_mem ps (up++[f]) (f+1) p h;rw[List.length_append,List.length_singleton] at h1
   refine⟨by omega,fun j hj=>?_⟩
   rcases h2 j hj with h3|h3
   ·rcases List.mem_append.1 h3 with h4|h4
    ·exact .inl h4
    ·rw[List.mem_singleton.1 h4];exact .inr (by omega)
   ·exact .inr (by omega)
theorem paL_mem:∀ (l:List Nd) (up:List Nat) (f:Nat) (p:List Nat),p∈pathsL l up f→p.length≤up.length+cntL l∧∀ j∈p,j∈up∨j < f+cntL l
 | [],up,f,p,h=>by rw[pathsL] at h;cases h
 | q::l,up,f,p,h=>by
  rw[pathsL] at h;rw[cntL];rcases List.mem_append.1 h with h|h
  ·obtain⟨h1,h2⟩:=paN_mem q up f p h
   exact⟨by omega,fun j hj=>(h2 j hj).imp_right fun h3=>by omega⟩
  ·obtain⟨h1,h2⟩:=paL_mem l up (f+cntN q) p h
   exact⟨by omega,fun j hj=>(h2 j hj).imp_right fun h3=>by omega⟩
end
theorem rof_pu (n:Nd) (h:okN n) (hc:cntN n≤900):Pu F 12 [.ag (cel n)] (if plOk (plT (simpleN n)) then .tp [mpR (simpleN n) (plT (simpleN n)),.i .i64 0] else .tp [noP,.i .i64 3]):=by
 obtain⟨hso,hcn⟩:=simpleN_ok n h (by omega);have hl:=preN_len (simpleN n);have hp:=paN_len (simpleN n) [] 0;have hN:=nodes_pu (simpleN n) [] 0 (by simp) (by omega);rw[← refPl_plT _ hso.2];refine rof_gen (simpleN n) n _ _ (rsimple_pu n h hc) hN (by omega) (by omega) fun p hp2=>?_;obtain⟨h1,h2⟩:=paN_mem _ _ _ p hp2
 refine⟨by simp at h1;omega,fun j hj=>?_⟩
 rcases h2 j hj with h3|h3
 ·cases h3
 ·omega
end Go.Proofs.Ytgiedknghbpdfaa
