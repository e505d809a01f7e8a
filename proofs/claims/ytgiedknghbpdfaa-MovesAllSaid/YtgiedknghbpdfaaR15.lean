import Derived.Test.YtgiedknghbpdfaaR14

namespace Go.Proofs.Ytgiedknghbpdfaa
set_option linter.all false
attribute [-go_sem] swpOb renOb rfOb V.cells
theorem U_apG {cl:CallT} {e:E} {o:O} (s:Nat) {d g:Nat} {ods:List Od} {sz:Nat} {L L':List (List V)} {pre post:List V} {l:List Stp} {K:E→O→Prop} (hp:s < 1000000) (hvs:ods.map (Od.ev e)=pre++ownV s sz L::post) (h1:okL pre=true) (h2:okL post=true) (h3:okLL L=true) (h4:okLL L'=true) (ho:Own o s sz L) (hc:L'.all cls1L=true)
  (h5:ApC cl g (fun v=>pre++v::post) sz L L') (h:∀ O:O,Own O s sz L'→(∀ k,k≠s→O k=swpO s o k)→wpRU cl l K (upd (swpE s e) d (ownV s sz L')) O):wpRU cl (⟨some d,none,.nc g ods,[]⟩::l) K e o:=by
 refine U_ap s hp hvs h1 h2 h3 h4 ho.h h5 (h _ ⟨hc,fun hn=>?_⟩ fun k hk=>?_)
 ·rw[if_neg hn];exact upd_eq _ _ _
 ·split
  ·rfl
  ·show (if k=s then _ else _)=_;rw[if_neg hk]
def bgC (x:Es × Bool):List V:=[.sl (bl x.1.f)]
def ndC (x:Es × Bool):List V:=[.sl (bl x.1.l)]
def nuC (x:Es × Bool):List V:=[.bo x.2]
theorem bg_cls (l:List (Es × Bool)):(l.map bgC).all cls1L=true:=List.all_eq_true.2 fun c hc=>by obtain⟨x,_,rfl⟩:=List.mem_map.1 hc;rfl
theorem nd_cls (l:List (Es × Bool)):(l.map ndC).all cls1L=true:=List.all_eq_true.2 fun c hc=>by obtain⟨x,_,rfl⟩:=List.mem_map.1 hc;rfl
theorem nu_cls (l:List (Es × Bool)):(l.map nuC).all cls1L=true:=List.all_eq_true.2 fun c hc=>by obtain⟨x,_,rfl⟩:=List.mem_map.1 hc;rfl
theorem ptsL_app:∀ (l m:List Nd) (b:Nat),ptsL (l++m) b=ptsL l b++ptsL m (b+lcL l)
 | [],m,b=>by rw[List.nil_append,ptsL,lcL];rfl
 | p::l,m,b=>by rw[List.cons_append,ptsL,ptsL,ptsL_app l m,lcL,Nat.add_assoc];rfl
theorem edL_app:∀ (l m:List Nd) (b sc:Nat),edL (l++m) b sc=edL l b sc++edL m (b+lcL l) sc
 | [],m,b,sc=>by rw[List.nil_append,edL,lcL];rfl
 | p::l,m,b,sc=>by rw[List.cons_append,edL,edL,edL_app l m,lcL,Nat.add_assoc,List.append_assoc]
theorem ptsL_len:∀ (l:List Nd) (b:Nat),(ptsL l b).length=l.length
 | [],b=>rfl
 | p::l,b=>by rw[ptsL,List.length_cons,List.length_cons,ptsL_len l]
theorem fza_eg (l:List Eg) {o:O}:∀ c∈l.map egC,∀ v∈c,∀ n,frzU (n+1) o v=some v:=fun c hc v hv n=>by
 obtain⟨x,_,rfl⟩:=List.mem_map.1 hc;simp only[egC,mvC,List.mem_cons,List.not_mem_nil,or_false] at hv;rcases hv with rfl|rfl|rfl|rfl<;>rfl
theorem fz_eg {o:O} {s:Nat} {l:List Eg} (h:Own o s 4 (l.map egC)):fzU o (ownV s 4 (l.map egC))=some (.sl (l.map egC)):=frz_own h (fza_eg l) 22
set_option maxRecDepth 5000 in
set_option maxHeartbeats 8000000 in
theorem redges_pu:∀ (n:Nd) (b sc:Nat),okN n→cntN n≤900→b+lcN n < 200→sc+cntN n≤2000→Pu F 15 [.ag (cel n),.i .i64 b,.i .i64 sc] (.sl ((edN n b sc).map egC))
 | .mk k s ps lo hi,b,sc,hn,hcn,hb,hsc=>by
  have ih:∀ p∈ps,∀ b sc:Nat,okN p→cntN p≤900→b+lcN p < 200→sc+cntN p≤2000→Pu F 15 [.ag (cel p),.i .i64 b,.i .i64 sc] (.sl ((edN p b sc).map egC)):=fun p hp=>redges_pu p;have hpok:=(okN_parts hn).1;simp only[Nd.parts] at hpok;have hcl:cntL ps≤899:=by rw[cntN] at hcn;omega
  have hcs:sc+1+cntL ps≤2000:=by rw[cntN] at hsc;omega
  have hpl:ps.length≤899:=Nat.le_trans (len_cnt ps) hcl;have hgo:=(good_formed hn.2).1;simp only[cN,Nd.kind,Nd.lo,Nd.hi] at hgo;have hrc:=rcounts_pu (.mk k s ps lo hi);have hsh:shapedB k s ps.length lo hi=true:=by
   have:=hn.2
   rw[formed,Bool.and_eq_true] at this;exact this.1
  have hlL:b+lcL ps < 200:=by
   rw[lcN] at hb;split at hb
   ·rename_i h1;subst h1;have hp:ps=[]:=by
     simp [shapedB] at hsh;exact hsh.2
    subst hp;rw[lcL];omega
   ·exact hb
  have hlen:(edN (.mk k s ps lo hi) b sc).length≤36000000:=by
   have:=edN_len (.mk k s ps lo hi) b sc hn.2 (by omega)
   omega
  rw[edN] at hlen ⊢;obtain⟨a,hae⟩:∃ a:Nd,a=.mk k s ps lo hi:=⟨_,rfl⟩;have h0:a.kind=k:=by rw[hae];rfl
  have h5:a.parts=ps:=by rw[hae];rfl
  have h6:a.lo=lo:=by rw[hae];rfl
  have h7:a.hi=hi:=by rw[hae];rfl
  rw[← hae] at hrc ⊢;rw[h0,h6,h7,hgo] at hrc;clear hae hn hcn hgo hb hsc h6;generalize cnts k lo hi=cn at hrc hlen ⊢;generalize lowR lo=lw at hrc;generalize hinn:(if cn=true then sc+1 else sc)=inn at hlen ⊢;refine U_pure e15 rfl rfl (by simp only[go_sem,Bool.and_true]) ?_;dsimp only[fn15,c15];(repeat (with_reducible (first|refine U_nil ?_|refine UC_sq ?_|refine UC_rg ?_|refine X_nx ?_|((first|refine U_q (v:=?_) ?h1 ?_|refine U_ld (v:=?_) ?h1 ?_);case h1=>((try simp only[go_sem])<;>rfl))|(refine U_box (cs:=?_) (cs':=?_) (n:=?_) ?h1 ?h2 ?h3 ?h4 ?_;case h1|h2|h3|h4=>((try simp only[go_sem])<;>rfl)))))
  (refine U_pcr (r:=.tp [.ag [.i .i64 lw,.i .i64 hi],.bo cn]) hrc ?h1 ?h2 rfl ?_;(case h1=>((try simp only[go_sem])<;>rfl));(case h2=>simp only[List.all_cons,List.all_nil,Bool.and_true,go_sem]))
  (repeat (with_reducible (first|refine U_nil ?_|refine UC_sq ?_|refine UC_rg ?_|refine X_nx ?_|((first|refine U_q (v:=?_) ?h1 ?_|refine U_alc (n:=?_) ?h1 ?_);case h1=>((try simp only[go_sem])<;>rfl))|(refine U_sto (id:=?_) (i:=?_) (j:=?_) (q:=?_) (es:=?_) (cs:=?_) (vs:=?_) (es':=?_) ?h1 ?h2 ?h3 ?h4 ?h5 ?h6 ?h7 ?_;case h1|h2|h3|h4|h5|h6|h7=>((try simp only[go_sem])<;>rfl)))));refine UC_cut (fun e o=>e 1=.i .i64 b∧e 2=.i .i64 sc∧e 3=.pt 3 0 0∧e 7=.nil∧e 8=.i .i64 inn∧e 10=.bo cn∧o 3=some (.row 8 [cel a])) ?_ ?_
  ·have hw:=wrapN1 (i:=sc) (by omega);cases cn with
   | true =>
    rw[if_pos rfl] at hinn;subst hinn;(repeat (with_reducible (first|refine U_nil ?_|refine UC_rg ?_|((first|refine U_q (v:=?_) ?h1 ?_|refine UC_cdt ?h1 ?_);case h1=>((try simp only[hw,go_sem])<;>rfl)))))
    exact⟨by trivial,Z0,Z0,Z0,Z0,Z0,Z0,Z0⟩
   | false =>
    rw[if_neg (by decide)] at hinn;subst hinn;(repeat (with_reducible (first|refine UC_sk ?_|(refine UC_cdf ?h1 ?_;case h1=>((try simp only[go_sem])<;>rfl)))))
    exact⟨by trivial,Z0,Z0,Z0,Z0,Z0,Z0,Z0⟩
  clear hrc;rintro e o ⟨r1,r2,r3,r7,r8,r10,o3⟩;(repeat (with_reducible (first|refine U_nil ?_|refine UC_sq ?_|refine UC_rg ?_|refine UC_bk ?_|refine X_nx ?_|(refine U_q (v:=?_) ?h1 ?_;case h1=>((try simp only[r1,go_sem])<;>rfl)))));have hiN:inn≤sc+1:=by rw[← hinn];split<;>omega
  have hEl:∀ j,(edL (ps.take j) b inn).length≤36000000:=fun j=>by
   have:=edL_app (ps.take j) (ps.drop j) b inn
   rw[List.take_append_drop] at this;rw[this,List.length_append,List.length_append] at hlen;omega
  refine UC_cutx (fun e o=>e 2=.i .i64 sc∧e 3=.pt 3 0 0∧e 7=ownV 20 4 ((edL ps b inn).map egC)∧Own o 20 4 ((edL ps b inn).map egC)∧e 10=.bo cn∧e 11=ownV 21 1 ((ptsL ps b).map bgC)∧Own o 21 1 ((ptsL ps b).map bgC)∧e 12=ownV 22 1 ((ptsL ps b).map ndC)∧Own o 22 1 ((ptsL ps b).map ndC)∧e 13=ownV 23 1 ((ptsL ps b).map nuC)∧Own o 23 1 ((ptsL ps b).map nuC)∧o 3=some (.row 8 [cel a])) ?_ ?_
  ·refine U_lp (fun r e o=>∃ i:Nat,i+r=ps.length∧e 2=.i .i64 sc∧e 3=.pt 3 0 0∧e 7=ownV 20 4 ((edL (ps.take i) b inn).map egC)∧Own o 20 4 ((edL (ps.take i) b inn).map egC)∧e 8=.i .i64 inn∧e 10=.bo cn∧e 11=ownV 21 1 ((ptsL (ps.take i) b).map bgC)∧Own o 21 1 ((ptsL (ps.take i) b).map bgC)∧e 12=ownV 22 1 ((ptsL (ps.take i) b).map ndC)∧Own o 22 1 ((ptsL (ps.take i) b).map ndC)∧e 13=ownV 23 1 ((ptsL (ps.take i) b).map nuC)∧Own o 23 1 ((ptsL (ps.take i) b).map nuC)∧e 14=.i .i64 (b+lcL (ps.take i):Nat)∧e 15=.i .i64 i∧o 3=some (.row 8 [cel a])) (k:=ps.length) ?_ (Call_le F) ?_
   ·refine⟨0,by omega,Z1 r2,Z1 r3,Zr1 r7,⟨rfl,fun h=>absurd rfl h⟩,Z1 r8,Z1 r10,Zr0,⟨rfl,fun h=>absurd rfl h⟩,Zr0,⟨rfl,fun h=>absurd rfl h⟩,Zr0,⟨rfl,fun h=>absurd rfl h⟩,?_,Zr0,Z1 o3⟩
    (simp only[r1,go_sem]<;>rfl)
   clear r1 r2 r3 r7 r8 r10 o3;rintro r e o ⟨i,hir,r2,r3,r7,ho7,r8,r10,r11,ho11,r12,ho12,r13,ho13,r14,r15,o3⟩;dsimp only[b15_0];(repeat (with_reducible (first|refine U_nil ?_|refine UC_sq ?_|refine UC_rg ?_|refine X_nx ?_|((first|refine U_q (v:=?_) ?h1 ?_|refine U_ld (v:=?_) ?h1 ?_);case h1=>((try simp only[h5,r3,r15,o3,List.length_map,go_sem])<;>rfl)))));refine UC_cdb (q:=decide ((i:Int) < (ps.length:Int))) (Z0) (fun hc1=>?_) (fun hc1=>?_)
   ·have hi:i < ps.length:=by simpa using hc1
    have hip:(0:Int)≤(i:Int):=by omega
    have hx:=cels_at hi;have hw:=wrapN1 (i:=i) (by omega);have hti:ps.take (i+1)=ps.take i++[ps[i]]:=by rw[List.take_add_one,List.getElem?_eq_getElem hi];rfl
    have hlc:=lc_at hi;have hpo:=hpok _ (List.getElem_mem hi);have hpc:=cnt_at (List.getElem_mem hi);have hih:=ih _ (List.getElem_mem hi) (b+lcL (ps.take i)) inn hpo (by omega) (by omega) (by omega);have hen:=rends_pu ps[i] (b+lcL (ps.take i)) hpo (by omega) (by omega);have hto:=told_pu _ hpo.1 hpo.2;have hxc:=enN_c ps[i] (b+lcL (ps.take i));have hEl1:=hEl (i+1);have hed:edL (ps.take (i+1)) b inn=edL (ps.take i) b inn++edN ps[i] (b+lcL (ps.take i)) inn:=by rw[hti,edL_app,edL,edL,List.append_nil]
    have hpt:ptsL (ps.take (i+1)) b=ptsL (ps.take i) b++[(enN ps[i] (b+lcL (ps.take i)),nullB ps[i])]:=by rw[hti,ptsL_app,ptsL,ptsL]
    have hll:lcL (ps.take (i+1))=lcL (ps.take i)+lcN ps[i]:=by rw[hti,lcL_app,lcL,lcL];omega
    have hPl:=ptsL_len (ps.take i) b;rw[List.length_take] at hPl;rw[hed] at hEl1;have hwb:IntKind.i64.wrap (((b+lcL (ps.take i):Nat):Int)+(lcN ps[i]:Int))=((b+(lcL (ps.take i)+lcN ps[i]):Nat):Int):=by rw[wrap_i64 (by omega) (by omega)];omega
    rw[hxc] at hen;clear hxc hEl hpok ih;generalize ps[i]=p at hx hih hen hto hed hpt hll hlc hwb hpc hEl1;generalize edL (ps.take i) b inn=EL at r7 ho7 hed hEl1;generalize ptsL (ps.take i) b=PL at r11 ho11 r12 ho12 r13 ho13 hpt hPl;generalize edN p (b+lcL (ps.take i)) inn=EN at hih hed hEl1;generalize enN p (b+lcL (ps.take i))=x at hen hpt;generalize nullB p=nu at hto hpt;generalize voidB p=vo at hto;rw[← hll] at hwb;generalize hbb:b+lcL (ps.take i)=bb at hwb hen hih r14;generalize hlp:lcN p=lp at hwb hen;repeat (with_reducible (first|refine UC_sk ?_|refine UC_sq ?_|refine UC_bk ?_|refine X_nx ?_))
    refine UC_cut (fun e o=>e 2=.i .i64 sc∧e 3=.pt 3 0 0∧e 7=ownV 20 4 ((EL++EN).map egC)∧Own o 20 4 ((EL++EN).map egC)∧e 8=.i .i64 inn∧e 10=.bo cn∧e 11=ownV 21 1 (PL.map bgC)∧Own o 21 1 (PL.map bgC)∧e 12=ownV 22 1 (PL.map ndC)∧Own o 22 1 (PL.map ndC)∧e 13=ownV 23 1 (PL.map nuC)∧Own o 23 1 (PL.map nuC)∧e 14=.i .i64 bb∧e 15=.i .i64 i∧o 3=some (.row 8 [cel a])) ?_ ?_
    ·(repeat (with_reducible (first|refine UC_rg ?_|((first|refine U_q (v:=?_) ?h1 ?_|refine U_ld (v:=?_) ?h1 ?_);case h1=>((try simp only[h5,r3,r7,r8,r14,r15,o3,hip,hx,Int.toNat_natCast,go_sem])<;>rfl)))));refine U_pc (vs:=[.ag (cel p),.i .i64 bb,.i .i64 inn]) (ws:=[.ag (cel p),.i .i64 bb,.i .i64 inn]) (Z0) (fzsU_ok ?_) (Bool.or_eq_true_iff.2 (.inl ?_)) ?_ hih ?_
     ·simp only[List.all_cons,List.all_nil,Bool.and_true,okf_cel];rfl
     ·simp only[clos,List.all_cons,List.all_nil,Bool.and_true,go_sem]
     ·simp only[cld,eg_cld]
     (repeat fail);by_cases hEN:EN=[]
     ·subst hEN;rw[List.append_nil];by_cases hEL:EL=[]
      ·subst hEL;refine U_app00 (Zr1 r7) (by (simp only[src,go_sem]<;>rfl)) (by decide) ?_;(repeat (with_reducible (first|refine U_nil ?_|(refine U_q (v:=?_) ?h1 ?_;case h1=>((try simp only[go_sem])<;>rfl)))))
       exact⟨by trivial,Z1 r2,Z1 r3,Zr0,by (repeat first|with_reducible assumption|refine .up rfl ?_|refine .sw rfl ?_|refine .swN rfl ?_),Z1 r8,Z1 r10,Z1 r11,by (repeat first|with_reducible assumption|refine .up rfl ?_|refine .sw rfl ?_|refine .swN rfl ?_),Z1 r12,by (repeat first|with_reducible assumption|refine .up rfl ?_|refine .sw rfl ?_|refine .swN rfl ?_),Z1 r13,by (repeat first|with_reducible assumption|refine .up rfl ?_|refine .sw rfl ?_|refine .swN rfl ?_),Z1 r14,Z1 r15,Z1 o3⟩
      ·have hne:EL.map egC≠[]:=by simpa using hEL
       refine U_app0 (s:=20) (len:=(EL.map egC).length) (q:=4) (es:=EL.map egC) (by simp only[r7,go_sem];exact ownV_ne hne) (ho7.h hne) (Nat.le_refl _) (by (simp only[src,go_sem]<;>rfl)) ⟨by simp at hEl1 ⊢;omega,by omega⟩ ?_;rw[← ownV_ne hne];(repeat (with_reducible (first|refine U_nil ?_|(refine U_q (v:=?_) ?h1 ?_;case h1=>((try simp only[go_sem])<;>rfl)))))
       exact⟨by trivial,Z1 r2,Z1 r3,Z0,by (repeat first|with_reducible assumption|refine .up rfl ?_|refine .sw rfl ?_|refine .swN rfl ?_),Z1 r8,Z1 r10,Z1 r11,by (repeat first|with_reducible assumption|refine .up rfl ?_|refine .sw rfl ?_|refine .swN rfl ?_),Z1 r12,by (repeat first|with_reducible assumption|refine .up rfl ?_|refine .sw rfl ?_|refine .swN rfl ?_),Z1 r13,by (repeat first|with_reducible assumption|refine .up rfl ?_|refine .sw rfl ?_|refine .swN rfl ?_),Z1 r14,Z1 r15,Z1 o3⟩
     ·have hm:(EL++EN).map egC=EL.map egC++EN.map egC:=by simp
      refine U_appo 20 (L:=EL.map egC) (ys:=EN.map egC) (Z1 r7) ho7.h (by simp only[src,go_sem]) (eg_len EN) (by simpa using hEN) (by omega) ⟨by simp at hEl1 ⊢;omega,by omega⟩ (swpR_cls _ ho7.c) (swpR_cls _ (eg_cls EN)) ?_;(repeat (with_reducible (first|refine U_nil ?_|(refine U_q (v:=?_) ?h1 ?_;case h1=>((try simp only[go_sem])<;>rfl)))))
      exact⟨by trivial,Z1 r2,Z1 r3,by rw[hm];simp only[go_sem],by rw[hm];exact Own.to (by rw[← hm];exact eg_cls _),Z1 r8,Z1 r10,Z1 r11,by (repeat first|with_reducible assumption|refine .up rfl ?_|refine .sw rfl ?_|refine .swN rfl ?_),Z1 r12,by (repeat first|with_reducible assumption|refine .up rfl ?_|refine .sw rfl ?_|refine .swN rfl ?_),Z1 r13,by (repeat first|with_reducible assumption|refine .up rfl ?_|refine .sw rfl ?_|refine .swN rfl ?_),Z1 r14,Z1 r15,Z1 o3⟩
    clear r2 r3 r7 ho7 r8 r10 r11 ho11 r12 ho12 r13 ho13 r14 r15 o3 hih;rintro e o ⟨r2,r3,r7,ho7,r8,r10,r11,ho11,r12,ho12,r13,ho13,r14,r15,o3⟩;(repeat (with_reducible (first|refine UC_sq ?_|refine UC_rg ?_|refine X_nx ?_|((first|refine U_q (v:=?_) ?h1 ?_|refine U_ld (v:=?_) ?h1 ?_);case h1=>((try simp only[h5,r3,r14,r15,o3,hip,hx,Int.toNat_natCast,go_sem])<;>rfl)))));refine U_pc (vs:=[.ag (cel p),.i .i64 bb]) (ws:=[.ag (cel p),.i .i64 bb]) (Z0) (fzsU_ok ?_) (Bool.or_eq_true_iff.2 (.inl ?_)) ?_ hen ?_
    ·simp only[List.all_cons,List.all_nil,Bool.and_true,okf_cel];rfl
    ·simp only[clos,List.all_cons,List.all_nil,Bool.and_true,go_sem]
    ·simp only[cldL,cld,bl_cld,Bool.and_true]
    (repeat (with_reducible (first|refine U_nil ?_|refine UC_sq ?_|refine UC_rg ?_|refine X_nx ?_|((first|refine U_q (v:=?_) ?h1 ?_|refine U_ld (v:=?_) ?h1 ?_);case h1=>((try simp only[h5,r3,r15,o3,hip,hx,Int.toNat_natCast,go_sem])<;>rfl)))))
    (refine U_pcr (r:=.tp [.bo vo,.bo nu]) hto ?h1 ?h2 rfl ?_;(case h1=>((try simp only[go_sem])<;>rfl));(case h2=>simp only[List.all_cons,List.all_nil,Bool.and_true,go_sem]))
    (repeat (with_reducible (first|refine U_nil ?_|refine UC_sq ?_|refine UC_rg ?_|refine X_nx ?_|(refine U_q (v:=?_) ?h1 ?_;case h1=>((try simp only[r11,go_sem])<;>rfl))|(refine U_bsl (es:=?_) (es':=?_) ?h1 ?h2 ?h3 ?_;case h1|h2|h3=>((try simp only[r11,go_sem])<;>rfl)))));have hm1:(PL++[(x,nu)]).map bgC=PL.map bgC++[[.sl (bl x.f)]]:=by simp [bgC]
    have hm2:(PL++[(x,nu)]).map ndC=PL.map ndC++[[.sl (bl x.l)]]:=by simp [ndC]
    have hm3:(PL++[(x,nu)]).map nuC=PL.map nuC++[[.bo nu]]:=by simp [nuC]
    have hPl2:PL.length≤899:=by omega
    refine U_appo 21 (L:=PL.map bgC) (ys:=[[.sl (bl x.f)]]) (Z1 r11) ?_ (by (simp only[src,go_sem]<;>rfl)) (by simp) (by simp) (by omega) ⟨by simp;omega,by omega⟩ (swpR_cls _ ho11.c) rfl ?_
    ·exact Own.h (by (repeat first|with_reducible assumption|refine .up rfl ?_|refine .sw rfl ?_|refine .swN rfl ?_))
    (repeat (with_reducible (first|refine U_nil ?_|refine UC_sq ?_|refine UC_rg ?_|refine X_nx ?_|(refine U_q (v:=?_) ?h1 ?_;case h1=>((try simp only[r12,go_sem])<;>rfl))|(refine U_bsl (es:=?_) (es':=?_) ?h1 ?h2 ?h3 ?_;case h1|h2|h3=>((try simp only[r12,go_sem])<;>rfl)))));refine U_appo 22 (L:=PL.map ndC) (ys:=[[.sl (bl x.l)]]) (Z1 r12) ?_ (by (simp only[src,go_sem]<;>rfl)) (by simp) (by simp) (by omega) ⟨by simp;omega,by omega⟩ (swpR_cls _ ho12.c) rfl ?_
    ·exact Own.h (by (repeat first|with_reducible assumption|refine .up rfl ?_|refine .sw rfl ?_|refine .swN rfl ?_))
    (repeat (with_reducible (first|refine U_nil ?_|refine UC_sq ?_|refine UC_rg ?_|refine X_nx ?_|(refine U_q (v:=?_) ?h1 ?_;case h1=>((try simp only[r13,go_sem])<;>rfl))|(refine U_bsl (es:=?_) (es':=?_) ?h1 ?h2 ?h3 ?_;case h1|h2|h3=>((try simp only[r13,go_sem])<;>rfl)))));refine U_appo 23 (L:=PL.map nuC) (ys:=[[.bo nu]]) (Z1 r13) ?_ (by (simp only[src,go_sem]<;>rfl)) (by simp) (by simp) (by omega) ⟨by simp;omega,by omega⟩ (swpR_cls _ ho13.c) rfl ?_
    ·exact Own.h (by (repeat first|with_reducible assumption|refine .up rfl ?_|refine .sw rfl ?_|refine .swN rfl ?_))
    rw[← hm1,← hm2,← hm3];have g1:((PL++[(x,nu)]).map bgC).all cls1L=true:=bg_cls _;have g2:((PL++[(x,nu)]).map ndC).all cls1L=true:=nd_cls _;have g3:((PL++[(x,nu)]).map nuC).all cls1L=true:=nu_cls _;(repeat (with_reducible (first|refine U_nil ?_|refine UC_rg ?_|refine X_nx ?_|refine B_nx ?_|(refine U_q (v:=?_) ?h1 ?_;case h1=>((try simp only[r14,r15,hw,hwb,go_sem])<;>rfl)))));rw[← hed] at r7 ho7;rw[← hpt] at g1 g2 g3;rw[← hpt]
    exact⟨r - 1,by omega,i+1,by omega,Z1 r2,Z1 r3,Z1 r7,by (repeat first|with_reducible assumption|refine .up rfl ?_|refine .sw rfl ?_|refine .swN rfl ?_),Z1 r8,Z1 r10,Z0,by (repeat first|with_reducible assumption|refine .up rfl ?_|refine .sw rfl ?_|refine .swN rfl ?_);exact Own.to g1,Z0,by (repeat first|with_reducible assumption|refine .up rfl ?_|refine .sw rfl ?_|refine .swN rfl ?_);exact Own.to g2,Z0,Own.to g3,Z1 hll,Z0,Z1 o3⟩
   ·have hi:i=ps.length:=by
     have:¬ i < ps.length:=by simpa using hc1
     omega
    rw[hi,List.take_length] at r7 ho7 r11 ho11 r12 ho12 r13 ho13;(repeat (with_reducible (first|refine UC_ex ?_|refine X_ex ?_)))
    exact⟨rfl,Z1 r2,Z1 r3,Z1 r7,ho7,Z1 r10,Z1 r11,ho11,Z1 r12,ho12,Z1 r13,ho13,Z1 o3⟩
  clear r1 r2 r3 r7 r8 r10 o3 ih hpok;rintro e o ⟨r2,r3,r7,ho7,r10,r11,ho11,r12,ho12,r13,ho13,o3⟩;have hE0:(edL ps b inn).length≤36000000:=by
   rw[List.length_append] at hlen;omega
  by_cases hk:k=4∧hi≠1
  ·obtain⟨hk4,hh1⟩:=hk;subst hk4;obtain⟨p,rfl⟩:=List.length_eq_one_iff.1 (shape4 hsh).1;rw[if_pos ⟨rfl,hh1⟩];have hpp:ptsL [p] b=[(enN p b,nullB p)]:=by rw[ptsL,ptsL]
   rw[hpp] at r11 ho11 r12 ho12;rw[hpp,crH];generalize enN p b=x at r11 ho11 r12 ho12 ⊢;generalize nullB p=nu at r11 ho11 r12 ho12 ⊢;have c2:(hi != 1)=true:=by simpa using hh1
   have q21:o 21=some (.row 1 [[.sl (bl x.f)]]):=ho11.h (by simp);have q22:o 22=some (.row 1 [[.sl (bl x.l)]]):=ho12.h (by simp);have s11:e 11=.rw 21 1 0 1:=r11;have s12:e 12=.rw 22 1 0 1:=r12;have hap:=cross_ap x.l x.f sc cn (edL [p] b inn) (by omega);generalize edL [p] b inn=EL at r7 ho7 hap;have e4:((4:Int)==4)=true:=rfl;(repeat (with_reducible (first|refine U_nil ?_|refine UC_sq ?_|refine UC_rg ?_|refine X_nx ?_|((first|refine U_q (v:=?_) ?h1 ?_|refine U_ld (v:=?_) ?h1 ?_|refine U_gt ?h1 ?_|refine UC_cdt ?h1 ?_);case h1=>((try simp only[h0,h7,e4,c2,r2,r3,r7,r10,s11,s12,o3,q21,q22,go_sem])<;>rfl)))));refine U_apG 20 (pre:=[]) (post:=[.sl (bl x.l),.sl (bl x.f),.ag [.i .i64 0,.i .i64 sc,.bo cn]]) (by omega) (Zr1 r7) rfl (by simp only[okL,ok,bl_cld];rfl) (eg_ok _) (eg_ok _) ho7 (eg_cls _) hap ?_;intro O hO _;(repeat (with_reducible (first|refine U_nil ?_|refine UC_rt ?_|refine X_nx ?_|refine X_rt ?_|((first|refine U_q (v:=?_) ?h1 ?_|refine E_1 (v:=?_) ?h1 ?_);case h1=>((try simp only[go_sem])<;>rfl)))));exact fz_eg hO
  rw[if_neg hk] at hlen ⊢;by_cases hk2:k=2
  ·subst hk2;rw[if_pos rfl] at hlen ⊢;have hp2:2≤ps.length:=by simp [shapedB] at hsh;exact hsh.2
   have hPl:=ptsL_len ps b;generalize ptsL ps b=P at r11 ho11 r12 ho12 r13 ho13 hlen hPl ⊢;generalize edL ps b inn=EL at r7 ho7 hlen hE0 ⊢;have hPne:P≠[]:=by intro h;subst h;simp at hPl;omega
   have s11:e 11=.rw 21 1 0 ps.length:=by rw[r11,ownV_ne (by simpa using hPne),List.length_map,hPl]
   have s12:e 12=.rw 22 1 0 ps.length:=by rw[r12,ownV_ne (by simpa using hPne),List.length_map,hPl]
   have s13:e 13=.rw 23 1 0 ps.length:=by rw[r13,ownV_ne (by simpa using hPne),List.length_map,hPl]
   have e4:((2:Int)==4)=false:=rfl;have e2:((2:Int)==2)=true:=rfl;clear r11 r12 r13;(repeat (with_reducible (first|refine U_nil ?_|refine UC_sq ?_|refine UC_rg ?_|refine UC_bk ?_|refine UC_sk ?_|refine X_nx ?_|((first|refine U_q (v:=?_) ?h1 ?_|refine U_ld (v:=?_) ?h1 ?_);case h1=>((try simp only[h0,e4,r3,o3,go_sem])<;>rfl))|((first|refine U_gs2 ?h1 ?_|refine UC_cdf ?h1 ?_);case h1=>((try simp only[h0,e4,r3,o3,go_sem])<;>rfl))|rw[put_some])));refine UC_cutx (fun e o=>e 7=ownV 20 4 ((EL++crA sc P).map egC)∧Own o 20 4 ((EL++crA sc P).map egC)) ?_ ?_
   ·refine U_lp (fun r e o=>∃ (i:Nat) (Q:List Eg),i+r=ps.length∧Q++crA sc (P.drop i)=EL++crA sc P∧e 2=.i .i64 sc∧e 3=.pt 3 0 0∧e 7=ownV 20 4 (Q.map egC)∧Own o 20 4 (Q.map egC)∧e 11=.rw 21 1 0 ps.length∧Own o 21 1 (P.map bgC)∧e 12=.rw 22 1 0 ps.length∧Own o 22 1 (P.map ndC)∧e 13=.rw 23 1 0 ps.length∧Own o 23 1 (P.map nuC)∧e 21=.i .i64 i∧o 3=some (.row 8 [cel a])) (k:=ps.length) ?_ (Call_le F) ?_
    ·exact⟨0,EL,by omega,by rw[List.drop_zero],Z1 r2,Z1 r3,Z1 r7,by (repeat first|with_reducible assumption|refine .up rfl ?_|refine .sw rfl ?_|refine .swN rfl ?_),Z1 s11,by (repeat first|with_reducible assumption|refine .up rfl ?_|refine .sw rfl ?_|refine .swN rfl ?_),Z1 s12,by (repeat first|with_reducible assumption|refine .up rfl ?_|refine .sw rfl ?_|refine .swN rfl ?_),Z1 s13,by (repeat first|with_reducible assumption|refine .up rfl ?_|refine .sw rfl ?_|refine .swN rfl ?_),Zr0,Z1 o3⟩
    clear r2 r3 r7 ho7 r10 s11 ho11 s12 ho12 s13 ho13 o3;rintro r e o ⟨i,Q,hir,hQ,r2,r3,r7,ho7,s11,ho11,s12,ho12,s13,ho13,r21,o3⟩;dsimp only[b15_2];by_cases hi:i < ps.length
    ·have hd:decide ((i:Int) < (ps.length:Int))=true:=decide_eq_true (by omega);have hw:=wrapN1 (i:=i) (by omega);have hiP:i < P.length:=by omega
     rw[List.drop_eq_getElem_cons hiP,crA] at hQ;have hip:(0:Int)≤(i:Int):=by omega
     have hil:(i:Int) < ((ps.length:Nat):Int):=by omega
     have gE:(P.map ndC)[i]?=some [.sl (bl P[i].1.l)]:=by rw[List.getElem?_map,List.getElem?_eq_getElem hiP];rfl
     generalize P[i].1.l=l at hQ gE;have hTl:(Q++crR l sc (P.drop (i+1))).length≤36000000:=by
      rw[← List.append_assoc] at hQ;rw[← hQ,List.length_append] at hlen;omega
     (repeat (with_reducible (first|refine U_nil ?_|refine UC_sq ?_|refine UC_rg ?_|refine UC_bk ?_|refine UC_sk ?_|refine X_nx ?_|((first|refine U_q (v:=?_) ?h1 ?_|refine U_ld (v:=?_) ?h1 ?_|refine U_gt ?h1 ?_|refine UC_cdt ?h1 ?_);case h1=>((try simp only[h0,h5,e2,r3,r21,o3,hd,hw,List.length_map,go_sem])<;>rfl)))));refine UC_cutx (fun e o=>e 2=.i .i64 sc∧e 3=.pt 3 0 0∧e 7=ownV 20 4 ((Q++crR l sc (P.drop (i+1))).map egC)∧Own o 20 4 ((Q++crR l sc (P.drop (i+1))).map egC)∧e 11=.rw 21 1 0 ps.length∧Own o 21 1 (P.map bgC)∧e 12=.rw 22 1 0 ps.length∧Own o 22 1 (P.map ndC)∧e 13=.rw 23 1 0 ps.length∧Own o 23 1 (P.map nuC)∧e 21=.i .i64 i∧o 3=some (.row 8 [cel a])) ?_ ?_
     ·refine U_lp (fun r e o=>∃ (j:Nat) (Q1:List Eg),j+r=ps.length∧Q1++crR l sc (P.drop j)=Q++crR l sc (P.drop (i+1))∧e 2=.i .i64 sc∧e 3=.pt 3 0 0∧e 7=ownV 20 4 (Q1.map egC)∧Own o 20 4 (Q1.map egC)∧e 11=.rw 21 1 0 ps.length∧Own o 21 1 (P.map bgC)∧e 12=.rw 22 1 0 ps.length∧Own o 22 1 (P.map ndC)∧e 13=.rw 23 1 0 ps.length∧Own o 23 1 (P.map nuC)∧e 21=.i .i64 i∧e 22=.i .i64 j∧o 3=some (.row 8 [cel a])) (k:=ps.length - (i+1)) ?_ (Call_le F) ?_
      ·exact⟨i+1,Q,by omega,rfl,Z1 r2,Z1 r3,Z1 r7,by (repeat first|with_reducible assumption|refine .up rfl ?_|refine .sw rfl ?_|refine .swN rfl ?_),Z1 s11,by (repeat first|with_reducible assumption|refine .up rfl ?_|refine .sw rfl ?_|refine .swN rfl ?_),Z1 s12,by (repeat first|with_reducible assumption|refine .up rfl ?_|refine .sw rfl ?_|refine .swN rfl ?_),Z1 s13,by (repeat first|with_reducible assumption|refine .up rfl ?_|refine .sw rfl ?_|refine .swN rfl ?_),Z1 r21,Z0,Z1 o3⟩
      clear r2 r3 r7 ho7 s11 ho11 s12 ho12 s13 ho13 r21 o3;rintro r' e o ⟨j,Q1,hjr,hQ1,r2,r3,r7,ho7,s11,ho11,s12,ho12,s13,ho13,r21,r22,o3⟩;dsimp only[b15_1];by_cases hj:j < ps.length
      ·have hd2:decide ((j:Int) < (ps.length:Int))=true:=decide_eq_true (by omega);have hw2:=wrapN1 (i:=j) (by omega);have hjP:j < P.length:=by omega
       rw[List.drop_eq_getElem_cons hjP,crR,← List.append_assoc] at hQ1;have hjp:(0:Int)≤(j:Int):=by omega
       have hjl:(j:Int) < ((ps.length:Nat):Int):=by omega
       have gB:(P.map bgC)[j]?=some [.sl (bl P[j].1.f)]:=by rw[List.getElem?_map,List.getElem?_eq_getElem hjP];rfl
       have gN:(P.map nuC)[j]?=some [.bo P[j].2]:=by rw[List.getElem?_map,List.getElem?_eq_getElem hjP];rfl
       generalize P[j]=y at hQ1 gB gN;obtain⟨y1,nu⟩:=y;dsimp only at hQ1 gB gN;have hPm1:P.map bgC≠[]:=by simpa using hPne
       have hPm2:P.map ndC≠[]:=by simpa using hPne
       have hPm3:P.map nuC≠[]:=by simpa using hPne
       have q21:=ho11.h hPm1;have q22:=ho12.h hPm2;have hQ1l:Q1.length≤36000000:=by
        rw[← hQ1,List.append_assoc,List.length_append] at hTl;omega
       have hap:=cross_ap l y1.f sc false Q1 (by omega);(repeat (with_reducible (first|refine U_nil ?_|refine UC_sq ?_|refine UC_rg ?_|refine UC_bk ?_|refine UC_sk ?_|refine X_nx ?_|((first|refine U_q (v:=?_) ?h1 ?_|refine U_ld (v:=?_) ?h1 ?_|refine UC_cdt ?h1 ?_);case h1=>((try simp only[h5,r2,r3,r7,r21,r22,s11,s12,o3,q21,q22,hd2,hip,hil,hjp,hjl,gE,gB,Int.toNat_natCast,Nat.zero_add,List.length_map,go_sem])<;>rfl)))));refine U_apG 20 (pre:=[]) (post:=[.sl (bl l),.sl (bl y1.f),.ag [.i .i64 0,.i .i64 sc,.bo false]]) (by omega) (Zr1 r7) rfl (by simp only[okL,ok,bl_cld];rfl) (eg_ok _) (eg_ok _) (by (repeat first|with_reducible assumption|refine .up rfl ?_|refine .sw rfl ?_|refine .swN rfl ?_)) (eg_cls _) hap ?_;intro O hO hk';have t11:Own O 21 1 (P.map bgC):=Own.at (o:=swpO 20 _) (by (repeat first|with_reducible assumption|refine .up rfl ?_|refine .sw rfl ?_|refine .swN rfl ?_)) (hk' 21 (by decide));have t12:Own O 22 1 (P.map ndC):=Own.at (o:=swpO 20 _) (by (repeat first|with_reducible assumption|refine .up rfl ?_|refine .sw rfl ?_|refine .swN rfl ?_)) (hk' 22 (by decide));have t13:Own O 23 1 (P.map nuC):=Own.at (o:=swpO 20 _) (by (repeat first|with_reducible assumption|refine .up rfl ?_|refine .sw rfl ?_|refine .swN rfl ?_)) (hk' 23 (by decide));have t3:O 3=some (.row 8 [cel a]):=(hk' 3 (by decide)).trans (Z1 o3);have q23:=t13.h hPm3;clear hk' hap;cases nu with
       | true =>
        rw[if_pos rfl] at hQ1;(repeat (with_reducible (first|refine U_nil ?_|refine UC_sq ?_|refine UC_rg ?_|refine UC_sk ?_|refine X_nx ?_|refine B_nx ?_|((first|refine U_q (v:=?_) ?h1 ?_|refine U_ld (v:=?_) ?h1 ?_);case h1=>((try simp only[s13,r22,q23,gN,hjp,hjl,hw2,Int.toNat_natCast,Nat.zero_add,go_sem])<;>rfl))|(refine UC_cdf ?h1 ?_;case h1=>((try simp only[s13,r22,q23,gN,hjp,hjl,hw2,Int.toNat_natCast,Nat.zero_add,go_sem])<;>rfl)))))
        exact⟨r' - 1,by omega,j+1,_,by omega,hQ1,Z1 r2,Z1 r3,Z0,by (repeat first|with_reducible assumption|refine .up rfl ?_|refine .sw rfl ?_|refine .swN rfl ?_),Z1 s11,by (repeat first|with_reducible assumption|refine .up rfl ?_|refine .sw rfl ?_|refine .swN rfl ?_),Z1 s12,by (repeat first|with_reducible assumption|refine .up rfl ?_|refine .sw rfl ?_|refine .swN rfl ?_),Z1 s13,by (repeat first|with_reducible assumption|refine .up rfl ?_|refine .sw rfl ?_|refine .swN rfl ?_),Z1 r21,Z0,Z1 t3⟩
       | false =>
        rw[if_neg (by decide),List.append_nil] at hQ1;(repeat (with_reducible (first|refine U_nil ?_|refine UC_sq ?_|refine UC_rg ?_|refine UC_ex ?_|refine X_nx ?_|((first|refine U_q (v:=?_) ?h1 ?_|refine U_ld (v:=?_) ?h1 ?_|refine UC_cdt ?h1 ?_);case h1=>((try simp only[s13,r22,q23,gN,hjp,hjl,hw2,Int.toNat_natCast,Nat.zero_add,go_sem])<;>rfl)))));rw[← hQ1]
        exact⟨rfl,Z1 r2,Z1 r3,Z0,by (repeat first|with_reducible assumption|refine .up rfl ?_|refine .sw rfl ?_|refine .swN rfl ?_),Z1 s11,by (repeat first|with_reducible assumption|refine .up rfl ?_|refine .sw rfl ?_|refine .swN rfl ?_),Z1 s12,by (repeat first|with_reducible assumption|refine .up rfl ?_|refine .sw rfl ?_|refine .swN rfl ?_),Z1 s13,by (repeat first|with_reducible assumption|refine .up rfl ?_|refine .sw rfl ?_|refine .swN rfl ?_),Z1 r21,Z1 t3⟩
      ·have hd2:decide ((j:Int) < (ps.length:Int))=false:=decide_eq_false (by omega);rw[List.drop_eq_nil_of_le (by omega),crR,List.append_nil] at hQ1;rw[← hQ1];(repeat (with_reducible (first|refine U_nil ?_|refine UC_sq ?_|refine UC_rg ?_|refine UC_ex ?_|refine X_nx ?_|refine X_ex ?_|((first|refine U_q (v:=?_) ?h1 ?_|refine U_ld (v:=?_) ?h1 ?_);case h1=>((try simp only[h5,r3,r22,o3,hd2,List.length_map,go_sem])<;>rfl))|(refine UC_cdf ?h1 ?_;case h1=>((try simp only[h5,r3,r22,o3,hd2,List.length_map,go_sem])<;>rfl)))))
       exact⟨rfl,Z1 r2,Z1 r3,Z1 r7,by (repeat first|with_reducible assumption|refine .up rfl ?_|refine .sw rfl ?_|refine .swN rfl ?_),Z1 s11,by (repeat first|with_reducible assumption|refine .up rfl ?_|refine .sw rfl ?_|refine .swN rfl ?_),Z1 s12,by (repeat first|with_reducible assumption|refine .up rfl ?_|refine .sw rfl ?_|refine .swN rfl ?_),Z1 s13,by (repeat first|with_reducible assumption|refine .up rfl ?_|refine .sw rfl ?_|refine .swN rfl ?_),Z1 r21,Z1 o3⟩
     clear r2 r3 r7 ho7 s11 ho11 s12 ho12 s13 ho13 r21 o3;rintro e o ⟨r2,r3,r7,ho7,s11,ho11,s12,ho12,s13,ho13,r21,o3⟩;(repeat (with_reducible (first|refine U_nil ?_|refine UC_rg ?_|refine X_nx ?_|refine B_nx ?_|(refine U_q (v:=?_) ?h1 ?_;case h1=>((try simp only[r21,hw,go_sem])<;>rfl)))))
     exact⟨r - 1,by omega,i+1,_,by omega,by rw[List.append_assoc];exact hQ,Z1 r2,Z1 r3,Z1 r7,by (repeat first|with_reducible assumption|refine .up rfl ?_|refine .sw rfl ?_|refine .swN rfl ?_),Z1 s11,by (repeat first|with_reducible assumption|refine .up rfl ?_|refine .sw rfl ?_|refine .swN rfl ?_),Z1 s12,by (repeat first|with_reducible assumption|refine .up rfl ?_|refine .sw rfl ?_|refine .swN rfl ?_),Z1 s13,by (repeat first|with_reducible assumption|refine .up rfl ?_|refine .sw rfl ?_|refine .swN rfl ?_),Z0,Z1 o3⟩
    ·have hd:decide ((i:Int) < (ps.length:Int))=false:=decide_eq_false (by omega);rw[List.drop_eq_nil_of_le (by omega),crA,List.append_nil] at hQ;(repeat (with_reducible (first|refine U_nil ?_|refine UC_sq ?_|refine UC_rg ?_|refine UC_ex ?_|refine X_nx ?_|refine X_ex ?_|((first|refine U_q (v:=?_) ?h1 ?_|refine U_ld (v:=?_) ?h1 ?_);case h1=>((try simp only[h5,r3,r21,o3,hd,List.length_map,go_sem])<;>rfl))|((first|refine U_gs2 ?h1 ?_|refine UC_cdf ?h1 ?_);case h1=>((try simp only[h5,r3,r21,o3,hd,List.length_map,go_sem])<;>rfl))|rw[put_some])));rw[← hQ]
     exact⟨rfl,Z1 r7,by (repeat first|with_reducible assumption|refine .up rfl ?_|refine .sw rfl ?_|refine .swN rfl ?_)⟩
   clear r2 r3 r7 ho7 r10 s11 ho11 s12 ho12 s13 ho13 o3;rintro e o ⟨r7,ho7⟩;(repeat (with_reducible (first|refine U_nil ?_|refine UC_sq ?_|refine UC_rg ?_|refine UC_rt ?_|refine X_nx ?_|((first|refine U_q (v:=?_) ?h1 ?_|refine E_1 (v:=?_) ?h1 ?_);case h1=>((try simp only[r7,go_sem])<;>rfl)))));exact fz_eg ho7
  ·rw[if_neg hk2,List.append_nil];have e2:(k==2)=false:=by simpa using hk2
   have c:(k==4)=false∨((k==4)=true∧(hi != 1)=false):=by
    by_cases h4:k=4
    ·refine .inr ⟨by simpa using h4,?_⟩
     have:hi=1:=by
      by_cases h1:hi=1
      ·exact h1
      ·exact absurd ⟨h4,h1⟩ hk
     simp [this]
    ·exact .inl (by simpa using h4)
   rcases c with c|⟨c,c'⟩
   ·(repeat (with_reducible (first|refine U_nil ?_|refine UC_sq ?_|refine UC_rg ?_|refine UC_bk ?_|refine UC_sk ?_|refine X_nx ?_|((first|refine U_q (v:=?_) ?h1 ?_|refine U_ld (v:=?_) ?h1 ?_);case h1=>((try simp only[h0,c,r3,o3,go_sem])<;>rfl))|((first|refine U_gs2 ?h1 ?_|refine UC_cdf ?h1 ?_);case h1=>((try simp only[h0,c,r3,o3,go_sem])<;>rfl))|rw[put_some])));refine UC_cutx (fun e o=>e 7=ownV 20 4 ((edL ps b inn).map egC)∧Own o 20 4 ((edL ps b inn).map egC)) ?_ ?_
    ·refine U_lp (fun r e o=>e 3=.pt 3 0 0∧e 7=ownV 20 4 ((edL ps b inn).map egC)∧Own o 20 4 ((edL ps b inn).map egC)∧e 21=.i .i64 0∧o 3=some (.row 8 [cel a])) (k:=0) ?_ (Call_le F) ?_
     ·exact⟨Z1 r3,Z1 r7,by (repeat first|with_reducible assumption|refine .up rfl ?_|refine .sw rfl ?_|refine .swN rfl ?_),Z0,Z1 o3⟩
     clear r2 r3 r7 ho7 r10 r11 ho11 r12 ho12 r13 ho13 o3;rintro r e o ⟨r3,r7,ho7,r21,o3⟩;dsimp only[b15_2];by_cases hp0:0 < ps.length
     ·have hd:decide ((0:Int) < (ps.length:Int))=true:=decide_eq_true (by omega);(repeat (with_reducible (first|refine U_nil ?_|refine UC_sq ?_|refine UC_rg ?_|refine UC_ex ?_|refine X_nx ?_|refine X_ex ?_|((first|refine U_q (v:=?_) ?h1 ?_|refine U_ld (v:=?_) ?h1 ?_|refine U_gt ?h1 ?_);case h1=>((try simp only[h0,h5,e2,r3,r21,o3,hd,List.length_map,go_sem])<;>rfl))|(refine UC_cdf ?h1 ?_;case h1=>((try simp only[h0,h5,e2,r3,r21,o3,hd,List.length_map,go_sem])<;>rfl)))))
      exact⟨rfl,Z1 r7,by (repeat first|with_reducible assumption|refine .up rfl ?_|refine .sw rfl ?_|refine .swN rfl ?_)⟩
     ·have hd:decide ((0:Int) < (ps.length:Int))=false:=decide_eq_false (by omega);(repeat (with_reducible (first|refine U_nil ?_|refine UC_sq ?_|refine UC_rg ?_|refine UC_ex ?_|refine X_nx ?_|refine X_ex ?_|((first|refine U_q (v:=?_) ?h1 ?_|refine U_ld (v:=?_) ?h1 ?_);case h1=>((try simp only[h5,r3,r21,o3,hd,List.length_map,go_sem])<;>rfl))|((first|refine U_gs2 ?h1 ?_|refine UC_cdf ?h1 ?_);case h1=>((try simp only[h5,r3,r21,o3,hd,List.length_map,go_sem])<;>rfl))|rw[put_some])))
      exact⟨rfl,Z1 r7,by (repeat first|with_reducible assumption|refine .up rfl ?_|refine .sw rfl ?_|refine .swN rfl ?_)⟩
    clear r2 r3 r7 ho7 r10 r11 ho11 r12 ho12 r13 ho13 o3;rintro e o ⟨r7,ho7⟩;(repeat (with_reducible (first|refine U_nil ?_|refine UC_sq ?_|refine UC_rg ?_|refine UC_rt ?_|refine X_nx ?_|((first|refine U_q (v:=?_) ?h1 ?_|refine E_1 (v:=?_) ?h1 ?_);case h1=>((try simp only[r7,go_sem])<;>rfl)))));exact fz_eg ho7
   ·(repeat (with_reducible (first|refine U_nil ?_|refine UC_sq ?_|refine UC_rg ?_|refine UC_bk ?_|refine UC_sk ?_|refine X_nx ?_|((first|refine U_q (v:=?_) ?h1 ?_|refine U_ld (v:=?_) ?h1 ?_|refine U_gt ?h1 ?_);case h1=>((try simp only[h0,h7,c,c',r3,o3,go_sem])<;>rfl))|(refine UC_cdf ?h1 ?_;case h1=>((try simp only[h0,h7,c,c',r3,o3,go_sem])<;>rfl)))));refine UC_cutx (fun e o=>e 7=ownV 20 4 ((edL ps b inn).map egC)∧Own o 20 4 ((edL ps b inn).map egC)) ?_ ?_
    ·refine U_lp (fun r e o=>e 3=.pt 3 0 0∧e 7=ownV 20 4 ((edL ps b inn).map egC)∧Own o 20 4 ((edL ps b inn).map egC)∧e 21=.i .i64 0∧o 3=some (.row 8 [cel a])) (k:=0) ?_ (Call_le F) ?_
     ·exact⟨Z1 r3,Z1 r7,by (repeat first|with_reducible assumption|refine .up rfl ?_|refine .sw rfl ?_|refine .swN rfl ?_),Z0,Z1 o3⟩
     clear r2 r3 r7 ho7 r10 r11 ho11 r12 ho12 r13 ho13 o3;rintro r e o ⟨r3,r7,ho7,r21,o3⟩;dsimp only[b15_2];by_cases hp0:0 < ps.length
     ·have hd:decide ((0:Int) < (ps.length:Int))=true:=decide_eq_true (by omega);(repeat (with_reducible (first|refine U_nil ?_|refine UC_sq ?_|refine UC_rg ?_|refine UC_ex ?_|refine X_nx ?_|refine X_ex ?_|((first|refine U_q (v:=?_) ?h1 ?_|refine U_ld (v:=?_) ?h1 ?_|refine U_gt ?h1 ?_);case h1=>((try simp only[h0,h5,e2,r3,r21,o3,hd,List.length_map,go_sem])<;>rfl))|(refine UC_cdf ?h1 ?_;case h1=>((try simp only[h0,h5,e2,r3,r21,o3,hd,List.length_map,go_sem])<;>rfl)))))
      exact⟨rfl,Z1 r7,by (repeat first|with_reducible assumption|refine .up rfl ?_|refine .sw rfl ?_|refine .swN rfl ?_)⟩
     ·have hd:decide ((0:Int) < (ps.length:Int))=false:=decide_eq_false (by omega);(repeat (with_reducible (first|refine U_nil ?_|refine UC_sq ?_|refine UC_rg ?_|refine UC_ex ?_|refine X_nx ?_|refine X_ex ?_|((first|refine U_q (v:=?_) ?h1 ?_|refine U_ld (v:=?_) ?h1 ?_);case h1=>((try simp only[h5,r3,r21,o3,hd,List.length_map,go_sem])<;>rfl))|((first|refine U_gs2 ?h1 ?_|refine UC_cdf ?h1 ?_);case h1=>((try simp only[h5,r3,r21,o3,hd,List.length_map,go_sem])<;>rfl))|rw[put_some])))
      exact⟨rfl,Z1 r7,by (repeat first|with_reducible assumption|refine .up rfl ?_|refine .sw rfl ?_|refine .swN rfl ?_)⟩
    clear r2 r3 r7 ho7 r10 r11 ho11 r12 ho12 r13 ho13 o3;rintro e o ⟨r7,ho7⟩;(repeat (with_reducible (first|refine U_nil ?_|refine UC_sq ?_|refine UC_rg ?_|refine UC_rt ?_|refine X_nx ?_|((first|refine U_q (v:=?_) ?h1 ?_|refine E_1 (v:=?_) ?h1 ?_);case h1=>((try simp only[r7,go_sem])<;>rfl)))));exact fz_eg ho7
end Go.Proofs.Ytgiedknghbpdfaa
