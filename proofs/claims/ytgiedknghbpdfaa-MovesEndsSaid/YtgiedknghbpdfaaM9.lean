import Derived.Test.YtgiedknghbpdfaaM8

namespace Go.Proofs.Ytgiedknghbpdfaa
set_option linter.all false
attribute [-go_sem] swpOb renOb rfOb V.cells
theorem Nullable_pu (n:Nd) (h:okN n):Pu F 50 [.ag (cel n)] (.bo (nullB n)):=by
 have hf:Pu F 43 [.ag (cel n)] (.bo (formed n)):=formed_ok n h.1 emp _ (fun _=>rfl)
 rw[h.2] at hf
 have hs:=null_pu n h.1 h.2
 refine U_pure e50 rfl rfl (by simp only[go_sem,Bool.and_true]) ?_
 dsimp only[fn50,c50]
 (repeat' (first|(with_reducible (first|refine U_nil ?_|refine UC_sq ?_|refine UC_rg ?_|refine UC_rt ?_|refine X_nx ?_|((first|refine U_q (v:=?_) ?h1 ?_|refine U_ld (v:=?_) ?h1 ?_|refine E_1 (v:=?_) ?h1 ?_);case h1=>((try simp only[go_sem])<;>rfl))|(refine U_box (cs:=?_) (cs':=?_) (n:=?_) ?h1 ?h2 ?h3 ?h4 ?_;case h1|h2|h3|h4=>((try simp only[go_sem])<;>rfl))|(refine U_gt ?h1 ?_;case h1=>((try simp only[go_sem])<;>rfl))))|((with_reducible refine U_pc (g:=43) (r:=.bo true) (vs:=?_) (ws:=?_) ?h1 ?h2 ?h3 ?h4 ?h5 ?_);(case h1=>((try simp only[go_sem])<;>rfl));(case h2=>refine fzsU_ok ?_;first|rfl|simp only[List.all_cons,List.all_nil,Bool.and_true,go_sem]);(case h5=>exact hf);(case h3=>first|exact Bool.or_eq_true_iff.2 (.inr rfl)|(refine Bool.or_eq_true_iff.2 (.inl ?_);simp only[clos,List.all_cons,List.all_nil,Bool.and_true,go_sem]));(case h4=>first|rfl|simp only[go_sem,Bool.and_true]))|((with_reducible refine U_pc (g:=79) (r:=.bo (nullB n)) (vs:=?_) (ws:=?_) ?h1 ?h2 ?h3 ?h4 ?h5 ?_);(case h1=>((try simp only[go_sem])<;>rfl));(case h2=>refine fzsU_ok ?_;first|rfl|simp only[List.all_cons,List.all_nil,Bool.and_true,go_sem]);(case h5=>exact hs);(case h3=>first|exact Bool.or_eq_true_iff.2 (.inr rfl)|(refine Bool.or_eq_true_iff.2 (.inl ?_);simp only[clos,List.all_cons,List.all_nil,Bool.and_true,go_sem]));(case h4=>first|rfl|simp only[go_sem,Bool.and_true]))|with_reducible (refine U_gb (q:=?_) ?h1 (fun _=>?_) (fun _=>?_);case h1=>((try simp only[go_sem])<;>rfl))|with_reducible (refine UC_cdb (q:=?_) ?h1 (fun _=>?_) (fun _=>?_);case h1=>((try simp only[go_sem])<;>rfl))))
 exact fz_of rfl rfl
theorem times_gen (s:Nat→Nat) (p:Nd) (lo hi:Int) (ih:WG p) (hk:okN (.mk 4 s [p] lo hi)) (sc nx:Nat) (L:List (Eg × Int)) (hsc:sc+cntN (.mk 4 s [p] lo hi)≤1000) (hnx:nx+cntN (.mk 4 s [p] lo hi)≤1000) :
  GWk 35 (.ag (cel (.mk 4 s [p] lo hi))) sc nx L (wk (.mk 4 s [p] lo hi) sc nx L):=by
 have hC:=counts_pu 4 s [p] lo hi
 have hN:=Nullable_pu _ hk
 generalize hnb:nullB (.mk 4 s [p] lo hi)=nb at hN
 have hwk:wk (.mk 4 s [p] lo hi) sc nx L=⟨(wk p (if cnts 4 lo hi then sc+1 else sc) nx L).first,(wk p (if cnts 4 lo hi then sc+1 else sc) nx L).last,nb,(wk p (if cnts 4 lo hi then sc+1 else sc) nx L).next,if hi=1 then (wk p (if cnts 4 lo hi then sc+1 else sc) nx L).L else lnk (wk p (if cnts 4 lo hi then sc+1 else sc) nx L).last (wk p (if cnts 4 lo hi then sc+1 else sc) nx L).first sc (cnts 4 lo hi) (wk p (if cnts 4 lo hi then sc+1 else sc) nx L).L⟩:=by
  rw[wk,if_neg (by decide),if_neg (by decide),if_neg (by decide),if_pos rfl,hnb];rfl
 rw[hwk]
 simp only[cntN,cntL] at hsc hnx
 generalize hcn:cnts 4 lo hi=cn at hC hwk ⊢
 have hz:(if cn then sc+1 else sc)+cntN p≤1000:=by split<;>omega
 obtain⟨w1,w2,w3,w4⟩:=wk_len p (if cn then sc+1 else sc) nx L
 have hW:=ih (if cn then sc+1 else sc) nx L hz (by omega)
 generalize hx:wk p (if cn then sc+1 else sc) nx L=x at hW w1 w2 w3 w4 ⊢
 clear hwk
 generalize low1 lo=l1 at hC
 rw[cel_mk] at hC hN ⊢
 simp only[scC] at hC
 refine U_gfo e35 rfl rfl (by simp [domA]) (by simp) (by simp) (by simp [domA]) fun o hb ho=>?_
 dsimp only[fn35,c35]
 have hb0:=hb _ (List.mem_cons_self ..)
 have hb1:=hb (1000001,egM L) (by simp)
 dsimp only[rcM] at hb0 hb1
 clear hb ho
 simp only[nd8,List.map_cons,List.map_nil] at hC hN ⊢
 have hw:IntKind.i64.wrap ((sc:Int)+1)=((sc+1:Nat):Int):=by rw[wrap_i64 (by omega) (by omega)];rfl
 (repeat' (first|(with_reducible (first|refine U_nil ?_|refine UC_sq ?_|refine UC_rg ?_|refine UC_sk ?_|refine X_nx ?_|((first|refine U_q (v:=?_) ?h1 ?_|refine U_ld (v:=?_) ?h1 ?_|refine U_alc (n:=?_) ?h1 ?_);case h1=>((try simp only[hw,go_sem])<;>rfl))|(refine U_box (cs:=?_) (cs':=?_) (n:=?_) ?h1 ?h2 ?h3 ?h4 ?_;case h1|h2|h3|h4=>((try simp only[hw,go_sem])<;>rfl))|(refine U_sto (id:=?_) (i:=?_) (j:=?_) (q:=?_) (es:=?_) (cs:=?_) (vs:=?_) (es':=?_) ?h1 ?h2 ?h3 ?h4 ?h5 ?h6 ?h7 ?_;case h1|h2|h3|h4|h5|h6|h7=>((try simp only[hw,go_sem])<;>rfl))))|((with_reducible refine U_pc (g:=46) (r:=.tp [.ag [.i .i64 l1,.i .i64 hi],.bo cn]) (vs:=?_) (ws:=?_) ?h1 ?h2 ?h3 ?h4 ?h5 ?_);(case h1=>((try simp only[hw,go_sem])<;>rfl));(case h2=>refine fzsU_ok ?_;first|rfl|simp only[List.all_cons,List.all_nil,Bool.and_true,go_sem]);(case h5=>exact hC);(case h3=>first|exact Bool.or_eq_true_iff.2 (.inr rfl)|(refine Bool.or_eq_true_iff.2 (.inl ?_);simp only[clos,List.all_cons,List.all_nil,Bool.and_true,go_sem]));(case h4=>first|rfl|simp only[go_sem,Bool.and_true]))|with_reducible (refine U_gb (q:=?_) ?h1 (fun _=>?_) (fun _=>?_);case h1=>((try simp only[hw,go_sem])<;>rfl))|with_reducible (refine UC_cdb (q:=?_) ?h1 (fun _=>?_) (fun _=>?_);case h1=>((try simp only[hw,go_sem])<;>rfl))))
 all_goals
  rename_i hcv
  subst hcv
  simp only[if_true,Bool.false_eq_true,if_false] at hW hz
  refine U_walk hW (by simp only[go_sem]) (by simp only[go_sem]) (by simp only[hb0,rcM,go_sem]) (by simp only[hb1,go_sem]) fun o1 g0 g1 g2 g3 g4=>?_
  have k6:o1 6=some (.row 3 [[.nil,.nil,.bo false]]):=by rw[g4 6 (by decide) (by decide) (by decide) (by decide)];simp only[go_sem]
  have k4:o1 4=some (.row 8 [[.i .i64 4,.i .u64 (s 0),.i .u64 (s 1),.i .u64 (s 2),.i .u64 (s 3),.sl [cel p],.i .i64 lo,.i .i64 hi]]):=by rw[g4 4 (by decide) (by decide) (by decide) (by decide)];simp only[go_sem]
  clear g4 hb0 hb1
  (repeat (with_reducible (first|refine U_nil ?_|refine UC_sq ?_|refine UC_rg ?_|refine X_nx ?_|((first|refine U_q (v:=?_) ?h1 ?_|refine U_ld (v:=?_) ?h1 ?_|refine U_alc (n:=?_) ?h1 ?_);case h1=>((try simp only[k4,k6,go_sem])<;>rfl))|(refine U_sto (id:=?_) (i:=?_) (j:=?_) (q:=?_) (es:=?_) (cs:=?_) (vs:=?_) (es':=?_) ?h1 ?h2 ?h3 ?h4 ?h5 ?h6 ?h7 ?_;case h1|h2|h3|h4|h5|h6|h7=>((try simp only[k4,k6,go_sem])<;>rfl)))))
  refine UC_cdb (q:=hi != 1) (by simp only[go_sem]) (fun hc=>?_) (fun hc=>?_)
  ·have hc:hi≠1:=by simpa using hc
   simp only[if_neg hc]
   (repeat (with_reducible (first|refine UC_rg ?_|((first|refine U_q (v:=?_) ?h1 ?_|refine U_ld (v:=?_) ?h1 ?_);case h1=>((try simp only[k4,k6,go_sem])<;>rfl)))))
   refine U_link 2001 2000 (fr:=x.last) (to:=x.first) (L:=x.L) (next:=x.next) (keep:=sc) (by omega) (by omega) (by decide) (by decide) (by decide) (by (simp only[go_sem]<;>rfl)) (by simp only[g0,go_sem]) (by simp only[g1,go_sem]) (by (repeat (first|with_reducible assumption|with_reducible exact Ow1.to|((with_reducible first|refine Ow1.up ?hh ?_|refine Ow1.sw ?hh ?_|refine Ow1.swN ?hh ?_);(case hh=>rfl))))) (by (repeat (first|with_reducible assumption|with_reducible exact Ow1.to|((with_reducible first|refine Ow1.up ?hh ?_|refine Ow1.sw ?hh ?_|refine Ow1.swN ?hh ?_);(case hh=>rfl))))) fun o2 l0 l1 l2 l3 l4=>?_
   have q6:o2 6=some (.row 3 [[.nil,.nil,.bo false]]):=by rw[l4 6 (by decide) (by decide) (by decide) (by decide)];simp only[k6,go_sem]
   have q4:o2 4=some (.row 8 [[.i .i64 4,.i .u64 (s 0),.i .u64 (s 1),.i .u64 (s 2),.i .u64 (s 3),.sl [cel p],.i .i64 lo,.i .i64 hi]]):=by rw[l4 4 (by decide) (by decide) (by decide) (by decide)];simp only[k4,go_sem]
   have q10:o2 10=some (.row 3 [[ownV 2000 1 (x.first.map inC),ownV 2001 1 (x.last.map inC),.bo x.empty]]):=by rw[l4 10 (by decide) (by decide) (by decide) (by decide)];simp only[go_sem]
   (repeat' (first|(with_reducible (first|refine U_nil ?_|refine UC_sq ?_|refine UC_rg ?_|refine UC_rt ?_|refine X_nx ?_|((first|refine U_q (v:=?_) ?h1 ?_|refine U_ld (v:=?_) ?h1 ?_|refine E_1 (v:=?_) ?h1 ?_);case h1=>((try simp only[q4,q6,q10,go_sem])<;>rfl))|(refine U_sto (id:=?_) (i:=?_) (j:=?_) (q:=?_) (es:=?_) (cs:=?_) (vs:=?_) (es':=?_) ?h1 ?h2 ?h3 ?h4 ?h5 ?h6 ?h7 ?_;case h1|h2|h3|h4|h5|h6|h7=>((try simp only[q4,q6,q10,go_sem])<;>rfl))))|((with_reducible refine U_pc (g:=50) (r:=.bo nb) (vs:=?_) (ws:=?_) ?h1 ?h2 ?h3 ?h4 ?h5 ?_);(case h1=>((try simp only[q4,q6,q10,go_sem])<;>rfl));(case h2=>refine fzsU_ok ?_;first|rfl|simp only[List.all_cons,List.all_nil,Bool.and_true,go_sem]);(case h5=>exact hN);(case h3=>first|exact Bool.or_eq_true_iff.2 (.inr rfl)|(refine Bool.or_eq_true_iff.2 (.inl ?_);simp only[clos,List.all_cons,List.all_nil,Bool.and_true,go_sem]));(case h4=>first|rfl|simp only[go_sem,Bool.and_true]))|with_reducible (refine U_gb (q:=?_) ?h1 (fun _=>?_) (fun _=>?_);case h1=>((try simp only[q4,q6,q10,go_sem])<;>rfl))|with_reducible (refine UC_cdb (q:=?_) ?h1 (fun _=>?_) (fun _=>?_);case h1=>((try simp only[q4,q6,q10,go_sem])<;>rfl))))
   refine wk_fin (q:=⟨x.first,x.last,nb,x.next,_⟩) (s:=2000) (t:=2001) (nx:=nx) (by omega) (by omega) (by omega) ?_ ?_ ?_ ?_ ?_
   ·simp only[go_sem]
   ·simp only[l0,rcM,go_sem]
   ·(simp only[l1,go_sem]<;>rfl)
   ·dsimp only;(repeat (first|with_reducible assumption|with_reducible exact Ow1.to|((with_reducible first|refine Ow1.up ?hh ?_|refine Ow1.sw ?hh ?_|refine Ow1.swN ?hh ?_);(case hh=>rfl))))
   ·dsimp only;(repeat (first|with_reducible assumption|with_reducible exact Ow1.to|((with_reducible first|refine Ow1.up ?hh ?_|refine Ow1.sw ?hh ?_|refine Ow1.swN ?hh ?_);(case hh=>rfl))))
  ·have hc:hi=1:=by simpa using hc
   subst hc
   simp only[if_true]
   (repeat' (first|(with_reducible (first|refine U_nil ?_|refine UC_sq ?_|refine UC_rg ?_|refine UC_sk ?_|refine UC_rt ?_|refine X_nx ?_|((first|refine U_q (v:=?_) ?h1 ?_|refine U_ld (v:=?_) ?h1 ?_|refine E_1 (v:=?_) ?h1 ?_);case h1=>((try simp only[k4,k6,go_sem])<;>rfl))|(refine U_sto (id:=?_) (i:=?_) (j:=?_) (q:=?_) (es:=?_) (cs:=?_) (vs:=?_) (es':=?_) ?h1 ?h2 ?h3 ?h4 ?h5 ?h6 ?h7 ?_;case h1|h2|h3|h4|h5|h6|h7=>((try simp only[k4,k6,go_sem])<;>rfl))))|((with_reducible refine U_pc (g:=50) (r:=.bo nb) (vs:=?_) (ws:=?_) ?h1 ?h2 ?h3 ?h4 ?h5 ?_);(case h1=>((try simp only[k4,k6,go_sem])<;>rfl));(case h2=>refine fzsU_ok ?_;first|rfl|simp only[List.all_cons,List.all_nil,Bool.and_true,go_sem]);(case h5=>exact hN);(case h3=>first|exact Bool.or_eq_true_iff.2 (.inr rfl)|(refine Bool.or_eq_true_iff.2 (.inl ?_);simp only[clos,List.all_cons,List.all_nil,Bool.and_true,go_sem]));(case h4=>first|rfl|simp only[go_sem,Bool.and_true]))|with_reducible (refine U_gb (q:=?_) ?h1 (fun _=>?_) (fun _=>?_);case h1=>((try simp only[k4,k6,go_sem])<;>rfl))|with_reducible (refine UC_cdb (q:=?_) ?h1 (fun _=>?_) (fun _=>?_);case h1=>((try simp only[k4,k6,go_sem])<;>rfl))))
   refine wk_fin (q:=⟨x.first,x.last,nb,x.next,x.L⟩) (s:=2000) (t:=2001) (nx:=nx) (by omega) (by omega) (by omega) ?_ ?_ ?_ ?_ ?_
   ·simp only[go_sem]
   ·simp only[g0,rcM,go_sem]
   ·simp only[g1,go_sem]
   ·dsimp only;(repeat (first|with_reducible assumption|with_reducible exact Ow1.to|((with_reducible first|refine Ow1.up ?hh ?_|refine Ow1.sw ?hh ?_|refine Ow1.swN ?hh ?_);(case hh=>rfl))))
   ·dsimp only;(repeat (first|with_reducible assumption|with_reducible exact Ow1.to|((with_reducible first|refine Ow1.up ?hh ?_|refine Ow1.sw ?hh ?_|refine Ow1.swN ?hh ?_);(case hh=>rfl))))
theorem wk_set (s:Nat→Nat) (lo hi:Int) (ps:List Nd) (sc nx:Nat) (L:List (Eg × Int)) (hnx:nx≤1000):GWk 20 (.ag (cel (.mk 1 s ps lo hi))) sc nx L (wk (.mk 1 s ps lo hi) sc nx L):=by
 have hE:=empty_pu s
 rw[wk,if_pos rfl]
 generalize emptyS s=es at hE ⊢
 rw[cel_mk]
 simp only[u4,nd8] at hE ⊢
 refine U_gfo e20 rfl rfl (by simp [domA]) (by simp) (by simp) (by simp [domA]) fun o hb ho=>?_
 dsimp only[fn20,c20]
 have hb0:=hb _ (List.mem_cons_self ..)
 have hb1:=hb (1000001,egM L) (by simp)
 dsimp only[rcM] at hb0 hb1
 clear hb ho
 have hw:IntKind.i64.wrap ((nx:Int)+1)=((nx+1:Nat):Int):=by rw[wrap_i64 (by omega) (by omega)];rfl
 (repeat' (first|(with_reducible (first|refine U_nil ?_|refine UC_sq ?_|refine UC_rg ?_|refine UC_bk ?_|refine UC_sk ?_|refine UC_rt ?_|refine X_nx ?_|refine X_rt ?_|refine B_rt ?_|((first|refine U_q (v:=?_) ?h1 ?_|refine U_ld (v:=?_) ?h1 ?_|refine E_1 (v:=?_) ?h1 ?_|refine U_alc (n:=?_) ?h1 ?_);case h1=>((try simp only[hb0,hw,go_sem])<;>rfl))|(refine U_box (cs:=?_) (cs':=?_) (n:=?_) ?h1 ?h2 ?h3 ?h4 ?_;case h1|h2|h3|h4=>((try simp only[hb0,hw,go_sem])<;>rfl))|(refine U_sto (id:=?_) (i:=?_) (j:=?_) (q:=?_) (es:=?_) (cs:=?_) (vs:=?_) (es':=?_) ?h1 ?h2 ?h3 ?h4 ?h5 ?h6 ?h7 ?_;case h1|h2|h3|h4|h5|h6|h7=>((try simp only[hb0,hw,go_sem])<;>rfl))|(refine U_bsl (es:=?_) (es':=?_) ?h1 ?h2 ?h3 ?_;case h1|h2|h3=>((try simp only[hb0,hw,go_sem])<;>rfl))|(refine UC_cdt ?h1 ?_;case h1=>((try simp only[hb0,hw,go_sem])<;>rfl))))|((with_reducible refine U_pc (g:=32) (r:=.bo es) (vs:=?_) (ws:=?_) ?h1 ?h2 ?h3 ?h4 ?h5 ?_);(case h1=>((try simp only[hb0,hw,go_sem])<;>rfl));(case h2=>refine fzsU_ok ?_;first|rfl|simp only[List.all_cons,List.all_nil,Bool.and_true,go_sem]);(case h5=>exact hE);(case h3=>first|exact Bool.or_eq_true_iff.2 (.inr rfl)|(refine Bool.or_eq_true_iff.2 (.inl ?_);simp only[clos,List.all_cons,List.all_nil,Bool.and_true,go_sem]));(case h4=>first|rfl|simp only[go_sem,Bool.and_true]))|with_reducible (refine U_gb (q:=?_) ?h1 (fun _=>?_) (fun _=>?_);case h1=>((try simp only[hb0,hw,go_sem])<;>rfl))|with_reducible (refine UC_cdb (q:=?_) ?h1 (fun _=>?_) (fun _=>?_);case h1=>((try simp only[hb0,hw,go_sem])<;>rfl))))
 all_goals
  rename_i hcv
  subst hcv
  simp only[if_true,Bool.false_eq_true,if_false]
 ·refine wk_fin (q:=⟨[],[],false,nx,L⟩) (s:=26) (t:=31) (nx:=nx) (by omega) (by omega) (by omega) ?_ ?_ ?_ ?_ ?_
  ·simp only[List.map_nil,ownV_nil,go_sem]
  ·simp only[hb0,rcM,go_sem]
  ·simp only[hb1,go_sem]
  ·exact fun h=>absurd rfl h
  ·exact fun h=>absurd rfl h
 ·refine wk_fin (q:=⟨[nx+1],[nx+1],false,nx+1,L⟩) (s:=26) (t:=31) (nx:=nx) (by omega) (by omega) (by omega) ?_ ?_ ?_ ?_ ?_
  ·(simp only[inC,go_sem]<;>rfl)
  ·simp only[hb0,rcM,go_sem]
  ·simp only[hb1,go_sem]
  ·intro _;simp only[inC,go_sem]
  ·intro _;simp only[inC,go_sem]
theorem wk_oth (k:Int) (hk:k=2∨k=3∨k=4) (s:Nat→Nat) (lo hi:Int) (ps:List Nd) (sc nx:Nat) (L:List (Eg × Int)) (q:Nds)
  (h2:k=2→GWk 33 (.sl (ps.map cel)) sc nx L q) (h3:k=3→GWk 34 (.sl (ps.map cel)) sc nx L q) (h4:k=4→GWk 35 (.ag (cel (.mk k s ps lo hi))) sc nx L q):GWk 20 (.ag (cel (.mk k s ps lo hi))) sc nx L q:=by
 rw[cel_mk] at h4 ⊢
 simp only[nd8] at h4 ⊢
 refine U_gfo e20 rfl rfl (by simp [domA]) (by simp) (by simp) (by simp [domA]) fun o hb ho=>?_
 dsimp only[fn20,c20]
 have hb0:=hb _ (List.mem_cons_self ..)
 have hb1:=hb (1000001,egM L) (by simp)
 dsimp only[rcM] at hb0 hb1
 clear hb ho
 rcases hk with rfl|rfl|rfl
 ·(repeat (with_reducible (first|refine U_nil ?_|refine UC_sq ?_|refine UC_rg ?_|refine UC_bk ?_|refine X_nx ?_|((first|refine U_q (v:=?_) ?h1 ?_|refine U_ld (v:=?_) ?h1 ?_|refine U_alc (n:=?_) ?h1 ?_);case h1=>((try simp only[go_sem])<;>rfl))|(refine U_box (cs:=?_) (cs':=?_) (n:=?_) ?h1 ?h2 ?h3 ?h4 ?_;case h1|h2|h3|h4=>((try simp only[go_sem])<;>rfl))|(refine UC_cdt ?h1 ?_;case h1=>((try simp only[go_sem])<;>rfl))|(refine UC_cdf ?h1 ?_;case h1=>((try simp only[go_sem])<;>rfl)))))
  refine U_walk (h2 rfl) (by simp only[go_sem]) (by simp only[go_sem]) (by simp only[hb0,rcM,go_sem]) (by simp only[hb1,go_sem]) fun o1 g0 g1 g2 g3 g4=>?_
  have k6:o1 6=some (.row 3 [[.nil,.nil,.bo false]]):=by rw[g4 6 (by decide) (by decide) (by decide) (by decide)];simp only[go_sem]
  (repeat (with_reducible (first|refine U_nil ?_|refine UC_rt ?_|refine X_nx ?_|refine X_rt ?_|refine B_rt ?_|(refine E_1 (v:=?_) ?h1 ?_;case h1=>((try simp only[k6,go_sem])<;>rfl))|(refine U_sto (id:=?_) (i:=?_) (j:=?_) (q:=?_) (es:=?_) (cs:=?_) (vs:=?_) (es':=?_) ?h1 ?h2 ?h3 ?h4 ?h5 ?h6 ?h7 ?_;case h1|h2|h3|h4|h5|h6|h7=>((try simp only[k6,go_sem])<;>rfl)))))
  refine wk_fin (s:=2000) (t:=2001) (nx:=nx) (by omega) (by omega) (by omega) ?_ ?_ ?_ ?_ ?_
  ·simp only[go_sem]
  ·simp only[g0,rcM,go_sem]
  ·simp only[g1,go_sem]
  ·(repeat (first|with_reducible assumption|with_reducible exact Ow1.to|((with_reducible first|refine Ow1.up ?hh ?_|refine Ow1.sw ?hh ?_|refine Ow1.swN ?hh ?_);(case hh=>rfl))))
  ·(repeat (first|with_reducible assumption|with_reducible exact Ow1.to|((with_reducible first|refine Ow1.up ?hh ?_|refine Ow1.sw ?hh ?_|refine Ow1.swN ?hh ?_);(case hh=>rfl))))
 ·(repeat (with_reducible (first|refine U_nil ?_|refine UC_sq ?_|refine UC_rg ?_|refine UC_bk ?_|refine X_nx ?_|((first|refine U_q (v:=?_) ?h1 ?_|refine U_ld (v:=?_) ?h1 ?_|refine U_alc (n:=?_) ?h1 ?_);case h1=>((try simp only[go_sem])<;>rfl))|(refine U_box (cs:=?_) (cs':=?_) (n:=?_) ?h1 ?h2 ?h3 ?h4 ?_;case h1|h2|h3|h4=>((try simp only[go_sem])<;>rfl))|(refine UC_cdt ?h1 ?_;case h1=>((try simp only[go_sem])<;>rfl))|(refine UC_cdf ?h1 ?_;case h1=>((try simp only[go_sem])<;>rfl)))))
  refine U_walk (h3 rfl) (by simp only[go_sem]) (by simp only[go_sem]) (by simp only[hb0,rcM,go_sem]) (by simp only[hb1,go_sem]) fun o1 g0 g1 g2 g3 g4=>?_
  have k6:o1 6=some (.row 3 [[.nil,.nil,.bo false]]):=by rw[g4 6 (by decide) (by decide) (by decide) (by decide)];simp only[go_sem]
  (repeat (with_reducible (first|refine U_nil ?_|refine UC_rt ?_|refine X_nx ?_|refine X_rt ?_|refine B_rt ?_|(refine E_1 (v:=?_) ?h1 ?_;case h1=>((try simp only[k6,go_sem])<;>rfl))|(refine U_sto (id:=?_) (i:=?_) (j:=?_) (q:=?_) (es:=?_) (cs:=?_) (vs:=?_) (es':=?_) ?h1 ?h2 ?h3 ?h4 ?h5 ?h6 ?h7 ?_;case h1|h2|h3|h4|h5|h6|h7=>((try simp only[k6,go_sem])<;>rfl)))))
  refine wk_fin (s:=2000) (t:=2001) (nx:=nx) (by omega) (by omega) (by omega) ?_ ?_ ?_ ?_ ?_
  ·simp only[go_sem]
  ·simp only[g0,rcM,go_sem]
  ·simp only[g1,go_sem]
  ·(repeat (first|with_reducible assumption|with_reducible exact Ow1.to|((with_reducible first|refine Ow1.up ?hh ?_|refine Ow1.sw ?hh ?_|refine Ow1.swN ?hh ?_);(case hh=>rfl))))
  ·(repeat (first|with_reducible assumption|with_reducible exact Ow1.to|((with_reducible first|refine Ow1.up ?hh ?_|refine Ow1.sw ?hh ?_|refine Ow1.swN ?hh ?_);(case hh=>rfl))))
 ·(repeat (with_reducible (first|refine U_nil ?_|refine UC_sq ?_|refine UC_rg ?_|refine UC_bk ?_|refine X_nx ?_|((first|refine U_q (v:=?_) ?h1 ?_|refine U_ld (v:=?_) ?h1 ?_|refine U_alc (n:=?_) ?h1 ?_);case h1=>((try simp only[go_sem])<;>rfl))|(refine U_box (cs:=?_) (cs':=?_) (n:=?_) ?h1 ?h2 ?h3 ?h4 ?_;case h1|h2|h3|h4=>((try simp only[go_sem])<;>rfl))|(refine UC_cdt ?h1 ?_;case h1=>((try simp only[go_sem])<;>rfl))|(refine UC_cdf ?h1 ?_;case h1=>((try simp only[go_sem])<;>rfl)))))
  refine U_walk (h4 rfl) (by simp only[go_sem]) (by simp only[go_sem,Bool.and_true]) (by simp only[hb0,rcM,go_sem]) (by simp only[hb1,go_sem]) fun o1 g0 g1 g2 g3 g4=>?_
  have k6:o1 6=some (.row 3 [[.nil,.nil,.bo false]]):=by rw[g4 6 (by decide) (by decide) (by decide) (by decide)];simp only[go_sem]
  (repeat (with_reducible (first|refine U_nil ?_|refine UC_rt ?_|refine X_nx ?_|refine X_rt ?_|refine B_rt ?_|(refine E_1 (v:=?_) ?h1 ?_;case h1=>((try simp only[k6,go_sem])<;>rfl))|(refine U_sto (id:=?_) (i:=?_) (j:=?_) (q:=?_) (es:=?_) (cs:=?_) (vs:=?_) (es':=?_) ?h1 ?h2 ?h3 ?h4 ?h5 ?h6 ?h7 ?_;case h1|h2|h3|h4|h5|h6|h7=>((try simp only[k6,go_sem])<;>rfl)))))
  refine wk_fin (s:=2000) (t:=2001) (nx:=nx) (by omega) (by omega) (by omega) ?_ ?_ ?_ ?_ ?_
  ·simp only[go_sem]
  ·simp only[g0,rcM,go_sem]
  ·simp only[g1,go_sem]
  ·(repeat (first|with_reducible assumption|with_reducible exact Ow1.to|((with_reducible first|refine Ow1.up ?hh ?_|refine Ow1.sw ?hh ?_|refine Ow1.swN ?hh ?_);(case hh=>rfl))))
  ·(repeat (first|with_reducible assumption|with_reducible exact Ow1.to|((with_reducible first|refine Ow1.up ?hh ?_|refine Ow1.sw ?hh ?_|refine Ow1.swN ?hh ?_);(case hh=>rfl))))
theorem wk_none (s:Nat→Nat) (lo hi:Int) (ps:List Nd) (sc nx:Nat) (L:List (Eg × Int)):GWk 20 (.ag (cel (.mk 0 s ps lo hi))) sc nx L ⟨[],[],true,nx,L⟩:=by
 rw[cel_mk]
 simp only[nd8]
 refine U_gfo e20 rfl rfl (by simp [domA]) (by simp) (by simp) (by simp [domA]) fun o hb ho=>?_
 dsimp only[fn20,c20]
 have hb0:=hb _ (List.mem_cons_self ..)
 have hb1:=hb (1000001,egM L) (by simp)
 dsimp only[rcM] at hb0 hb1
 clear hb ho
 (repeat (with_reducible (first|refine U_nil ?_|refine UC_sq ?_|refine UC_rg ?_|refine UC_bk ?_|refine UC_sk ?_|refine UC_rt ?_|refine X_nx ?_|refine B_nx ?_|((first|refine U_q (v:=?_) ?h1 ?_|refine U_ld (v:=?_) ?h1 ?_|refine E_1 (v:=?_) ?h1 ?_|refine U_alc (n:=?_) ?h1 ?_);case h1=>((try simp only[go_sem])<;>rfl))|(refine U_box (cs:=?_) (cs':=?_) (n:=?_) ?h1 ?h2 ?h3 ?h4 ?_;case h1|h2|h3|h4=>((try simp only[go_sem])<;>rfl))|(refine U_sto (id:=?_) (i:=?_) (j:=?_) (q:=?_) (es:=?_) (cs:=?_) (vs:=?_) (es':=?_) ?h1 ?h2 ?h3 ?h4 ?h5 ?h6 ?h7 ?_;case h1|h2|h3|h4|h5|h6|h7=>((try simp only[go_sem])<;>rfl))|(refine UC_cdf ?h1 ?_;case h1=>((try simp only[go_sem])<;>rfl)))))
 refine wk_fin (q:=⟨[],[],true,nx,L⟩) (s:=26) (t:=31) (nx:=nx) (by omega) (by omega) (by omega) ?_ ?_ ?_ ?_ ?_
 ·simp only[List.map_nil,ownV_nil,go_sem]
 ·simp only[hb0,rcM,go_sem]
 ·simp only[hb1,go_sem]
 ·exact fun h=>absurd rfl h
 ·exact fun h=>absurd rfl h
theorem cntL_len:∀ (ps:List Nd),ps.length≤cntL ps
 | []=>by simp
 | .mk k s qs lo hi::ps=>by have:=cntL_len ps;simp only[List.length_cons,cntL,cntN];omega
theorem walk_gen:∀ (n:Nd),okN n→WG n
 | .mk k s ps lo hi,h,sc,nx,L,h1,h2=>by
  have hok:=(okN_parts h).1
  simp only[Nd.parts] at hok
  have ih:∀ p∈ps,WG p:=fun p hp=>walk_gen p (hok p hp)
  have hsh:shapedB k s ps.length lo hi=true:=by
   have:=h.2;rw[formed,Bool.and_eq_true] at this;exact this.1
  have hc:=cntL_len ps
  simp only[cntN] at h1 h2
  by_cases k1:k=1
  ·subst k1;exact wk_set s lo hi ps sc nx L (by omega)
  by_cases k2:k=2
  ·subst k2
   refine wk_oth 2 (by simp) s lo hi ps sc nx L _ (fun _=>?_) (fun h=>absurd h (by decide)) (fun h=>absurd h (by decide))
   rw[wk,if_neg (by decide),if_pos rfl]
   exact cat_gen ps ih (by omega) sc nx L (by omega) (by omega)
  by_cases k3:k=3
  ·subst k3
   refine wk_oth 3 (by simp) s lo hi ps sc nx L _ (fun h=>absurd h (by decide)) (fun _=>?_) (fun h=>absurd h (by decide))
   rw[wk,if_neg (by decide),if_neg (by decide),if_pos rfl]
   exact alt_gen ps ih (by omega) sc nx L (by omega) (by omega)
  by_cases k4:k=4
  ·subst k4
   refine wk_oth 4 (by simp) s lo hi ps sc nx L _ (fun h=>absurd h (by decide)) (fun h=>absurd h (by decide)) (fun _=>?_)
   obtain⟨hl1,_,_,_⟩:=shape4 hsh
   obtain⟨p,rfl⟩:=List.length_eq_one_iff.1 hl1
   exact times_gen s p lo hi (ih p (by simp)) h sc nx L (by simp only[cntN,cntL] at h1 ⊢;omega) (by simp only[cntN,cntL] at h2 ⊢;omega)
  ·have k0:k=0:=by
    simp only[shapedB,k1,k2,k3,k4,or_self,if_false] at hsh
    split at hsh
    ·assumption
    ·cases hsh
   subst k0
   rw[wk,if_neg (by decide),if_neg (by decide),if_neg (by decide),if_neg (by decide)]
   exact wk_none s lo hi ps sc nx L
end Go.Proofs.Ytgiedknghbpdfaa
