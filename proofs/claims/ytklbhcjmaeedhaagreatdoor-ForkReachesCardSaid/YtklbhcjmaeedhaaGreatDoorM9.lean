import Derived.Test.YtklbhcjmaeedhaaGreatDoorM8

namespace Go.Proofs.YtklbhcjmaeedhaaGreatDoor
set_option linter.all false
attribute [-go_sem] Qy Qj rfOb V.cells
def VO (n:Nd) (h:okN n):Pu F 65 [.ag (cel n)] (.bo (QU n)):=by
 have hf:Pu F 58 [.ag (cel n)] (.bo (Qe n)):=JC n h.1 emp _ (fun _=>rfl);rw[h.2] at hf;have hs:=VZ n h.1 h.2;refine Qh e65 rfl rfl (by simp only[go_sem,Bool.and_true]) ?_;dsimp only[fn65,c65];(repeat' (first|refine RSN trivial ?_|((with_reducible refine PCN trivial (r:=.bo true) ?h ?_);case h=>exact hf)|((with_reducible refine PCN trivial (r:=.bo (QU n)) ?h ?_);case h=>exact hs)|with_reducible refine GBN trivial (fun _=>?_) (fun _=>?_)|with_reducible refine GDN trivial (fun _=>?_) (fun _=>?_)));exact Qp rfl rfl
def Qdi (s:Nat→Nat) (p:Nd) (lo hi:Int) (ih:WG p) (hk:okN (.mk 4 s [p] lo hi)) (sc nx:Nat) (L:List (Eg × Int)) (hsc:sc+cntN (.mk 4 s [p] lo hi)≤1000) (hnx:nx+cntN (.mk 4 s [p] lo hi)≤1000) :
  GWk 46 (.ag (cel (.mk 4 s [p] lo hi))) sc nx L (wk (.mk 4 s [p] lo hi) sc nx L):=by
 have hC:=Vf 4 s [p] lo hi;have hN:=VO _ hk;generalize hnb:QU (.mk 4 s [p] lo hi)=nb at hN;have hwk:wk (.mk 4 s [p] lo hi) sc nx L=⟨(wk p (if cnts 4 lo hi then sc+1 else sc) nx L).first,(wk p (if cnts 4 lo hi then sc+1 else sc) nx L).last,nb,(wk p (if cnts 4 lo hi then sc+1 else sc) nx L).next,if hi=1 then (wk p (if cnts 4 lo hi then sc+1 else sc) nx L).L else lnk (wk p (if cnts 4 lo hi then sc+1 else sc) nx L).last (wk p (if cnts 4 lo hi then sc+1 else sc) nx L).first sc (cnts 4 lo hi) (wk p (if cnts 4 lo hi then sc+1 else sc) nx L).L⟩:=by
  rw[wk,if_neg LM,if_neg LM,if_neg LM,if_pos rfl,hnb];rfl
 rw[hwk];simp only[cntN,cntL] at hsc hnx;generalize hcn:cnts 4 lo hi=cn at hC hwk ⊢;have hz:(if cn then sc+1 else sc)+cntN p≤1000:=by split<;>omega
 obtain⟨w1,w2,w3,w4⟩:=JT p (if cn then sc+1 else sc) nx L;have hW:=ih (if cn then sc+1 else sc) nx L hz OM;generalize hx:wk p (if cn then sc+1 else sc) nx L=x at hW w1 w2 w3 w4 ⊢;clear hwk;generalize low1 lo=l1 at hC;rw[QZ] at hC hN ⊢;simp only[scC] at hC;refine YS e46 rfl rfl (by simp [domA]) SM SM (by simp [domA]) fun o hb ho=>?_;dsimp only[fn46,c46];have hb0:=hb _ (List.mem_cons_self ..);have hb1:=hb (1000001,egM L) SM;dsimp only[rcM] at hb0 hb1;clear hb ho;simp only[nd8,List.map_cons,List.map_nil] at hC hN ⊢;have hw:IntKind.i64.wrap ((sc:Int)+1)=((sc+1:Nat):Int):=by rw[Qi OM OM];rfl
 (repeat' (first|refine RSN hw ?_|((with_reducible refine PCN hw (r:=.tp [.ag [.i .i64 l1,.i .i64 hi],.bo cn]) ?h ?_);case h=>exact hC)|with_reducible refine GBN hw (fun _=>?_) (fun _=>?_)|with_reducible refine GDN hw (fun _=>?_) (fun _=>?_)));all_goals
  rename_i hcv;subst hcv;simp only[if_true,Bool.false_eq_true,if_false] at hW hz;refine X9 hW (Z0) (by simp only[go_sem]) (by simp only[hb0,rcM,go_sem]) (Z1 hb1) fun o1 g0 g1 g2 g3 g4=>?_;have k6:o1 6=some (.row 3 [[.nil,.nil,.bo false]]):=by rw[g4 6 LM LM LM LM];simp only[go_sem]
  have k4:o1 4=some (.row 8 [[.i .i64 4,.i .u64 (s 0),.i .u64 (s 1),.i .u64 (s 2),.i .u64 (s 3),.sl [cel p],.i .i64 lo,.i .i64 hi]]):=by rw[g4 4 LM LM LM LM];simp only[go_sem]
  clear g4 hb0 hb1;refine RN (Ad2 k4 k6) ?_;refine Qv (q:=hi != 1) (Z0) (fun hc=>?_) (fun hc=>?_)
  ·have hc:hi≠1:=by simpa using hc
   simp only[if_neg hc];refine RN (Ad2 k4 k6) ?_;refine Qgj 2001 2000 (fr:=x.last) (to:=x.first) (L:=x.L) (next:=x.next) (keep:=sc) OM OM LM LM LM (Zr0) (Z1 g0) (Z1 g1) (by (repeat (first|with_reducible assumption|with_reducible exact Ow1.to|((with_reducible first|refine Ow1.up ?hh ?_|refine Ow1.sw ?hh ?_|refine Ow1.swN ?hh ?_);(case hh=>rfl))))) (by (repeat (first|with_reducible assumption|with_reducible exact Ow1.to|((with_reducible first|refine Ow1.up ?hh ?_|refine Ow1.sw ?hh ?_|refine Ow1.swN ?hh ?_);(case hh=>rfl))))) fun o2 l0 l1 l2 l3 l4=>?_;have q6:o2 6=some (.row 3 [[.nil,.nil,.bo false]]):=by rw[l4 6 LM LM LM LM];simp only[k6,go_sem]
   have q4:o2 4=some (.row 8 [[.i .i64 4,.i .u64 (s 0),.i .u64 (s 1),.i .u64 (s 2),.i .u64 (s 3),.sl [cel p],.i .i64 lo,.i .i64 hi]]):=by rw[l4 4 LM LM LM LM];simp only[k4,go_sem]
   have q10:o2 10=some (.row 3 [[ownV 2000 1 (x.first.map inC),ownV 2001 1 (x.last.map inC),.bo x.empty]]):=by rw[l4 10 LM LM LM LM];simp only[go_sem]
   (repeat' (first|refine RSN (Ad3 q4 q6 q10) ?_|((with_reducible refine PCN (Ad3 q4 q6 q10) (r:=.bo nb) ?h ?_);case h=>exact hN)|with_reducible refine GBN (Ad3 q4 q6 q10) (fun _=>?_) (fun _=>?_)|with_reducible refine GDN (Ad3 q4 q6 q10) (fun _=>?_) (fun _=>?_)));refine Jl (q:=⟨x.first,x.last,nb,x.next,_⟩) (s:=2000) (t:=2001) (nx:=nx) OM OM OM ?_ ?_ ?_ ?_ ?_
   ·simp only[go_sem]
   ·simp only[l0,rcM,go_sem]
   ·(simp only[l1,go_sem]<;>rfl)
   ·dsimp only;(repeat (first|with_reducible assumption|with_reducible exact Ow1.to|((with_reducible first|refine Ow1.up ?hh ?_|refine Ow1.sw ?hh ?_|refine Ow1.swN ?hh ?_);(case hh=>rfl))))
   ·dsimp only;(repeat (first|with_reducible assumption|with_reducible exact Ow1.to|((with_reducible first|refine Ow1.up ?hh ?_|refine Ow1.sw ?hh ?_|refine Ow1.swN ?hh ?_);(case hh=>rfl))))
  ·have hc:hi=1:=by simpa using hc
   subst hc;simp only[if_true];(repeat' (first|refine RSN (Ad2 k4 k6) ?_|((with_reducible refine PCN (Ad2 k4 k6) (r:=.bo nb) ?h ?_);case h=>exact hN)|with_reducible refine GBN (Ad2 k4 k6) (fun _=>?_) (fun _=>?_)|with_reducible refine GDN (Ad2 k4 k6) (fun _=>?_) (fun _=>?_)));refine Jl (q:=⟨x.first,x.last,nb,x.next,x.L⟩) (s:=2000) (t:=2001) (nx:=nx) OM OM OM ?_ ?_ ?_ ?_ ?_
   ·simp only[go_sem]
   ·simp only[g0,rcM,go_sem]
   ·simp only[g1,go_sem]
   ·dsimp only;(repeat (first|with_reducible assumption|with_reducible exact Ow1.to|((with_reducible first|refine Ow1.up ?hh ?_|refine Ow1.sw ?hh ?_|refine Ow1.swN ?hh ?_);(case hh=>rfl))))
   ·dsimp only;(repeat (first|with_reducible assumption|with_reducible exact Ow1.to|((with_reducible first|refine Ow1.up ?hh ?_|refine Ow1.sw ?hh ?_|refine Ow1.swN ?hh ?_);(case hh=>rfl))))
def Qjd (s:Nat→Nat) (lo hi:Int) (ps:List Nd) (sc nx:Nat) (L:List (Eg × Int)) (hnx:nx≤1000):GWk 24 (.ag (cel (.mk 1 s ps lo hi))) sc nx L (wk (.mk 1 s ps lo hi) sc nx L):=by
 have hE:=KN s;rw[wk,if_pos rfl];generalize Qq s=es at hE ⊢;rw[QZ];simp only[u4,nd8] at hE ⊢;refine YS e24 rfl rfl (by simp [domA]) SM SM (by simp [domA]) fun o hb ho=>?_;dsimp only[fn24,c24];have hb0:=hb _ (List.mem_cons_self ..);have hb1:=hb (1000001,egM L) SM;dsimp only[rcM] at hb0 hb1;clear hb ho;have hw:IntKind.i64.wrap ((nx:Int)+1)=((nx+1:Nat):Int):=by rw[Qi OM OM];rfl
 (repeat' (first|refine RSN (Ad2 hb0 hw) ?_|((with_reducible refine PCN (Ad2 hb0 hw) (r:=.bo es) ?h ?_);case h=>exact hE)|with_reducible refine GBN (Ad2 hb0 hw) (fun _=>?_) (fun _=>?_)|with_reducible refine GDN (Ad2 hb0 hw) (fun _=>?_) (fun _=>?_)));all_goals
  rename_i hcv;subst hcv;simp only[if_true,Bool.false_eq_true,if_false]
 ·refine Jl (q:=⟨[],[],false,nx,L⟩) (s:=26) (t:=31) (nx:=nx) OM OM OM ?_ ?_ ?_ ?_ ?_
  ·simp only[List.map_nil,Q5,go_sem]
  ·simp only[hb0,rcM,go_sem]
  ·simp only[hb1,go_sem]
  ·exact fun h=>absurd rfl h
  ·exact fun h=>absurd rfl h
 ·refine Jl (q:=⟨[nx+1],[nx+1],false,nx+1,L⟩) (s:=26) (t:=31) (nx:=nx) OM OM OM ?_ ?_ ?_ ?_ ?_
  ·(simp only[inC,go_sem]<;>rfl)
  ·simp only[hb0,rcM,go_sem]
  ·simp only[hb1,go_sem]
  ·intro _;simp only[inC,go_sem]
  ·intro _;simp only[inC,go_sem]
def QdK (k:Int) (hk:k=2∨k=3∨k=4) (s:Nat→Nat) (lo hi:Int) (ps:List Nd) (sc nx:Nat) (L:List (Eg × Int)) (q:Nds)
  (h2:k=2→GWk 44 (.sl (ps.map cel)) sc nx L q) (h3:k=3→GWk 45 (.sl (ps.map cel)) sc nx L q) (h4:k=4→GWk 46 (.ag (cel (.mk k s ps lo hi))) sc nx L q):GWk 24 (.ag (cel (.mk k s ps lo hi))) sc nx L q:=by
 rw[QZ] at h4 ⊢;simp only[nd8] at h4 ⊢;refine YS e24 rfl rfl (by simp [domA]) SM SM (by simp [domA]) fun o hb ho=>?_;dsimp only[fn24,c24];have hb0:=hb _ (List.mem_cons_self ..);have hb1:=hb (1000001,egM L) SM;dsimp only[rcM] at hb0 hb1;clear hb ho;rcases hk with rfl|rfl|rfl
 ·refine RN trivial ?_;refine X9 (h2 rfl) (Z0) (by simp only[go_sem]) (by simp only[hb0,rcM,go_sem]) (Z1 hb1) fun o1 g0 g1 g2 g3 g4=>?_;have k6:o1 6=some (.row 3 [[.nil,.nil,.bo false]]):=by rw[g4 6 LM LM LM LM];simp only[go_sem]
  refine RN k6 ?_;refine Jl (s:=2000) (t:=2001) (nx:=nx) OM OM OM ?_ ?_ ?_ ?_ ?_
  ·simp only[go_sem]
  ·simp only[g0,rcM,go_sem]
  ·simp only[g1,go_sem]
  ·(repeat (first|with_reducible assumption|with_reducible exact Ow1.to|((with_reducible first|refine Ow1.up ?hh ?_|refine Ow1.sw ?hh ?_|refine Ow1.swN ?hh ?_);(case hh=>rfl))))
  ·(repeat (first|with_reducible assumption|with_reducible exact Ow1.to|((with_reducible first|refine Ow1.up ?hh ?_|refine Ow1.sw ?hh ?_|refine Ow1.swN ?hh ?_);(case hh=>rfl))))
 ·refine RN trivial ?_;refine X9 (h3 rfl) (Z0) (by simp only[go_sem]) (by simp only[hb0,rcM,go_sem]) (Z1 hb1) fun o1 g0 g1 g2 g3 g4=>?_;have k6:o1 6=some (.row 3 [[.nil,.nil,.bo false]]):=by rw[g4 6 LM LM LM LM];simp only[go_sem]
  refine RN k6 ?_;refine Jl (s:=2000) (t:=2001) (nx:=nx) OM OM OM ?_ ?_ ?_ ?_ ?_
  ·simp only[go_sem]
  ·simp only[g0,rcM,go_sem]
  ·simp only[g1,go_sem]
  ·(repeat (first|with_reducible assumption|with_reducible exact Ow1.to|((with_reducible first|refine Ow1.up ?hh ?_|refine Ow1.sw ?hh ?_|refine Ow1.swN ?hh ?_);(case hh=>rfl))))
  ·(repeat (first|with_reducible assumption|with_reducible exact Ow1.to|((with_reducible first|refine Ow1.up ?hh ?_|refine Ow1.sw ?hh ?_|refine Ow1.swN ?hh ?_);(case hh=>rfl))))
 ·refine RN trivial ?_;refine X9 (h4 rfl) (Z0) (by simp only[go_sem,Bool.and_true]) (by simp only[hb0,rcM,go_sem]) (Z1 hb1) fun o1 g0 g1 g2 g3 g4=>?_;have k6:o1 6=some (.row 3 [[.nil,.nil,.bo false]]):=by rw[g4 6 LM LM LM LM];simp only[go_sem]
  refine RN k6 ?_;refine Jl (s:=2000) (t:=2001) (nx:=nx) OM OM OM ?_ ?_ ?_ ?_ ?_
  ·simp only[go_sem]
  ·simp only[g0,rcM,go_sem]
  ·simp only[g1,go_sem]
  ·(repeat (first|with_reducible assumption|with_reducible exact Ow1.to|((with_reducible first|refine Ow1.up ?hh ?_|refine Ow1.sw ?hh ?_|refine Ow1.swN ?hh ?_);(case hh=>rfl))))
  ·(repeat (first|with_reducible assumption|with_reducible exact Ow1.to|((with_reducible first|refine Ow1.up ?hh ?_|refine Ow1.sw ?hh ?_|refine Ow1.swN ?hh ?_);(case hh=>rfl))))
def Qgq (s:Nat→Nat) (lo hi:Int) (ps:List Nd) (sc nx:Nat) (L:List (Eg × Int)):GWk 24 (.ag (cel (.mk 0 s ps lo hi))) sc nx L ⟨[],[],true,nx,L⟩:=by
 rw[QZ];simp only[nd8];refine YS e24 rfl rfl (by simp [domA]) SM SM (by simp [domA]) fun o hb ho=>?_;dsimp only[fn24,c24];have hb0:=hb _ (List.mem_cons_self ..);have hb1:=hb (1000001,egM L) SM;dsimp only[rcM] at hb0 hb1;clear hb ho;refine RN trivial ?_;refine Jl (q:=⟨[],[],true,nx,L⟩) (s:=26) (t:=31) (nx:=nx) OM OM OM ?_ ?_ ?_ ?_ ?_
 ·simp only[List.map_nil,Q5,go_sem]
 ·simp only[hb0,rcM,go_sem]
 ·simp only[hb1,go_sem]
 ·exact fun h=>absurd rfl h
 ·exact fun h=>absurd rfl h
theorem Hd:∀ (ps:List Nd),ps.length≤cntL ps
 | []=>by simp
 | .mk k s qs lo hi::ps=>by have:=Hd ps;simp only[List.length_cons,cntL,cntN];omega
theorem DL:∀ (n:Nd),okN n→WG n
 | .mk k s ps lo hi,h,sc,nx,L,h1,h2=>by
  have hok:=(Zn h).1;simp only[Nd.parts] at hok;have ih:∀ p∈ps,WG p:=fun p hp=>DL p (hok p hp);have hsh:Qk k s ps.length lo hi=true:=by
   have:=h.2;rw[Qe,Bool.and_eq_true] at this;exact this.1
  have hc:=Hd ps;simp only[cntN] at h1 h2;by_cases k1:k=1
  ·subst k1;exact Qjd s lo hi ps sc nx L OM
  by_cases k2:k=2
  ·subst k2;refine QdK 2 SM s lo hi ps sc nx L _ (fun _=>?_) (fun h=>absurd h LM) (fun h=>absurd h LM);rw[wk,if_neg LM,if_pos rfl];exact Qg8 ps ih OM sc nx L OM OM
  by_cases k3:k=3
  ·subst k3;refine QdK 3 SM s lo hi ps sc nx L _ (fun h=>absurd h LM) (fun _=>?_) (fun h=>absurd h LM);rw[wk,if_neg LM,if_neg LM,if_pos rfl];exact QgH ps ih OM sc nx L OM OM
  by_cases k4:k=4
  ·subst k4;refine QdK 4 SM s lo hi ps sc nx L _ (fun h=>absurd h LM) (fun h=>absurd h LM) (fun _=>?_);obtain⟨hl1,_,_,_⟩:=Wu hsh;obtain⟨p,rfl⟩:=List.length_eq_one_iff.1 hl1;exact Qdi s p lo hi (ih p SM) h sc nx L (by simp only[cntN,cntL] at h1 ⊢;omega) (by simp only[cntN,cntL] at h2 ⊢;omega)
  ·have k0:k=0:=by
    simp only[Qk,k1,k2,k3,k4,or_self,if_false] at hsh;split at hsh
    ·assumption
    ·cases hsh
   subst k0;rw[wk,if_neg LM,if_neg LM,if_neg LM,if_neg LM];exact Qgq s lo hi ps sc nx L
end Go.Proofs.YtklbhcjmaeedhaaGreatDoor
