import Derived.Test.YtocmjakchgcioaaGreatM15

namespace Go.Proofs.YtocmjakchgcioaaGreat
set_option linter.all false
attribute [-go_sem] QE Qn rfOb V.cells
theorem QeG (a:Int):Pu F 70 [.i .i64 a] (.bo false):=by
 refine Qr e70 rfl rfl (by simp only[go_sem,Bool.and_true]) ?_;dsimp only[fn70,c70];(repeat (with_reducible (first|refine Qa ?_|refine Qc ?_|refine Qb ?_|refine Qf ?_|refine X_nx ?_|((first|refine U_q (v:=?_) ?h1 ?_|refine E_1 (v:=?_) ?h1 ?_);case h1=>((try simp only[go_sem])<;>rfl)))));exact QJ (by simp) rfl
theorem Wb (a b:Int):Pu F 46 [.i .i64 a,.i .i64 b] (.i .i64 (cmpI a b)):=by
 have h1:=QeG a;have h2:=QeG b;refine Qr e46 rfl rfl (by simp only[go_sem,Bool.and_true]) ?_;dsimp only[fn46,c46];(repeat' (first|(with_reducible (first|refine Qa ?_|refine Qc ?_|refine Qb ?_|refine Qg ?_|refine Qf ?_|refine X_nx ?_|refine X_rt ?_|((first|refine U_q (v:=?_) ?h1 ?_|refine E_1 (v:=?_) ?h1 ?_);case h1=>((try simp only[go_sem])<;>rfl))|(refine Qk ?h1 ?_;case h1=>((try simp only[go_sem])<;>rfl))))|((with_reducible refine U_pc (g:=70) (r:=.bo false) (vs:=?_) (ws:=?_) ?h1 ?h2 ?h3 ?h4 ?h5 ?_);(case h1=>((try simp only[go_sem])<;>rfl));(case h2=>refine Qj ?_;first|rfl|simp only[List.all_cons,List.all_nil,Bool.and_true,go_sem]);(case h5=>exact h1);(case h3=>first|exact Bool.or_eq_true_iff.2 (.inr rfl)|(refine Bool.or_eq_true_iff.2 (.inl ?_);simp only[clos,List.all_cons,List.all_nil,Bool.and_true,go_sem]));(case h4=>first|rfl|simp only[go_sem,Bool.and_true]))|((with_reducible refine U_pc (g:=70) (r:=.bo false) (vs:=?_) (ws:=?_) ?h1 ?h2 ?h3 ?h4 ?h5 ?_);(case h1=>((try simp only[go_sem])<;>rfl));(case h2=>refine Qj ?_;first|rfl|simp only[List.all_cons,List.all_nil,Bool.and_true,go_sem]);(case h5=>exact h2);(case h3=>first|exact Bool.or_eq_true_iff.2 (.inr rfl)|(refine Bool.or_eq_true_iff.2 (.inl ?_);simp only[clos,List.all_cons,List.all_nil,Bool.and_true,go_sem]));(case h4=>first|rfl|simp only[go_sem,Bool.and_true]))|with_reducible (refine U_gb (q:=?_) ?h1 (fun _=>?_) (fun _=>?_);case h1=>((try simp only[go_sem])<;>rfl))|with_reducible (refine Qe (q:=?_) ?h1 (fun _=>?_) (fun _=>?_);case h1=>((try simp only[go_sem])<;>rfl))));all_goals
  refine QJ ?_ rfl;simp only[decide_eq_true_eq,decide_eq_false_iff_not] at *;congr 1;unfold cmpI;(repeat' split)<;>first|rfl|omega
theorem Qfd (a b:Int):Pu F 45 [.sl [[.i .i64 a],[.i .i64 b]]] (.i .i64 (orI2 a b)):=by
 have w1:IntKind.i64.wrap 1=1:=by decide
 have w2:IntKind.i64.wrap 2=2:=by decide
 have hc:QT [[V.i .i64 a],[.i .i64 b]]=true:=rfl;refine Qr e45 rfl rfl (by simp only[go_sem,hc,Bool.and_true]) ?_;dsimp only[fn45,c45];by_cases ha:a=0
 ·subst ha;by_cases hb:b=0
  ·subst hb;(repeat (with_reducible (first|refine Qa ?_|refine Qc ?_|refine Qb ?_|refine Ql ?_|refine X_nx ?_|(refine U_q (v:=?_) ?h1 ?_;case h1=>((try simp only[go_sem])<;>rfl)))));refine YV (Qh F) ?_;conv in J2=>unfold J2
   (repeat (with_reducible (first|refine Qa ?_|refine Qc ?_|refine Qb ?_|refine Ql ?_|refine Qg ?_|refine X_nx ?_|refine B_nx ?_|((first|refine U_q (v:=?_) ?h1 ?_|refine U_ld (v:=?_) ?h1 ?_|refine Qm ?h1 ?_);case h1=>((try simp only[w1,go_sem])<;>rfl))|(refine Qk ?h1 ?_;case h1=>((try simp only[w1,go_sem])<;>rfl)))));refine YV (Qh F) ?_;conv in J2=>unfold J2
   (repeat (with_reducible (first|refine Qa ?_|refine Qc ?_|refine Qb ?_|refine Ql ?_|refine Qg ?_|refine X_nx ?_|refine B_nx ?_|((first|refine U_q (v:=?_) ?h1 ?_|refine U_ld (v:=?_) ?h1 ?_|refine Qm ?h1 ?_);case h1=>((try simp only[w2,go_sem])<;>rfl))|(refine Qk ?h1 ?_;case h1=>((try simp only[w2,go_sem])<;>rfl)))));refine YV (Qh F) ?_;conv in J2=>unfold J2
   (repeat (with_reducible (first|refine Qa ?_|refine Qc ?_|refine Qb ?_|refine QW ?_|refine Qf ?_|refine X_nx ?_|refine X_ex ?_|refine Qi ?_|((first|refine U_q (v:=?_) ?h1 ?_|refine E_1 (v:=?_) ?h1 ?_);case h1=>((try simp only[go_sem])<;>rfl))|(refine Qk ?h1 ?_;case h1=>((try simp only[go_sem])<;>rfl)))));rfl
  ·have hb1:(b != 0)=true:=by simpa using hb
   (repeat (with_reducible (first|refine Qa ?_|refine Qc ?_|refine Qb ?_|refine Ql ?_|refine X_nx ?_|(refine U_q (v:=?_) ?h1 ?_;case h1=>((try simp only[go_sem])<;>rfl)))));refine YV (Qh F) ?_;conv in J2=>unfold J2
   (repeat (with_reducible (first|refine Qa ?_|refine Qc ?_|refine Qb ?_|refine Ql ?_|refine Qg ?_|refine X_nx ?_|refine B_nx ?_|((first|refine U_q (v:=?_) ?h1 ?_|refine U_ld (v:=?_) ?h1 ?_|refine Qm ?h1 ?_);case h1=>((try simp only[w1,go_sem])<;>rfl))|(refine Qk ?h1 ?_;case h1=>((try simp only[w1,go_sem])<;>rfl)))));refine YV (Qh F) ?_;conv in J2=>unfold J2
   (repeat (with_reducible (first|refine Qa ?_|refine Qc ?_|refine Qb ?_|refine Ql ?_|refine Qg ?_|refine Qf ?_|refine X_nx ?_|refine X_rt ?_|refine B_rt ?_|((first|refine U_q (v:=?_) ?h1 ?_|refine U_ld (v:=?_) ?h1 ?_|refine E_1 (v:=?_) ?h1 ?_|refine Qm ?h1 ?_);case h1=>((try simp only[hb1,go_sem])<;>rfl)))));exact QJ (by simp [orI2]) rfl
 ·have ha1:(a != 0)=true:=by simpa using ha
  (repeat (with_reducible (first|refine Qa ?_|refine Qc ?_|refine Qb ?_|refine Ql ?_|refine X_nx ?_|(refine U_q (v:=?_) ?h1 ?_;case h1=>((try simp only[go_sem])<;>rfl)))));refine YV (Qh F) ?_;conv in J2=>unfold J2
  (repeat (with_reducible (first|refine Qa ?_|refine Qc ?_|refine Qb ?_|refine Ql ?_|refine Qg ?_|refine Qf ?_|refine X_nx ?_|refine X_rt ?_|refine B_rt ?_|((first|refine U_q (v:=?_) ?h1 ?_|refine U_ld (v:=?_) ?h1 ?_|refine E_1 (v:=?_) ?h1 ?_|refine Qm ?h1 ?_);case h1=>((try simp only[ha1,go_sem])<;>rfl)))));exact QJ (by simp [orI2,ha]) rfl
theorem Qdx (x y:Mv):(if orI2 (cmpI x.to y.to) (cmpI x.keep y.keep)=0 then (if x.again=y.again then 0 else if y.again then -1 else 1) else orI2 (cmpI x.to y.to) (cmpI x.keep y.keep))=Ye x y:=by
 rcases x with⟨a,b,c⟩;rcases y with⟨a',b',c'⟩;dsimp only;have e1:cmpI a a'=if a < a' then -1 else if a' < a then 1 else 0:=by simp only[cmpI,Int.ofNat_lt]
 have e2:cmpI b b'=if b < b' then -1 else if b' < b then 1 else 0:=by simp only[cmpI,Int.ofNat_lt]
 rw[e1,e2];clear e1 e2;by_cases h1:a < a'<;>by_cases h2:a' < a<;>by_cases h3:b < b'<;>by_cases h4:b' < b<;>simp [orI2,Ye,h1,h2,h3,h4]
theorem Qej (x y:Mv):Pu F 38 [.ag (mvC x),.ag (mvC y)] (.i .i64 (Ye x y)):=by
 have h1:=Wb x.to y.to;have h2:=Wb x.keep y.keep;have h3:=Qfd (cmpI x.to y.to) (cmpI x.keep y.keep);rw[← Qdx];generalize cmpI x.to y.to=c1 at h1 h3 ⊢;generalize cmpI x.keep y.keep=c2 at h2 h3 ⊢;generalize orI2 c1 c2=c3 at h3 ⊢;rcases x with⟨x1,x2,x3⟩;rcases y with⟨y1,y2,y3⟩;simp only[mvC] at h1 h2 ⊢;refine Qr e38 rfl rfl (by simp only[go_sem,Bool.and_true]) ?_;dsimp only[fn38,c38];(repeat' (first|(with_reducible (first|refine Qa ?_|refine Qc ?_|refine Qb ?_|refine X_nx ?_|((first|refine U_q (v:=?_) ?h1 ?_|refine U_ld (v:=?_) ?h1 ?_);case h1=>((try simp only[go_sem])<;>rfl))|(refine QC (cs:=?_) (cs':=?_) (n:=?_) ?h1 ?h2 ?h3 ?h4 ?_;case h1|h2|h3|h4=>((try simp only[go_sem])<;>rfl))|(refine Yu (es:=?_) (es':=?_) ?h1 ?h2 ?h3 ?_;case h1|h2|h3=>((try simp only[go_sem])<;>rfl))))|((with_reducible refine U_pc (g:=46) (r:=.i .i64 c1) (vs:=?_) (ws:=?_) ?h1 ?h2 ?h3 ?h4 ?h5 ?_);(case h1=>((try simp only[go_sem])<;>rfl));(case h2=>refine Qj ?_;first|rfl|simp only[List.all_cons,List.all_nil,Bool.and_true,go_sem]);(case h5=>exact h1);(case h3=>first|exact Bool.or_eq_true_iff.2 (.inr rfl)|(refine Bool.or_eq_true_iff.2 (.inl ?_);simp only[clos,List.all_cons,List.all_nil,Bool.and_true,go_sem]));(case h4=>first|rfl|simp only[go_sem,Bool.and_true]))|((with_reducible refine U_pc (g:=46) (r:=.i .i64 c2) (vs:=?_) (ws:=?_) ?h1 ?h2 ?h3 ?h4 ?h5 ?_);(case h1=>((try simp only[go_sem])<;>rfl));(case h2=>refine Qj ?_;first|rfl|simp only[List.all_cons,List.all_nil,Bool.and_true,go_sem]);(case h5=>exact h2);(case h3=>first|exact Bool.or_eq_true_iff.2 (.inr rfl)|(refine Bool.or_eq_true_iff.2 (.inl ?_);simp only[clos,List.all_cons,List.all_nil,Bool.and_true,go_sem]));(case h4=>first|rfl|simp only[go_sem,Bool.and_true]))|((with_reducible refine U_pc (g:=45) (r:=.i .i64 c3) (vs:=?_) (ws:=?_) ?h1 ?h2 ?h3 ?h4 ?h5 ?_);(case h1=>((try simp only[go_sem])<;>rfl));(case h2=>refine Qj ?_;first|rfl|simp only[List.all_cons,List.all_nil,Bool.and_true,go_sem]);(case h5=>exact h3);(case h3=>first|exact Bool.or_eq_true_iff.2 (.inr rfl)|(refine Bool.or_eq_true_iff.2 (.inl ?_);simp only[clos,List.all_cons,List.all_nil,Bool.and_true,go_sem]));(case h4=>first|rfl|simp only[go_sem,Bool.and_true]))|with_reducible (refine U_gb (q:=?_) ?h1 (fun _=>?_) (fun _=>?_);case h1=>((try simp only[go_sem])<;>rfl))|with_reducible (refine Qe (q:=?_) ?h1 (fun _=>?_) (fun _=>?_);case h1=>((try simp only[go_sem])<;>rfl))));refine U_pc (vs:=[.rw 16 1 0 2]) (ws:=[.sl [[.i .i64 c1],[.i .i64 c2]]]) (r:=.i .i64 c3) (Z0) rfl (Bool.or_eq_true_iff.2 (.inr rfl)) rfl h3 ?_;have b1:(true==true)=true:=rfl;have b2:(true==false)=false:=rfl;have b3:(false==true)=false:=rfl;have b4:(false==false)=true:=rfl;by_cases hz:c3=0
 ·subst hz;cases x3<;>cases y3;all_goals
   (repeat (with_reducible (first|refine Qa ?_|refine Qc ?_|refine Qb ?_|refine Qg ?_|refine Qf ?_|refine X_nx ?_|((first|refine U_q (v:=?_) ?h1 ?_|refine U_ld (v:=?_) ?h1 ?_|refine E_1 (v:=?_) ?h1 ?_|refine U_gt ?h1 ?_|refine Qm ?h1 ?_);case h1=>((try simp only[b1,b2,b3,b4,go_sem])<;>rfl))|(refine Qk ?h1 ?_;case h1=>((try simp only[b1,b2,b3,b4,go_sem])<;>rfl)))))
   first|rfl|exact QJ (by simp) rfl
 ·have hz1:(c3==0)=false:=by simpa using hz
  simp only[if_neg hz];(repeat (with_reducible (first|refine Qa ?_|refine Qc ?_|refine Qb ?_|refine Qg ?_|refine Qf ?_|refine X_nx ?_|((first|refine U_q (v:=?_) ?h1 ?_|refine E_1 (v:=?_) ?h1 ?_);case h1=>((try simp only[hz1,go_sem])<;>rfl))|((first|refine Yi ?h1 ?_|refine Qk ?h1 ?_);case h1=>((try simp only[hz1,go_sem])<;>rfl)))))
  first|rfl|exact QJ (by simp) rfl
theorem mixed:Tryz.prog.follows .mixedOrders=true:=by kernel_rfl
theorem Da {α β:Type} {x:Option α} {f:α→β} {y:β} (hf:∀ a,f a≠y) (h:x.map f=some y):False:=by
 cases x with
 | none=>cases h
 | some a=>injection h with h;exact hf a h
theorem fz_i {o:O} {v:V} {k:IntKind} {n:Int} (h:fz o v=some (.i k n)):v=.i k n:=by
 have h:frz (23+1) o v=some (.i k n):=h;cases v<;>rw[frz] at h;all_goals first
  | exact (Da (fun a h=>by cases h) h).elim
  | (cases h;done)
  | (cases h;rfl)
  | (split at h;exact (Da (fun a h=>by cases h) h).elim;cases h)
  | (intros;contradiction)
theorem K5 (x y:Mv):Snd Tryz.prog 38 [.ag (mvC x),.ag (mvC y)] emp (fun v _=>v=.i .i64 (Ye x y)) :=
 Qf7 mixed Qch (Qh F _ _ _ _ _ (fun _ _ h=>fz_i h) (Qej x y))
theorem Qdb (l:List Nat):(((l.map fun (n:Nat)=>(n:Int)).mergeSort fun x y=>decide (x≤y)).map fun z=>[V.i .i64 z])=(srtN l).map inC:=by
 have:(srtN l).map (fun (n:Nat)=>(n:Int))=(l.map fun (n:Nat)=>(n:Int)).mergeSort fun x y=>decide (x≤y) :=
  List.map_mergeSort (fun a _ b _=>by simp)
 rw[← this,List.map_map];rfl
theorem Qgx {e:E} {o:O} {d:Nat} {ods:List Od} (s:Nat) {l0:List Nat} {l:List Stp} {K:E→O→Prop} (h1:l0.length≤1000) (hargs:ods.map (Od.ev e)=[ownV s 1 (l0.map inC)]) (f1:Own o s 1 (l0.map inC))
  (h:∀ o1,Own o1 s 1 ((srtN l0).map inC)→(∀ t,t≠s→o1 t=o t)→wpRU (Call F) l K (upd e d (.tp [])) o1):wpRU (Call F) (⟨some d,none,.nc 36 ods,[]⟩::l) K e o:=by
 have hF:F 36=none:=rfl;by_cases h0:l0=[]
 ·subst h0;refine U_rd s (L:=[]) (sz:=1) (res:=fun _=>.tp []) (pre:=[]) (post:=[]) hargs rfl rfl rfl (fun hh=>absurd rfl hh) (fun v o' K' hv hK=>?_) (fun m x _=>.tp [] [] rfl (fun j _ _ h1=>by simp at h1)) ?_
  ·rcases hv with⟨_,rfl⟩|⟨hh,_⟩
   ·exact Z9 hF (Qjc ⟨rfl,.inl ⟨rfl,hK o' fun i x hx=>hx⟩⟩)
   ·exact absurd rfl hh
  ·exact h o ⟨by simp [srtN],fun hh=>by simp [srtN] at hh⟩ fun _ _=>rfl
 ·have hl:(l0.map inC)≠[]:=Xp h0;have ho:=f1.h hl;rw[Qx h0] at hargs;refine U_nc (s:=s) (q:=1) (es:=l0.map inC) (es':=(srtN l0).map inC) (r:=.tp []) hargs ho ?_ ?_ rfl (by simp [Wt]) (fun id o' K' ho' hK=>?_) ?_
  ·rw[okLL,List.all_eq_true];intro c hc;obtain⟨x,_,rfl⟩:=List.mem_map.1 hc;rfl
  ·rw[okLL,List.all_eq_true];intro c hc;obtain⟨x,_,rfl⟩:=List.mem_map.1 hc;rfl
  ·simp only[List.map_cons,List.map_nil,refV,beq_self_eq_true,if_true];refine Z9 hF (Qjc ⟨rfl,.inr ⟨id,l0.map fun (n:Nat)=>(n:Int),by simp,?_,by simp;omega,?_⟩⟩)
   ·rw[ho',List.map_map];rfl
   ·rw[Qdb];exact hK _ (by simp [upd]) fun i x hi hx=>by simp [upd,hi,hx]
  ·exact h _ (.to (Zv (fun _=>rfl) _)) fun t ht=>by simp [upd,ht]
theorem Qhp {e:E} {o:O} {d:Nat} {ods:List Od} (s:Nat) {l0:List Mv} {l:List Stp} {K:E→O→Prop} (h1:l0.length < 4611686018427387904) (hargs:ods.map (Od.ev e)=[ownV s 3 (l0.map mvC),.fn 38 []]) (f1:Own o s 3 (l0.map mvC))
  (h:∀ o1,Own o1 s 3 ((srtM l0).map mvC)→(∀ t,t≠s→o1 t=o t)→wpRU (Call F) l K (upd e d (.tp [])) o1):wpRU (Call F) (⟨some d,none,.nc 37 ods,[]⟩::l) K e o:=by
 have hF:F 37=none:=rfl;by_cases h0:l0=[]
 ·subst h0;refine U_rd s (L:=[]) (sz:=3) (res:=fun _=>.tp []) (pre:=[]) (post:=[.fn 38 []]) hargs rfl rfl rfl (fun hh=>absurd rfl hh) (fun v o' K' hv hK=>?_) (fun m x _=>.tp [] [] rfl (fun j _ _ h1=>by simp at h1)) ?_
  ·rcases hv with⟨_,rfl⟩|⟨hh,_⟩
   ·exact Z9 hF (Qi9 ⟨rfl,_,K5,.inl ⟨rfl,hK o' fun i x hx=>hx⟩⟩)
   ·exact absurd rfl hh
  ·exact h o ⟨by simp [srtM],fun hh=>by simp [srtM] at hh⟩ fun _ _=>rfl
 ·have hl:(l0.map mvC)≠[]:=by simpa using h0
  have ho:=f1.h hl;rw[Qx h0] at hargs;refine U_nc (s:=s) (q:=3) (es:=l0.map mvC) (es':=(srtM l0).map mvC) (r:=.tp []) hargs ho ?_ ?_ rfl (by simp only[List.all_cons,List.all_nil,Wt,beq_self_eq_true];rfl) (fun id o' K' ho' hK=>?_) ?_
  ·rw[okLL,List.all_eq_true];intro c hc;obtain⟨x,_,rfl⟩:=List.mem_map.1 hc;rfl
  ·rw[okLL,List.all_eq_true];intro c hc;obtain⟨x,_,rfl⟩:=List.mem_map.1 hc;rfl
  ·simp only[List.map_cons,List.map_nil,refV,beq_self_eq_true,if_true];refine Z9 hF (Qi9 ⟨rfl,_,K5,.inr ⟨id,l0,rfl,ho',by omega,?_⟩⟩);exact hK _ (by simp [upd];rfl) fun i x hi hx=>by simp [upd,hi,hx]
  ·exact h _ (.to (Zv (fun _=>rfl) _)) fun t ht=>by simp [upd,ht]
end Go.Proofs.YtocmjakchgcioaaGreat
