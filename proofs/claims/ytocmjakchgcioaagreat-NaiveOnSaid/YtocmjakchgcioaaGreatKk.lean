import Derived.Test.YtocmjakchgcioaaGreatKt

namespace Go.Proofs.YtocmjakchgcioaaGreat
set_option linter.all false
theorem QdL (n:Nd):ZI (cel n)=true:=by cases n;rfl
theorem D5 (d:Nat) (n:Nd):swpL d (cel n)=cel n:=Km d (QdL n)
theorem QgX (n:Nd):okf FZ (.ag (cel n))=true:=by cases n;rfl
theorem QdQ (n:Nd):clo FZ (.ag (cel n))=true:=by cases n;rfl
mutual
theorem H2:∀ (n:Nd),cldL (cel n)=true
 | .mk k s ps lo hi=>by
  have:=KE ps
  simp [cel,nd8,cldL,cld,this]
theorem KE:∀ (ps:List Nd),QT (cels ps)=true
 | []=>rfl
 | p::ps=>by rw[cels,QT,H2 p,KE ps];rfl
end
theorem WY (ps:List Nd):QT (ps.map cel)=true:=by rw[← V3];exact KE ps
theorem Qga (n:Nd):(cel n).take 8=cel n:=List.take_of_length_le (by rw[QN];omega)
theorem Qaj (n:Nd) (a b c d e f g h:V):splice 0 (cel n) [a,b,c,d,e,f,g,h]=cel n:=J0 (by rw[QN];rfl)
attribute [go_sem] D5 QgX QdQ H2 WY QN Qga Qaj List.drop_zero
theorem nat0 (n:Nat):((n:Int)==0)=(n==0):=by cases n<;>rfl
theorem Kv (s:Nat→Nat):Pu F 57 [.ag (u4 s)] (.bo (QQ s)):=D0 s emp _ (fun _=>rfl)
mutual
def Q8:Nd→Bool
 | .mk k s ps lo _ =>
  if k=1 then QQ s
  else if k=2 then Wg ps
  else if k=3 then Xc ps
  else if k=4 then decide (0 < lo)&&QcC ps
  else false
def Wg:List Nd→Bool
 | []=>false
 | p::ps=>Q8 p||Wg ps
def Xc:List Nd→Bool
 | []=>true
 | p::ps=>Q8 p&&Xc ps
def QcC:List Nd→Bool
 | []=>false
 | p::_=>Q8 p
end
theorem Jp (ps:List Nd):Wg ps=ps.any Q8:=by induction ps with
 | nil=>rfl
 | cons p ps ih=>simp [Wg,ih]
theorem Xj (ps:List Nd):Xc ps=ps.all Q8:=by induction ps with
 | nil=>rfl
 | cons p ps ih=>simp [Xc,ih]
theorem KB (ps:List Nd) (hl:ps.length < 9223372036854775808) (g:Nat) (p:Nd→Bool) (h:∀ x∈ps,Pu F g [.ag (cel x)] (.bo (p x))):Pu F 113 [.sl (ps.map cel),.fn g []] (.bo (ps.any p)) :=
 Vz cel QN ps hl g [] rfl p (fun x hx=>⟨[.ag (cel x)],fun o=>Jj (by simp [FZ,okd,Wi]),h x hx⟩) emp _ (fun _=>rfl)
theorem KW {s:Nat→Nat} {n:Nat} {lo hi:Int} (h:QG 4 s n lo hi=true):n=1∧0≤lo∧lo≤2147483647∧(hi = -1∨lo≤hi∧hi≤2147483647):=by
 simp [QG] at h;omega
set_option maxHeartbeats 1000000 in
theorem Kt:∀ (n:Nd),ZO n→Qz n=true→Pu F 115 [.ag (cel n)] (.bo (Q8 n))
 | .mk k s ps lo hi,hs,hf=>by
  have hf2:QG k s ps.length lo hi=true∧ps.all Qz=true:=by
   rw[Qz,Bool.and_eq_true,ZK] at hf;exact hf
  have ih:∀ p∈ps,Pu F 115 [.ag (cel p)] (.bo (Q8 p)):=fun p hp=>Kt p ((Zd ps).1 hs.2.2 p hp) (List.all_eq_true.1 hf2.2 p hp);have ih2:∀ p∈ps,Pu F 135 [.ag (cel p)] (.bo (!Q8 p)):=fun p hp=>by
   refine Qr e135 rfl rfl (by simp only[go_sem,Bool.and_true]) ?_;dsimp only[QiT,c135];(repeat' (first|(with_reducible (first|refine Qa ?_|refine Qc ?_|refine Qb ?_|refine Qf ?_|refine X_nx ?_|((first|refine U_q (v:=?_) ?h1 ?_|refine U_ld (v:=?_) ?h1 ?_|refine E_1 (v:=?_) ?h1 ?_);case h1=>((try simp only[go_sem])<;>rfl))|(refine QC (cs:=?_) (cs':=?_) (n:=?_) ?h1 ?h2 ?h3 ?h4 ?_;case h1|h2|h3|h4=>((try simp only[go_sem])<;>rfl))))|((with_reducible refine U_pc (g:=115) (r:=.bo (Q8 p)) (vs:=?_) (ws:=?_) ?h1 ?h2 ?h3 ?h4 ?h5 ?_);(case h1=>((try simp only[go_sem])<;>rfl));(case h2=>refine Qj ?_;first|rfl|simp only[List.all_cons,List.all_nil,Bool.and_true,go_sem]);(case h5=>exact ih p hp);(case h3=>first|exact Bool.or_eq_true_iff.2 (.inr rfl)|(refine Bool.or_eq_true_iff.2 (.inl ?_);simp only[clos,List.all_cons,List.all_nil,Bool.and_true,go_sem]));(case h4=>first|rfl|simp only[go_sem,Bool.and_true]))|with_reducible (refine U_gb (q:=?_) ?h1 (fun _=>?_) (fun _=>?_);case h1=>((try simp only[go_sem])<;>rfl))|with_reducible (refine Qe (q:=?_) ?h1 (fun _=>?_) (fun _=>?_);case h1=>((try simp only[go_sem])<;>rfl))));rfl
  have hc1:=KB ps hs.2.1 115 Q8 ih;have hc2:=KB ps hs.2.1 135 (fun p=>!Q8 p) ih2;by_cases h4:k=4
  ·subst h4;obtain⟨hl1,_,_,_⟩:=KW hf2.1;obtain⟨p,rfl⟩:=List.length_eq_one_iff.1 hl1;have ihp:=ih p (by simp);refine Qr e115 rfl rfl (by simp only[go_sem,Bool.and_true]) ?_;dsimp only[QfC,c115];rw[Ze];(repeat' (first|(with_reducible (first|refine Qa ?_|refine Qc ?_|refine Qb ?_|refine Ql ?_|refine Qf ?_|refine X_nx ?_|refine X_rt ?_|refine B_rt ?_|((first|refine U_q (v:=?_) ?h1 ?_|refine U_ld (v:=?_) ?h1 ?_|refine E_1 (v:=?_) ?h1 ?_|refine U_gt ?h1 ?_|refine Qm ?h1 ?_);case h1=>((try simp only[nd8,List.take_succ_cons,List.take_zero,List.drop_succ_cons,go_sem])<;>rfl))|(refine QC (cs:=?_) (cs':=?_) (n:=?_) ?h1 ?h2 ?h3 ?h4 ?_;case h1|h2|h3|h4=>((try simp only[nd8,List.take_succ_cons,List.take_zero,List.drop_succ_cons,go_sem])<;>rfl))|((first|refine Yi ?h1 ?_|refine Qk ?h1 ?_);case h1=>((try simp only[nd8,List.take_succ_cons,List.take_zero,List.drop_succ_cons,go_sem])<;>rfl))))|((with_reducible refine U_pc (g:=115) (r:=.bo (Q8 p)) (vs:=?_) (ws:=?_) ?h1 ?h2 ?h3 ?h4 ?h5 ?_);(case h1=>((try simp only[nd8,List.take_succ_cons,List.take_zero,List.drop_succ_cons,go_sem])<;>rfl));(case h2=>refine Qj ?_;first|rfl|simp only[List.all_cons,List.all_nil,Bool.and_true,go_sem]);(case h5=>exact ihp);(case h3=>first|exact Bool.or_eq_true_iff.2 (.inr rfl)|(refine Bool.or_eq_true_iff.2 (.inl ?_);simp only[clos,List.all_cons,List.all_nil,Bool.and_true,go_sem]));(case h4=>first|rfl|simp only[go_sem,Bool.and_true]))|with_reducible (refine U_gb (q:=?_) ?h1 (fun _=>?_) (fun _=>?_);case h1=>((try simp only[nd8,List.take_succ_cons,List.take_zero,List.drop_succ_cons,go_sem])<;>rfl))|with_reducible (refine Qe (q:=?_) ?h1 (fun _=>?_) (fun _=>?_);case h1=>((try simp only[nd8,List.take_succ_cons,List.take_zero,List.drop_succ_cons,go_sem])<;>rfl))));all_goals (refine congrArg some (congrArg V.bo ?_);clear ih ih2 hc1 hc2 ihp hf hf2 hs;simp_all [Q8,QcC];try omega)
  ·refine Qr e115 rfl rfl (by simp only[go_sem,Bool.and_true]) ?_;dsimp only[QfC,c115];rw[Ze];(repeat' (first|(with_reducible (first|refine Qa ?_|refine Qc ?_|refine Qb ?_|refine Ql ?_|refine Qg ?_|refine Qf ?_|refine X_nx ?_|refine X_rt ?_|refine B_nx ?_|refine B_rt ?_|((first|refine U_q (v:=?_) ?h1 ?_|refine U_ld (v:=?_) ?h1 ?_|refine E_1 (v:=?_) ?h1 ?_|refine U_gt ?h1 ?_);case h1=>((try simp only[nd8,List.take_succ_cons,List.take_zero,List.drop_succ_cons,go_sem])<;>rfl))|(refine QC (cs:=?_) (cs':=?_) (n:=?_) ?h1 ?h2 ?h3 ?h4 ?_;case h1|h2|h3|h4=>((try simp only[nd8,List.take_succ_cons,List.take_zero,List.drop_succ_cons,go_sem])<;>rfl))|(refine Yi ?h1 ?_;case h1=>((try simp only[nd8,List.take_succ_cons,List.take_zero,List.drop_succ_cons,go_sem])<;>rfl))))|((with_reducible refine U_pc (g:=57) (r:=.bo (QQ s)) (vs:=?_) (ws:=?_) ?h1 ?h2 ?h3 ?h4 ?h5 ?_);(case h1=>((try simp only[nd8,List.take_succ_cons,List.take_zero,List.drop_succ_cons,go_sem])<;>rfl));(case h2=>refine Qj ?_;first|rfl|simp only[List.all_cons,List.all_nil,Bool.and_true,go_sem]);(case h5=>exact Kv s);(case h3=>first|exact Bool.or_eq_true_iff.2 (.inr rfl)|(refine Bool.or_eq_true_iff.2 (.inl ?_);simp only[clos,List.all_cons,List.all_nil,Bool.and_true,go_sem]));(case h4=>first|rfl|simp only[go_sem,Bool.and_true]))|((with_reducible refine U_pc (g:=113) (r:=.bo (ps.any Q8)) (vs:=?_) (ws:=?_) ?h1 ?h2 ?h3 ?h4 ?h5 ?_);(case h1=>((try simp only[nd8,List.take_succ_cons,List.take_zero,List.drop_succ_cons,go_sem])<;>rfl));(case h2=>refine Qj ?_;first|rfl|simp only[List.all_cons,List.all_nil,Bool.and_true,go_sem]);(case h5=>exact hc1);(case h3=>first|exact Bool.or_eq_true_iff.2 (.inr rfl)|(refine Bool.or_eq_true_iff.2 (.inl ?_);simp only[clos,List.all_cons,List.all_nil,Bool.and_true,go_sem]));(case h4=>first|rfl|simp only[go_sem,Bool.and_true]))|((with_reducible refine U_pc (g:=113) (r:=.bo (ps.any fun p=>!Q8 p)) (vs:=?_) (ws:=?_) ?h1 ?h2 ?h3 ?h4 ?h5 ?_);(case h1=>((try simp only[nd8,List.take_succ_cons,List.take_zero,List.drop_succ_cons,go_sem])<;>rfl));(case h2=>refine Qj ?_;first|rfl|simp only[List.all_cons,List.all_nil,Bool.and_true,go_sem]);(case h5=>exact hc2);(case h3=>first|exact Bool.or_eq_true_iff.2 (.inr rfl)|(refine Bool.or_eq_true_iff.2 (.inl ?_);simp only[clos,List.all_cons,List.all_nil,Bool.and_true,go_sem]));(case h4=>first|rfl|simp only[go_sem,Bool.and_true]))|with_reducible (refine U_gb (q:=?_) ?h1 (fun _=>?_) (fun _=>?_);case h1=>((try simp only[nd8,List.take_succ_cons,List.take_zero,List.drop_succ_cons,go_sem])<;>rfl))|with_reducible (refine Qe (q:=?_) ?h1 (fun _=>?_) (fun _=>?_);case h1=>((try simp only[nd8,List.take_succ_cons,List.take_zero,List.drop_succ_cons,go_sem])<;>rfl))));all_goals clear ih ih2 hc1 hc2 hf hf2 hs
   all_goals first
    | (refine congrArg some (congrArg V.bo ?_);simp_all [Q8,Jp,Xj];done)
    | (refine congrArg some (congrArg V.bo ?_);simp_all [Q8,Jp,Xj,List.all_eq_not_any_not];done)
    | (exfalso;simp_all;done)
termination_by n=>SizeOf.sizeOf n
decreasing_by
 have:=List.sizeOf_lt_of_mem hp
 simp;omega
end Go.Proofs.YtocmjakchgcioaaGreat
namespace Go.Proofs.YtocmjakchgcioaaGreat
set_option linter.all false
mutual
def ZH:Nd→Bool
 | .mk k _ ps lo _ =>
  if k=1 then false
  else if k=2 then Y5 ps
  else if k=3 then YY ps
  else if k=4 then lo==0||VQ ps
  else true
def YY:List Nd→Bool
 | []=>false
 | p::ps=>ZH p||YY ps
def Y5:List Nd→Bool
 | []=>true
 | p::ps=>ZH p&&Y5 ps
def VQ:List Nd→Bool
 | []=>false
 | p::_=>ZH p
end
theorem Xq (ps:List Nd):YY ps=ps.any ZH:=by induction ps with
 | nil=>rfl
 | cons p ps ih=>simp [YY,ih]
theorem WO (ps:List Nd):Y5 ps=ps.all ZH:=by induction ps with
 | nil=>rfl
 | cons p ps ih=>simp [Y5,ih]
set_option maxHeartbeats 1000000 in
theorem H7:∀ (n:Nd),ZO n→Qz n=true→Pu F 120 [.ag (cel n)] (.bo (ZH n))
 | .mk k s ps lo hi,hs,hf=>by
  have hf2:QG k s ps.length lo hi=true∧ps.all Qz=true:=by
   rw[Qz,Bool.and_eq_true,ZK] at hf;exact hf
  have ih:∀ p∈ps,Pu F 120 [.ag (cel p)] (.bo (ZH p)):=fun p hp=>H7 p ((Zd ps).1 hs.2.2 p hp) (List.all_eq_true.1 hf2.2 p hp);have ih2:∀ p∈ps,Pu F 138 [.ag (cel p)] (.bo (!ZH p)):=fun p hp=>by
   refine Qr e138 rfl rfl (by simp only[go_sem,Bool.and_true]) ?_;dsimp only[Qjf,c138];(repeat' (first|(with_reducible (first|refine Qa ?_|refine Qc ?_|refine Qb ?_|refine Qf ?_|refine X_nx ?_|((first|refine U_q (v:=?_) ?h1 ?_|refine U_ld (v:=?_) ?h1 ?_|refine E_1 (v:=?_) ?h1 ?_);case h1=>((try simp only[go_sem])<;>rfl))|(refine QC (cs:=?_) (cs':=?_) (n:=?_) ?h1 ?h2 ?h3 ?h4 ?_;case h1|h2|h3|h4=>((try simp only[go_sem])<;>rfl))))|((with_reducible refine U_pc (g:=120) (r:=.bo (ZH p)) (vs:=?_) (ws:=?_) ?h1 ?h2 ?h3 ?h4 ?h5 ?_);(case h1=>((try simp only[go_sem])<;>rfl));(case h2=>refine Qj ?_;first|rfl|simp only[List.all_cons,List.all_nil,Bool.and_true,go_sem]);(case h5=>exact ih p hp);(case h3=>first|exact Bool.or_eq_true_iff.2 (.inr rfl)|(refine Bool.or_eq_true_iff.2 (.inl ?_);simp only[clos,List.all_cons,List.all_nil,Bool.and_true,go_sem]));(case h4=>first|rfl|simp only[go_sem,Bool.and_true]))|with_reducible (refine U_gb (q:=?_) ?h1 (fun _=>?_) (fun _=>?_);case h1=>((try simp only[go_sem])<;>rfl))|with_reducible (refine Qe (q:=?_) ?h1 (fun _=>?_) (fun _=>?_);case h1=>((try simp only[go_sem])<;>rfl))));rfl
  have hc1:=KB ps hs.2.1 120 ZH ih;have hc2:=KB ps hs.2.1 138 (fun p=>!ZH p) ih2;by_cases h4:k=4
  ·subst h4;obtain⟨hl1,_,_,_⟩:=KW hf2.1;obtain⟨p,rfl⟩:=List.length_eq_one_iff.1 hl1;have ihp:=ih p (by simp);refine Qr e120 rfl rfl (by simp only[go_sem,Bool.and_true]) ?_;dsimp only[Qhj,c120];rw[Ze];(repeat' (first|(with_reducible (first|refine Qa ?_|refine Qc ?_|refine Qb ?_|refine Ql ?_|refine Qf ?_|refine X_nx ?_|refine X_rt ?_|refine B_rt ?_|((first|refine U_q (v:=?_) ?h1 ?_|refine U_ld (v:=?_) ?h1 ?_|refine E_1 (v:=?_) ?h1 ?_|refine U_gt ?h1 ?_|refine Qm ?h1 ?_);case h1=>((try simp only[nd8,List.take_succ_cons,List.take_zero,List.drop_succ_cons,go_sem])<;>rfl))|(refine QC (cs:=?_) (cs':=?_) (n:=?_) ?h1 ?h2 ?h3 ?h4 ?_;case h1|h2|h3|h4=>((try simp only[nd8,List.take_succ_cons,List.take_zero,List.drop_succ_cons,go_sem])<;>rfl))|((first|refine XK ?h1 ?_|refine Qk ?h1 ?_);case h1=>((try simp only[nd8,List.take_succ_cons,List.take_zero,List.drop_succ_cons,go_sem])<;>rfl))))|((with_reducible refine U_pc (g:=120) (r:=.bo (ZH p)) (vs:=?_) (ws:=?_) ?h1 ?h2 ?h3 ?h4 ?h5 ?_);(case h1=>((try simp only[nd8,List.take_succ_cons,List.take_zero,List.drop_succ_cons,go_sem])<;>rfl));(case h2=>refine Qj ?_;first|rfl|simp only[List.all_cons,List.all_nil,Bool.and_true,go_sem]);(case h5=>exact ihp);(case h3=>first|exact Bool.or_eq_true_iff.2 (.inr rfl)|(refine Bool.or_eq_true_iff.2 (.inl ?_);simp only[clos,List.all_cons,List.all_nil,Bool.and_true,go_sem]));(case h4=>first|rfl|simp only[go_sem,Bool.and_true]))|with_reducible (refine U_gb (q:=?_) ?h1 (fun _=>?_) (fun _=>?_);case h1=>((try simp only[nd8,List.take_succ_cons,List.take_zero,List.drop_succ_cons,go_sem])<;>rfl))|with_reducible (refine Qe (q:=?_) ?h1 (fun _=>?_) (fun _=>?_);case h1=>((try simp only[nd8,List.take_succ_cons,List.take_zero,List.drop_succ_cons,go_sem])<;>rfl))));all_goals (refine congrArg some (congrArg V.bo ?_);clear ih ih2 hc1 hc2 ihp hf hf2 hs;simp_all [ZH,VQ];try omega)
  ·refine Qr e120 rfl rfl (by simp only[go_sem,Bool.and_true]) ?_;dsimp only[Qhj,c120];rw[Ze];(repeat' (first|(with_reducible (first|refine Qa ?_|refine Qc ?_|refine Qb ?_|refine Ql ?_|refine Qg ?_|refine Qf ?_|refine X_nx ?_|refine X_rt ?_|refine B_nx ?_|refine B_rt ?_|((first|refine U_q (v:=?_) ?h1 ?_|refine U_ld (v:=?_) ?h1 ?_|refine E_1 (v:=?_) ?h1 ?_|refine U_gt ?h1 ?_);case h1=>((try simp only[nd8,List.take_succ_cons,List.take_zero,List.drop_succ_cons,go_sem])<;>rfl))|(refine QC (cs:=?_) (cs':=?_) (n:=?_) ?h1 ?h2 ?h3 ?h4 ?_;case h1|h2|h3|h4=>((try simp only[nd8,List.take_succ_cons,List.take_zero,List.drop_succ_cons,go_sem])<;>rfl))|(refine XK ?h1 ?_;case h1=>((try simp only[nd8,List.take_succ_cons,List.take_zero,List.drop_succ_cons,go_sem])<;>rfl))))|((with_reducible refine U_pc (g:=113) (r:=.bo (ps.any ZH)) (vs:=?_) (ws:=?_) ?h1 ?h2 ?h3 ?h4 ?h5 ?_);(case h1=>((try simp only[nd8,List.take_succ_cons,List.take_zero,List.drop_succ_cons,go_sem])<;>rfl));(case h2=>refine Qj ?_;first|rfl|simp only[List.all_cons,List.all_nil,Bool.and_true,go_sem]);(case h5=>exact hc1);(case h3=>first|exact Bool.or_eq_true_iff.2 (.inr rfl)|(refine Bool.or_eq_true_iff.2 (.inl ?_);simp only[clos,List.all_cons,List.all_nil,Bool.and_true,go_sem]));(case h4=>first|rfl|simp only[go_sem,Bool.and_true]))|((with_reducible refine U_pc (g:=113) (r:=.bo (ps.any fun p=>!ZH p)) (vs:=?_) (ws:=?_) ?h1 ?h2 ?h3 ?h4 ?h5 ?_);(case h1=>((try simp only[nd8,List.take_succ_cons,List.take_zero,List.drop_succ_cons,go_sem])<;>rfl));(case h2=>refine Qj ?_;first|rfl|simp only[List.all_cons,List.all_nil,Bool.and_true,go_sem]);(case h5=>exact hc2);(case h3=>first|exact Bool.or_eq_true_iff.2 (.inr rfl)|(refine Bool.or_eq_true_iff.2 (.inl ?_);simp only[clos,List.all_cons,List.all_nil,Bool.and_true,go_sem]));(case h4=>first|rfl|simp only[go_sem,Bool.and_true]))|with_reducible (refine U_gb (q:=?_) ?h1 (fun _=>?_) (fun _=>?_);case h1=>((try simp only[nd8,List.take_succ_cons,List.take_zero,List.drop_succ_cons,go_sem])<;>rfl))|with_reducible (refine Qe (q:=?_) ?h1 (fun _=>?_) (fun _=>?_);case h1=>((try simp only[nd8,List.take_succ_cons,List.take_zero,List.drop_succ_cons,go_sem])<;>rfl))));all_goals clear ih ih2 hc1 hc2 hf hf2 hs
   all_goals first
    | (refine congrArg some (congrArg V.bo ?_);simp_all [ZH,Xq,WO];done)
    | (refine congrArg some (congrArg V.bo ?_);simp_all [ZH,Xq,WO,List.all_eq_not_any_not];done)
    | (exfalso;simp_all;done)
termination_by n=>SizeOf.sizeOf n
decreasing_by
 have:=List.sizeOf_lt_of_mem hp
 simp;omega
def Jv (p:Nd→Nd→Bool):List Nd→List Nd→Bool
 | x::xs,y::ys=>p x y&&Jv p xs ys
 | _,_=>true
theorem QaC (p:Nd→Nd→Bool) (qs:List Nd):Jv p [] qs=true:=by cases qs<;>rfl
theorem Qjy (ps qs:List Nd) (hl:ps.length < 9223372036854775808) (g:Nat) (p:Nd→Nd→Bool) (h:∀ x∈ps,∀ y∈qs,Pu F g [.ag (cel x),.ag (cel y)] (.bo (p x y))) :
  Pu F 142 [.sl (ps.map cel),.sl (qs.map cel),.fn g []] (.bo (ps.length==qs.length&&Jv p ps qs)):=by
 have hnn:((ps.length:Int) != (qs.length:Int))=!(ps.length==qs.length):=by
  rw[Bool.eq_iff_iff];simp;omega
 refine Qr e142 rfl rfl (by simp only[go_sem,Bool.and_true]) ?_;dsimp only[QkD,c142];(repeat' (first|(with_reducible (first|refine Qa ?_|refine Qc ?_|refine Qb ?_|refine Ql ?_|refine Qg ?_|refine Qf ?_|refine X_nx ?_|refine X_rt ?_|((first|refine U_q (v:=?_) ?h1 ?_|refine E_1 (v:=?_) ?h1 ?_);case h1=>((try simp only[List.length_map,hnn,go_sem])<;>rfl))))|with_reducible (refine U_gb (q:=?_) ?h1 (fun _=>?_) (fun _=>?_);case h1=>((try simp only[List.length_map,hnn,go_sem])<;>rfl))|with_reducible (refine Qe (q:=?_) ?h1 (fun _=>?_) (fun _=>?_);case h1=>((try simp only[List.length_map,hnn,go_sem])<;>rfl))))
 ·refine congrArg some (congrArg V.bo ?_);simp_all
 have hlen:ps.length=qs.length:=by simp_all
 refine U_lp (fun r e o=>∃ i:Nat,i+r=ps.length∧e 1=.sl (qs.map cel)∧e 2=.fn g []∧e 15=.sl (ps.map cel)∧e 16=.i .i64 ps.length∧e 17=.i .i64 i∧Jv p ps qs=Jv p (ps.drop i) (qs.drop i)) (k:=ps.length) ?_ (Qh F) ?_
 ·refine⟨0,by omega,Z0,Z0,Z0,by simp only[List.length_map,go_sem],Zr0,rfl⟩
 rintro r e o ⟨i,hir,h1,h2,h15,h16,h17,hz⟩;dsimp only[QeB];(repeat (with_reducible (first|refine Qa ?_|refine Qc ?_|refine Qb ?_|refine X_nx ?_|(refine U_q (v:=?_) ?h1 ?_;case h1=>((try simp only[h16,h17,go_sem])<;>rfl)))));refine Qe (q:=decide ((i:Int) < (ps.length:Int))) (Z0) (fun hc=>?_) (fun hc=>?_)
 ·have hi:i < ps.length:=by simpa using hc
  have hi2:i < qs.length:=by omega
  have hw1:IntKind.i64.wrap ((i:Int)+1)=((i+1:Nat):Int):=by rw[Qt (by omega) (by omega)];rfl
  have hp:(ps.map cel)[i]?=some (cel ps[i]):=by simp [hi]
  have hq:(qs.map cel)[i]?=some (cel qs[i]):=by simp [hi2]
  have hpos:(0:Int)≤(i:Int):=by omega
  have hcall:=h ps[i] (List.getElem_mem _) qs[i] (List.getElem_mem _);rw[List.drop_eq_getElem_cons hi,List.drop_eq_getElem_cons hi2,Jv] at hz;(repeat (with_reducible (first|refine Qa ?_|refine Qc ?_|refine Qb ?_|refine Ql ?_|refine Qg ?_|refine X_nx ?_|((first|refine U_q (v:=?_) ?h1 ?_|refine U_ld (v:=?_) ?h1 ?_|refine QK (n:=?_) ?h1 ?_);case h1=>((try simp only[h1,h2,h15,h16,h17,hpos,Int.toNat_natCast,hp,hq,go_sem])<;>rfl))|(refine Qq (id:=?_) (i:=?_) (j:=?_) (q:=?_) (es:=?_) (cs:=?_) (vs:=?_) (es':=?_) ?h1 ?h2 ?h3 ?h4 ?h5 ?h6 ?h7 ?_;case h1|h2|h3|h4|h5|h6|h7=>((try simp only[h1,h2,h15,h16,h17,hpos,Int.toNat_natCast,hp,hq,go_sem])<;>rfl)))));refine U_pv (g:=g) (cs:=[]) (vs:=[.ag (cel ps[i]),.ag (cel qs[i])]) (ws:=[.ag (cel ps[i]),.ag (cel qs[i])]) (r:=.bo (p ps[i] qs[i])) (Z1 h2) (Zr0) (Qj (by simp only[List.all_cons,List.all_nil,Bool.and_true,go_sem])) (Bool.or_eq_true_iff.2 (.inr rfl)) rfl hcall ?_;(repeat (with_reducible (first|refine Qa ?_|refine X_nx ?_|(refine U_q (v:=?_) ?h1 ?_;case h1=>((try simp only[go_sem])<;>rfl)))));refine Qe (q:=!p ps[i] qs[i]) (Z0) (fun hc2=>?_) (fun hc2=>?_)
  ·(repeat (with_reducible (first|refine Qa ?_|refine Qc ?_|refine Qb ?_|refine Qf ?_|refine X_nx ?_|refine X_rt ?_|refine B_rt ?_|((first|refine U_q (v:=?_) ?h1 ?_|refine E_1 (v:=?_) ?h1 ?_);case h1=>((try simp only[go_sem])<;>rfl)))));refine congrArg some (congrArg V.bo ?_);rw[hz];simp_all
  ·(repeat (with_reducible (first|refine Qa ?_|refine Qb ?_|refine Qg ?_|refine X_nx ?_|refine B_nx ?_|(refine U_q (v:=?_) ?h1 ?_;case h1=>((try simp only[h17,hw1,go_sem])<;>rfl)))))
   refine⟨r - 1,by omega,i+1,by omega,Z1 h1,Z1 h2,Z1 h15,Z1 h16,Z0,?_⟩
   rw[hz];simp_all
 ·have hi:i=ps.length:=by
   have:¬ i < ps.length:=by simpa using hc
   omega
  (repeat (with_reducible (first|refine Qa ?_|refine Qc ?_|refine Qb ?_|refine QW ?_|refine Qf ?_|refine X_nx ?_|refine X_ex ?_|refine Qi ?_|((first|refine U_q (v:=?_) ?h1 ?_|refine E_1 (v:=?_) ?h1 ?_);case h1=>((try simp only[go_sem])<;>rfl)))));refine congrArg some (congrArg V.bo ?_);rw[hz,hi,List.drop_length,QaC,hlen];simp
mutual
def Js:Nd→Nd→Bool
 | .mk k s ps lo hi,.mk k' s' ps' lo' hi'=>k==k'&&(s 0==s' 0&&(s 1==s' 1&&(s 2==s' 2&&s 3==s' 3)))&&lo==lo'&&hi==hi'&&Qds ps ps'
def Qds:List Nd→List Nd→Bool
 | [],[]=>true
 | p::ps,q::qs=>Js p q&&Qds ps qs
 | _,_=>false
end
theorem Hc:∀ (ps qs:List Nd),Qds ps qs=(ps.length==qs.length&&Jv Js ps qs)
 | [],[]=>rfl
 | [],_::_=>rfl
 | _::_,[]=>rfl
 | p::ps,q::qs=>by
  rw[Qds,Hc ps qs,Jv]
  have:(ps.length+1==qs.length+1)=(ps.length==qs.length):=by simp
  rw[List.length_cons,List.length_cons,this];cases Js p q<;>cases (ps.length==qs.length)<;>rfl
set_option maxHeartbeats 1000000 in
theorem QbB:∀ (a b:Nd),ZO a→ZO b→Pu F 137 [.ag (cel a),.ag (cel b)] (.bo (Js a b))
 | .mk k s ps lo hi,.mk k' s' ps' lo' hi',ha,hb=>by
  have ih:∀ p∈ps,∀ q∈ps',Pu F 137 [.ag (cel p),.ag (cel q)] (.bo (Js p q)):=fun p hp q hq=>QbB p q ((Zd ps).1 ha.2.2 p hp) ((Zd ps').1 hb.2.2 q hq);have hE:=Qjy ps ps' ha.2.1 137 Js ih;have nn:∀ a b:Nat,((a:Int)==(b:Int))=(a==b):=fun a b=>by rw[Bool.eq_iff_iff];simp;omega
  refine Qr e137 rfl rfl (by simp only[go_sem,Bool.and_true]) ?_;dsimp only[Qjr,c137];rw[Ze,Ze];(repeat' (first|(with_reducible (first|refine Qa ?_|refine Qc ?_|refine Qb ?_|refine Qf ?_|refine X_nx ?_|((first|refine U_q (v:=?_) ?h1 ?_|refine U_ld (v:=?_) ?h1 ?_|refine E_1 (v:=?_) ?h1 ?_|refine U_gt ?h1 ?_);case h1=>((try simp only[nd8,List.take_succ_cons,List.take_zero,List.drop_succ_cons,eqV,eqps,lfEq,nn,go_sem])<;>rfl))|(refine QC (cs:=?_) (cs':=?_) (n:=?_) ?h1 ?h2 ?h3 ?h4 ?_;case h1|h2|h3|h4=>((try simp only[nd8,List.take_succ_cons,List.take_zero,List.drop_succ_cons,eqV,eqps,lfEq,nn,go_sem])<;>rfl))|(refine Yi ?h1 ?_;case h1=>((try simp only[nd8,List.take_succ_cons,List.take_zero,List.drop_succ_cons,eqV,eqps,lfEq,nn,go_sem])<;>rfl))))|((with_reducible refine U_pc (g:=142) (r:=.bo (ps.length==ps'.length&&Jv Js ps ps')) (vs:=?_) (ws:=?_) ?h1 ?h2 ?h3 ?h4 ?h5 ?_);(case h1=>((try simp only[nd8,List.take_succ_cons,List.take_zero,List.drop_succ_cons,eqV,eqps,lfEq,nn,go_sem])<;>rfl));(case h2=>refine Qj ?_;first|rfl|simp only[List.all_cons,List.all_nil,Bool.and_true,go_sem]);(case h5=>exact hE);(case h3=>first|exact Bool.or_eq_true_iff.2 (.inr rfl)|(refine Bool.or_eq_true_iff.2 (.inl ?_);simp only[clos,List.all_cons,List.all_nil,Bool.and_true,go_sem]));(case h4=>first|rfl|simp only[go_sem,Bool.and_true]))|with_reducible (refine U_gb (q:=?_) ?h1 (fun _=>?_) (fun _=>?_);case h1=>((try simp only[nd8,List.take_succ_cons,List.take_zero,List.drop_succ_cons,eqV,eqps,lfEq,nn,go_sem])<;>rfl))|with_reducible (refine Qe (q:=?_) ?h1 (fun _=>?_) (fun _=>?_);case h1=>((try simp only[nd8,List.take_succ_cons,List.take_zero,List.drop_succ_cons,eqV,eqps,lfEq,nn,go_sem])<;>rfl))));all_goals clear ih hE ha hb nn
  all_goals (refine congrArg some (congrArg V.bo ?_);rw[Js,Hc];simp_all)
termination_by a=>SizeOf.sizeOf a
decreasing_by
 have:=List.sizeOf_lt_of_mem hp
 simp;omega
end Go.Proofs.YtocmjakchgcioaaGreat
namespace Go.Proofs.YtocmjakchgcioaaGreat
set_option linter.all false
def zSet:Nat→Nat:=fun _=>0
def noN:Nd:=.mk 0 zSet [] 0 0
def oneN (k:Int):List Nd→Nd
 | []=>noN
 | [p]=>p
 | ps=>.mk k zSet ps 0 0
theorem YJ (o:O) (k:Int) (s:Nat→Nat) (ps:List Nd) (lo hi:Int) (x:V) (hx:frzU 23 o x=some (.sl (ps.map cel))):fzU o (.ag (nd8 k s x lo hi))=some (.ag (cel (.mk k s ps lo hi))):=by
 rw[Ze];unfold fzU FZ;show (([V.i .i64 k,.i .u64 (s 0),.i .u64 (s 1),.i .u64 (s 2),.i .u64 (s 3),x,.i .i64 lo,.i .i64 hi]).mapM (frzU 23 _)).map V.ag=_;simp only[List.mapM_cons,hx];rfl
def JF (p:Nd) (lo hi:Int):Nd :=
 bif (hi==0) then noN else bif (p.kind==0) then noN else bif Q8 p then noN
 else bif (lo==1) then (bif (hi==1) then p else .mk 4 zSet [p] (bif ZH p then 0 else lo) hi)
 else .mk 4 zSet [p] (bif ZH p then 0 else lo) hi
theorem VV (n:Nd) (j:Nat):∀ v∈cel n,okf (j+1) v=true:=by
 cases n;intro v hv;simp [cel,nd8] at hv;rcases hv with rfl|rfl|rfl|rfl|rfl|rfl|rfl|rfl<;>rfl
theorem QdD {o:O} {s:Nat} {l:List Nd} {n:Nat} (h:o s=some (.row 8 (l.map cel))) (hn:l.length=n):frzU 23 o (.rw s 8 0 n)=some (.sl (l.map cel)):=by
 have hs:src o (.rw s 8 0 n)=some (l.map cel):=by
  simp only[src,h];rw[if_pos (by simp;omega)];simp [List.take_of_length_le,hn]
 have hm:((l.map cel).mapM fun c:List V=>c.mapM (frzU 22 o))=some (l.map cel):=Z7 fun c hc v hv=>by
  obtain⟨p,_,rfl⟩:=List.mem_map.1 hc;exact JD _ _ (VV p 21 v hv)
 simp only[frzU,hs,hm];rfl
theorem ZL (p:Nd):(cel p)[0]?=some (.i .i64 p.kind):=by cases p;rfl
set_option maxHeartbeats 2000000 in
theorem QdZ (p:Nd) (hp:ZO p) (hf:Qz p=true) (lo hi:Int):Pu F 118 [.ag (cel p),.i .i64 lo,.i .i64 hi] (.ag (cel (JF p lo hi))):=by
 have hv:=Kt p hp hf;have hn:=H7 p hp hf;refine Qr e118 rfl rfl (by simp only[go_sem,Bool.and_true]) ?_;dsimp only[Qla,c118];(repeat' (first|(with_reducible (first|refine Qa ?_|refine Qc ?_|refine Qb ?_|refine Ql ?_|refine Qg ?_|refine Qf ?_|refine X_nx ?_|refine X_rt ?_|refine B_nx ?_|refine B_rt ?_|((first|refine U_q (v:=?_) ?h1 ?_|refine U_ld (v:=?_) ?h1 ?_|refine E_1 (v:=?_) ?h1 ?_|refine QK (n:=?_) ?h1 ?_|refine U_gt ?h1 ?_|refine Qm ?h1 ?_);case h1=>((try simp only[ZL,go_sem])<;>rfl))|(refine QC (cs:=?_) (cs':=?_) (n:=?_) ?h1 ?h2 ?h3 ?h4 ?_;case h1|h2|h3|h4=>((try simp only[ZL,go_sem])<;>rfl))|(refine Qq (id:=?_) (i:=?_) (j:=?_) (q:=?_) (es:=?_) (cs:=?_) (vs:=?_) (es':=?_) ?h1 ?h2 ?h3 ?h4 ?h5 ?h6 ?h7 ?_;case h1|h2|h3|h4|h5|h6|h7=>((try simp only[ZL,go_sem])<;>rfl))|(refine Yu (es:=?_) (es':=?_) ?h1 ?h2 ?h3 ?_;case h1|h2|h3=>((try simp only[ZL,go_sem])<;>rfl))|((first|refine XK ?h1 ?_|refine Yi ?h1 ?_|refine Qk ?h1 ?_);case h1=>((try simp only[ZL,go_sem])<;>rfl))|rw[Qd]))|((with_reducible refine U_pc (g:=115) (r:=.bo (Q8 p)) (vs:=?_) (ws:=?_) ?h1 ?h2 ?h3 ?h4 ?h5 ?_);(case h1=>((try simp only[ZL,go_sem])<;>rfl));(case h2=>refine Qj ?_;first|rfl|simp only[List.all_cons,List.all_nil,Bool.and_true,go_sem]);(case h5=>exact hv);(case h3=>first|exact Bool.or_eq_true_iff.2 (.inr rfl)|(refine Bool.or_eq_true_iff.2 (.inl ?_);simp only[clos,List.all_cons,List.all_nil,Bool.and_true,go_sem]));(case h4=>first|rfl|simp only[go_sem,Bool.and_true]))|((with_reducible refine U_pc (g:=120) (r:=.bo (ZH p)) (vs:=?_) (ws:=?_) ?h1 ?h2 ?h3 ?h4 ?h5 ?_);(case h1=>((try simp only[ZL,go_sem])<;>rfl));(case h2=>refine Qj ?_;first|rfl|simp only[List.all_cons,List.all_nil,Bool.and_true,go_sem]);(case h5=>exact hn);(case h3=>first|exact Bool.or_eq_true_iff.2 (.inr rfl)|(refine Bool.or_eq_true_iff.2 (.inl ?_);simp only[clos,List.all_cons,List.all_nil,Bool.and_true,go_sem]));(case h4=>first|rfl|simp only[go_sem,Bool.and_true]))|with_reducible (refine U_gb (q:=?_) ?h1 (fun _=>?_) (fun _=>?_);case h1=>((try simp only[ZL,go_sem])<;>rfl))|with_reducible (refine Qe (q:=?_) ?h1 (fun _=>?_) (fun _=>?_);case h1=>((try simp only[ZL,go_sem])<;>rfl))));all_goals clear hv hn hp hf
 all_goals simp only[JF,cond_true,cond_false, *]
 all_goals first
  | exact YJ _ 0 zSet [] 0 0 .nil rfl
  | exact Y6 (by simp only[go_sem])
  | exact YJ _ 4 zSet [p] _ hi _ (QdD (l:=[p]) (n:=1) (by simp only[go_sem]) rfl)
  | skip
end Go.Proofs.YtocmjakchgcioaaGreat
namespace Go.Proofs.YtocmjakchgcioaaGreat
set_option linter.all false
mutual
def cntN:Nd→Nat
 | .mk _ _ ps _ _=>1+cntL ps
def cntL:List Nd→Nat
 | []=>0
 | p::ps=>cntN p+cntL ps
end
mutual
def put1 (k:Int):List Nd→Nd→List Nd
 | l,.mk k2 s ps lo hi =>
  if k2=k then putL k l ps
  else if k=2∧k2=0 then l
  else if k=3∧(Q8 (.mk k2 s ps lo hi)||l.any (Js (.mk k2 s ps lo hi)))=true then l
  else l++[.mk k2 s ps lo hi]
def putL (k:Int):List Nd→List Nd→List Nd
 | l,[]=>l
 | l,p::ps=>putL k (put1 k l p) ps
end
def okN (n:Nd):Prop:=ZO n∧Qz n=true
theorem ZN {n:Nd} (h:okN n):(∀ p∈n.parts,okN p)∧n.parts.length < 9223372036854775808:=by
 cases n with
 | mk k s ps lo hi =>
  obtain⟨h1,h2⟩:=h;rw[Qz,Bool.and_eq_true,ZK] at h2
  exact⟨fun p hp=>⟨(Zd ps).1 h1.2.2 p hp,List.all_eq_true.1 h2.2 p hp⟩,h1.2.1⟩
mutual
theorem Qcm (k:Int):∀ (l:List Nd) (p:Nd),okN p→(∀ q∈l,okN q)→(∀ q∈put1 k l p,okN q)∧(put1 k l p).length≤l.length+cntN p
 | l,.mk k2 s ps lo hi,hp,hl=>by
  rw[put1,cntN];split
  ·have:=KF k l ps (ZN hp).1 hl
   exact⟨this.1,by omega⟩
  ·split
   ·exact⟨hl,by omega⟩
   ·split
    ·exact⟨hl,by omega⟩
    ·refine⟨fun q hq=>?_,by rw[List.length_append];simp only[List.length_cons,List.length_nil];omega⟩
     rcases List.mem_append.1 hq with h|h
     ·exact hl q h
     ·simp at h;rw[h];exact hp
theorem KF (k:Int):∀ (l ps:List Nd),(∀ p∈ps,okN p)→(∀ q∈l,okN q)→(∀ q∈putL k l ps,okN q)∧(putL k l ps).length≤l.length+cntL ps
 | l,[],_,hl=>by rw[putL,cntL];exact⟨hl,by omega⟩
 | l,p::ps,hp,hl=>by
  rw[putL,cntL];have h1:=Qcm k l p (hp p (by simp)) hl;have h2:=KF k (put1 k l p) ps (fun q hq=>hp q (by simp [hq])) h1.1
  exact⟨h2.1,by omega⟩
end
theorem Qhb (k:Int) (l:List Nd) (p:Nd):put1 k l p =
  if p.kind=k then putL k l p.parts
  else bif (k==2)&&(p.kind==0) then l
  else bif (k==3)&&(Q8 p||l.any (Js p)) then l
  else l++[p]:=by
 have c:∀ (b:Bool) (x y:List Nd),(bif b then x else y)=if b=true then x else y:=fun b x y=>by cases b<;>rfl
 cases p;rw[put1,c,c];simp only[Bool.and_eq_true,beq_iff_eq];rfl
theorem Qdp (p:Nd):(cel p)[5]?=some (.sl (p.parts.map cel)):=by cases p;rw[Ze];rfl
theorem Wd (d:Nat) (l:List Nd):List.map (swpL d) (List.map cel l)=List.map cel l:=by
 rw[List.map_map];exact List.map_congr_left fun p _=>D5 d p
theorem Yg (l:List Nd):okLL (l.map cel)=true:=List.all_eq_true.2 fun c hc=>by
 obtain⟨p,_,rfl⟩:=List.mem_map.1 hc
 have:=WY p.parts
 cases p with
 | mk k s ps lo hi=>rw[Ze];simp [nd8,okL,ok];exact this
theorem Kl (l:List Nd):ok (.sl (l.map cel))=true:=by rw[ok];exact WY l
theorem Hp (p:Nd):SizeOf.sizeOf p.parts < SizeOf.sizeOf p:=by cases p;simp [Nd.parts];omega
theorem Qjs (p q:Nd) (hp:ZO p) (hq:ZO q):Pu F 136 [.ag (cel q),.ip (cel p) 0] (.bo (Js p q)):=by
 refine Qr e136 rfl rfl (by simp only[go_sem,Bool.and_true]) ?_;dsimp only[Qia,c136];(repeat' (first|(with_reducible (first|refine Qa ?_|refine Qc ?_|refine Qb ?_|refine Qf ?_|refine X_nx ?_|((first|refine U_q (v:=?_) ?h1 ?_|refine U_ld (v:=?_) ?h1 ?_|refine E_1 (v:=?_) ?h1 ?_);case h1=>((try simp only[go_sem])<;>rfl))|(refine QC (cs:=?_) (cs':=?_) (n:=?_) ?h1 ?h2 ?h3 ?h4 ?_;case h1|h2|h3|h4=>((try simp only[go_sem])<;>rfl))))|((with_reducible refine U_pc (g:=137) (r:=.bo (Js p q)) (vs:=?_) (ws:=?_) ?h1 ?h2 ?h3 ?h4 ?h5 ?_);(case h1=>((try simp only[go_sem])<;>rfl));(case h2=>refine Qj ?_;first|rfl|simp only[List.all_cons,List.all_nil,Bool.and_true,go_sem]);(case h5=>exact QbB p q hp hq);(case h3=>first|exact Bool.or_eq_true_iff.2 (.inr rfl)|(refine Bool.or_eq_true_iff.2 (.inl ?_);simp only[clos,List.all_cons,List.all_nil,Bool.and_true,go_sem]));(case h4=>first|rfl|simp only[go_sem,Bool.and_true]))|with_reducible (refine U_gb (q:=?_) ?h1 (fun _=>?_) (fun _=>?_);case h1=>((try simp only[go_sem])<;>rfl))|with_reducible (refine Qe (q:=?_) ?h1 (fun _=>?_) (fun _=>?_);case h1=>((try simp only[go_sem])<;>rfl))));rfl
attribute [go_sem] Wd ZL Qdp
theorem Qfr {o:O} {p:Nd} {s:Nat} (h:o s=some (.row 8 [cel p])):fzU o (.fn 136 [.pt s 0 0])=some (.fn 136 [.ip (cel p) 0]):=by
 have hm:(cel p).mapM (frzU 22 o)=some (cel p):=Yb fun v hv=>JD _ _ (VV p 21 v hv);unfold fzU FZ;simp only[frzU,QD,h,List.mapM_cons,List.mapM_nil,List.getElem?_cons_zero,hm];rfl
set_option maxHeartbeats 2000000 in
theorem QjJ (k:Int):∀ (n:Nat) (ps l:List Nd),SizeOf.sizeOf ps < n→(∀ p∈ps,okN p)→(∀ q∈l,okN q)→l.length+cntL ps≤1000→ps.length < 9223372036854775808 →
  ApC (Call F) 117 (fun v=>[V.i .i64 k]++v::[.sl (ps.map cel)]) 8 (l.map cel) ((putL k l ps).map cel):=by
 intro n;induction n with
 | zero=>intro ps l h;omega
 | succ n ih =>
  intro ps l hn hps hl hcnt hlen;refine Qlh e117 rfl rfl rfl (by rw[okL,Kl];rfl) (Yg _) (Yg _) ?_;dsimp only[Qks,c117];(repeat (with_reducible (first|refine Qa ?_|refine Qc ?_|refine Qb ?_|refine Ql ?_|refine X_nx ?_|(refine U_q (v:=?_) ?h1 ?_;case h1=>((try simp only[List.cons_append,List.nil_append,List.length_map,go_sem])<;>rfl)))));refine U_lp (fun r e o=>∃ (j:Nat) (acc:List Nd),j+r=ps.length∧e 0=.i .i64 k∧e 1=ownV 999999 8 (acc.map cel)∧(acc≠[]→o 999999=some (.row 8 (acc.map cel)))∧e 9=.sl (ps.map cel)∧e 10=.i .i64 ps.length∧e 11=.i .i64 j ∧
   putL k acc (ps.drop j)=putL k l ps∧(∀ q∈acc,okN q)∧acc.length+cntL (ps.drop j)≤1000) (k:=ps.length) ?_ (Qh F) ?_
  ·refine⟨0,l,by omega,by simp only[List.cons_append,List.nil_append,go_sem],by simp only[List.cons_append,List.nil_append,go_sem],fun h=>?_,by simp only[List.cons_append,List.nil_append,go_sem],by simp only[List.cons_append,List.nil_append,List.length_map,go_sem],Zr0,rfl,hl,hcnt⟩
   rw[if_neg (by simpa using h)];exact Wr _ _ _
  clear hl hcnt;rintro r e o ⟨j,acc,hjr,h0,h1,ho,h9,h10,h11,hput,hacc,hcnt⟩;dsimp only[Qfe];(repeat (with_reducible (first|refine Qa ?_|refine Qc ?_|refine Qb ?_|refine X_nx ?_|(refine U_q (v:=?_) ?h1 ?_;case h1=>((try simp only[h10,h11,go_sem])<;>rfl)))));refine Qe (q:=decide ((j:Int) < (ps.length:Int))) (Z0) (fun hc=>?_) (fun hc=>?_)
  ·have hj:j < ps.length:=by simpa using hc
   have hp:(ps.map cel)[j]?=some (cel ps[j]):=by simp [hj]
   have hpos:(0:Int)≤(j:Int):=by omega
   have hw1:IntKind.i64.wrap ((j:Int)+1)=((j+1:Nat):Int):=by rw[Qt (by omega) (by omega)];rfl
   have hpk:=hps ps[j] (List.getElem_mem _);have hsz:SizeOf.sizeOf ps[j] < SizeOf.sizeOf ps:=List.sizeOf_lt_of_mem (List.getElem_mem _);rw[List.drop_eq_getElem_cons hj,putL] at hput;rw[List.drop_eq_getElem_cons hj,cntL] at hcnt;have hok:=Qcm k acc ps[j] hpk hacc;generalize hpp:ps[j]=p at *;rw[Qhb] at hput hok;have hcel1:1≤cntN p:=by cases p;rw[cntN];omega
   (repeat (with_reducible (first|refine Qa ?_|refine Qc ?_|refine Qb ?_|refine Ql ?_|refine Qg ?_|refine X_nx ?_|((first|refine U_q (v:=?_) ?h1 ?_|refine U_ld (v:=?_) ?h1 ?_|refine QK (n:=?_) ?h1 ?_);case h1=>((try simp only[h0,h1,h9,h10,h11,hpos,Int.toNat_natCast,hp,go_sem])<;>rfl))|(refine Qq (id:=?_) (i:=?_) (j:=?_) (q:=?_) (es:=?_) (cs:=?_) (vs:=?_) (es':=?_) ?h1 ?h2 ?h3 ?h4 ?h5 ?h6 ?h7 ?_;case h1|h2|h3|h4|h5|h6|h7=>((try simp only[h0,h1,h9,h10,h11,hpos,Int.toNat_natCast,hp,go_sem])<;>rfl)))));refine Qe (q:=p.kind==k) (Z0) (fun hk=>?_) (fun hk=>?_)
   ·
    have hk:p.kind=k:=eq_of_beq hk;rw[if_pos hk] at hput hok;have hcp:cntL p.parts≤cntN p:=by cases p;rw[cntN];simp [Nd.parts]
    have hap:=ih p.parts acc (by have:=Hp p;omega) (ZN hpk).1 hacc (by omega) (ZN hpk).2;(repeat (with_reducible (first|refine Qb ?_|((first|refine U_q (v:=?_) ?h1 ?_|refine U_ld (v:=?_) ?h1 ?_);case h1=>((try simp only[h0,h1,go_sem])<;>rfl)))));refine U_ap 999999 (pre:=[.i .i64 k]) (post:=[.sl (p.parts.map cel)]) (by omega) (Zr2 h0 h1) rfl (by rw[okL,Kl];rfl) (Yg _) (Yg _) (fun h=>?_) hap ?_
    ·have:=ho (by simpa using h)
     simp only[this,go_sem]
    (repeat (with_reducible (first|refine Qa ?_|refine Qb ?_|refine X_nx ?_|refine B_nx ?_|(refine U_q (v:=?_) ?h1 ?_;case h1=>((try simp only[h11,hw1,go_sem])<;>rfl)))))
    refine⟨r - 1,by omega,j+1,_,by omega,Z1 h0,Z0,fun h=>?_,Z1 h9,Z1 h10,Z0,hput,hok.1,by omega⟩
    rw[if_neg (by simpa using h)];exact Wr _ _ _
   have hk:¬ p.kind=k:=by simpa using hk
   rw[if_neg hk] at hput hok;have keep:∀ (e':E) (o':O) (acc':List Nd),putL k acc' (ps.drop (j+1))=putL k l ps→(∀ q∈acc',okN q)→acc'.length≤acc.length+cntN p→e' 0=.i .i64 k→e' 1=ownV 999999 8 (acc'.map cel)→(acc'≠[]→o' 999999=some (.row 8 (acc'.map cel)))→e' 9=.sl (ps.map cel)→e' 10=.i .i64 ps.length→e' 11=.i .i64 ((j+1:Nat):Int) →
     ∃ k',k' < r∧∃ (j:Nat) (acc:List Nd),j+k'=ps.length∧e' 0=.i .i64 k∧e' 1=ownV 999999 8 (acc.map cel)∧(acc≠[]→o' 999999=some (.row 8 (acc.map cel)))∧e' 9=.sl (ps.map cel)∧e' 10=.i .i64 ps.length∧e' 11=.i .i64 j ∧
      putL k acc (ps.drop j)=putL k l ps∧(∀ q∈acc,okN q)∧acc.length+cntL (ps.drop j)≤1000 :=
    fun e' o' acc' g1 g2 g3 g4 g5 g6 g7 g8 g9=>⟨r - 1,by omega,j+1,acc',by omega,g4,g5,g6,g7,g8,g9,g1,g2,by omega⟩
   have hv:=Kt p hpk.1 hpk.2;have hc38:Pu F 113 [.sl (acc.map cel),.fn 136 [.ip (cel p) 0]] (.bo (acc.any (Js p))) :=
    Vz cel QN acc (by omega) 136 [.ip (cel p) 0] rfl (Js p) (fun q hq=>⟨[.ag (cel q),.ip (cel p) 0],fun o=>Jj (by simp [FZ,okd,Wi]),Qjs p q hpk.1 (hacc q hq).1⟩) emp _ (fun _=>rfl)
   have hoA:∀ o':O,(acc≠[]→o' 999999=some (.row 8 (acc.map cel)))→fzU o' (ownV 999999 8 (acc.map cel))=some (.sl (acc.map cel)):=fun o' h=>VG 23 (fun hh=>h (by simpa using hh)) fun c hcm v hv=>by
    obtain⟨q,_,rfl⟩:=List.mem_map.1 hcm;exact VV q 22 v hv
   (repeat' (first|(with_reducible (first|refine Qa ?_|refine Qc ?_|refine Qb ?_|refine Qg ?_|refine X_nx ?_|refine B_nx ?_|((first|refine U_q (v:=?_) ?h1 ?_|refine U_ld (v:=?_) ?h1 ?_|refine U_gt ?h1 ?_|refine Qm ?h1 ?_);case h1=>((try simp only[h0,h1,h11,hw1,go_sem])<;>rfl))|(refine Yu (es:=?_) (es':=?_) ?h1 ?h2 ?h3 ?_;case h1|h2|h3=>((try simp only[h0,h1,h11,hw1,go_sem])<;>rfl))|((first|refine XK ?h1 ?_|refine Yi ?h1 ?_|refine Qk ?h1 ?_);case h1=>((try simp only[h0,h1,h11,hw1,go_sem])<;>rfl))|(refine U_gj (vs:=?_) ?h1 ?_;case h1=>((try simp only[h0,h1,h11,hw1,go_sem])<;>rfl))|rw[Qd]))|((with_reducible refine U_pc (g:=115) (r:=.bo (Q8 p)) (vs:=?_) (ws:=?_) ?h1 ?h2 ?h3 ?h4 ?h5 ?_);(case h1=>((try simp only[h0,h1,h11,hw1,go_sem])<;>rfl));(case h2=>refine Qj ?_;first|rfl|simp only[List.all_cons,List.all_nil,Bool.and_true,go_sem]);(case h5=>exact hv);(case h3=>first|exact Bool.or_eq_true_iff.2 (.inr rfl)|(refine Bool.or_eq_true_iff.2 (.inl ?_);simp only[clos,List.all_cons,List.all_nil,Bool.and_true,go_sem]));(case h4=>first|rfl|simp only[go_sem,Bool.and_true]))|with_reducible (refine U_gb (q:=?_) ?h1 (fun _=>?_) (fun _=>?_);case h1=>((try simp only[h0,h1,h11,hw1,go_sem])<;>rfl))|with_reducible (refine Qe (q:=?_) ?h1 (fun _=>?_) (fun _=>?_);case h1=>((try simp only[h0,h1,h11,hw1,go_sem])<;>rfl))));all_goals clear ih
   any_goals
    refine U_pc (g:=113) (r:=.bo (acc.any (Js p))) (vs:=[ownV 999999 8 (acc.map cel),.fn 136 [.pt 8 0 0]]) (ws:=[.sl (acc.map cel),.fn 136 [.ip (cel p) 0]]) (Z1 h1) (Hi (hoA _ fun hh=>by simp only[ho hh,go_sem]) (Hi (Qfr (Z0)) Qei)) (Bool.or_eq_true_iff.2 (.inr rfl)) rfl hc38 ?_;(repeat' (first|(with_reducible (first|refine Qa ?_|refine Qb ?_|refine Qg ?_|refine X_nx ?_|refine B_nx ?_|((first|refine U_q (v:=?_) ?h1 ?_|refine U_ld (v:=?_) ?h1 ?_|refine U_gt ?h1 ?_);case h1=>((try simp only[h0,h1,h11,hw1,go_sem])<;>rfl))|(refine Yu (es:=?_) (es':=?_) ?h1 ?h2 ?h3 ?_;case h1|h2|h3=>((try simp only[h0,h1,h11,hw1,go_sem])<;>rfl))))|with_reducible (refine U_gb (q:=?_) ?h1 (fun _=>?_) (fun _=>?_);case h1=>((try simp only[h0,h1,h11,hw1,go_sem])<;>rfl))|with_reducible (refine Qe (q:=?_) ?h1 (fun _=>?_) (fun _=>?_);case h1=>((try simp only[h0,h1,h11,hw1,go_sem])<;>rfl))))
   all_goals clear hc38 hv hoA
   all_goals first
    | (simp only[*,Bool.true_and,Bool.and_true,Bool.false_and,Bool.and_false,cond_true,cond_false,Bool.or_true,Bool.true_or,Bool.false_or,Bool.not_true,Bool.not_false] at hput hok;exact keep _ _ acc hput hacc (by omega) (Z1 h0) (Z1 h1) (fun hh=>by simp only[ho hh,go_sem]) (Z1 h9) (Z1 h10) (Z0))
    | (refine YR 999999 (L:=acc.map cel) (ys:=[cel p]) (Z1 h1) (fun hh=>by simp only[ho (by simpa using hh),go_sem]) (by simp only[src,go_sem];rfl) (by intro c hc;simp at hc;rw[hc];exact QN p) (by simp) (by omega) ⟨by simp;omega,by omega⟩ (Wd _ _) (by simp only[go_sem]) ?_;(repeat (with_reducible (first|refine Qa ?_|refine Qb ?_|refine X_nx ?_|refine B_nx ?_|(refine U_q (v:=?_) ?h1 ?_;case h1=>((try simp only[h11,hw1,go_sem])<;>rfl)))));simp only[*,Bool.true_and,Bool.and_true,Bool.false_and,Bool.and_false,cond_true,cond_false,Bool.or_true,Bool.true_or,Bool.false_or,Bool.not_true,Bool.not_false] at hput hok;exact keep _ _ (acc++[p]) hput hok.1 (by simp;omega) (Z1 h0) (by simp only[List.map_append,go_sem]) (fun hh=>by simp only[List.map_append,go_sem]) (Z1 h9) (Z1 h10) (Z0))
  ·have hj:j=ps.length:=by
    have:¬ j < ps.length:=by simpa using hc
    omega
   subst hj;rw[List.drop_length,putL] at hput;(repeat (with_reducible (first|refine Qa ?_|refine Qc ?_|refine Qb ?_|refine QW ?_|refine Qf ?_|refine X_nx ?_|refine X_ex ?_|refine Qi ?_|((first|refine U_q (v:=?_) ?h1 ?_|refine E_1 (v:=?_) ?h1 ?_);case h1=>((try simp only[h1,go_sem])<;>rfl)))))
   exact⟨999999,by rw[hput],fun h=>by rw[← hput];exact ho (by rw[hput];simpa using h)⟩
end Go.Proofs.YtocmjakchgcioaaGreat
namespace Go.Proofs.YtocmjakchgcioaaGreat
set_option linter.all false
def oneV (k:Int) (ps:List Nd) (v:V):V :=
 match ps with
 | []=>.ag (nd8 0 zSet .nil 0 0)
 | [p]=>.ag (cel p)
 | _=>.ag (nd8 k zSet v 0 0)
theorem Qbv {o:O} {a b:Nat} {x:Ob} (ha:o a=some x) (hb:o b=none):(a==b)=false:=by
 rw[beq_eq_false_iff_ne];intro h;rw[h,hb] at ha;cases ha
theorem Qh9 (k:Int) (ps:List Nd) (hl:ps.length < 9223372036854775808):RdC (Call F) 116 (fun v=>[V.i .i64 k]++v::[]) 8 (ps.map cel) (oneV k ps):=by
 intro v o K hv hK;have hlen:JH v=some (.i .i64 ps.length):=by
  rcases hv with⟨h,rfl⟩|⟨_,id,rfl,_⟩
  ·have:ps=[]:=by simpa using h
   rw[this];rfl
  ·simp [JH]
 show Call F 116 [.i .i64 k,v] o K;refine Ys e116 rfl ?_;dsimp only[QhX,c116];refine C_sq ?_;refine C_rg ?_;refine Ql8 fun ia hia=>?_;have hold:∀ (ob:Ob) i x,o i=some x→upd (upd o ia (some (.row 8 [[.i .i64 0,.i .u64 0,.i .u64 0,.i .u64 0,.i .u64 0,.nil,.i .i64 0,.i .i64 0]]))) ia (some ob) i=some x:=fun ob i x hi=>by
  have:i≠ia:=fun hh=>by rw[hh,hia] at hi;cases hi
  simp only[upd,if_neg this];exact hi
 (repeat (with_reducible (first|refine Q0 ?_|refine C_sq ?_|refine C_rg ?_|refine C_bk ?_|refine C_sk ?_|refine C_ex ?_|refine C_rt ?_|refine X_nx ?_|refine X_ex ?_|refine X_rt ?_|refine B_nx ?_|refine Qi ?_|(refine B_ne (by rfl) ?_)|refine B_rt ?_|((first|refine R_q (v:=?_) ?h1 ?_|refine R_ld (v:=?_) ?h1 ?_|refine QZ (v:=?_) ?h1 ?_|refine E_1 (v:=?_) ?h1 ?_|refine E_1n (v:=?_) ?h1 ?_);case h1=>(simp only[go_sem]<;>rfl))|((first|refine R_gt ?h1 ?_);case h1=>(simp only[go_sem]<;>rfl))|((first|refine Q1 ?h1 ?_);case h1=>(simp only[go_sem]<;>rfl))|((first|refine Q2 ?h1 ?_);case h1=>(simp only[go_sem]<;>rfl))|((first|refine R_gj (vs:=?_) ?h1 ?_);case h1=>(simp only[go_sem]<;>rfl))|((first|refine Q3 ?h1 ?_);case h1=>(simp only[go_sem]<;>rfl))|((first|refine QY ?h1 ?_);case h1=>(simp only[go_sem]<;>rfl))|((first|refine E_2 (v:=?_) (u:=?_) ?h1 ?h2 ?_|refine E_2n (v:=?_) (u:=?_) ?h1 ?h2 ?_);(case h1=>(simp only[go_sem]<;>rfl));(case h2=>(simp only[go_sem]<;>rfl)))|refine E_0 ?_|refine E_0n ?_|rw[Qd])));refine R_q (v:=.i .i64 ps.length) (by simp only[qv,ev_t,Wr];exact hlen) ?_;have hz8:∀ cs:List V,cs.length=8→splice 0 cs [V.i .i64 0,.i .u64 0,.i .u64 0,.i .u64 0,.i .u64 0,.nil,.i .i64 0,.i .i64 0]=cs:=fun cs h=>J0 (by rw[h];rfl)
 match ps,hv,hK,hlen with
 | [],hv,hK,_ =>
  (repeat (with_reducible (first|refine Q0 ?_|refine C_sq ?_|refine C_rg ?_|refine C_bk ?_|refine C_sk ?_|refine C_ex ?_|refine C_rt ?_|refine X_nx ?_|refine X_ex ?_|refine X_rt ?_|refine B_nx ?_|refine Qi ?_|(refine B_ne (by rfl) ?_)|refine B_rt ?_|((first|refine R_q (v:=?_) ?h1 ?_|refine R_ld (v:=?_) ?h1 ?_|refine QZ (v:=?_) ?h1 ?_|refine E_1 (v:=?_) ?h1 ?_|refine E_1n (v:=?_) ?h1 ?_);case h1=>(simp only[List.length_nil,go_sem]<;>rfl))|((first|refine R_gt ?h1 ?_);case h1=>(simp only[List.length_nil,go_sem]<;>rfl))|((first|refine Q1 ?h1 ?_);case h1=>(simp only[List.length_nil,go_sem]<;>rfl))|((first|refine Q2 ?h1 ?_);case h1=>(simp only[List.length_nil,go_sem]<;>rfl))|((first|refine R_gj (vs:=?_) ?h1 ?_);case h1=>(simp only[List.length_nil,go_sem]<;>rfl))|((first|refine Q3 ?h1 ?_);case h1=>(simp only[List.length_nil,go_sem]<;>rfl))|((first|refine QY ?h1 ?_);case h1=>(simp only[List.length_nil,go_sem]<;>rfl))|((first|refine E_2 (v:=?_) (u:=?_) ?h1 ?h2 ?_|refine E_2n (v:=?_) (u:=?_) ?h1 ?h2 ?_);(case h1=>(simp only[List.length_nil,go_sem]<;>rfl));(case h2=>(simp only[List.length_nil,go_sem]<;>rfl)))|refine E_0 ?_|refine E_0n ?_|rw[Qd])));refine QfW (id:=ia) (i:=0) (j:=0) (vs:=nd8 0 zSet .nil 0 0) (Z0) (Wr _ _ _) rfl (Zr0) rfl rfl (by simp) ?_;(repeat (with_reducible (first|refine Q0 ?_|refine C_sq ?_|refine C_rg ?_|refine C_bk ?_|refine C_sk ?_|refine C_ex ?_|refine C_rt ?_|refine X_nx ?_|refine X_ex ?_|refine X_rt ?_|refine B_nx ?_|refine Qi ?_|(refine B_ne (by rfl) ?_)|refine B_rt ?_|((first|refine R_q (v:=?_) ?h1 ?_|refine R_ld (v:=?_) ?h1 ?_|refine QZ (v:=?_) ?h1 ?_|refine E_1 (v:=?_) ?h1 ?_|refine E_1n (v:=?_) ?h1 ?_);case h1=>(simp only[go_sem]<;>rfl))|((first|refine R_gt ?h1 ?_);case h1=>(simp only[go_sem]<;>rfl))|((first|refine Q1 ?h1 ?_);case h1=>(simp only[go_sem]<;>rfl))|((first|refine Q2 ?h1 ?_);case h1=>(simp only[go_sem]<;>rfl))|((first|refine R_gj (vs:=?_) ?h1 ?_);case h1=>(simp only[go_sem]<;>rfl))|((first|refine Q3 ?h1 ?_);case h1=>(simp only[go_sem]<;>rfl))|((first|refine QY ?h1 ?_);case h1=>(simp only[go_sem]<;>rfl))|((first|refine E_2 (v:=?_) (u:=?_) ?h1 ?h2 ?_|refine E_2n (v:=?_) (u:=?_) ?h1 ?h2 ?_);(case h1=>(simp only[go_sem]<;>rfl));(case h2=>(simp only[go_sem]<;>rfl)))|refine E_0 ?_|refine E_0n ?_|rw[Qd])));refine E_1 (v:=oneV k [] v) (by (simp only[nd8,List.drop_zero,List.take_succ_cons,List.take_zero,go_sem]<;>rfl)) ?_;exact hK _ (hold _)
 | [p],hv,hK,_ =>
  rcases hv with⟨h,_⟩|⟨_,id,rfl,ho⟩
  ·cases h
  have hne:(id==ia)=false:=Qbv ho hia;(repeat (with_reducible (first|refine Q0 ?_|refine C_sq ?_|refine C_rg ?_|refine C_bk ?_|refine C_sk ?_|refine C_ex ?_|refine C_rt ?_|refine X_nx ?_|refine X_ex ?_|refine X_rt ?_|refine B_nx ?_|refine Qi ?_|(refine B_ne (by rfl) ?_)|refine B_rt ?_|((first|refine R_q (v:=?_) ?h1 ?_|refine R_ld (v:=?_) ?h1 ?_|refine QZ (v:=?_) ?h1 ?_|refine E_1 (v:=?_) ?h1 ?_|refine E_1n (v:=?_) ?h1 ?_);case h1=>(simp only[List.length_cons,List.length_nil,List.map_cons,List.map_nil,hne,ho,go_sem]<;>rfl))|((first|refine R_gt ?h1 ?_);case h1=>(simp only[List.length_cons,List.length_nil,List.map_cons,List.map_nil,hne,ho,go_sem]<;>rfl))|((first|refine Q1 ?h1 ?_);case h1=>(simp only[List.length_cons,List.length_nil,List.map_cons,List.map_nil,hne,ho,go_sem]<;>rfl))|((first|refine Q2 ?h1 ?_);case h1=>(simp only[List.length_cons,List.length_nil,List.map_cons,List.map_nil,hne,ho,go_sem]<;>rfl))|((first|refine R_gj (vs:=?_) ?h1 ?_);case h1=>(simp only[List.length_cons,List.length_nil,List.map_cons,List.map_nil,hne,ho,go_sem]<;>rfl))|((first|refine Q3 ?h1 ?_);case h1=>(simp only[List.length_cons,List.length_nil,List.map_cons,List.map_nil,hne,ho,go_sem]<;>rfl))|((first|refine QY ?h1 ?_);case h1=>(simp only[List.length_cons,List.length_nil,List.map_cons,List.map_nil,hne,ho,go_sem]<;>rfl))|((first|refine E_2 (v:=?_) (u:=?_) ?h1 ?h2 ?_|refine E_2n (v:=?_) (u:=?_) ?h1 ?h2 ?_);(case h1=>(simp only[List.length_cons,List.length_nil,List.map_cons,List.map_nil,hne,ho,go_sem]<;>rfl));(case h2=>(simp only[List.length_cons,List.length_nil,List.map_cons,List.map_nil,hne,ho,go_sem]<;>rfl)))|refine E_0 ?_|refine E_0n ?_|rw[Qd])));refine QfW (id:=ia) (i:=0) (j:=0) (vs:=cel p) (Z0) (Wr _ _ _) rfl (Zr0) rfl (QN _) (by simp) ?_;rw[hz8 _ (QN p)];(repeat (with_reducible (first|refine Q0 ?_|refine C_sq ?_|refine C_rg ?_|refine C_bk ?_|refine C_sk ?_|refine C_ex ?_|refine C_rt ?_|refine X_nx ?_|refine X_ex ?_|refine X_rt ?_|refine B_nx ?_|refine Qi ?_|(refine B_ne (by rfl) ?_)|refine B_rt ?_|((first|refine R_q (v:=?_) ?h1 ?_|refine R_ld (v:=?_) ?h1 ?_|refine QZ (v:=?_) ?h1 ?_|refine E_1 (v:=?_) ?h1 ?_|refine E_1n (v:=?_) ?h1 ?_);case h1=>(simp only[go_sem]<;>rfl))|((first|refine R_gt ?h1 ?_);case h1=>(simp only[go_sem]<;>rfl))|((first|refine Q1 ?h1 ?_);case h1=>(simp only[go_sem]<;>rfl))|((first|refine Q2 ?h1 ?_);case h1=>(simp only[go_sem]<;>rfl))|((first|refine R_gj (vs:=?_) ?h1 ?_);case h1=>(simp only[go_sem]<;>rfl))|((first|refine Q3 ?h1 ?_);case h1=>(simp only[go_sem]<;>rfl))|((first|refine QY ?h1 ?_);case h1=>(simp only[go_sem]<;>rfl))|((first|refine E_2 (v:=?_) (u:=?_) ?h1 ?h2 ?_|refine E_2n (v:=?_) (u:=?_) ?h1 ?h2 ?_);(case h1=>(simp only[go_sem]<;>rfl));(case h2=>(simp only[go_sem]<;>rfl)))|refine E_0 ?_|refine E_0n ?_|rw[Qd])));exact hK _ (hold _)
 | p::q::ps,hv,hK,_ =>
  rcases hv with⟨h,_⟩|⟨_,id,rfl,ho⟩
  ·cases h
  have n0:(((ps.length+1+1:Nat):Int)==0)=false:=by rw[beq_eq_false_iff_ne];omega
  have n1:(((ps.length+1+1:Nat):Int)==1)=false:=by rw[beq_eq_false_iff_ne];omega
  (repeat (with_reducible (first|refine Q0 ?_|refine C_sq ?_|refine C_rg ?_|refine C_bk ?_|refine C_sk ?_|refine C_ex ?_|refine C_rt ?_|refine X_nx ?_|refine X_ex ?_|refine X_rt ?_|refine B_nx ?_|refine Qi ?_|(refine B_ne (by rfl) ?_)|refine B_rt ?_|((first|refine R_q (v:=?_) ?h1 ?_|refine R_ld (v:=?_) ?h1 ?_|refine QZ (v:=?_) ?h1 ?_|refine E_1 (v:=?_) ?h1 ?_|refine E_1n (v:=?_) ?h1 ?_);case h1=>(simp only[n0,n1,List.length_cons,go_sem]<;>rfl))|((first|refine R_gt ?h1 ?_);case h1=>(simp only[n0,n1,List.length_cons,go_sem]<;>rfl))|((first|refine Q1 ?h1 ?_);case h1=>(simp only[n0,n1,List.length_cons,go_sem]<;>rfl))|((first|refine Q2 ?h1 ?_);case h1=>(simp only[n0,n1,List.length_cons,go_sem]<;>rfl))|((first|refine R_gj (vs:=?_) ?h1 ?_);case h1=>(simp only[n0,n1,List.length_cons,go_sem]<;>rfl))|((first|refine Q3 ?h1 ?_);case h1=>(simp only[n0,n1,List.length_cons,go_sem]<;>rfl))|((first|refine QY ?h1 ?_);case h1=>(simp only[n0,n1,List.length_cons,go_sem]<;>rfl))|((first|refine E_2 (v:=?_) (u:=?_) ?h1 ?h2 ?_|refine E_2n (v:=?_) (u:=?_) ?h1 ?h2 ?_);(case h1=>(simp only[n0,n1,List.length_cons,go_sem]<;>rfl));(case h2=>(simp only[n0,n1,List.length_cons,go_sem]<;>rfl)))|refine E_0 ?_|refine E_0n ?_|rw[Qd])));refine QfW (id:=ia) (i:=0) (j:=0) (vs:=nd8 k zSet (.rw id 8 0 ((p::q::ps).map cel).length) 0 0) (Z0) (Wr _ _ _) rfl (Zr0) rfl rfl (by simp) ?_;(repeat (with_reducible (first|refine Q0 ?_|refine C_sq ?_|refine C_rg ?_|refine C_bk ?_|refine C_sk ?_|refine C_ex ?_|refine C_rt ?_|refine X_nx ?_|refine X_ex ?_|refine X_rt ?_|refine B_nx ?_|refine Qi ?_|(refine B_ne (by rfl) ?_)|refine B_rt ?_|((first|refine R_q (v:=?_) ?h1 ?_|refine R_ld (v:=?_) ?h1 ?_|refine QZ (v:=?_) ?h1 ?_|refine E_1 (v:=?_) ?h1 ?_|refine E_1n (v:=?_) ?h1 ?_);case h1=>(simp only[go_sem]<;>rfl))|((first|refine R_gt ?h1 ?_);case h1=>(simp only[go_sem]<;>rfl))|((first|refine Q1 ?h1 ?_);case h1=>(simp only[go_sem]<;>rfl))|((first|refine Q2 ?h1 ?_);case h1=>(simp only[go_sem]<;>rfl))|((first|refine R_gj (vs:=?_) ?h1 ?_);case h1=>(simp only[go_sem]<;>rfl))|((first|refine Q3 ?h1 ?_);case h1=>(simp only[go_sem]<;>rfl))|((first|refine QY ?h1 ?_);case h1=>(simp only[go_sem]<;>rfl))|((first|refine E_2 (v:=?_) (u:=?_) ?h1 ?h2 ?_|refine E_2n (v:=?_) (u:=?_) ?h1 ?h2 ?_);(case h1=>(simp only[go_sem]<;>rfl));(case h2=>(simp only[go_sem]<;>rfl)))|refine E_0 ?_|refine E_0n ?_|rw[Qd])));refine E_1 (v:=oneV k (p::q::ps) (.rw id 8 0 ((p::q::ps).map cel).length)) (by (simp only[nd8,List.drop_zero,List.take_succ_cons,List.take_zero,go_sem]<;>rfl)) ?_;exact hK _ (hold _)
mutual
def Qo:Nd→Nd
 | .mk k s ps lo hi =>
  if Q8 (.mk k s ps lo hi)=true then .mk 1 zSet [] 0 0
  else if k=2∨k=3 then oneN k (putL k [] (Qs ps))
  else if k=4 then JF (WN ps) lo hi
  else .mk k s ps lo hi
def Qs:List Nd→List Nd
 | []=>[]
 | p::ps=>Qo p::Qs ps
def WN:List Nd→Nd
 | []=>noN
 | p::_=>Qo p
end
theorem DX (l m:List Nd):cntL (l++m)=cntL l+cntL m:=by induction l with
 | nil=>simp [cntL]
 | cons p l ih=>simp [cntL,ih];omega
theorem QhP (l:List Nd):l.length≤cntL l:=by induction l with
 | nil=>simp
 | cons p l ih=>have:1≤cntN p:=by cases p;rw[cntN];omega
                rw[List.length_cons,cntL];omega
mutual
theorem Qdi (k:Int):∀ (l:List Nd) (p:Nd),cntL (put1 k l p)≤cntL l+cntN p
 | l,.mk k2 s ps lo hi=>by
  rw[put1,cntN];split
  ·have:=KC k l ps;omega
  ·split
   ·omega
   ·split
    ·omega
    ·rw[DX,cntL,cntL,cntN];omega
theorem KC (k:Int):∀ (l ps:List Nd),cntL (putL k l ps)≤cntL l+cntL ps
 | l,[]=>by rw[putL,cntL];omega
 | l,p::ps=>by
  rw[putL,cntL];have h1:=Qdi k l p;have h2:=KC k (put1 k l p) ps;omega
end
theorem HC {k lo hi:Int} {ps:List Nd} (hs:QG k zSet ps.length lo hi=true) (hl:ps.length < 9223372036854775808) (h:∀ p∈ps,okN p):okN (.mk k zSet ps lo hi) :=
 ⟨⟨fun j _=>by simp [zSet],hl,(Zd ps).2 fun p hp=>(h p hp).1⟩,by rw[Qz,hs,ZK];simpa using fun p hp=>(h p hp).2⟩
theorem Qfy {k:Int} (hk:k=2∨k=3) (l:List Nd) (h:∀ p∈l,okN p) (hl:l.length < 9223372036854775808):okN (oneN k l)∧cntN (oneN k l)≤1+cntL l:=by
 match l with
 | []=>exact⟨HC (by simp [QG,QQ,zSet]) (by simp) (by simp),by simp [oneN,noN,cntN,cntL]⟩
 | [p]=>exact⟨h p (by simp),by simp [oneN,cntL]⟩
 | p::q::l =>
  refine⟨HC ?_ hl h,by simp [oneN,cntN]⟩
  rcases hk with rfl|rfl<;>simp [QG,QQ,zSet]
theorem Qbj {p:Nd} (hp:okN p) {lo hi:Int} (h0:0≤lo) (h1:lo≤2147483647) (h2:hi = -1∨lo≤hi∧hi≤2147483647):okN (JF p lo hi)∧cntN (JF p lo hi)≤1+cntN p:=by
 have hno:okN noN∧cntN noN≤1+cntN p:=⟨HC (by simp [QG,QQ,zSet]) (by simp) (by simp),by simp [noN,cntN,cntL]⟩;have hmk:∀ b:Bool,okN (.mk 4 zSet [p] (bif b then 0 else lo) hi)∧cntN (.mk 4 zSet [p] (bif b then 0 else lo) hi)≤1+cntN p:=fun b =>
  ⟨HC (by cases b<;>simp [QG,QQ,zSet]<;>omega) (by simp) (by simpa using hp),by simp [cntN,cntL]⟩
 unfold JF;cases (hi==0)<;>cases (p.kind==0)<;>cases (Q8 p)<;>cases (lo==1)<;>cases (hi==1)<;>first|exact hno|exact hmk _|exact⟨hp,by simp⟩
theorem XW (k:Int) (s:Nat→Nat) (ps:List Nd) (lo hi:Int):Qo (.mk k s ps lo hi)=if Q8 (.mk k s ps lo hi)=true then .mk 1 zSet [] 0 0
  else if k=2∨k=3 then oneN k (putL k [] (Qs ps))
  else if k=4 then JF (WN ps) lo hi
  else .mk k s ps lo hi:=by rw[Qo]
theorem W7 (ps:List Nd):Qs ps=ps.map Qo:=by induction ps with
 | nil=>rfl
 | cons p ps ih=>simp [Qs,ih]
mutual
theorem YB:∀ (n:Nd),okN n→cntN n≤1000→okN (Qo n)∧cntN (Qo n)≤cntN n
 | .mk k s ps lo hi,h,hc=>by
  rw[cntN] at hc;have hps:=(ZN h).1;have hpl:=(ZN h).2;have hf:=h.2;rw[Qz,Bool.and_eq_true] at hf;have h1:=J5 ps hps (by omega);rw[XW,cntN];split
  ·exact⟨HC (by simp [QG]) (by simp) (by simp),by simp [cntN,cntL]⟩
  ·split
   ·rename_i hk;have h2:=KF k [] (Qs ps) h1.1 (by simp);have h3:=KC k [] (Qs ps);have hlen:(Qs ps).length=ps.length:=by rw[W7];simp
    have h4:=Qfy hk (putL k [] (Qs ps)) h2.1 (by have:=h2.2;rw[List.length_nil] at this;omega)
    refine⟨h4.1,?_⟩
    rw[cntL] at h3;omega
   ·split
    ·rename_i h4;subst h4;obtain⟨g1,g2,g3,g4⟩:=KW hf.1;obtain⟨p,rfl⟩:=List.length_eq_one_iff.1 g1;have hc':1+(cntN p+0)≤1000:=by simpa [cntL] using hc
     have h5:=YB p (hps p (by simp [Nd.parts])) (by omega);have h6:=Qbj h5.1 g2 g3 g4
     refine⟨h6.1,?_⟩
     have h7:=h6.2;simp only[WN,cntL];omega
    ·exact⟨h,by simp [cntN]⟩
theorem J5:∀ (ps:List Nd),(∀ p∈ps,okN p)→cntL ps≤1000→(∀ p∈Qs ps,okN p)∧cntL (Qs ps)≤cntL ps
 | [],_,_=>⟨by simp [Qs],by simp [Qs]⟩
 | p::ps,h,hc=>by
  rw[cntL] at hc;have h1:=YB p (h p (by simp)) (by omega);have h2:=J5 ps (fun q hq=>h q (by simp [hq])) (by omega)
  refine⟨fun q hq=>?_,by simp only[Qs,cntL];omega⟩
  rw[Qs] at hq;rcases List.mem_cons.1 hq with rfl|hq
  ·exact h1.1
  ·exact h2.1 q hq
end
end Go.Proofs.YtocmjakchgcioaaGreat
namespace Go.Proofs.YtocmjakchgcioaaGreat
set_option linter.all false
theorem QcA (s sz:Nat) {L:List (List V)} (h:L≠[]):still s L (ownV s sz L)=.sl L:=by
 rw[ownV,if_neg h,still];simp
theorem Qhx (k:Int) (ps:List Nd) {m:Nm} {v x:V} (h:VR m v x):VR m (oneV k ps v) (oneV k ps x):=by
 match ps with
 | []=>exact YS m _ rfl
 | [p]=>exact YS m _ (by show cld (.ag (cel p))=true;rw[cld,H2])
 | p::q::ps =>
  refine .ag _ _ rfl fun j a b ha hb=>?_
  match j with
  | 5=>simp [nd8] at ha hb;subst ha;subst hb;exact h
  | 0=>simp [nd8] at ha hb;subst ha;subst hb;exact .i _ _
  | 1=>simp [nd8] at ha hb;subst ha;subst hb;exact .i _ _
  | 2=>simp [nd8] at ha hb;subst ha;subst hb;exact .i _ _
  | 3=>simp [nd8] at ha hb;subst ha;subst hb;exact .i _ _
  | 4=>simp [nd8] at ha hb;subst ha;subst hb;exact .i _ _
  | 6=>simp [nd8] at ha hb;subst ha;subst hb;exact .i _ _
  | 7=>simp [nd8] at ha hb;subst ha;subst hb;exact .i _ _
  | j+8=>simp [nd8] at ha
theorem KR {α β:Type} (f:α→β) (l:List α) {j:Nat} (h:j < l.length):(l.take (j+1)).map f=(l.take j).map f++[f l[j]]:=by
 rw[List.take_add_one,List.getElem?_eq_getElem h,List.map_append];rfl
set_option maxHeartbeats 4000000 in
theorem KZ:∀ (n:Nd),okN n→cntN n≤900→Pu F 75 [.ag (cel n)] (.ag (cel (Qo n)))
 | .mk k s ps lo hi,h,hc=>by
  have hps:=(ZN h).1;have hpl:=(ZN h).2;have hf:=h.2;rw[Qz,Bool.and_eq_true,ZK] at hf;rw[cntN] at hc;have hcp:∀ p∈ps,cntN p≤cntL ps:=by
   intro p hp;obtain⟨a,b,rfl⟩:=List.append_of_mem hp;rw[DX,cntL];omega
  have ih:∀ p∈ps,Pu F 75 [.ag (cel p)] (.ag (cel (Qo p))):=fun p hp=>KZ p (hps p hp) (by have:=hcp p hp;omega);have hv:=Kt _ h.1 h.2;have hlc:=QhP ps;have hsl:=J5 ps hps (by omega);have hslm:=W7 ps;refine Qr e75 rfl rfl (by simp only[go_sem,Bool.and_true]) ?_;dsimp only[fn75,c75];rw[XW];generalize hvv:Q8 (.mk k s ps lo hi)=vb at hv;rw[Ze] at hv ⊢;(repeat' (first|(with_reducible (first|refine Qa ?_|refine Qc ?_|refine Qb ?_|refine Ql ?_|refine Qg ?_|refine Qf ?_|refine X_nx ?_|refine X_rt ?_|((first|refine U_q (v:=?_) ?h1 ?_|refine U_ld (v:=?_) ?h1 ?_|refine E_1 (v:=?_) ?h1 ?_|refine QK (n:=?_) ?h1 ?_);case h1=>((try simp only[nd8,List.take_succ_cons,List.take_zero,List.length_map,go_sem])<;>rfl))|(refine QC (cs:=?_) (cs':=?_) (n:=?_) ?h1 ?h2 ?h3 ?h4 ?_;case h1|h2|h3|h4=>((try simp only[nd8,List.take_succ_cons,List.take_zero,List.length_map,go_sem])<;>rfl))|(refine Qq (id:=?_) (i:=?_) (j:=?_) (q:=?_) (es:=?_) (cs:=?_) (vs:=?_) (es':=?_) ?h1 ?h2 ?h3 ?h4 ?h5 ?h6 ?h7 ?_;case h1|h2|h3|h4|h5|h6|h7=>((try simp only[nd8,List.take_succ_cons,List.take_zero,List.length_map,go_sem])<;>rfl))))|((with_reducible refine U_pc (g:=115) (r:=.bo vb) (vs:=?_) (ws:=?_) ?h1 ?h2 ?h3 ?h4 ?h5 ?_);(case h1=>((try simp only[nd8,List.take_succ_cons,List.take_zero,List.length_map,go_sem])<;>rfl));(case h2=>refine Qj ?_;first|rfl|simp only[List.all_cons,List.all_nil,Bool.and_true,go_sem]);(case h5=>exact hv);(case h3=>first|exact Bool.or_eq_true_iff.2 (.inr rfl)|(refine Bool.or_eq_true_iff.2 (.inl ?_);simp only[clos,List.all_cons,List.all_nil,Bool.and_true,go_sem]));(case h4=>first|rfl|simp only[go_sem,Bool.and_true]))|with_reducible (refine U_gb (q:=?_) ?h1 (fun _=>?_) (fun _=>?_);case h1=>((try simp only[nd8,List.take_succ_cons,List.take_zero,List.length_map,go_sem])<;>rfl))|with_reducible (refine Qe (q:=?_) ?h1 (fun _=>?_) (fun _=>?_);case h1=>((try simp only[nd8,List.take_succ_cons,List.take_zero,List.length_map,go_sem])<;>rfl))))
  ·rename_i hvt;rw[if_pos hvt];exact YJ _ 1 zSet [] 0 0 .nil rfl
  rename_i hvf;rw[if_neg (by rw[hvf];simp)];clear hv;refine U_lp (fun r e o=>∃ j:Nat,j+r=ps.length∧e 1=.pt 1 0 0∧o 1=some (.row 8 [nd8 k s (.sl (ps.map cel)) lo hi])∧e 2=.pt 2 0 0∧o 2=some (.row 8 [nd8 0 zSet .nil 0 0])∧e 3=ownV 20 8 (((ps.take j).map Qo).map cel)∧(((ps.take j).map Qo).map cel≠[]→o 20=some (.row 8 (((ps.take j).map Qo).map cel))) ∧
   e 10=.sl (ps.map cel)∧e 11=.i .i64 ps.length∧e 12=.i .i64 j) (k:=ps.length) ?_ (Qh F) ?_
  ·exact⟨0,by omega,Z0,Zr0,Z0,Zr0,Zr0,fun hh=>absurd rfl hh,Z0,by simp only[List.length_map,go_sem],Zr0⟩
  rintro r e o ⟨j,hjr,h1,o1,h2,o2,h3,o3,h10,h11,h12⟩;dsimp only[QiN];(repeat (with_reducible (first|refine Qa ?_|refine Qc ?_|refine Qb ?_|refine X_nx ?_|(refine U_q (v:=?_) ?h1 ?_;case h1=>((try simp only[h11,h12,go_sem])<;>rfl)))));refine Qe (q:=decide ((j:Int) < (ps.length:Int))) (Z0) (fun hcc=>?_) (fun hcc=>?_)
  ·have hj:j < ps.length:=by simpa using hcc
   have hp:(ps.map cel)[j]?=some (cel ps[j]):=by simp [hj]
   have hpos:(0:Int)≤(j:Int):=by omega
   have hw1:IntKind.i64.wrap ((j:Int)+1)=((j+1:Nat):Int):=by rw[Qt (by omega) (by omega)];rfl
   have hih:=ih ps[j] (List.getElem_mem _);have htk:=KR Qo ps hj;have htl:((ps.take j).map Qo).length≤1000:=by simp;omega
   generalize hpp:ps[j]=p at *;generalize hac:(ps.take j).map Qo=acc at *;(repeat' (first|(with_reducible (first|refine Qa ?_|refine Qc ?_|refine Qb ?_|refine Ql ?_|refine Qg ?_|refine X_nx ?_|((first|refine U_q (v:=?_) ?h1 ?_|refine U_ld (v:=?_) ?h1 ?_|refine QK (n:=?_) ?h1 ?_);case h1=>((try simp only[h1,h2,h3,h10,h11,h12,hpos,Int.toNat_natCast,hp,go_sem])<;>rfl))|(refine Qq (id:=?_) (i:=?_) (j:=?_) (q:=?_) (es:=?_) (cs:=?_) (vs:=?_) (es':=?_) ?h1 ?h2 ?h3 ?h4 ?h5 ?h6 ?h7 ?_;case h1|h2|h3|h4|h5|h6|h7=>((try simp only[h1,h2,h3,h10,h11,h12,hpos,Int.toNat_natCast,hp,go_sem])<;>rfl))|(refine Yu (es:=?_) (es':=?_) ?h1 ?h2 ?h3 ?_;case h1|h2|h3=>((try simp only[h1,h2,h3,h10,h11,h12,hpos,Int.toNat_natCast,hp,go_sem])<;>rfl))))|((with_reducible refine U_pc (g:=75) (r:=.ag (cel (Qo p))) (vs:=?_) (ws:=?_) ?h1 ?h2 ?h3 ?h4 ?h5 ?_);(case h1=>((try simp only[h1,h2,h3,h10,h11,h12,hpos,Int.toNat_natCast,hp,go_sem])<;>rfl));(case h2=>refine Qj ?_;first|rfl|simp only[List.all_cons,List.all_nil,Bool.and_true,go_sem]);(case h5=>exact hih);(case h3=>first|exact Bool.or_eq_true_iff.2 (.inr rfl)|(refine Bool.or_eq_true_iff.2 (.inl ?_);simp only[clos,List.all_cons,List.all_nil,Bool.and_true,go_sem]));(case h4=>first|rfl|simp only[go_sem,Bool.and_true]))|with_reducible (refine U_gb (q:=?_) ?h1 (fun _=>?_) (fun _=>?_);case h1=>((try simp only[h1,h2,h3,h10,h11,h12,hpos,Int.toNat_natCast,hp,go_sem])<;>rfl))|with_reducible (refine Qe (q:=?_) ?h1 (fun _=>?_) (fun _=>?_);case h1=>((try simp only[h1,h2,h3,h10,h11,h12,hpos,Int.toNat_natCast,hp,go_sem])<;>rfl))));refine YR 20 (L:=acc.map cel) (ys:=[cel (Qo p)]) (Z1 h3) (fun hh=>by simp only[o3 hh,go_sem]) (by simp only[src,go_sem];rfl) (by intro c hc;simp at hc;rw[hc];exact QN _) (by simp) (by omega) ⟨by simp;omega,by omega⟩ (Wd _ _) (by simp only[go_sem]) ?_;(repeat (with_reducible (first|refine Qa ?_|refine Qb ?_|refine X_nx ?_|refine B_nx ?_|(refine U_q (v:=?_) ?h1 ?_;case h1=>((try simp only[h12,hw1,go_sem])<;>rfl)))))
   refine⟨r - 1,by omega,j+1,by omega,Z1 h1,by simp only[o1,nd8,go_sem],Z1 h2,by simp only[o2,nd8,go_sem],?_,fun hh=>?_,Z1 h10,Z1 h11,Z0⟩
   ·rw[htk,List.map_append];simp only[go_sem]
   ·rw[htk,List.map_append];simp only[go_sem]
  ·have hj:j=ps.length:=by
    have:¬ j < ps.length:=by simpa using hcc
    omega
   subst hj;rw[List.take_length,← hslm] at h3 o3;repeat (with_reducible (first|refine QW ?_|refine X_ex ?_|refine Qi ?_|refine X_nx ?_))
   refine Qc ?_;refine Qc ?_;by_cases hnil:ps=[]
   ·subst hnil;have h23:k≠2∧k≠3∧k≠4:=by
     have:=hf.1
     refine⟨?_,?_,?_⟩<;>rintro rfl<;>simp [QG] at this
    rw[if_neg (by omega),if_neg (by omega)];clear ih hps hsl hslm hcp h hf;(repeat' (first|(with_reducible (first|refine Qa ?_|refine Qc ?_|refine Qb ?_|refine Ql ?_|refine Qg ?_|refine Qf ?_|refine X_nx ?_|refine B_nx ?_|((first|refine U_q (v:=?_) ?h1 ?_|refine U_ld (v:=?_) ?h1 ?_|refine E_1 (v:=?_) ?h1 ?_|refine Qm ?h1 ?_);case h1=>((try simp only[h1,o1,h2,o2,nd8,List.take_succ_cons,List.take_zero,go_sem])<;>rfl))|(refine Qq (id:=?_) (i:=?_) (j:=?_) (q:=?_) (es:=?_) (cs:=?_) (vs:=?_) (es':=?_) ?h1 ?h2 ?h3 ?h4 ?h5 ?h6 ?h7 ?_;case h1|h2|h3|h4|h5|h6|h7=>((try simp only[h1,o1,h2,o2,nd8,List.take_succ_cons,List.take_zero,go_sem])<;>rfl))))|with_reducible (refine U_gb (q:=?_) ?h1 (fun _=>?_) (fun _=>?_);case h1=>((try simp only[h1,o1,h2,o2,nd8,List.take_succ_cons,List.take_zero,go_sem])<;>rfl))|with_reducible (refine Qe (q:=?_) ?h1 (fun _=>?_) (fun _=>?_);case h1=>((try simp only[h1,o1,h2,o2,nd8,List.take_succ_cons,List.take_zero,go_sem])<;>rfl))));all_goals first
     | (exfalso;simp_all;done)
     | exact YJ _ k s [] lo hi _ rfl
   ·have hnil2:Qs ps≠[]:=by rw[hslm];simpa using hnil
    have hnil3:(Qs ps).map cel≠[]:=by simpa using hnil2
    have hso:=QcA 20 8 hnil3;refine QdN 20 (sz:=8) (es:=(Qs ps).map cel) (o3 hnil3) (Yg _) ?_;by_cases h4:k=4
    ·subst h4;obtain⟨g1,g2,g3,g4⟩:=KW hf.1;obtain⟨p,rfl⟩:=List.length_eq_one_iff.1 g1;have htm:=QdZ (Qo p) (hsl.1 _ (by simp [Qs])).1 (hsl.1 _ (by simp [Qs])).2 lo hi;rw[if_neg (by omega),if_pos rfl];simp only[WN];simp only[Qs,List.map_cons,List.map_nil] at hso h3 o3;simp only[Qs,List.map_cons,List.map_nil];clear ih hps hsl hslm hcp h hf;(repeat' (first|(with_reducible (first|refine Qa ?_|refine Qc ?_|refine Qb ?_|refine Ql ?_|refine Qf ?_|refine X_nx ?_|refine X_rt ?_|refine B_rt ?_|((first|refine U_q (v:=?_) ?h1 ?_|refine U_ld (v:=?_) ?h1 ?_|refine E_1 (v:=?_) ?h1 ?_|refine Qm ?h1 ?_);case h1=>((try simp only[h1,o1,h2,o2,h3,hso,nd8,List.take_succ_cons,List.take_zero,List.map_cons,List.map_nil,go_sem])<;>rfl))|(refine Qq (id:=?_) (i:=?_) (j:=?_) (q:=?_) (es:=?_) (cs:=?_) (vs:=?_) (es':=?_) ?h1 ?h2 ?h3 ?h4 ?h5 ?h6 ?h7 ?_;case h1|h2|h3|h4|h5|h6|h7=>((try simp only[h1,o1,h2,o2,h3,hso,nd8,List.take_succ_cons,List.take_zero,List.map_cons,List.map_nil,go_sem])<;>rfl))|(refine Qk ?h1 ?_;case h1=>((try simp only[h1,o1,h2,o2,h3,hso,nd8,List.take_succ_cons,List.take_zero,List.map_cons,List.map_nil,go_sem])<;>rfl))))|((with_reducible refine U_pc (g:=118) (r:=.ag (cel (JF (Qo p) lo hi))) (vs:=?_) (ws:=?_) ?h1 ?h2 ?h3 ?h4 ?h5 ?_);(case h1=>((try simp only[h1,o1,h2,o2,h3,hso,nd8,List.take_succ_cons,List.take_zero,List.map_cons,List.map_nil,go_sem])<;>rfl));(case h2=>refine Qj ?_;first|rfl|simp only[List.all_cons,List.all_nil,Bool.and_true,go_sem]);(case h5=>exact htm);(case h3=>first|exact Bool.or_eq_true_iff.2 (.inr rfl)|(refine Bool.or_eq_true_iff.2 (.inl ?_);simp only[clos,List.all_cons,List.all_nil,Bool.and_true,go_sem]));(case h4=>first|rfl|simp only[go_sem,Bool.and_true]))|with_reducible (refine U_gb (q:=?_) ?h1 (fun _=>?_) (fun _=>?_);case h1=>((try simp only[h1,o1,h2,o2,h3,hso,nd8,List.take_succ_cons,List.take_zero,List.map_cons,List.map_nil,go_sem])<;>rfl))|with_reducible (refine Qe (q:=?_) ?h1 (fun _=>?_) (fun _=>?_);case h1=>((try simp only[h1,o1,h2,o2,h3,hso,nd8,List.take_succ_cons,List.take_zero,List.map_cons,List.map_nil,go_sem])<;>rfl))));all_goals first
      | exact Y6 (by simp only[go_sem])
      | skip
    by_cases h23:k=2∨k=3
    ·rw[if_pos h23];have hM:=KF k [] (Qs ps) hsl.1 (by simp);have hMl:(putL k [] (Qs ps)).length < 9223372036854775808:=by have:=hM.2;rw[List.length_nil] at this;omega
     have hap:=QjJ k (SizeOf.sizeOf (Qs ps)+1) (Qs ps) [] (by omega) hsl.1 (by simp) (by rw[List.length_nil];omega) (by rw[hslm];simpa [Nd.parts] using hpl);have hrd:=Qh9 k (putL k [] (Qs ps)) hMl;generalize putL k [] (Qs ps)=M at *;clear ih hps hsl hcp h hf hM;(repeat' (first|(with_reducible (first|refine Qa ?_|refine Qc ?_|refine Qb ?_|refine Ql ?_|refine Qg ?_|refine Qf ?_|refine X_nx ?_|refine B_nx ?_|((first|refine U_q (v:=?_) ?h1 ?_|refine U_ld (v:=?_) ?h1 ?_|refine E_1 (v:=?_) ?h1 ?_|refine Qm ?h1 ?_);case h1=>((try simp only[h1,o1,h2,o2,h3,hso,nd8,List.take_succ_cons,List.take_zero,go_sem])<;>rfl))|(refine Qq (id:=?_) (i:=?_) (j:=?_) (q:=?_) (es:=?_) (cs:=?_) (vs:=?_) (es':=?_) ?h1 ?h2 ?h3 ?h4 ?h5 ?h6 ?h7 ?_;case h1|h2|h3|h4|h5|h6|h7=>((try simp only[h1,o1,h2,o2,h3,hso,nd8,List.take_succ_cons,List.take_zero,go_sem])<;>rfl))))|with_reducible (refine U_gb (q:=?_) ?h1 (fun _=>?_) (fun _=>?_);case h1=>((try simp only[h1,o1,h2,o2,h3,hso,nd8,List.take_succ_cons,List.take_zero,go_sem])<;>rfl))|with_reducible (refine Qe (q:=?_) ?h1 (fun _=>?_) (fun _=>?_);case h1=>((try simp only[h1,o1,h2,o2,h3,hso,nd8,List.take_succ_cons,List.take_zero,go_sem])<;>rfl))));any_goals
      (exfalso;simp_all;done)
     all_goals
      refine Ql5 32 (L:=([]:List Nd).map cel) (L':=M.map cel) (pre:=[.i .i64 k]) (post:=[.sl ((Qs ps).map cel)]) (by omega) (Zr0) rfl (by rw[okL,Kl];rfl) rfl (Yg _) (fun hh=>absurd rfl hh) hap
       ⟨.inl ⟨.i .i64 k,by simp only[o1,nd8,go_sem],by split<;>simp only[o1,nd8,go_sem],.inl rfl⟩,trivial⟩ ?_
      have hoM:∀ x:O,M.map cel≠[]→(if M.map cel=[] then swpO 32 x else upd (swpO 32 x) 32 (some (.row 8 (M.map cel)))) 32=some (.row 8 (M.map cel)):=fun x hh=>by rw[if_neg hh];exact Wr _ _ _
      have ho2':∀ x:O,x 2=some (.row 8 [nd8 0 zSet .nil 0 0])→(if M.map cel=[] then swpO 32 x else upd (swpO 32 x) 32 (some (.row 8 (M.map cel)))) 2=some (.row 8 [nd8 0 zSet .nil 0 0]):=fun x hh=>by split<;>simp only[hh,nd8,go_sem]
      have hx2:Yq 20 ((Qs ps).map cel) o 2=some (.row 8 [nd8 0 zSet .nil 0 0]):=by simp only[o2,nd8,go_sem]
      refine U_rd 32 (L:=M.map cel) (res:=oneV k M) (pre:=[.i .i64 k]) (post:=[]) (Zr0) rfl rfl (Yg _) (hoM _) hrd (fun m x hh=>Qhx k M hh) ?_;have hx3:=ho2' _ hx2;have hx4:=hoM (Yq 20 ((Qs ps).map cel) o);generalize (if M.map cel=[] then swpO 32 (Yq 20 ((Qs ps).map cel) o) else upd (swpO 32 (Yq 20 ((Qs ps).map cel) o)) 32 (some (.row 8 (M.map cel))))=oz at hx3 hx4 ⊢;clear hoM ho2' hap hrd;rcases M with _|⟨p,_|⟨q,M⟩⟩
      ·(repeat (with_reducible (first|refine Qa ?_|refine Qf ?_|refine X_nx ?_|refine X_rt ?_|refine B_rt ?_|(refine E_1 (v:=?_) ?h1 ?_;case h1=>((try simp only[h2,hx3,nd8,oneV,List.take_succ_cons,List.take_zero,go_sem])<;>rfl))|(refine Qq (id:=?_) (i:=?_) (j:=?_) (q:=?_) (es:=?_) (cs:=?_) (vs:=?_) (es':=?_) ?h1 ?h2 ?h3 ?h4 ?h5 ?h6 ?h7 ?_;case h1|h2|h3|h4|h5|h6|h7=>((try simp only[h2,hx3,nd8,oneV,List.take_succ_cons,List.take_zero,go_sem])<;>rfl)))));exact YJ _ 0 zSet [] 0 0 .nil rfl
      ·(repeat (with_reducible (first|refine Qa ?_|refine Qf ?_|refine X_nx ?_|refine X_rt ?_|refine B_rt ?_|(refine E_1 (v:=?_) ?h1 ?_;case h1=>((try simp only[h2,hx3,nd8,oneV,List.take_succ_cons,List.take_zero,go_sem])<;>rfl))|(refine Qq (id:=?_) (i:=?_) (j:=?_) (q:=?_) (es:=?_) (cs:=?_) (vs:=?_) (es':=?_) ?h1 ?h2 ?h3 ?h4 ?h5 ?h6 ?h7 ?_;case h1|h2|h3|h4|h5|h6|h7=>((try simp only[h2,hx3,nd8,oneV,List.take_succ_cons,List.take_zero,go_sem])<;>rfl)))));exact Y6 (by simp only[go_sem,oneN])
      ·(repeat (with_reducible (first|refine Qa ?_|refine Qf ?_|refine X_nx ?_|refine X_rt ?_|refine B_rt ?_|(refine E_1 (v:=?_) ?h1 ?_;case h1=>((try simp only[h2,hx3,nd8,oneV,List.take_succ_cons,List.take_zero,go_sem])<;>rfl))|(refine Qq (id:=?_) (i:=?_) (j:=?_) (q:=?_) (es:=?_) (cs:=?_) (vs:=?_) (es':=?_) ?h1 ?h2 ?h3 ?h4 ?h5 ?h6 ?h7 ?_;case h1|h2|h3|h4|h5|h6|h7=>((try simp only[h2,hx3,nd8,oneV,List.take_succ_cons,List.take_zero,go_sem])<;>rfl)))));refine YJ _ k zSet (p::q::M) 0 0 _ (VG 22 (fun hh=>?_) fun c hcm v hv=>?_)
       ·have:=hx4 hh
        simp only[this,go_sem]
       ·have hcm2:c∈(p::q::M).map cel:=hcm;obtain⟨z,_,rfl⟩:=List.mem_map.1 hcm2;exact VV z 21 v hv
    ·rw[if_neg h23,if_neg h4];clear ih hps hsl hslm hcp h hf;(repeat' (first|(with_reducible (first|refine Qa ?_|refine Qc ?_|refine Qb ?_|refine Ql ?_|refine Qg ?_|refine Qf ?_|refine X_nx ?_|refine B_nx ?_|((first|refine U_q (v:=?_) ?h1 ?_|refine U_ld (v:=?_) ?h1 ?_|refine E_1 (v:=?_) ?h1 ?_|refine Qm ?h1 ?_);case h1=>((try simp only[h1,o1,h2,o2,h3,hso,nd8,List.take_succ_cons,List.take_zero,go_sem])<;>rfl))|(refine Qq (id:=?_) (i:=?_) (j:=?_) (q:=?_) (es:=?_) (cs:=?_) (vs:=?_) (es':=?_) ?h1 ?h2 ?h3 ?h4 ?h5 ?h6 ?h7 ?_;case h1|h2|h3|h4|h5|h6|h7=>((try simp only[h1,o1,h2,o2,h3,hso,nd8,List.take_succ_cons,List.take_zero,go_sem])<;>rfl))))|with_reducible (refine U_gb (q:=?_) ?h1 (fun _=>?_) (fun _=>?_);case h1=>((try simp only[h1,o1,h2,o2,h3,hso,nd8,List.take_succ_cons,List.take_zero,go_sem])<;>rfl))|with_reducible (refine Qe (q:=?_) ?h1 (fun _=>?_) (fun _=>?_);case h1=>((try simp only[h1,o1,h2,o2,h3,hso,nd8,List.take_succ_cons,List.take_zero,go_sem])<;>rfl))));any_goals
      (exfalso;simp_all;done)
     all_goals exact YJ _ k s ps lo hi _ rfl
termination_by n=>SizeOf.sizeOf n
decreasing_by
 have:=List.sizeOf_lt_of_mem hp
 simp;omega
theorem QbJ (n:Nd) (h:okN n) (hc:cntN n≤900):Pu F 53 [.ag (cel n)] (.tp [.ag (cel (Qo n)),.i .i64 0]):=by
 have hs:=KZ n h hc;have hf:Pu F 74 [.ag (cel n)] (.bo (Qz n)):=Jy n h.1 emp _ (fun _=>rfl);rw[h.2] at hf;refine Qr e53 rfl rfl (by simp only[go_sem,Bool.and_true]) ?_;dsimp only[fn53,c53];(repeat' (first|(with_reducible (first|refine Qa ?_|refine Qc ?_|refine Qb ?_|refine Qg ?_|refine Qf ?_|refine X_nx ?_|((first|refine U_q (v:=?_) ?h1 ?_|refine U_ld (v:=?_) ?h1 ?_|refine QK (n:=?_) ?h1 ?_);case h1=>((try simp only[go_sem])<;>rfl))|(refine QC (cs:=?_) (cs':=?_) (n:=?_) ?h1 ?h2 ?h3 ?h4 ?_;case h1|h2|h3|h4=>((try simp only[go_sem])<;>rfl))|(refine Qq (id:=?_) (i:=?_) (j:=?_) (q:=?_) (es:=?_) (cs:=?_) (vs:=?_) (es':=?_) ?h1 ?h2 ?h3 ?h4 ?h5 ?h6 ?h7 ?_;case h1|h2|h3|h4|h5|h6|h7=>((try simp only[go_sem])<;>rfl))|(refine Qk ?h1 ?_;case h1=>((try simp only[go_sem])<;>rfl))|(refine E_2 (v:=?_) (u:=?_) ?h1 ?h2 ?_;case h1|h2=>((try simp only[go_sem])<;>rfl))))|((with_reducible refine U_pc (g:=74) (r:=.bo true) (vs:=?_) (ws:=?_) ?h1 ?h2 ?h3 ?h4 ?h5 ?_);(case h1=>((try simp only[go_sem])<;>rfl));(case h2=>refine Qj ?_;first|rfl|simp only[List.all_cons,List.all_nil,Bool.and_true,go_sem]);(case h5=>exact hf);(case h3=>first|exact Bool.or_eq_true_iff.2 (.inr rfl)|(refine Bool.or_eq_true_iff.2 (.inl ?_);simp only[clos,List.all_cons,List.all_nil,Bool.and_true,go_sem]));(case h4=>first|rfl|simp only[go_sem,Bool.and_true]))|((with_reducible refine U_pc (g:=75) (r:=.ag (cel (Qo n))) (vs:=?_) (ws:=?_) ?h1 ?h2 ?h3 ?h4 ?h5 ?_);(case h1=>((try simp only[go_sem])<;>rfl));(case h2=>refine Qj ?_;first|rfl|simp only[List.all_cons,List.all_nil,Bool.and_true,go_sem]);(case h5=>exact hs);(case h3=>first|exact Bool.or_eq_true_iff.2 (.inr rfl)|(refine Bool.or_eq_true_iff.2 (.inl ?_);simp only[clos,List.all_cons,List.all_nil,Bool.and_true,go_sem]));(case h4=>first|rfl|simp only[go_sem,Bool.and_true]))|with_reducible (refine U_gb (q:=?_) ?h1 (fun _=>?_) (fun _=>?_);case h1=>((try simp only[go_sem])<;>rfl))|with_reducible (refine Qe (q:=?_) ?h1 (fun _=>?_) (fun _=>?_);case h1=>((try simp only[go_sem])<;>rfl))));refine Y6 ?_;generalize Qo n=z;cases z;rfl
end Go.Proofs.YtocmjakchgcioaaGreat
