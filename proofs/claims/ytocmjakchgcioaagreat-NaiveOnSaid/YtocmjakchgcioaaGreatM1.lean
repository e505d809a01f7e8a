import Derived.Test.YtocmjakchgcioaaGreatKa
import Derived.Test.YtocmjakchgcioaaGreatMu

namespace Go.Proofs.YtocmjakchgcioaaGreat
set_option linter.all false
attribute [go_sem] List.take_succ_cons List.take_zero List.drop_succ_cons List.drop_zero
theorem QJ {o:O} {v w:V} (h:v=w) (hk:okf FZ v=true):fzU o v=some w:=by rw[← h];exact Y6 hk
set_option maxHeartbeats 1000000 in
theorem HJ (k:Int) (s:Nat→Nat) (ps:List Nd) (lo hi:Int):Pu F 77 [.ag (cel (.mk k s ps lo hi))] (.tp [.ag (scC (low1 lo,hi)),.bo (cnts k lo hi)]):=by
 refine Qr e77 rfl rfl (by simp only[go_sem,Bool.and_true]) ?_;dsimp only[fn77,c77];rw[Ze];(repeat' (first|(with_reducible (first|refine Qa ?_|refine Qc ?_|refine Qb ?_|refine Qf ?_|refine X_nx ?_|((first|refine U_q (v:=?_) ?h1 ?_|refine U_ld (v:=?_) ?h1 ?_|refine QK (n:=?_) ?h1 ?_|refine U_gt ?h1 ?_);case h1=>((try simp only[nd8,List.take_succ_cons,List.take_zero,List.drop_succ_cons,List.drop_zero,go_sem])<;>rfl))|(refine QC (cs:=?_) (cs':=?_) (n:=?_) ?h1 ?h2 ?h3 ?h4 ?_;case h1|h2|h3|h4=>((try simp only[nd8,List.take_succ_cons,List.take_zero,List.drop_succ_cons,List.drop_zero,go_sem])<;>rfl))|(refine Qq (id:=?_) (i:=?_) (j:=?_) (q:=?_) (es:=?_) (cs:=?_) (vs:=?_) (es':=?_) ?h1 ?h2 ?h3 ?h4 ?h5 ?h6 ?h7 ?_;case h1|h2|h3|h4|h5|h6|h7=>((try simp only[nd8,List.take_succ_cons,List.take_zero,List.drop_succ_cons,List.drop_zero,go_sem])<;>rfl))|((first|refine XK ?h1 ?_|refine Yi ?h1 ?_);case h1=>((try simp only[nd8,List.take_succ_cons,List.take_zero,List.drop_succ_cons,List.drop_zero,go_sem])<;>rfl))|(refine U_gj (vs:=?_) ?h1 ?_;case h1=>((try simp only[nd8,List.take_succ_cons,List.take_zero,List.drop_succ_cons,List.drop_zero,go_sem])<;>rfl))|(refine E_2 (v:=?_) (u:=?_) ?h1 ?h2 ?_;case h1|h2=>((try simp only[nd8,List.take_succ_cons,List.take_zero,List.drop_succ_cons,List.drop_zero,go_sem])<;>rfl))|rw[Qd]|(refine Qjk (id:=?_) (i:=?_) (j:=?_) (q:=?_) (es:=?_) (cs:=?_) (vs:=?_) (es':=?_) ?h1 ?h2 ?h3 ?h4 ?h5 ?h6 ?h7 ?h8 ?_;(case h1|h2|h3|h4|h5|h6|h7=>((try simp only[nd8,List.take_succ_cons,List.take_zero,List.drop_succ_cons,List.drop_zero,go_sem])<;>rfl));(case h8=>repeat (first|exact DO|(refine K7 (v:=?_) ?g1 ?g2 ?g3 ?_;(case g1|g2=>((try simp only[nd8,List.take_succ_cons,List.take_zero,List.drop_succ_cons,List.drop_zero,go_sem])<;>rfl));(case g3=>first|rfl|simp only[ok,okL,go_sem]))|(refine Qku ?g1 ?g2 ?_;(case g1|g2=>((try simp only[nd8,List.take_succ_cons,List.take_zero,List.drop_succ_cons,List.drop_zero,go_sem])<;>rfl))))))))|with_reducible (refine U_gb (q:=?_) ?h1 (fun _=>?_) (fun _=>?_);case h1=>((try simp only[nd8,List.take_succ_cons,List.take_zero,List.drop_succ_cons,List.drop_zero,go_sem])<;>rfl))|with_reducible (refine Qe (q:=?_) ?h1 (fun _=>?_) (fun _=>?_);case h1=>((try simp only[nd8,List.take_succ_cons,List.take_zero,List.drop_succ_cons,List.drop_zero,go_sem])<;>rfl))));all_goals
  refine QJ ?_ (by rfl);simp only[scC,low1,cnts];simp_all
mutual
theorem VU:∀ (n:Nat) (v:V),flat n v=true→cld v=true
 | 0,_,h=>by cases h
 | n+1,.ag cs,h=>Xd n cs (by simpa [flat,List.all_eq_true] using h)
 | n+1,.tp cs,h=>Xd n cs (by simpa [flat,List.all_eq_true] using h)
 | _+1,.jk,_=>rfl
 | _+1,.bo _,_=>rfl
 | _+1,.i _ _,_=>rfl
 | _+1,.s _,_=>rfl
 | _+1,.np,_=>rfl
 | _+1,.nm,_=>rfl
 | _+1,.nf,_=>rfl
theorem Xd:∀ (n:Nat) (cs:List V),(∀ v∈cs,flat n v=true)→cldL cs=true
 | _,[],_=>rfl
 | n,v::cs,h=>by
  rw[cldL,VU n v (h v (by simp)),Xd n cs fun w hw=>h w (by simp [hw])];rfl
end
theorem ZU {e:E} {o:O} {d g:Nat} {ods:List Od} {vs:List V} {r:V} {l:List Stp} {K:E→O→Prop} (hcall:Pu F g vs r) (hvs:ods.map (Od.ev e)=vs) (hok:vs.all (okf FZ)=true) (hfl:flat FZ r=true) (h:wpRU (Call F) l K (upd e d r) o):wpRU (Call F) (⟨some d,none,.pc g ods,[]⟩::l) K e o :=
 U_pc hvs (Qj hok) (Bool.or_eq_true_iff.2 (.inr hfl)) (VU _ _ hfl) hcall h
end Go.Proofs.YtocmjakchgcioaaGreat
