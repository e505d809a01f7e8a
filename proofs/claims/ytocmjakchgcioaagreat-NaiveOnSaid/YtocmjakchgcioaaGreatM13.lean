import Derived.Test.YtocmjakchgcioaaGreatM12

namespace Go.Proofs.YtocmjakchgcioaaGreat
set_option linter.all false
attribute [-go_sem] QE Qn rfOb V.cells
theorem Yh {o:O} {s sz:Nat} {L:List (List V)} (h:Own o s sz L) (ha:∀ c∈L,∀ v∈c,∀ n,frzU (n+1) o v=some v) (n:Nat):frzU (n+2) o (ownV s sz L)=some (.sl L):=by
 unfold ownV;split
 ·rename_i hL;subst hL;rfl
 ·rename_i hL;have hs:src o (.rw s sz 0 L.length)=some L:=by
   simp only[src,h.h hL];rw[if_pos (by simp)];simp
  have hm:(L.mapM fun c:List V=>c.mapM (frzU (n+1) o))=some L:=Z7 fun c hc v hv=>ha c hc v hv n;simp only[frzU,hs,hm];rfl
theorem Qeu {o:O} (l:List Nat):∀ c∈l.map inC,∀ v∈c,∀ n,frzU (n+1) o v=some v:=by
 intro c hc v hv n;obtain⟨x,_,rfl⟩:=List.mem_map.1 hc;simp [inC] at hv;subst hv;rfl
theorem QeX {o:O} (l:List (Int × Int)):∀ c∈l.map scC,∀ v∈c,∀ n,frzU (n+1) o v=some v:=by
 intro c hc v hv n;obtain⟨x,_,rfl⟩:=List.mem_map.1 hc;simp [scC] at hv;rcases hv with rfl|rfl<;>rfl
theorem Qip {o:O} (l:List (Nat→Nat)):∀ c∈l.map u4,∀ v∈c,∀ n,frzU (n+1) o v=some v:=by
 intro c hc v hv n;obtain⟨x,_,rfl⟩:=List.mem_map.1 hc;simp [u4] at hv;rcases hv with rfl|rfl|rfl|rfl<;>rfl
theorem QcK {o:O} (n:Nat):∀ (l:List (List Nat)) (k:Nat),(∀ i x,l[i]?=some x→Own o (5000+(k+i)) 1 (x.map inC))→((arC k l).mapM fun c:List V=>c.mapM (frzU (n+2) o))=some (l.map lsC)
 | [],k,_=>rfl
 | y::l,k,h=>by
  have h1:=QcK n l (k+1) fun i x hi=>by
   have:=h (i+1) x (by simpa using hi)
   rw[show k+1+i=k+(i+1) from by omega];exact this
  have h0:frzU (n+2) o (ownV (5000+k) 1 (y.map inC))=some (.sl (y.map inC)):=Yh (h 0 y (by simp)) (Qeu y) n;rw[arC,List.mapM_cons,List.mapM_cons,h0,h1];rfl
theorem Qe4 {o:O} {l:List (List Nat)} (h3:o 3003=some (.row 1 (arC 0 l))) (h:AO o l) (n:Nat):frzU (n+3) o (ownV 3003 1 (arC 0 l))=some (.sl (l.map lsC)):=by
 unfold ownV;split
 ·rename_i hL;cases l with
  | nil=>rfl
  | cons a l=>simp [arC] at hL
 ·have hs:src o (.rw 3003 1 0 (arC 0 l).length)=some (arC 0 l):=by
   simp only[src,h3];rw[if_pos (by simp)];simp
  simp only[frzU,hs,QcK n l 0 fun i x hi=>by rw[Nat.zero_add];exact h i x hi];rfl
theorem QbI (n:Nd) (h:ZO n) (hf:Qz n=false):Pu F 53 [.ag (cel n)] (.tp [.ag (cel noN),.i .i64 1]):=by
 have hf':Pu F 74 [.ag (cel n)] (.bo (Qz n)):=Jy n h emp _ (fun _=>rfl);rw[hf] at hf';refine Qr e53 rfl rfl (by simp only[go_sem,Bool.and_true]) ?_;dsimp only[fn53,c53];(repeat' (first|(with_reducible (first|refine Qa ?_|refine Qc ?_|refine Qb ?_|refine Qf ?_|refine X_nx ?_|refine X_rt ?_|((first|refine U_q (v:=?_) ?h1 ?_|refine U_ld (v:=?_) ?h1 ?_|refine QK (n:=?_) ?h1 ?_|refine Qm ?h1 ?_);case h1=>((try simp only[go_sem])<;>rfl))|(refine QC (cs:=?_) (cs':=?_) (n:=?_) ?h1 ?h2 ?h3 ?h4 ?_;case h1|h2|h3|h4=>((try simp only[go_sem])<;>rfl))|(refine Qq (id:=?_) (i:=?_) (j:=?_) (q:=?_) (es:=?_) (cs:=?_) (vs:=?_) (es':=?_) ?h1 ?h2 ?h3 ?h4 ?h5 ?h6 ?h7 ?_;case h1|h2|h3|h4|h5|h6|h7=>((try simp only[go_sem])<;>rfl))|(refine E_2 (v:=?_) (u:=?_) ?h1 ?h2 ?_;case h1|h2=>((try simp only[go_sem])<;>rfl))))|((with_reducible refine U_pc (g:=74) (r:=.bo false) (vs:=?_) (ws:=?_) ?h1 ?h2 ?h3 ?h4 ?h5 ?_);(case h1=>((try simp only[go_sem])<;>rfl));(case h2=>refine Qj ?_;first|rfl|simp only[List.all_cons,List.all_nil,Bool.and_true,go_sem]);(case h5=>exact hf');(case h3=>first|exact Bool.or_eq_true_iff.2 (.inr rfl)|(refine Bool.or_eq_true_iff.2 (.inl ?_);simp only[clos,List.all_cons,List.all_nil,Bool.and_true,go_sem]));(case h4=>first|rfl|simp only[go_sem,Bool.and_true]))|with_reducible (refine U_gb (q:=?_) ?h1 (fun _=>?_) (fun _=>?_);case h1=>((try simp only[go_sem])<;>rfl))|with_reducible (refine Qe (q:=?_) ?h1 (fun _=>?_) (fun _=>?_);case h1=>((try simp only[go_sem])<;>rfl))));rfl
def mpR (t:Nd) (q:Pl):V:=.ag (mpC t q.sets q.scopes q.around)
def noP:V:=.ag (mpC noN [] [] [])
theorem QlJ (n:Nd) (h:ZO n) (hf:Qz n=false):Pu F 34 [.ag (cel n)] (.tp [noP,.i .i64 1]):=by
 have hs:=QbI n h hf;refine Qr e34 rfl rfl (by simp only[go_sem,Bool.and_true]) ?_;dsimp only[fn34,c34];(repeat' (first|(with_reducible (first|refine Qa ?_|refine Qc ?_|refine Qb ?_|refine Qf ?_|refine X_nx ?_|refine X_rt ?_|((first|refine U_q (v:=?_) ?h1 ?_|refine U_ld (v:=?_) ?h1 ?_|refine QK (n:=?_) ?h1 ?_|refine Qm ?h1 ?_);case h1=>((try simp only[go_sem])<;>rfl))|(refine QC (cs:=?_) (cs':=?_) (n:=?_) ?h1 ?h2 ?h3 ?h4 ?_;case h1|h2|h3|h4=>((try simp only[go_sem])<;>rfl))|(refine Qq (id:=?_) (i:=?_) (j:=?_) (q:=?_) (es:=?_) (cs:=?_) (vs:=?_) (es':=?_) ?h1 ?h2 ?h3 ?h4 ?h5 ?h6 ?h7 ?_;case h1|h2|h3|h4|h5|h6|h7=>((try simp only[go_sem])<;>rfl))|(refine E_2 (v:=?_) (u:=?_) ?h1 ?h2 ?_;case h1|h2=>((try simp only[go_sem])<;>rfl))))|((with_reducible refine U_pc (g:=53) (r:=.tp [.ag (cel noN),.i .i64 1]) (vs:=?_) (ws:=?_) ?h1 ?h2 ?h3 ?h4 ?h5 ?_);(case h1=>((try simp only[go_sem])<;>rfl));(case h2=>refine Qj ?_;first|rfl|simp only[List.all_cons,List.all_nil,Bool.and_true,go_sem]);(case h5=>exact hs);(case h3=>first|exact Bool.or_eq_true_iff.2 (.inr rfl)|(refine Bool.or_eq_true_iff.2 (.inl ?_);simp only[clos,List.all_cons,List.all_nil,Bool.and_true,go_sem]));(case h4=>first|rfl|simp only[go_sem,Bool.and_true]))|with_reducible (refine U_gb (q:=?_) ?h1 (fun _=>?_) (fun _=>?_);case h1=>((try simp only[go_sem])<;>rfl))|with_reducible (refine Qe (q:=?_) ?h1 (fun _=>?_) (fun _=>?_);case h1=>((try simp only[go_sem])<;>rfl))));rfl
end Go.Proofs.YtocmjakchgcioaaGreat
