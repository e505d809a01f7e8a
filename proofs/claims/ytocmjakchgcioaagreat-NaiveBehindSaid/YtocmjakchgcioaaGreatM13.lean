import Derived.Test.YtocmjakchgcioaaGreatM12

namespace Go.Proofs.YtocmjakchgcioaaGreat
set_option linter.all false
variable {o:O}
attribute [-go_sem] Qp Qb rfOb V.cells
def ZV {s sz:Nat} {L:List (List V)} (h:Own o s sz L) (ha:∀ c∈L,∀ v∈c,∀ n,frzU (n+1) o v=some v) (n:Nat):frzU (n+2) o (ownV s sz L)=some (.sl L):=by
 unfold ownV;split
 ·rename_i hL;subst hL;rfl
 ·rename_i hL;have hs:src o (.rw s sz 0 L.length)=some L:=by
   simp only[src,h.h hL];rw[if_pos SM];simp
  have hm:(L.mapM fun c:List V=>c.mapM (frzU (n+1) o))=some L:=ZK fun c hc v hv=>ha c hc v hv n;simp only[frzU,hs,hm];rfl
def Qfk (l:List Nat):∀ c∈l.map inC,∀ v∈c,∀ n,frzU (n+1) o v=some v:=by
 intro c hc v hv n;obtain⟨x,_,rfl⟩:=List.mem_map.1 hc;simp [inC] at hv;subst hv;rfl
def Qfv (l:List (Int × Int)):∀ c∈l.map scC,∀ v∈c,∀ n,frzU (n+1) o v=some v:=by
 intro c hc v hv n;obtain⟨x,_,rfl⟩:=List.mem_map.1 hc;simp [scC] at hv;rcases hv with rfl|rfl<;>rfl
def QiQ (l:List (Nat→Nat)):∀ c∈l.map u4,∀ v∈c,∀ n,frzU (n+1) o v=some v:=by
 intro c hc v hv n;obtain⟨x,_,rfl⟩:=List.mem_map.1 hc;simp [u4] at hv;rcases hv with rfl|rfl|rfl|rfl<;>rfl
theorem Qdp {o:O} (n:Nat):∀ (l:List (List Nat)) (k:Nat),(∀ i x,l[i]?=some x→Own o (5000+(k+i)) 1 (x.map inC))→((arC k l).mapM fun c:List V=>c.mapM (frzU (n+2) o))=some (l.map lsC)
 | [],k,_=>rfl
 | y::l,k,h=>by
  have h1:=Qdp n l (k+1) fun i x hi=>by
   have:=h (i+1) x (by simpa using hi)
   rw[show k+1+i=k+(i+1) from by omega];exact this
  have h0:frzU (n+2) o (ownV (5000+k) 1 (y.map inC))=some (.sl (y.map inC)):=ZV (h 0 y SM) (Qfk y) n;rw[arC,List.mapM_cons,List.mapM_cons,h0,h1];rfl
def QfJ {l:List (List Nat)} (h3:o 3003=some (.row 1 (arC 0 l))) (h:AO o l) (n:Nat):frzU (n+3) o (ownV 3003 1 (arC 0 l))=some (.sl (l.map lsC)):=by
 unfold ownV;split
 ·rename_i hL;cases l with
  | nil=>rfl
  | cons a l=>simp [arC] at hL
 ·have hs:src o (.rw 3003 1 0 (arC 0 l).length)=some (arC 0 l):=by
   simp only[src,h3];rw[if_pos SM];simp
  simp only[frzU,hs,Qdp n l 0 fun i x hi=>by rw[Nat.zero_add];exact h i x hi];rfl
def Qcm (n:Nd) (h:ZB n) (hf:Qm n=false):Pu F 53 [.ag (cel n)] (.tp [.ag (cel noN),.i .i64 1]):=by
 have hf':Pu F 74 [.ag (cel n)] (.bo (Qm n)):=Jk n h emp _ (fun _=>rfl);rw[hf] at hf';refine Qe e53 rfl rfl (by simp only[go_sem,Bool.and_true]) ?_;dsimp only[fn53,c53];(repeat' (first|refine RSN trivial ?_|((with_reducible refine PCN trivial (r:=.bo false) ?h ?_);case h=>exact (hf'))|with_reducible refine GBN trivial (fun _=>?_) (fun _=>?_)|with_reducible refine GDN trivial (fun _=>?_) (fun _=>?_)));rfl
def mpR (t:Nd) (q:Pl):V:=.ag (mpC t q.sets q.scopes q.around)
def noP:V:=.ag (mpC noN [] [] [])
def Qmx (n:Nd) (h:ZB n) (hf:Qm n=false):Pu F 34 [.ag (cel n)] (.tp [noP,.i .i64 1]):=by
 have hs:=Qcm n h hf;refine Qe e34 rfl rfl (by simp only[go_sem,Bool.and_true]) ?_;dsimp only[fn34,c34];(repeat' (first|refine RSN trivial ?_|((with_reducible refine PCN trivial (r:=.tp [.ag (cel noN),.i .i64 1]) ?h ?_);case h=>exact hs)|with_reducible refine GBN trivial (fun _=>?_) (fun _=>?_)|with_reducible refine GDN trivial (fun _=>?_) (fun _=>?_)));rfl
end Go.Proofs.YtocmjakchgcioaaGreat
