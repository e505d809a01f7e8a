import Derived.Test.YtgiedknghbpdfaaR12

namespace Go.Proofs.Ytgiedknghbpdfaa
set_option linter.all false
open Go.Sort
def cntB (f:Nat→Bool):Nat:=((List.range 200).filter f).length
theorem fm_le {α β:Type} (f:α→Bool) (g:α→List β) (c:Nat) (h:∀ a,(g a).length≤if f a then c else 0):∀ (L:List α),(L.flatMap g).length≤(L.filter f).length*c
 | []=>by simp
 | a::L=>by
  have ih:=fm_le f g c h L;have ha:=h a;rw[List.flatMap_cons,List.length_append,List.filter_cons];split
  ·rename_i hf;rw[if_pos hf] at ha;rw[List.length_cons,Nat.add_mul,Nat.one_mul];omega
  ·rename_i hf;rw[if_neg hf] at ha;omega
theorem crossE_len (f t:Nat→Bool) (keep:Nat) (again:Bool):(crossE f t keep again).length≤cntB f*cntB t:=by
 refine fm_le f _ (cntB t) (fun a=>?_) _
 have:=fm_le (fun b=>f a&&t b) (fun b=>if f a&&t b then [(a,(⟨b,keep,again⟩:Mv))] else []) 1 (fun b=>by split<;>simp) (List.range 200)
 refine Nat.le_trans this ?_;cases f a
 ·simp
 ·simp [cntB]
theorem filt_or {α:Type} (f g:α→Bool):∀ (L:List α),(L.filter fun j=>f j||g j).length≤(L.filter f).length+(L.filter g).length
 | []=>by simp
 | a::L=>by
  have:=filt_or f g L
  simp only[List.filter_cons];cases f a<;>cases g a<;>simp<;>omega
theorem filt_and {α:Type} (c:Bool) (g:α→Bool) (L:List α):(L.filter fun j=>c&&g j).length≤(L.filter g).length:=by
 cases c
 ·rw[List.filter_eq_nil_iff.2 (by simp)];simp
 ·simp
theorem filt_one (a:Nat):∀ n,((List.range n).filter fun j=>j==a).length≤if a < n then 1 else 0
 | 0=>by simp
 | n+1=>by
  have:=filt_one a n
  rw[List.range_succ,List.filter_append,List.length_append];by_cases h:n=a
  ·subst h;rw[if_neg (by omega)] at this;simp at this ⊢;omega
  ·have e:([n].filter fun j=>j==a)=[]:=by simp [h]
   rw[e];split at this
   ·rw[if_pos (by omega)];simpa using this
   ·simp at this ⊢;rw[List.filter_eq_nil_iff.2 (by simpa using this)];simp
mutual
theorem en_cnt:∀ (n:Nd) (b:Nat),cntB (enN n b).f≤lcN n∧cntB (enN n b).l≤lcN n
 | .mk k s ps lo hi,b=>by
  rw[enN,lcN];split
  ·split
   ·simp [es0,cntB]
   ·have:=filt_one (b+1) 200
    have h2:(if b+1 < 200 then 1 else 0)≤1:=by split<;>omega
    exact⟨Nat.le_trans this h2,Nat.le_trans this h2⟩
  ·have:=enL_cnt k ps b es0 (by simp [es0,cntB]) (by simp [es0,cntB])
   simpa [es0] using this
theorem enL_cnt (k:Int):∀ (ps:List Nd) (b:Nat) (q:Es),cntB q.f≤q.c→cntB q.l≤q.c→cntB (enL k ps b q).f≤q.c+lcL ps∧cntB (enL k ps b q).l≤q.c+lcL ps
 | [],b,q,h1,h2=>by rw[enL,lcL];exact⟨h1,h2⟩
 | p::ps,b,q,h1,h2=>by
  rw[enL,lcL];have hp:=en_cnt p (b+q.c);have hc:=enN_c p (b+q.c)
  have:=enL_cnt k ps b (esStep k (nullB p) (enN p (b+q.c)) q) ?_ ?_
  ·simp only[esStep,hc] at this ⊢;rw[Nat.add_assoc] at this;exact this
  ·simp only[esStep,hc];have h3:=filt_or q.f (fun j=>(k != 2||q.a)&&(enN p (b+q.c)).f j) (List.range 200);have h4:=filt_and (k != 2||q.a) (enN p (b+q.c)).f (List.range 200);unfold cntB at *;omega
  ·simp only[esStep,hc];have h3:=filt_or (fun j=>!(k==2&&!nullB p)&&q.l j) (enN p (b+q.c)).l (List.range 200);have h4:=filt_and (!(k==2&&!nullB p)) q.l (List.range 200);unfold cntB at *;omega
end
def sumF:List (Es × Bool)→Nat
 | []=>0
 | x::r=>cntB x.1.f+sumF r
def sumL:List (Es × Bool)→Nat
 | []=>0
 | x::r=>cntB x.1.l+sumL r
theorem crR_len (l:Nat→Bool) (sc:Nat):∀ r,(crR l sc r).length≤cntB l*sumF r
 | []=>by simp [crR]
 | x::r=>by
  have h1:=crossE_len l x.1.f sc false;have h2:=crR_len l sc r;rw[crR,sumF,List.length_append,Nat.mul_add];have h3:(if x.2=true then crR l sc r else []).length≤(crR l sc r).length:=by split<;>simp
  omega
theorem crA_len (sc:Nat):∀ r,(crA sc r).length≤sumL r*sumF r
 | []=>by simp [crA]
 | x::r=>by
  have h1:=crR_len x.1.l sc r;have h2:=crA_len sc r;rw[crA,sumF,sumL,List.length_append,Nat.add_mul,Nat.mul_add,Nat.mul_add];omega
theorem sum_pts:∀ (ps:List Nd) (b:Nat),sumF (ptsL ps b)≤lcL ps∧sumL (ptsL ps b)≤lcL ps
 | [],b=>by simp [ptsL,sumF,sumL]
 | p::ps,b=>by
  have h1:=en_cnt p b;have h2:=sum_pts ps (b+lcN p);rw[ptsL,sumF,sumL,lcL]
  exact⟨by dsimp only;omega,by dsimp only;omega⟩
theorem crA_pts (sc:Nat) (ps:List Nd) (b:Nat) (h:lcL ps≤200):(crA sc (ptsL ps b)).length≤40000:=by
 have h1:=crA_len sc (ptsL ps b);have h2:=sum_pts ps b;have h3:sumL (ptsL ps b)*sumF (ptsL ps b)≤200*200:=Nat.mul_le_mul (by omega) (by omega);omega
theorem cntB_le (f:Nat→Bool):cntB f≤200:=by
 have:=List.length_filter_le f (List.range 200)
 rw[List.length_range] at this;exact this
theorem crossE_le (f t:Nat→Bool) (keep:Nat) (again:Bool):(crossE f t keep again).length≤40000:=by
 have h1:=crossE_len f t keep again;have h3:cntB f*cntB t≤200*200:=Nat.mul_le_mul (cntB_le f) (cntB_le t);omega
theorem crH_len (sc:Nat) (ag:Bool):∀ r,(crH sc ag r).length≤40000
 | []=>by simp [crH]
 | x::r=>by rw[crH];exact crossE_le _ _ _ _
mutual
theorem edN_len:∀ (n:Nd) (b sc:Nat),formed n=true→lcN n≤200→(edN n b sc).length≤40000*cntN n
 | .mk k s ps lo hi,b,sc,hf,h=>by
  rw[formed,Bool.and_eq_true] at hf;rw[edN,cntN,List.length_append];have hl:lcL ps≤200:=by
   rw[lcN] at h;split at h
   ·rename_i hk1;subst hk1;have hp:ps=[]:=by
     have:=hf.1
     simp [shapedB] at this;exact this.2
    subst hp;simp [lcL]
   ·exact h
  have h1:=edL_len ps b (if cnts k lo hi then sc+1 else sc) hf.2 hl;have h2:(if k=4∧hi≠1 then crH sc (cnts k lo hi) (ptsL ps b) else if k=2 then crA sc (ptsL ps b) else []).length≤40000:=by
   split
   ·exact crH_len _ _ _
   ·split
    ·exact crA_pts sc ps b hl
    ·simp
  omega
theorem edL_len:∀ (ps:List Nd) (b sc:Nat),formedL ps=true→lcL ps≤200→(edL ps b sc).length≤40000*cntL ps
 | [],b,sc,hf,h=>by simp [edL]
 | p::ps,b,sc,hf,h=>by
  rw[formedL,Bool.and_eq_true] at hf;rw[lcL] at h;have h1:=edN_len p b sc hf.1 (by omega);have h2:=edL_len ps (b+lcN p) sc hf.2 (by omega);rw[edL,cntL,List.length_append];omega
end
theorem srtM_lt {l:List Mv} (h:l.Nodup):(srtM l).Pairwise fun x y=>mvCmp x y < 0:=by
 have e:srtM l=l.mergeSort fun x y=>!(ltOf mvCmp y x):=rfl;have hp:(srtM l).Pairwise fun x y=>(!(ltOf mvCmp y x))=true:=by
  rw[e];refine List.pairwise_mergeSort ?_ ?_ _
  ·intro a b c h1 h2;simp only[Bool.not_eq_true'] at h1 h2 ⊢;exact swoM.ntrans c b a h2 h1
  ·intro a b;cases h:ltOf mvCmp b a with
   | false=>simp
   | true =>
    have:ltOf mvCmp a b=false:=by
     cases h2:ltOf mvCmp a b with
     | false=>rfl
     | true=>have:=swoM.trans a b a h2 h;rw[swoM.irrefl] at this;cases this
    simp [this]
 have hn:(srtM l).Nodup:=((List.mergeSort_perm _ _).nodup_iff).2 h;refine (hp.and hn).imp fun {a b} hab=>?_;obtain⟨h1,h2⟩:=hab;simp only[Bool.not_eq_true'] at h1;cases h3:ltOf mvCmp a b with
 | true=>simpa [ltOf] using h3
 | false=>exact absurd (totM a b h3 h1) h2
end Go.Proofs.Ytgiedknghbpdfaa
