import Derived.Test.YtocmjakchgcioaaGreatM17
import Derived.Test.YtocmjakchgcioaaGreatKa

namespace Go.Proofs.YtocmjakchgcioaaGreat
set_option linter.all false
open Go.Sort
attribute [-go_sem] QE Qn rfOb V.cells
theorem Hf:∀ (L:List (V × V)) (n j:Nat) (k v:V),L[j]?=some (k,v)→(Qu n L).find? (fun x=>x.1==n+j)=some (n+j,k,v)
 | [],n,j,k,v,h=>by simp at h
 | (a,b)::L,n,0,k,v,h=>by
  simp at h;simp [Qu,h]
 | (a,b)::L,n,j+1,k,v,h=>by
  have hne:(n==n+(j+1))=false:=by simp
  simp only[Qu,List.find?_cons,hne]
  have:=Hf L (n+1) j k v (by simpa using h)
  rw[show n+1+j=n+(j+1) from by omega] at this;exact this
theorem Qe5 {o:O} {s m:Nat} {L:List (V × V)} {seen:List Nat} {j:Nat} {k v:V} (h1:o s=some (.iter (some m) L.length (seen++[j]) L.length)) (h2:o m=some (ZV L)) (h3:L[j]?=some (k,v)):entV o (.it s)=some (.tp [k,v]):=by
 have h4:=Hf L 0 j k v h3;rw[Nat.zero_add] at h4;simp only[entV,h1,h2,ZV,List.getLast?_append,List.getLast?_singleton,Option.or_some,Option.some_or,if_true,h4]
def noAV:V:=.ag (auC noA)
theorem D4 (n:Nd) (er:Int) (h0:er≠0) (hO:Pu F 34 [.ag (cel n)] (.tp [noP,.i .i64 er])):Pu F 19 [.ag (cel n)] (.tp [noAV,.i .i64 er]):=by
 have hp:noP=.ag [.i .i64 0,.i .u64 0,.i .u64 0,.i .u64 0,.i .u64 0,.sl [],.i .i64 0,.i .i64 0,.sl [],.sl [],.sl []]:=rfl;rw[hp] at hO;have her:(er != 0)=true:=by simpa using h0
 refine Qr e19 rfl rfl (by simp only[go_sem,Bool.and_true]) ?_;dsimp only[fn19,c19];(repeat' (first|(with_reducible (first|refine Qa ?_|refine Qc ?_|refine Qb ?_|refine Qf ?_|refine X_nx ?_|refine X_rt ?_|((first|refine U_q (v:=?_) ?h1 ?_|refine U_ld (v:=?_) ?h1 ?_|refine QK (n:=?_) ?h1 ?_|refine Qm ?h1 ?_);case h1=>((try simp only[her,go_sem])<;>rfl))|(refine QC (cs:=?_) (cs':=?_) (n:=?_) ?h1 ?h2 ?h3 ?h4 ?_;case h1|h2|h3|h4=>((try simp only[her,go_sem])<;>rfl))|(refine Qq (id:=?_) (i:=?_) (j:=?_) (q:=?_) (es:=?_) (cs:=?_) (vs:=?_) (es':=?_) ?h1 ?h2 ?h3 ?h4 ?h5 ?h6 ?h7 ?_;case h1|h2|h3|h4|h5|h6|h7=>((try simp only[her,go_sem])<;>rfl))|(refine E_2 (v:=?_) (u:=?_) ?h1 ?h2 ?_;case h1|h2=>((try simp only[her,go_sem])<;>rfl))))|((with_reducible refine U_pc (g:=34) (r:=.tp [.ag [.i .i64 0,.i .u64 0,.i .u64 0,.i .u64 0,.i .u64 0,.sl [],.i .i64 0,.i .i64 0,.sl [],.sl [],.sl []],.i .i64 er]) (vs:=?_) (ws:=?_) ?h1 ?h2 ?h3 ?h4 ?h5 ?_);(case h1=>((try simp only[her,go_sem])<;>rfl));(case h2=>refine Qj ?_;first|rfl|simp only[List.all_cons,List.all_nil,Bool.and_true,go_sem]);(case h5=>exact hO);(case h3=>first|exact Bool.or_eq_true_iff.2 (.inr rfl)|(refine Bool.or_eq_true_iff.2 (.inl ?_);simp only[clos,List.all_cons,List.all_nil,Bool.and_true,go_sem]));(case h4=>first|rfl|simp only[go_sem,Bool.and_true]))|with_reducible (refine U_gb (q:=?_) ?h1 (fun _=>?_) (fun _=>?_);case h1=>((try simp only[her,go_sem])<;>rfl))|with_reducible (refine Qe (q:=?_) ?h1 (fun _=>?_) (fun _=>?_);case h1=>((try simp only[her,go_sem])<;>rfl))));rfl
def metM (L:List (Eg × Int)) (seen:List Nat) (p:Nat):List Mv:=(seen.filterMap fun j=>L[j]?).filterMap fun x=>if x.1.1=p then some x.1.2 else none
theorem Qb0 {L:List (Eg × Int)} {seen:List Nat} {j:Nat} {k:Eg} {c:Int} (h:L[j]?=some (k,c)) (p:Nat):metM L (seen++[j]) p=if p=k.1 then metM L seen p++[k.2] else metM L seen p:=by
 simp only[metM,List.filterMap_append,List.filterMap_cons,List.filterMap_nil,h];by_cases hp:p=k.1
 ·subst hp;simp
 ·have:¬ k.1=p:=fun hh=>hp hh.symm
  simp [this,hp]
theorem QdI {L:List (Eg × Int)} {seen:List Nat} (hn:seen.Nodup) (hs:∀ j∈seen,j < L.length) (ha:∀ j,j < L.length→j∈seen) (p:Nat):(metM L seen p).Perm (ZG L p):=by
 have hperm:seen.Perm (List.range L.length):=(List.perm_ext_iff_of_nodup hn List.nodup_range).2 fun j=>by
  rw[List.mem_range];exact⟨hs j,ha j⟩
 have e1:((List.range L.length).filterMap fun j=>L[j]?)=L:=by
  have key:∀ n,((List.range n).filterMap fun j=>L[j]?)=L.take n:=by
   intro n;induction n with
   | zero=>rfl
   | succ n ih =>
    rw[List.range_succ,List.filterMap_append,ih,List.take_add_one];cases h:L[n]?<;>simp [h]
  rw[key,List.take_length]
 have h2:=(hperm.filterMap fun j=>L[j]?);rw[e1] at h2;have h3:=h2.filterMap fun x=>if x.1.1=p then some x.1.2 else none
 refine h3.trans (List.Perm.of_eq ?_);simp only[ZG];clear h2 h3 e1 hperm ha hs hn;induction L with
 | nil=>rfl
 | cons x L ih =>
  by_cases hx:x.1.1=p
  ·simp [hx,ih]
  ·simp [hx,ih]
theorem QaP {l l':List Mv} (h:l.Perm l'):srtM l=srtM l':=by
 have e:∀ l,srtM l=l.mergeSort fun x y=>!(ltOf Ye y x):=fun _=>rfl;rw[e,e];refine List.Perm.eq_of_pairwise (le:=fun x y=>(!(ltOf Ye y x))=true) ?_ ?_ ?_ ((List.mergeSort_perm _ _).trans (h.trans (List.mergeSort_perm _ _).symm))
 ·intro a b _ _ h1 h2;simp only[Bool.not_eq_true'] at h1 h2;exact totM a b h2 h1
 all_goals
  refine List.pairwise_mergeSort ?_ ?_ _
  ·intro a b c h1 h2;simp only[Bool.not_eq_true'] at h1 h2 ⊢;exact swoM.ntrans c b a h2 h1
  ·intro a b;cases h:ltOf Ye b a with
   | false=>simp
   | true =>
    have:ltOf Ye a b=false:=by
     cases h2:ltOf Ye a b with
     | false=>rfl
     | true=>have:=swoM.trans a b a h2 h;rw[swoM.irrefl] at this;cases this
    simp [this]
theorem V8 (L:List (Eg × Int)) (seen:List Nat) (p:Nat):(metM L seen p).length≤seen.length :=
 Nat.le_trans (List.length_filterMap_le ..) (List.length_filterMap_le ..)
end Go.Proofs.YtocmjakchgcioaaGreat
