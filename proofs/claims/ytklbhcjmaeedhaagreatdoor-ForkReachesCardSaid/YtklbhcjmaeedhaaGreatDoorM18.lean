import Derived.Test.YtklbhcjmaeedhaaGreatDoorM17
import Derived.Test.YtklbhcjmaeedhaaGreatDoorKa

namespace Go.Proofs.YtklbhcjmaeedhaaGreatDoor
set_option linter.all false
variable {L:List (Eg × Int)} {seen:List Nat} {j:Nat}
open Go.Sort
attribute [-go_sem] Qy Qj rfOb V.cells
theorem HI:∀ (L:List (V × V)) (n j:Nat) (k v:V),L[j]?=some (k,v)→(Qu n L).find? (fun x=>x.1==n+j)=some (n+j,k,v)
 | [],n,j,k,v,h=>by simp at h
 | (a,b)::L,n,0,k,v,h=>by
  simp at h;simp [Qu,h]
 | (a,b)::L,n,j+1,k,v,h=>by
  have hne:(n==n+(j+1))=false:=by simp
  simp only[Qu,List.find?_cons,hne]
  have:=HI L (n+1) j k v (by simpa using h)
  rw[show n+1+j=n+(j+1) from by omega] at this;exact this
def Qj5 {o:O} {s m:Nat} {L:List (V × V)} {k v:V} (h1:o s=some (.iter (some m) L.length (seen++[j]) L.length)) (h2:o m=some (Z5 L)) (h3:L[j]?=some (k,v)):entV o (.it s)=some (.tp [k,v]):=by
 have h4:=HI L 0 j k v h3;rw[Nat.zero_add] at h4;simp only[entV,h1,h2,Z5,List.getLast?_append,List.getLast?_singleton,Option.or_some,Option.some_or,if_true,h4]
def noAV:V:=.ag (auC noA)
def Dx (n:Nd) (er:Int) (h0:er≠0) (hO:Pu F 23 [.ag (cel n)] (.tp [noP,.i .i64 er])):Pu F 13 [.ag (cel n)] (.tp [noAV,.i .i64 er]):=by
 have hp:noP=.ag [.i .i64 0,.i .u64 0,.i .u64 0,.i .u64 0,.i .u64 0,.sl [],.i .i64 0,.i .i64 0,.sl [],.sl [],.sl []]:=rfl;rw[hp] at hO;have her:(er != 0)=true:=by simpa using h0
 refine Qh e13 rfl rfl (by simp only[go_sem,Bool.and_true]) ?_;dsimp only[fn13,c13];(repeat' (first|refine RSN her ?_|((with_reducible refine PCN her (r:=.tp [.ag [.i .i64 0,.i .u64 0,.i .u64 0,.i .u64 0,.i .u64 0,.sl [],.i .i64 0,.i .i64 0,.sl [],.sl [],.sl []],.i .i64 er]) ?h ?_);case h=>exact hO)|with_reducible refine GBN her (fun _=>?_) (fun _=>?_)|with_reducible refine GDN her (fun _=>?_) (fun _=>?_)));rfl
def metM (L:List (Eg × Int)) (seen:List Nat) (p:Nat):List Mv:=(seen.filterMap fun j=>L[j]?).filterMap fun x=>if x.1.1=p then some x.1.2 else none
def Qb0 {k:Eg} {c:Int} (h:L[j]?=some (k,c)) (p:Nat):metM L (seen++[j]) p=if p=k.1 then metM L seen p++[k.2] else metM L seen p:=by
 simp only[metM,List.filterMap_append,List.filterMap_cons,List.filterMap_nil,h];by_cases hp:p=k.1
 ·subst hp;simp
 ·have:¬ k.1=p:=fun hh=>hp hh.symm
  simp [this,hp]
def Qe2 (hn:seen.Nodup) (hs:∀ j∈seen,j < L.length) (ha:∀ j,j < L.length→j∈seen) (p:Nat):(metM L seen p).Perm (Q8 L p):=by
 have hperm:seen.Perm (List.range L.length):=(List.perm_ext_iff_of_nodup hn List.nodup_range).2 fun j=>by
  rw[List.mem_range];exact⟨hs j,ha j⟩
 have e1:((List.range L.length).filterMap fun j=>L[j]?)=L:=by
  have key:∀ n,((List.range n).filterMap fun j=>L[j]?)=L.take n:=by
   intro n;induction n with
   | zero=>rfl
   | succ n ih =>
    rw[List.range_succ,List.filterMap_append,ih,List.take_add_one];cases h:L[n]?<;>simp [h]
  rw[key,List.take_length]
 have h2:=(hperm.filterMap fun j=>L[j]?);rw[e1] at h2;have h3:=h2.filterMap fun x=>if x.1.1=p then some x.1.2 else none
 refine h3.trans (List.Perm.of_eq ?_);simp only[Q8];clear h2 h3 e1 hperm ha hs hn;induction L with
 | nil=>rfl
 | cons x L ih =>
  by_cases hx:x.1.1=p
  ·simp [hx,ih]
  ·simp [hx,ih]
def Qbn {l l':List Mv} (h:l.Perm l'):srtM l=srtM l':=by
 have e:∀ l,srtM l=l.mergeSort fun x y=>!(ltOf ZL y x):=fun _=>rfl;rw[e,e];refine List.Perm.eq_of_pairwise (le:=fun x y=>(!(ltOf ZL y x))=true) ?_ ?_ ?_ ((List.mergeSort_perm _ _).trans (h.trans (List.mergeSort_perm _ _).symm))
 ·intro a b _ _ h1 h2;simp only[Bool.not_eq_true'] at h1 h2;exact totM a b h2 h1
 all_goals
  refine List.pairwise_mergeSort ?_ ?_ _
  ·intro a b c h1 h2;simp only[Bool.not_eq_true'] at h1 h2 ⊢;exact swoM.ntrans c b a h2 h1
  ·intro a b;cases h:ltOf ZL b a with
   | false=>simp
   | true =>
    have:ltOf ZL a b=false:=by
     cases h2:ltOf ZL a b with
     | false=>rfl
     | true=>have:=swoM.trans a b a h2 h;rw[swoM.irrefl] at this;cases this
    simp [this]
def QaC (L:List (Eg × Int)) (seen:List Nat) (p:Nat):(metM L seen p).length≤seen.length :=
 Nat.le_trans (List.length_filterMap_le ..) (List.length_filterMap_le ..)
end Go.Proofs.YtklbhcjmaeedhaaGreatDoor
