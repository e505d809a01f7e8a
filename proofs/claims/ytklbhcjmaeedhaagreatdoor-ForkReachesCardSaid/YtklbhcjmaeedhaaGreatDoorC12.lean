import Derived.Test.YtklbhcjmaeedhaaGreatDoorC9
import Derived.Test.YtklbhcjmaeedhaaGreatDoorC8
import Derived.Test.YtklbhcjmaeedhaaGreatDoorA8

namespace Go.Proofs.YtklbhcjmaeedhaaGreatDoor
set_option linter.all false
variable {A:Au} {p:Nat}
attribute [-go_sem] Qy Qj rfOb V.cells
def mvAt (A:Au) (p:Nat):List Mv:=(A.moves[p]?).getD []
def XR (hp:p < A.moves.length):A.moves[p]?=some (mvAt A p):=by simp [mvAt,List.getElem?_eq_getElem hp]
def Qfj (hp:p < A.moves.length):(A.moves.map mlC)[p]?=some [.sl ((mvAt A p).map mvC)]:=by
 rw[List.getElem?_map,XR hp];rfl
def QaE {l:List Mv} {i:Nat} (hi:i < l.length):(l.map mvC)[i]?=some (mvC l[i]):=by
 rw[List.getElem?_map,List.getElem?_eq_getElem hi];rfl
def Qel (r:Option Cf):flat FZ (mayV r)=true:=by cases r<;>rfl
def Qmy (A:Au) (x:Cf) (b:Nat) (ms:List Mv):List Cf:=ms.filterMap fun m=>if QA (stAt A m.to) b then mayF A x m else none
def stepF (A:Au) (x:Cf) (b:Nat):List Cf:=sdC (Qmy A x b (mvAt A x.p.toNat))
def Qaj (a b:Nat):(a:Int).tdiv (b:Int)=((a / b:Nat):Int):=by
 rw[Int.tdiv_eq_ediv_of_nonneg OM];exact (Int.natCast_ediv a b).symm
def z64:((64:Int)=0)=False:=by simp
def z2:((2:Int)=0)=False:=by simp
attribute [go_sem] z64 z2
def Qcm (s:Nat→Nat) (hs:W64 s) (b:Nat) (hb:b < 256):Pu F 14 [.ag (u4 s),.i .i64 b] (.bo (QA s b)):=by
 have hq:b / 64 < 4:=by omega
 have w1:(b:Int).tdiv 64=((b / 64:Nat):Int):=Qaj b 64;have w2:IntKind.i64.wrap (((b / 64:Nat)):Int)=((b / 64:Nat):Int):=Qi OM OM;have w3:(0:Int)≤((b / 64:Nat):Int):=by omega
 have w4:(((b / 64:Nat):Int) < 4)=True:=by simp only[eq_iff_iff,iff_true];omega
 have w5:(b:Int).tmod 64=((b % 64:Nat):Int):=QaD b 64;have hu:=QcO s hq;refine Qh e14 rfl rfl (by simp only[go_sem,Bool.and_true];rfl) ?_;dsimp only[fn14,c14];refine RT (Ad5 w1 w2 w3 w4 hu) ?_;refine U_lp (fun r e o=>∃ k:Nat,k+r=b % 64∧e 1=.i .i64 b∧e 5=.i .u64 ((s (b / 64) / 2 ^ k:Nat):Int)∧e 6=.i .i64 k) (k:=b % 64) ?_ (Qa F) ?_
 ·exact⟨0,OM,Z0,by simp only[go_sem];simp,Zr0⟩
 rintro r e o ⟨k,hkr,r1,r5,r6⟩;dsimp only[QjG];refine RN (Ad3 r1 r6 w5) ?_;refine Qv (q:=decide ((k:Int) < ((b % 64:Nat):Int))) (Z0) (fun hc=>?_) (fun hc=>?_)
 ·have hk:k < b % 64:=by have:=of_decide_eq_true hc;omega
  have hw:=Zu (i:=k) OM;have v1:(((s (b / 64) / 2 ^ k:Nat)):Int).tdiv 2=((s (b / 64) / 2 ^ (k+1):Nat):Int):=by
   have:=Qaj (s (b / 64) / 2 ^ k) 2
   rw[Nat.div_div_eq_div_mul,← Nat.pow_succ] at this;exact this
  have hlt:s (b / 64) / 2 ^ (k+1) < 18446744073709551616:=Nat.lt_of_le_of_lt (Nat.div_le_self _ _) (hs _ hq);have v2:IntKind.u64.wrap (((s (b / 64) / 2 ^ (k+1):Nat)):Int)=((s (b / 64) / 2 ^ (k+1):Nat):Int):=(fun (t:Nat) (h:t < 18446744073709551616)=>(Hc OM OM:IntKind.u64.wrap (t:Int)=t)) _ hlt;refine RN (Ad5 r5 r6 v1 v2 hw) ?_
  exact⟨r - 1,OM,k+1,OM,Z1 r1,Z0,Z0⟩
 ·have hk:k=b % 64:=by have:=of_decide_eq_false hc;omega
  subst hk;have v3:(((s (b / 64) / 2 ^ (b % 64):Nat)):Int).tmod 2=((s (b / 64) / 2 ^ (b % 64) % 2:Nat):Int):=QaD _ 2;have v4:((((s (b / 64) / 2 ^ (b % 64) % 2:Nat)):Int)==1)=QA s b:=by
   rw[← Qb7];rcases Nat.mod_two_eq_zero_or_one (s (b / 64) / 2 ^ (b % 64)) with h|h<;>rw[h]<;>rfl
  refine RN (Ad3 r5 v3 v4) ?_;exact Qp rfl rfl
def Qc9 (c:Cf) (l:List Cf) (hl:l.length < 4294967296):Pu F 10 [.sl (l.map cfC),.ag (cfC c)] (.bo (decide (c∈l))):=by
 refine Qh e10 rfl rfl (by simp only[go_sem,Bool.and_true]) ?_;dsimp only[fn10,c10];refine RN trivial ?_;refine U_lp (fun r e o=>∃ i:Nat,i+r=l.length∧e 0=.sl (l.map cfC)∧e 3=.pt 3 0 0∧e 5=.i .i64 i∧o 3=some (.row 5 [cfC c])∧c ∉ l.take i) (k:=l.length) ?_ (Qa F) ?_
 ·exact⟨0,OM,Z0,Z0,Zr0,Z0,SM⟩
 rintro r e o ⟨i,hir,r0,r3,r5,o3,hq⟩;dsimp only[Qja];refine RT (Ad2 r0 r5) ?_;refine Qv (q:=decide ((i:Int) < (l.length:Int))) (Z0) (fun hc=>?_) (fun hc=>?_)
 ·have hi:i < l.length:=by simpa using hc
  have hip:(0:Int)≤(i:Int):=by omega
  have hx:=HH hi;have hw:=Zu (i:=i) OM;refine RT (Ad2 r0 (Ad5 r3 r5 o3 hip hx)) ?_;refine Qv (q:=decide (l[i]=c)) (Z0) (fun hc2=>?_) (fun hc2=>?_)
  ·have he:l[i]=c:=by simpa using hc2
   have:decide (c∈l)=true:=by simp;rw[← he];exact List.getElem_mem hi
   refine RN trivial ?_;rw[this];exact Qp rfl rfl
  ·have he:¬ l[i]=c:=by simpa using hc2
   refine RN (Ad2 r5 hw) ?_
   refine⟨r - 1,OM,i+1,OM,Z1 r0,Z1 r3,Z0,Z1 o3,fun hm=>?_⟩
   rw[List.take_add_one,List.getElem?_eq_getElem hi] at hm;rcases List.mem_append.1 hm with h|h
   ·exact hq h
   ·simp at h;exact he h.symm
 ·have hi:i=l.length:=by
   have:¬ i < l.length:=by simpa using hc
   omega
  subst hi;rw[List.take_length] at hq
  have:decide (c∈l)=false:=by simpa using hq
  refine RN trivial ?_;rw[this];exact Qp rfl rfl
end Go.Proofs.YtklbhcjmaeedhaaGreatDoor
