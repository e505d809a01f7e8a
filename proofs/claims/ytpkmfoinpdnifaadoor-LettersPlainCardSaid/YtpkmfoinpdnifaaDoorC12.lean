import Derived.Test.YtpkmfoinpdnifaaDoorC9
import Derived.Test.YtpkmfoinpdnifaaDoorC8
import Derived.Test.YtpkmfoinpdnifaaDoorA8

namespace Go.Proofs.YtpkmfoinpdnifaaDoor
set_option linter.all false
attribute [-go_sem] swpOb renOb rfOb V.cells
def mvAt (A:Au) (p:Nat):List Mv:=(A.moves[p]?).getD []
def stepL (A:Au) (x:Cf) (b:Nat) (ms:List Mv):List Cf:=ms.filterMap fun m=>if bitOf (stAt A m.to) b then mayF A x m else none
def stepF (A:Au) (x:Cf) (b:Nat):List Cf:=sdC (stepL A x b (mvAt A x.p.toNat))
theorem tdiv_nat (a b:Nat):(a:Int).tdiv (b:Int)=((a / b:Nat):Int):=by
 rw[Int.tdiv_eq_ediv_of_nonneg (by omega)];exact (Int.natCast_ediv a b).symm
theorem z64:((64:Int)=0)=False:=by simp
theorem z2:((2:Int)=0)=False:=by simp
attribute [go_sem] z64 z2
theorem rhas_pu (s:Nat→Nat) (hs:W64 s) (b:Nat) (hb:b < 256):Pu F 11 [.ag (u4 s),.i .i64 b] (.bo (bitOf s b)):=by
 have hq:b / 64 < 4:=by omega
 have w1:(b:Int).tdiv 64=((b / 64:Nat):Int):=tdiv_nat b 64;have w2:IntKind.i64.wrap (((b / 64:Nat)):Int)=((b / 64:Nat):Int):=wrap_i64 (by omega) (by omega);have w3:(0:Int)≤((b / 64:Nat):Int):=by omega
 have w4:(((b / 64:Nat):Int) < 4)=True:=by simp only[eq_iff_iff,iff_true];omega
 have w5:(b:Int).tmod 64=((b % 64:Nat):Int):=tmod_nat b 64;have hu:=u4_get s hq;refine U_pure e11 rfl rfl (by simp only[go_sem,Bool.and_true];rfl) ?_;dsimp only[fn11,c11];(repeat (with_reducible (first|refine U_nil ?_|refine UC_sq ?_|refine UC_rg ?_|refine UC_bk ?_|refine X_nx ?_|((first|refine U_q (v:=?_) ?h1 ?_|refine U_ld (v:=?_) ?h1 ?_);case h1=>((try simp only[w1,w2,w3,w4,hu,Int.toNat_natCast,Nat.mul_one,Nat.zero_add,go_sem])<;>rfl))|(refine U_box (cs:=?_) (cs':=?_) (n:=?_) ?h1 ?h2 ?h3 ?h4 ?_;case h1|h2|h3|h4=>((try simp only[w1,w2,w3,w4,hu,Int.toNat_natCast,Nat.mul_one,Nat.zero_add,go_sem])<;>rfl)))));refine U_lp (fun r e o=>∃ k:Nat,k+r=b % 64∧e 1=.i .i64 b∧e 5=.i .u64 ((s (b / 64) / 2 ^ k:Nat):Int)∧e 6=.i .i64 k) (k:=b % 64) ?_ (Call_le F) ?_
 ·exact⟨0,by omega,Z0,by simp only[go_sem];simp,Zr0⟩
 rintro r e o ⟨k,hkr,r1,r5,r6⟩;dsimp only[b11_0];(repeat (with_reducible (first|refine U_nil ?_|refine UC_sq ?_|refine UC_rg ?_|refine X_nx ?_|(refine U_q (v:=?_) ?h1 ?_;case h1=>((try simp only[r1,r6,w5,go_sem])<;>rfl)))));refine UC_cdb (q:=decide ((k:Int) < ((b % 64:Nat):Int))) (Z0) (fun hc=>?_) (fun hc=>?_)
 ·have hk:k < b % 64:=by have:=of_decide_eq_true hc;omega
  have hw:=wrap1 (i:=k) (by omega);have v1:(((s (b / 64) / 2 ^ k:Nat)):Int).tdiv 2=((s (b / 64) / 2 ^ (k+1):Nat):Int):=by
   have:=tdiv_nat (s (b / 64) / 2 ^ k) 2
   rw[Nat.div_div_eq_div_mul,← Nat.pow_succ] at this;exact this
  have hlt:s (b / 64) / 2 ^ (k+1) < 18446744073709551616:=Nat.lt_of_le_of_lt (Nat.div_le_self _ _) (hs _ hq);have v2:IntKind.u64.wrap (((s (b / 64) / 2 ^ (k+1):Nat)):Int)=((s (b / 64) / 2 ^ (k+1):Nat):Int):=(fun (t:Nat) (h:t < 18446744073709551616)=>(wrap_u64 (by omega) (by omega):IntKind.u64.wrap (t:Int)=t)) _ hlt;(repeat (with_reducible (first|refine U_nil ?_|refine UC_sq ?_|refine UC_rg ?_|refine UC_bk ?_|refine UC_sk ?_|refine X_nx ?_|refine B_nx ?_|(refine U_q (v:=?_) ?h1 ?_;case h1=>((try simp only[r5,r6,v1,v2,hw,go_sem])<;>rfl)))))
  exact⟨r - 1,by omega,k+1,by omega,Z1 r1,Z0,Z0⟩
 ·have hk:k=b % 64:=by have:=of_decide_eq_false hc;omega
  subst hk;have v3:(((s (b / 64) / 2 ^ (b % 64):Nat)):Int).tmod 2=((s (b / 64) / 2 ^ (b % 64) % 2:Nat):Int):=tmod_nat _ 2;have v4:((((s (b / 64) / 2 ^ (b % 64) % 2:Nat)):Int)==1)=bitOf s b:=by
   rw[← bit_val];rcases Nat.mod_two_eq_zero_or_one (s (b / 64) / 2 ^ (b % 64)) with h|h<;>rw[h]<;>rfl
  (repeat (with_reducible (first|refine U_nil ?_|refine UC_sq ?_|refine UC_rg ?_|refine UC_ex ?_|refine UC_rt ?_|refine X_nx ?_|refine X_ex ?_|refine B_self ?_|((first|refine U_q (v:=?_) ?h1 ?_|refine E_1 (v:=?_) ?h1 ?_);case h1=>((try simp only[r5,v3,v4,go_sem])<;>rfl)))));exact fz_of rfl rfl
end Go.Proofs.YtpkmfoinpdnifaaDoor
