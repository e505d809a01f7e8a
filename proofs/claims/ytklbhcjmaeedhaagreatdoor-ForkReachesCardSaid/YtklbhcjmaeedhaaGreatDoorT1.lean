import Derived.Test.YtklbhcjmaeedhaaGreatDoorDa
import Derived.Test.YtklbhcjmaeedhaaGreatDoorIr

namespace Go.Proofs.YtklbhcjmaeedhaaGreatDoor
set_option linter.all false
def QiQ (s:Nat→Nat) (hs:W64 s) (b:Nat) (hb:b < 256) (K:V→O→Prop) (hK:∀ o',K (.bo (QA s b)) o'):Call F 15 [.ag (u4 s),.i .u8 b] emp K:=by
 have hq:b / 64 < 4:=by omega
 have e0:(b:Int).fdiv 64=((b / 64:Nat):Int):=Qk0 b;have e1:andI .u8 (b:Int) 63=((b % 64:Nat):Int):=Qjk hb;have h1:s (b / 64) / 2 ^ (b % 64) < 18446744073709551616:=Nat.lt_of_le_of_lt (Nat.div_le_self _ _) (hs _ hq);have e2:andI .u64 ((s (b / 64) / 2 ^ (b % 64):Nat):Int) 1=((s (b / 64) / 2 ^ (b % 64) % 2:Nat):Int):=Qi1 h1;refine Yb e15 rfl ?_;dsimp only[fn15,c15];refine RXN trivial ?_;refine Qa1 (Zr0) (Zr0) rfl fun id hid=>?_;refine RXN e0 ?_;refine R_q (v:=.pt id 0 (b / 64)) (by simp only[go_sem];rw[if_pos OM,Int.toNat_natCast]) ?_;refine R_ld (v:=.i .u64 (s (b / 64))) (by simp only[go_sem];exact QcO s hq) ?_;refine RXN e1 ?_;refine R_q (v:=.i .u64 ((s (b / 64) / 2 ^ (b % 64):Nat):Int)) (by simp only[go_sem];rw[if_neg OM,Int.toNat_natCast,Nat.min_eq_left OM,Qhv]) ?_;refine RXN e2 ?_;have e3:((((s (b / 64) / 2 ^ (b % 64) % 2:Nat):Int))==1)=QA s b:=by
  rw[← Qb7];rcases Nat.mod_two_eq_zero_or_one (s (b / 64) / 2 ^ (b % 64)) with h|h<;>rw[h]<;>rfl
 rw[e3];exact hK _
end Go.Proofs.YtklbhcjmaeedhaaGreatDoor
