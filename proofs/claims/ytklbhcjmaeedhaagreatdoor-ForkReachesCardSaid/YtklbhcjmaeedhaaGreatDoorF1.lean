import Derived.Test.YtklbhcjmaeedhaaGreatDoorC12

namespace Go.Proofs.YtklbhcjmaeedhaaGreatDoor
set_option linter.all false
variable {k m b:Nat} {f:Nat→Bool}
def QhA:∀ x:Nat,0 < x→∃ k m,x=2 ^ k*(2*m+1):=by
 intro x;induction x using Nat.strongRecOn with
 | _ x ih =>
  intro h;rcases Nat.mod_two_eq_zero_or_one x with h0|h0
  ·obtain⟨k,m,e⟩:=ih (x / 2) OM OM
   refine⟨k+1,m,?_⟩
   rw[Nat.pow_succ,Nat.mul_comm (2 ^ k) 2,Nat.mul_assoc,← e];omega
  ·exact⟨0,x / 2,OM⟩
def KQ (k m j:Nat):(2 ^ k*(2*m+1)).testBit j=if j < k then false else (2*m+1).testBit (j - k):=by
 have:=Nat.testBit_two_pow_mul_add (2*m+1) (b:=0) (i:=k) (Nat.two_pow_pos k) j
 rw[Nat.add_zero] at this;rw[this];simp
def Qhe (hx:2 ^ k*(2*m+1) < 2 ^ 64):(2 ^ k*(2*m+1)) &&& (2 ^ 64 - 2 ^ k*(2*m+1))=2 ^ k:=by
 have hp:=Nat.two_pow_pos k;have e1:2 ^ 64 - 2 ^ k*(2*m+1)=2 ^ 64 - ((2 ^ k*(2*m)+(2 ^ k - 1))+1):=by
  rw[Nat.mul_add,Nat.mul_one];omega
 have hlt:2 ^ k*(2*m)+(2 ^ k - 1) < 2 ^ 64:=by
  rw[Nat.mul_add,Nat.mul_one] at hx;omega
 have hk:k < 64:=by
  rcases Nat.lt_or_ge k 64 with h|h
  ·exact h
  ·have h1:2 ^ 64≤2 ^ k:=Nat.pow_le_pow_right OM h;have h2:2 ^ k*1≤2 ^ k*(2*m+1):=Nat.mul_le_mul_left _ OM;omega
 apply Nat.eq_of_testBit_eq;intro j;rw[Nat.testBit_and,e1,Nat.testBit_two_pow_sub_succ hlt,Nat.testBit_two_pow_mul_add (2*m) OM j,KQ,Nat.testBit_two_pow];by_cases h1:j < k
 ·rw[if_pos h1]
  have:¬ k=j:=by omega
  simp [this]
 ·rw[if_neg h1,if_neg h1];by_cases h2:k=j
  ·subst h2;simp [hk]
  ·obtain⟨d,rfl⟩:∃ d,j=k+(d+1):=⟨j - k - 1,OM⟩;have e2:k+(d+1) - k=d+1:=by omega
   rw[e2,Nat.testBit_succ,Nat.testBit_succ];have e3:(2*m+1) / 2=m:=by omega
   have e4:2*m / 2=m:=by omega
   rw[e3,e4]
   have:¬ k=k+(d+1):=by omega
   simp only[this,decide_false];cases m.testBit d<;>simp
def QaI {a:Nat} (ha:a < 2 ^ 64) (hb:b < 2 ^ 64):andI .u64 (a:Int) (b:Int)=((a &&& b:Nat):Int):=by
 unfold andI;have e:IntKind.bits .u64=64:=rfl;rw[e];have h1:(BitVec.ofInt 64 (a:Int) &&& BitVec.ofInt 64 (b:Int)).toNat=a &&& b:=by
  rw[BitVec.toNat_and,BitVec.ofInt_natCast,BitVec.ofInt_natCast,BitVec.toNat_ofNat,BitVec.toNat_ofNat,Nat.mod_eq_of_lt ha,Nat.mod_eq_of_lt hb]
 rw[h1];have h2:a &&& b≤a:=Nat.and_le_left;exact Hc OM OM
def tabN:List Nat:=[0,1,56,2,57,49,28,3,61,58,42,50,38,29,17,4,62,47,59,36,45,43,51,22,53,39,33,30,24,18,12,5,63,55,48,27,60,41,37,16,46,35,44,21,52,32,23,11,54,26,40,15,34,20,31,10,25,14,19,9,13,8,7,6]
def tabV:List V:=tabN.map fun n:Nat=>.i .u8 (n:Int)
def gl0:glV 0=.ip tabV 0:=rfl
def tabI (k:Nat):Nat:=2 ^ k*285870213051353865 % 18446744073709551616 / 288230376151711744
def QhT:∀ k:_root_.Fin 64,(IntKind.u64.wrap (((2 ^ k.1:Nat):Int)*285870213051353865)).fdiv 288230376151711744=((tabI k.1:Nat):Int)∧tabI k.1 < 64∧tabN[tabI k.1]?=some k.1:=by decide +kernel
def Qmh (k m:Nat) (hx:2 ^ k*(2*m+1) < 2 ^ 64):Pu F 95 [.i .u64 (2 ^ k*(2*m+1):Nat)] (.i .i64 k):=by
 have hand:=Qhe hx;have hp:=Nat.two_pow_pos k;have hpos:0 < 2 ^ k*(2*m+1):=Nat.mul_pos hp OM;have hk:k < 64:=by
  rcases Nat.lt_or_ge k 64 with h|h
  ·exact h
  ·have h1:2 ^ 64≤2 ^ k:=Nat.pow_le_pow_right OM h;have h2:2 ^ k*1≤2 ^ k*(2*m+1):=Nat.mul_le_mul_left _ OM;omega
 obtain⟨t1,t2,t3⟩:=QhT ⟨k,hk⟩;dsimp only at t1 t2 t3;generalize 2 ^ k*(2*m+1)=x at hand hx hpos;have c0:((x:Int)==0)=false:=by simp;omega
 have c1:IntKind.u64.wrap (0 - (x:Int))=((2 ^ 64 - x:Nat):Int):=by
  show (0 - (x:Int)) % 18446744073709551616=_;omega
 have c2:andI .u64 (x:Int) ((2 ^ 64 - x:Nat):Int)=((2 ^ k:Nat):Int):=by
  rw[QaI hx OM,hand]
 have t4:tabV[tabI k]?=some (.i .u8 k):=by rw[tabV,List.getElem?_map,t3];rfl
 generalize tabI k=j at t1 t2 t4;have c3:(0:Int)≤(j:Int)∧(j:Int) < 64:=by omega
 have c4:IntKind.i64.wrap (k:Int)=(k:Int):=Qi OM OM;refine Qh e95 rfl rfl rfl ?_;dsimp only[fn95,c95];refine RN (Ad4 c0 c1 c2 t1) ?_;refine U_q (v:=.ip tabV j) (by simp only[gl0,t1,go_sem];rw[if_pos c3,Int.toNat_natCast]) ?_;refine U_ld (v:=.i .u8 k) (Z1 t4) ?_;refine RN c4 ?_;exact Qp rfl rfl
def andS (a b:Nat→Nat) (i:Nat):Nat:=a i &&& b i
def Qfi (a b:Nat→Nat) (k:Nat):QA (andS a b) k=(QA a k&&QA b k):=by simp [QA,andS,Nat.testBit_and]
def QkW {a b:Nat→Nat} (ha:W64 a):W64 (andS a b):=fun i hi=>Nat.lt_of_le_of_lt Nat.and_le_left (ha i hi)
def mixS (n:Nat) (a b:Nat→Nat) (i:Nat):Nat:=if i < n then a i &&& b i else a i
def QlG (a b:Nat→Nat) (ha:W64 a) (hb:W64 b):Pu F 56 [.ag (u4 a),.ag (u4 b)] (.ag (u4 (andS a b))):=by
 refine Qh e56 rfl rfl rfl ?_;dsimp only[fn56,c56];refine RN trivial ?_;refine U_lp (fun r e o=>∃ i:Nat,i+r=4∧e 2=.pt 2 0 0∧e 3=.pt 3 0 0∧e 4=.pt 4 0 0∧e 6=.i .i64 i∧o 2=some (.row 4 [u4 (mixS i a b)])∧o 3=some (.row 4 [u4 b])∧o 4=some (.row 4 [[.i .u64 0,.i .u64 0,.i .u64 0,.i .u64 0]])) (k:=4) ?_ (Qa F) ?_
 ·exact⟨0,OM,Z0,Z0,Z0,Zr0,Zr0,Zr0,Zr0⟩
 rintro r e o ⟨i,hir,r2,r3,r4,r6,o2,o3,o4⟩;dsimp only[QlN];have key:∀ j,j < 4→andI .u64 (a j:Int) (b j:Int)=((a j &&& b j:Nat):Int):=fun j hj=>QaI (ha j hj) (hb j hj)
 match i,hir,r6,o2 with
 | 0,hir,r6,o2 =>
  have k0:=key 0 OM;have r6:e 6=.i .i64 0:=r6;have o2:o 2=some (.row 4 [[.i .u64 (a 0:Nat),.i .u64 (a 1:Nat),.i .u64 (a 2:Nat),.i .u64 (a 3:Nat)]]):=o2;have o3':o 3=some (.row 4 [[.i .u64 (b 0),.i .u64 (b 1),.i .u64 (b 2),.i .u64 (b 3)]]):=o3;refine RN (Ad2 r2 (Ad5 r3 r6 o2 o3' k0)) ?_
  exact⟨r - 1,OM,1,OM,Z1 r2,Z1 r3,Z1 r4,Zr0,Zr0,Z1 o3,Z1 o4⟩
 | 1,hir,r6,o2 =>
  have k0:=key 1 OM;have r6:e 6=.i .i64 1:=r6;have o2:o 2=some (.row 4 [[.i .u64 (a 0 &&& b 0:Nat),.i .u64 (a 1:Nat),.i .u64 (a 2:Nat),.i .u64 (a 3:Nat)]]):=o2;have o3':o 3=some (.row 4 [[.i .u64 (b 0),.i .u64 (b 1),.i .u64 (b 2),.i .u64 (b 3)]]):=o3;refine RN (Ad2 r2 (Ad5 r3 r6 o2 o3' k0)) ?_
  exact⟨r - 1,OM,2,OM,Z1 r2,Z1 r3,Z1 r4,Zr0,Zr0,Z1 o3,Z1 o4⟩
 | 2,hir,r6,o2 =>
  have k0:=key 2 OM;have r6:e 6=.i .i64 2:=r6;have o2:o 2=some (.row 4 [[.i .u64 (a 0 &&& b 0:Nat),.i .u64 (a 1 &&& b 1:Nat),.i .u64 (a 2:Nat),.i .u64 (a 3:Nat)]]):=o2;have o3':o 3=some (.row 4 [[.i .u64 (b 0),.i .u64 (b 1),.i .u64 (b 2),.i .u64 (b 3)]]):=o3;refine RN (Ad2 r2 (Ad5 r3 r6 o2 o3' k0)) ?_
  exact⟨r - 1,OM,3,OM,Z1 r2,Z1 r3,Z1 r4,Zr0,Zr0,Z1 o3,Z1 o4⟩
 | 3,hir,r6,o2 =>
  have k0:=key 3 OM;have r6:e 6=.i .i64 3:=r6;have o2:o 2=some (.row 4 [[.i .u64 (a 0 &&& b 0:Nat),.i .u64 (a 1 &&& b 1:Nat),.i .u64 (a 2 &&& b 2:Nat),.i .u64 (a 3:Nat)]]):=o2;have o3':o 3=some (.row 4 [[.i .u64 (b 0),.i .u64 (b 1),.i .u64 (b 2),.i .u64 (b 3)]]):=o3;refine RN (Ad2 r2 (Ad5 r3 r6 o2 o3' k0)) ?_
  exact⟨r - 1,OM,4,OM,Z1 r2,Z1 r3,Z1 r4,Zr0,Zr0,Z1 o3,Z1 o4⟩
 | 4,hir,r6,o2 =>
  have r6:e 6=.i .i64 4:=r6;have o2:o 2=some (.row 4 [[.i .u64 (a 0 &&& b 0:Nat),.i .u64 (a 1 &&& b 1:Nat),.i .u64 (a 2 &&& b 2:Nat),.i .u64 (a 3 &&& b 3:Nat)]]):=o2;refine RN (Ad5 r2 r4 r6 o2 o4) ?_;rfl
 | n+5,hir,_,_=>omega
def YP (f:Nat→Bool):Option Nat:=(List.range 256).find? f
def Jp (hb:b < 256) (h:f b=true) (h0:∀ j,j < b→f j=false):YP f=some b:=by
 rw[YP,List.find?_range_eq_some]
 exact⟨h,List.mem_range.2 hb,fun j hj=>by rw[h0 j hj];rfl⟩
def XJ (h:∀ b,b < 256→f b=false):YP f=none:=by
 rw[YP,List.find?_range_eq_none];exact fun j hj=>by rw[h j hj];rfl
def lstV (x:Option Nat):V:=.tp [.i .u8 (x.getD 0:Nat),.bo x.isSome]
def Qef (s:Nat→Nat) {i:Nat} (h:s i=2 ^ k*(2*m+1)) (hk:k < 64):QA s (i*64+k)=true∧∀ j,i*64≤j→j < i*64+k→QA s j=false:=by
 refine⟨?_,fun j h1 h2=>?_⟩
 ·have e1:(i*64+k) / 64=i:=by omega
  have e2:(i*64+k) % 64=k:=by omega
  rw[QA,e1,e2,h,KQ,if_neg OM,Nat.sub_self];simp
 ·have e1:j / 64=i:=by omega
  have e2:j % 64 < k:=by omega
  rw[QA,e1,h,KQ,if_pos e2]
def QdT (s:Nat→Nat) (hs:W64 s):Pu F 55 [.ag (u4 s)] (lstV (YP (QA s))):=by
 refine Qh e55 rfl rfl rfl ?_;dsimp only[fn55,c55];refine RN trivial ?_;refine U_lp (fun r e o=>∃ i:Nat,i+r=4∧(∀ j,j < i*64→QA s j=false)∧e 6=.ag (u4 s)∧e 7=.i .i64 i) (k:=4) ?_ (Qa F) ?_
 ·exact⟨0,OM,fun j hj=>by omega,Zr0,Zr0⟩
 rintro r e o ⟨i,hir,hz,r6,r7⟩;dsimp only[Qlp];by_cases hi:i < 4
 ·have hd:decide ((i:Int) < 4)=true:=decide_eq_true OM;have hw:=Zu (i:=i) OM;have hu:=QcO s hi;have hs':=hs i hi;have hip:(0:Int)≤(i:Int)∧(i:Int) < 4:=by omega
  have hgu:(u4 s)[i]?=some (.i .u64 (s i)):=hu;generalize hsi:s i=x at hgu hs';by_cases h0:x=0
  ·subst h0;have c1:(((0:Nat):Int) != 0)=false:=rfl;refine RN (Ad2 r7 hd) ?_;refine U_q (v:=.i .u64 (0:Nat)) (by simp only[r6,r7,go_sem];rw[if_pos hip];simp [prt,hgu]) ?_;refine RN (Ad3 r7 c1 hw) ?_
   refine⟨r - 1,OM,i+1,OM,fun j hj=>?_,Z1 r6,Z0⟩
   by_cases hji:j < i*64
   ·exact hz j hji
   ·have e1:j / 64=i:=by omega
    rw[QA,e1,hsi];simp
  ·obtain⟨k,m,rfl⟩:=QhA x OM;have htz:=Qmh k m (by simpa using hs');have hk:k < 64:=by
    rcases Nat.lt_or_ge k 64 with h|h
    ·exact h
    ·have h1:2 ^ 64≤2 ^ k:=Nat.pow_le_pow_right OM h;have h2:2 ^ k*1≤2 ^ k*(2*m+1):=Nat.mul_le_mul_left _ OM;omega
   obtain⟨g1,g2⟩:=Qef s hsi hk;have hl:YP (QA s)=some (i*64+k):=Jp OM g1 fun j hj=>by
    by_cases hji:j < i*64
    ·exact hz j hji
    ·exact g2 j OM hj
   rw[hl];generalize 2 ^ k*(2*m+1)=x at hgu htz h0;have c1:((x:Int) != 0)=true:=by simp;omega
   have c2:IntKind.i64.wrap ((i:Int)*64)=((i*64:Nat):Int):=by rw[Qi OM OM];omega
   have c3:IntKind.i64.wrap (((i*64:Nat):Int)+(k:Int))=((i*64+k:Nat):Int):=by rw[Qi OM OM];omega
   have c4:IntKind.u8.wrap ((i*64+k:Nat):Int)=((i*64+k:Nat):Int):=by
    show ((i*64+k:Nat):Int) % 256=_;omega
   refine RN (Ad2 r7 hd) ?_;refine U_q (v:=.i .u64 x) (by simp only[r6,r7,go_sem];rw[if_pos hip];simp [prt,hgu]) ?_;refine RN (Ad4 r7 c1 c2 hw) ?_;refine PRN trivial (r:=.i .i64 k) htz ?_;refine RN (Ad3 c2 c3 c4) ?_
   first|rfl|exact Qp rfl rfl
 ·have hd:decide ((i:Int) < 4)=false:=decide_eq_false OM;rw[XJ fun b hb=>hz b OM];refine RN (Ad2 r7 hd) ?_
  first|rfl|exact Qp rfl rfl
end Go.Proofs.YtklbhcjmaeedhaaGreatDoor
