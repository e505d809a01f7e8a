import Derived.Test.YtklbhcjmaeedhaaGreatDoorJ3
import Derived.Test.YtklbhcjmaeedhaaGreatDoorF15
import Derived.Test.YtklbhcjmaeedhaaGreatDoorCards
import Derived.Test.YtklbhcjmaeedhaaGreatDoorTie
import Derived.ProofKit
import Derived.LaidMore
import Derived.OpenShut
import Derived.Stop.Joined
import Derived.Lib.LaidTab
import Derived.SevenTiedAt

/-
  ForkReaches is true for every input, the listed table being as the program's text lays it; the argument reads behind the call as it did. (No other condition.)
-/
namespace Go.Proofs.YtklbhcjmaeedhaaGreatDoor
set_option linter.all false
open Go Go.ChangeShapes Go.WideShapes Go.ChangeAt Go.RowKit
def gTab : Tryz.prog.globalNamed "math/bits.deBruijn64tab" = some 0 := by kernel_rfl
def tTab:(Tryz.prog.globals[0]?).map (·.type)=some 169:=by kernel_rfl
def tabZ:List Int:=tabN.map fun n:Nat=>(n:Int)
def QmK {W:World} (h:laidMetH Tryz.prog Rows.forkReachesRow.laid W):GlAt W.heap (fun b=>b < W.heap.size):=by
 rw[MakeChecks.laidMetH_plain _ _ _ (by kernel_rfl)] at h;have h : laidMet Tryz.prog (("math/bits.deBruijn64tab", Lib.tabData .u8 tabZ) :: []) W := h
 have hT:=Lib.tabIs_of_head gTab tTab Tryz.underlying169 Tryz.underlying5 (by kernel_rfl) (by kernel_rfl) h;have hc:∀ i,i < 64→W.cell? ⟨0,i,none⟩=some (.int .u8 (tabZ.getD i 0)):=fun i hi=>hT.cell gTab i hi;have hb:∀ i,i < 64→Qo W.heap 0 i=some (.int .u8 (tabZ.getD i 0)):=fun i hi=>by
  have:=hc i hi
  unfold World.cell? at this;unfold Qo;split at this<;>simp_all
 intro q hq;have hq:q=(0,tabV):=by simpa [GL,tabV,tabN] using hq
 subst hq
 refine⟨?_,fun k v hv=>?_⟩
 ·have:=hb 0 OM
  unfold Qo at this;rcases Nat.lt_or_ge 0 W.heap.size with h|h
  ·exact h
  ·rw[Array.getElem?_eq_none h] at this;cases this
 ·have hk:k < 64:=(List.getElem?_eq_some_iff.1 hv).1
  refine⟨.u8,tabZ.getD k 0,?_,hb k hk⟩
  have h2:tabV[k]?=(tabZ.map fun z=>V.i .u8 z)[k]?:=by rw[tabV,tabZ,List.map_map];rfl
  have hk2:k < tabZ.length:=hk;have hv:tabV[k]?=some v:=hv;rw[h2,List.getElem?_map,List.getElem?_eq_getElem hk2] at hv;cases hv;simp [List.getD,List.getElem?_eq_getElem hk2]
def Hu (xs:List V) (h:Args Tryz.prog Tryz.f3.params.toList xs):Snd Tryz.prog 3 xs emp (fun v _=>v=.bo true):=by
 rw[Tryz.params3] at h;obtain⟨v0,as0,n0,h0,rfl,rfl⟩:=h;obtain⟨n,rfl,hn⟩:=Qeo h0;simp only[argV,Qe3,if_true];exact QiF mixed Qdb (Qa F _ _ _ _ _ (fun _ _ h=>QlT h) (Qa7 n hn))
def lL:List TypeId:=[4,3,2,22,24,25,27]
def Qfe (os:Os) (args:Array Value):laidMetH Tryz.prog Rows.forkReachesRow.laid ((World.doorLaid Tryz.prog 400 os).forCall (fun _ _=>0) ⟨#[],args,[]⟩).memory :=
 laidMetH_of_parts3 (fuel:=8) (laidMet_of_run' 8 (by kernel_rfl) (by kernel_rfl)) (by kernel_rfl) (by kernel_rfl)
set_option maxRecDepth 100000 in
def Xi (os:Os) (started:os.Started) (H:Type) (enc:TypeId × Value→H) :
  ReturnsInHanded {} Tryz.checked os 3 .any (fun w args=>(Rows.forkReachesSpec.pre enc Tryz.prog Tryz.f3 Rows.forkReachesRow.domain false w args∧laidMetH Tryz.prog Rows.forkReachesRow.laid w)∧sizedMet enc Tryz.prog Tryz.f3 (OpenSpec.ofChange Rows.forkReachesSpec) false w args)
   (Rows.forkReachesSpec.post enc Tryz.prog Tryz.f3 false true false false):=by
 refine returnsInHanded_of_change_and (C:=Tryz.checked) (X:=fun w _=>laidMetH Tryz.prog Rows.forkReachesRow.laid w) (fun _ _ _ hh h=>h.of_heap hh) own started (by kernel_rfl) Tryz.func3
  (ChangeSpec.witness_shaped (enc:=enc) (C:=Tryz.checked) (os:=os) (X:=fun w _=>laidMetH Tryz.prog Rows.forkReachesRow.laid w) false (World.doorLaid Tryz.prog 400 os) #[.agg #[.int .i64 0,.int .u64 0,.int .u64 0,.int .u64 0,.int .u64 0,.slice none 0 0,.int .i64 0,.int .i64 0]] 8 rfl (World.shaped_of_RefB (by kernel_rfl) (by kernel_rfl)) (by kernel_rfl) (by kernel_rfl) (by kernel_rfl) (Qfe os _)) ?_
 intro W base args ds gs before hval hW _ _ hL _;exact HY (fn:=Tryz.f3) (L:=lL) (tb:=4) (fresh:=true) (handsOn:=false) Tryz.func3 (by kernel_rfl) Qg9 Qii Qa4 rfl (by rw[Tryz.params3];decide) rfl Tryz.underlying4
  (fun ds hl=>by
   rw[Tryz.params3] at hl
   match ds,hl with
   | [d1],_=>exact⟨rfl,rfl,rfl⟩) hval hW Hu (QmK hL)
def KZ:Rows.ForkReachesSaid :=
 OpenClaim.holds_of_wide 3 Tryz.f3 rfl rfl rfl rfl rfl rfl rfl ⟨rfl,rfl,rfl,rfl,rfl⟩ rfl rfl rfl rfl rfl (by kernel_rfl) Tryz.func3 (by kernel_rfl)
  (of_decide_eq_true (by kernel_rfl)) (by unfold Func.isWrapper;first|(rw[if_pos (by decide +kernel)];kernel_rfl)|(rw[if_neg (by decide +kernel)];exact⟨rfl,rfl⟩))
  (fun os started H enc _=>Xi os started H enc)
theorem freaches_holds:Rows.ForkReachesCardSaid :=
 Claim7.holds_tied_plain_at .later [] [.data] true (true, "b77c39bbd661f9b580b288e2fa97e2d7658195df217757104504866206ba5a90") false
  KZ (fun _ h=>by cases h) (by kernel_rfl) (fun _ h=>by cases h) forkReaches_row_tie rfl ⟨rfl,rfl⟩ (by kernel_rfl) rfl
  (fun f fn hf hfn=>by
   obtain rfl : f = 3 := Option.some.inj ((show Tryz.prog.funcNamed "ostinato/ostinatolaw15.ForkReaches" = some 3 by kernel_rfl).symm.trans hf) |>.symm
   obtain rfl:fn=Tryz.f3:=(Option.some.inj (Tryz.func3.symm.trans hfn)).symm
   exact⟨by kernel_rfl,fun j t ht=>by
    rw[Tryz.params3] at ht;have hm:t∈[27]:=by simpa using Array.mem_of_getElem? ht
    have hall:([27].all fun u=>!Tryz.prog.wantsStandIn u)=true:=by kernel_rfl
    exact (show Tryz.prog.wantsStandIn t=false by simpa using List.all_eq_true.1 hall t hm)⟩)
  (by kernel_rfl)
#print axioms freaches_holds
end Go.Proofs.YtklbhcjmaeedhaaGreatDoor
