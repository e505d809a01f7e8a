import Derived.Test.YtkmanhmdppfaiaaGreatDoorJ3
import Derived.Test.YtkmanhmdppfaiaaGreatDoorF14
import Derived.Test.YtkmanhmdppfaiaaGreatDoorCards
import Derived.Test.YtkmanhmdppfaiaaGreatDoorTie
import Derived.ProofKit
import Derived.LaidMore
import Derived.OpenShut
import Derived.Stop.Joined
import Derived.Lib.LaidTab
import Derived.SevenTiedAt

/-
  ForkNone is true for every input, the listed table being as the program's text lays it; the argument reads behind the call as it did. (No other condition.)
-/
namespace Go.Proofs.YtkmanhmdppfaiaaGreatDoor
set_option linter.all false
open Go Go.ChangeShapes Go.WideShapes Go.ChangeAt Go.RowKit
theorem gTab : Tryz.prog.globalNamed "math/bits.deBruijn64tab" = some 0 := by kernel_rfl
theorem tTab:(Tryz.prog.globals[0]?).map (·.type)=some 164:=by kernel_rfl
def tabZ:List Int:=tabN.map fun n:Nat=>(n:Int)
theorem gl_of {W:World} (h:laidMetH Tryz.prog Rows.forkNoneRow.laid W):GlAt W.heap (fun b=>b < W.heap.size):=by
 rw[MakeChecks.laidMetH_plain _ _ _ (by kernel_rfl)] at h;have h : laidMet Tryz.prog (("math/bits.deBruijn64tab", Lib.tabData .u8 tabZ) :: []) W := h
 have hT:=Lib.tabIs_of_head gTab tTab Tryz.underlying164 Tryz.underlying5 (by kernel_rfl) (by kernel_rfl) h;have hc:∀ i,i < 64→W.cell? ⟨0,i,none⟩=some (.int .u8 (tabZ.getD i 0)):=fun i hi=>hT.cell gTab i hi;have hb:∀ i,i < 64→cellAt W.heap 0 i=some (.int .u8 (tabZ.getD i 0)):=fun i hi=>by
  have:=hc i hi
  unfold World.cell? at this;unfold cellAt;split at this<;>simp_all
 intro q hq;have hq:q=(0,tabV):=by simpa [GL,tabV,tabN] using hq
 subst hq
 refine⟨?_,fun k v hv=>?_⟩
 ·have:=hb 0 (by omega)
  unfold cellAt at this;rcases Nat.lt_or_ge 0 W.heap.size with h|h
  ·exact h
  ·rw[Array.getElem?_eq_none h] at this;cases this
 ·have hk:k < 64:=(List.getElem?_eq_some_iff.1 hv).1
  refine⟨.u8,tabZ.getD k 0,?_,hb k hk⟩
  have h2:tabV[k]?=(tabZ.map fun z=>V.i .u8 z)[k]?:=by rw[tabV,tabZ,List.map_map];rfl
  have hk2:k < tabZ.length:=hk;have hv:tabV[k]?=some v:=hv;rw[h2,List.getElem?_map,List.getElem?_eq_getElem hk2] at hv;cases hv;simp [List.getD,List.getElem?_eq_getElem hk2]
theorem isA_byte:isA Tryz.prog 5=false:=by kernel_rfl
theorem none_snd (xs:List V) (h:Args Tryz.prog Tryz.f4.params.toList xs):Snd Tryz.prog 4 xs emp (fun v _=>v=.bo true):=by
 rw[Tryz.params4] at h;obtain⟨v0,as0,n0,h0,rfl,v1,as1,n1,h1,rfl,v2,as2,n2,h2,rfl,rfl⟩:=h;obtain⟨n,rfl,hn⟩:=isv_node h0;obtain⟨c,rfl,hc⟩:=isv_config h1;obtain⟨b,rfl,hb⟩:=isv_int Tryz.underlying5 h2;simp only[argV,isA_node,isA_config,isA_byte,if_true];have h8:=wf_u8 hb;obtain⟨k,rfl⟩:∃ k:Nat,b=k:=⟨b.toNat,by omega⟩;exact sound mixed Bas_ok (Call_le F _ _ _ _ _ (fun _ _ h=>fz_bo h) (nones_law n hn c k (by omega)))
def lL:List TypeId:=[4,3,2,22,24,25,27,41,43,5]
theorem door_met (os:Os) (args:Array Value):laidMetH Tryz.prog Rows.forkNoneRow.laid ((World.doorLaid Tryz.prog 400 os).forCall (fun _ _=>0) ⟨#[],args,[]⟩).memory :=
 laidMetH_of_parts3 (fuel:=8) (laidMet_of_run' 8 (by kernel_rfl) (by kernel_rfl)) (by kernel_rfl) (by kernel_rfl)
set_option maxRecDepth 100000 in
theorem none_lifted (os:Os) (started:os.Started) (H:Type) (enc:TypeId × Value→H) :
  ReturnsInHanded {} Tryz.checked os 4 .any (fun w args=>(Rows.forkNoneSpec.pre enc Tryz.prog Tryz.f4 Rows.forkNoneRow.domain false w args∧laidMetH Tryz.prog Rows.forkNoneRow.laid w)∧sizedMet enc Tryz.prog Tryz.f4 (OpenSpec.ofChange Rows.forkNoneSpec) false w args)
   (Rows.forkNoneSpec.post enc Tryz.prog Tryz.f4 false true false false):=by
 refine returnsInHanded_of_change_and (C:=Tryz.checked) (X:=fun w _=>laidMetH Tryz.prog Rows.forkNoneRow.laid w) (fun _ _ _ hh h=>h.of_heap hh) own started (by kernel_rfl) Tryz.func4
  (ChangeSpec.witness_shaped (enc:=enc) (C:=Tryz.checked) (os:=os) (X:=fun w _=>laidMetH Tryz.prog Rows.forkNoneRow.laid w) false (World.doorLaid Tryz.prog 400 os) #[.agg #[.int .i64 0,.int .u64 0,.int .u64 0,.int .u64 0,.int .u64 0,.slice none 0 0,.int .i64 0,.int .i64 0],.agg #[.int .i64 0,.int .i64 0,.int .i64 0,.int .i64 0,.int .i64 0],.int .u8 0] 8 rfl (World.shaped_of_RefB (by kernel_rfl) (by kernel_rfl)) (by kernel_rfl) (by kernel_rfl) (by kernel_rfl) (door_met os _)) ?_
 intro W base args ds gs before hval hW _ _ hL _;exact law_contract (fn:=Tryz.f4) (L:=lL) (tb:=4) (fresh:=true) (handsOn:=false) Tryz.func4 (by kernel_rfl) laidOut mapsRow slicesFull rfl (by rw[Tryz.params4];decide) rfl Tryz.underlying4
  (fun ds hl=>by
   rw[Tryz.params4] at hl
   match ds,hl with
   | [d1,d2,d3],_=>exact⟨rfl,rfl,rfl⟩) hval hW none_snd (gl_of hL)
theorem none_said:Rows.ForkNoneSaid :=
 OpenClaim.holds_of_wide 4 Tryz.f4 rfl rfl rfl rfl rfl rfl rfl ⟨rfl,rfl,rfl,rfl,rfl⟩ rfl rfl rfl rfl rfl (by kernel_rfl) Tryz.func4 (by kernel_rfl)
  (of_decide_eq_true (by kernel_rfl)) (by unfold Func.isWrapper;first|(rw[if_pos (by decide +kernel)];kernel_rfl)|(rw[if_neg (by decide +kernel)];exact⟨rfl,rfl⟩))
  (fun os started H enc _=>none_lifted os started H enc)
theorem none_holds:Rows.ForkNoneCardSaid :=
 Claim7.holds_tied_plain_at .later [] [.data] true (true, "0164e6ff1801a7af5da84e54f127afa280d5a017b3efa0895c95b2bba58759b0") false
  none_said (fun _ h=>by cases h) (by kernel_rfl) (fun _ h=>by cases h) forkNone_row_tie rfl ⟨rfl,rfl⟩ (by kernel_rfl) rfl
  (fun f fn hf hfn=>by
   obtain rfl : f = 4 := Option.some.inj ((show Tryz.prog.funcNamed "ostinato/ostinatolaw15.ForkNone" = some 4 by kernel_rfl).symm.trans hf) |>.symm
   obtain rfl:fn=Tryz.f4:=(Option.some.inj (Tryz.func4.symm.trans hfn)).symm
   exact⟨by kernel_rfl,fun j t ht=>by
    rw[Tryz.params4] at ht;have hm:t∈[27,43,5]:=by simpa using Array.mem_of_getElem? ht
    have hall:([27,43,5].all fun u=>!Tryz.prog.wantsStandIn u)=true:=by kernel_rfl
    exact (show Tryz.prog.wantsStandIn t=false by simpa using List.all_eq_true.1 hall t hm)⟩)
  (by kernel_rfl)
#print axioms none_holds
end Go.Proofs.YtkmanhmdppfaiaaGreatDoor
