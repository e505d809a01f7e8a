import Derived.Test.YtgiedknghbpdfaaDoorJ3
import Derived.Test.YtgiedknghbpdfaaDoorF12
import Derived.Test.YtgiedknghbpdfaaDoorCards
import Derived.Test.YtgiedknghbpdfaaDoorTie
import Derived.ProofKit
import Derived.LaidMore
import Derived.OpenShut
import Derived.Stop.Joined
import Derived.Lib.LaidTab
import Derived.SevenTiedAt

/-
  ForkAgrees is true for every input, the listed table being as the program's text lays it; each argument reads behind the call as it did. (No other condition.)
-/
namespace Go.Proofs.YtgiedknghbpdfaaDoor
set_option linter.all false
open Go Go.ChangeShapes Go.WideShapes Go.ChangeAt Go.RowKit
theorem gTab : Tryd.prog.globalNamed "math/bits.deBruijn64tab" = some 0 := by kernel_rfl
theorem tTab:(Tryd.prog.globals[0]?).map (·.type)=some 150:=by kernel_rfl
def tabZ:List Int:=tabN.map fun n:Nat=>(n:Int)
theorem gl_of {W:World} (h:laidMetH Tryd.prog Rows.forkAgreesRow.laid W):GlAt W.heap (fun b=>b < W.heap.size):=by
 rw[MakeChecks.laidMetH_plain _ _ _ (by kernel_rfl)] at h;have h : laidMet Tryd.prog (("math/bits.deBruijn64tab", Lib.tabData .u8 tabZ) :: []) W := h
 have hT:=Lib.tabIs_of_head gTab tTab Tryd.underlying150 Tryd.underlying5 (by kernel_rfl) (by kernel_rfl) h;have hc:∀ i,i < 64→W.cell? ⟨0,i,none⟩=some (.int .u8 (tabZ.getD i 0)):=fun i hi=>hT.cell gTab i hi;have hb:∀ i,i < 64→cellAt W.heap 0 i=some (.int .u8 (tabZ.getD i 0)):=fun i hi=>by
  have:=hc i hi
  unfold World.cell? at this;unfold cellAt;split at this<;>simp_all
 intro q hq;have hq:q=(0,tabV):=by simpa [GL,tabV,tabN] using hq
 subst hq
 refine⟨?_,fun k v hv=>?_⟩
 ·have:=hb 0 (by omega)
  unfold cellAt at this;rcases Nat.lt_or_ge 0 W.heap.size with h|h
  ·exact h
  ·rw[Array.getElem?_eq_none h] at this;cases this
 ·have hk:k < 64:=(List.getElem?_eq_some_iff.1 hv).1
  refine⟨.u8,tabZ.getD k 0,?_,hb k hk⟩
  have h2:tabV[k]?=(tabZ.map fun z=>V.i .u8 z)[k]?:=by rw[tabV,tabZ,List.map_map];rfl
  have hk2:k < tabZ.length:=hk;have hv:tabV[k]?=some v:=hv;rw[h2,List.getElem?_map,List.getElem?_eq_getElem hk2] at hv;cases hv;simp [List.getD,List.getElem?_eq_getElem hk2]
theorem isA_how:isA Tryd.prog 52=true:=by kernel_rfl
theorem agrees_snd (xs:List V) (h:Args Tryd.prog Tryd.f4.params.toList xs):Snd Tryd.prog 4 xs emp (fun v _=>v=.bo true):=by
 rw[Tryd.params4] at h;obtain⟨v0,as0,n0,h0,rfl,v1,as1,n1,h1,rfl,rfl⟩:=h;obtain⟨n,rfl,hn⟩:=isv_node h0;obtain⟨zs,rfl,hzl,hz⟩:=isv_ints Tryd.underlying52 Tryd.underlying5 h1;simp only[argV,isA_node,isA_how,if_true]
 match zs,hzl with
 | [z0,z1,z2],_ =>
  have g0:=wf_u8 (hz z0 (by simp));have g1:=wf_u8 (hz z1 (by simp));have g2:=wf_u8 (hz z2 (by simp));obtain⟨a0,rfl⟩:∃ k:Nat,z0=k:=⟨z0.toNat,by omega⟩;obtain⟨a1,rfl⟩:∃ k:Nat,z1=k:=⟨z1.toNat,by omega⟩;obtain⟨a2,rfl⟩:∃ k:Nat,z2=k:=⟨z2.toNat,by omega⟩;exact sound mixed Bas_ok (Call_le F _ _ _ _ _ (fun _ _ h=>fz_bo h) (agrees_law n hn a0 a1 a2 (by omega) (by omega) (by omega)))
def lL:List TypeId:=[4,3,2,22,24,25,27,5,52]
theorem door_met (os:Os) (args:Array Value):laidMetH Tryd.prog Rows.forkAgreesRow.laid ((World.doorLaid Tryd.prog 400 os).forCall (fun _ _=>0) ⟨#[],args,[]⟩).memory :=
 laidMetH_of_parts3 (fuel:=8) (laidMet_of_run' 8 (by kernel_rfl) (by kernel_rfl)) (by kernel_rfl) (by kernel_rfl)
set_option maxRecDepth 100000 in
theorem agrees_lifted (os:Os) (started:os.Started) (H:Type) (enc:TypeId × Value→H) :
  ReturnsInHanded {} Tryd.checked os 4 .any (fun w args=>(Rows.forkAgreesSpec.pre enc Tryd.prog Tryd.f4 Rows.forkAgreesRow.domain false w args∧laidMetH Tryd.prog Rows.forkAgreesRow.laid w)∧sizedMet enc Tryd.prog Tryd.f4 (OpenSpec.ofChange Rows.forkAgreesSpec) false w args)
   (Rows.forkAgreesSpec.post enc Tryd.prog Tryd.f4 false true false false):=by
 refine returnsInHanded_of_change_and (C:=Tryd.checked) (X:=fun w _=>laidMetH Tryd.prog Rows.forkAgreesRow.laid w) (fun _ _ _ hh h=>h.of_heap hh) own started (by kernel_rfl) Tryd.func4
  (ChangeSpec.witness_shaped (enc:=enc) (C:=Tryd.checked) (os:=os) (X:=fun w _=>laidMetH Tryd.prog Rows.forkAgreesRow.laid w) false (World.doorLaid Tryd.prog 400 os) #[.agg #[.int .i64 0,.int .u64 0,.int .u64 0,.int .u64 0,.int .u64 0,.slice none 0 0,.int .i64 0,.int .i64 0],.agg #[.int .u8 0,.int .u8 0,.int .u8 0]] 8 rfl (World.shaped_of_RefB (by kernel_rfl) (by kernel_rfl)) (by kernel_rfl) (by kernel_rfl) (by kernel_rfl) (door_met os _)) ?_
 intro W base args ds gs before hval hW _ _ hL _;exact law_contract (fn:=Tryd.f4) (L:=lL) (tb:=4) (fresh:=true) (handsOn:=false) Tryd.func4 (by kernel_rfl) laidOut mapsRow slicesFull rfl (by rw[Tryd.params4];decide) rfl Tryd.underlying4
  (fun ds hl=>by
   rw[Tryd.params4] at hl
   match ds,hl with
   | [d1,d2],_=>exact⟨rfl,rfl,rfl⟩) hval hW agrees_snd (gl_of hL)
theorem agrees_said:Rows.ForkAgreesSaid :=
 OpenClaim.holds_of_wide 4 Tryd.f4 rfl rfl rfl rfl rfl rfl rfl ⟨rfl,rfl,rfl,rfl,rfl⟩ rfl rfl rfl rfl rfl (by kernel_rfl) Tryd.func4 (by kernel_rfl)
  (of_decide_eq_true (by kernel_rfl)) (by unfold Func.isWrapper;first|(rw[if_pos (by decide +kernel)];kernel_rfl)|(rw[if_neg (by decide +kernel)];exact⟨rfl,rfl⟩))
  (fun os started H enc _=>agrees_lifted os started H enc)
theorem agrees_holds:Rows.ForkAgreesCardSaid :=
 Claim7.holds_tied_plain_at .later [] [.data] true (true, "abe1bc93b0a2e0a16fe5a9ba699bf4cb8c5a97f7f034be9084740cf5ee799b49") false
  agrees_said (fun _ h=>by cases h) (by kernel_rfl) (fun _ h=>by cases h) forkAgrees_row_tie rfl ⟨rfl,rfl⟩ (by kernel_rfl) rfl
  (fun f fn hf hfn=>by
   obtain rfl : f = 4 := Option.some.inj ((show Tryd.prog.funcNamed "ostinato/ostinatolaw15.ForkAgrees" = some 4 by kernel_rfl).symm.trans hf) |>.symm
   obtain rfl:fn=Tryd.f4:=(Option.some.inj (Tryd.func4.symm.trans hfn)).symm
   exact⟨by kernel_rfl,fun j t ht=>by
    rw[Tryd.params4] at ht;have hm:t∈[27,52]:=by simpa using Array.mem_of_getElem? ht
    have hall:([27,52].all fun u=>!Tryd.prog.wantsStandIn u)=true:=by kernel_rfl
    exact (show Tryd.prog.wantsStandIn t=false by simpa using List.all_eq_true.1 hall t hm)⟩)
  (by kernel_rfl)
#print axioms agrees_holds
end Go.Proofs.YtgiedknghbpdfaaDoor
