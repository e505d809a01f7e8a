import Derived.Test.YtpkmfoinpdnifaaDoorJ4
import Derived.Test.YtpkmfoinpdnifaaDoorKh
import Derived.Test.YtpkmfoinpdnifaaDoorCards
import Derived.Test.YtpkmfoinpdnifaaDoorTie
import Derived.ProofKit
import Derived.LaidMore
import Derived.OpenShut
import Derived.Stop.Joined
import Derived.Lib.LaidTab
import Derived.SevenTiedAt

/-
  LettersPlain is true for every input, the listed variables being as the program's text lays them; each argument reads behind the call as it did. (No other condition.)
-/
namespace Go.Proofs.YtpkmfoinpdnifaaDoor
set_option linter.all false
open Go Go.ChangeShapes Go.WideShapes Go.ChangeAt Go.RowKit
theorem gTab : Tryd.prog.globalNamed "math/bits.deBruijn64tab" = some 1 := by kernel_rfl
theorem tTab:(Tryd.prog.globals[1]?).map (·.type)=some 110:=by kernel_rfl
theorem gAll : Tryd.prog.globalNamed "ostinato/class.all" = some 0 := by kernel_rfl
theorem tAll:(Tryd.prog.globals[0]?).map (·.type)=some 3:=by kernel_rfl
def tabZ:List Int:=tabN.map fun n:Nat=>(n:Int)
theorem at_cell {W:World} {g i:Nat} {v:Value} (h:W.cell? ⟨g,i,none⟩=some v):cellAt W.heap g i=some v:=by
 unfold World.cell? at h;unfold cellAt;split at h<;>simp_all
theorem at_size {W:World} {g i:Nat} {v:Value} (h:cellAt W.heap g i=some v):g < W.heap.size:=by
 unfold cellAt at h;rcases Nat.lt_or_ge g W.heap.size with h2|h2
 ·exact h2
 ·rw[Array.getElem?_eq_none h2] at h;cases h
theorem gl_of {W:World} (h:laidMetH Tryd.prog Rows.lettersPlainRow.laid W):GlAt W.heap (fun b=>b < W.heap.size):=by
 rw[MakeChecks.laidMetH_plain _ _ _ (by kernel_rfl)] at h;have h : laidMet Tryd.prog (("math/bits.deBruijn64tab", Lib.tabData .u8 tabZ) :: ("ostinato/class.all", .lit (.int .i64 256)) :: []) W := h
 have hT:=Lib.tabIs_of_head gTab tTab Tryd.underlying110 Tryd.underlying5 (by kernel_rfl) (by kernel_rfl) h;have hb:∀ i,i < 64→cellAt W.heap 1 i=some (.int .u8 (tabZ.getD i 0)):=fun i hi=>at_cell (hT.cell gTab i hi);have ha:cellAt W.heap 0 0=some (.int .i64 256):=by
  obtain⟨_,⟨_,_,_,_,_,_,_,_,_,_,⟨g,t,cs,fuel,p,q,hg,ht,hvar,hd,_,_⟩,_⟩,_⟩:=h;obtain rfl:=Option.some.inj (gAll.symm.trans hg);obtain rfl:=Option.some.inj (tAll.symm.trans ht);obtain⟨n,hc,hx,_⟩:=DataW.trod_int Tryd.underlying3 hd;have hn:n=256:=by
   have:=congrArg Prod.fst hx
   simp only[DataW.lit.injEq,Lit.int.injEq,true_and] at this;exact this.symm
  subst hn;have h0:=World.var?_cell gAll hvar 0;refine at_cell (h0.trans ?_)
  have:cs[0]?=cs.toList[0]?:=by simp
  rw[this,hc];rfl
 intro q hq;have hq:q=(0,[.i .i64 256])∨q=(1,tabV):=by simpa [GL,tabV,tabN] using hq
 rcases hq with rfl|rfl
 ·refine⟨at_size ha,fun k v hv=>?_⟩
  match k,hv with
  | 0,hv =>
   have hv:some (V.i .i64 256)=some v:=hv;cases hv
   exact⟨.i64,256,rfl,ha⟩
 ·refine⟨at_size (hb 0 (by omega)),fun k v hv=>?_⟩
  have hk:k < 64:=(List.getElem?_eq_some_iff.1 hv).1
  refine⟨.u8,tabZ.getD k 0,?_,hb k hk⟩
  have h2:tabV[k]?=(tabZ.map fun z=>V.i .u8 z)[k]?:=by rw[tabV,tabZ,List.map_map];rfl
  have hk2:k < tabZ.length:=hk;have hv:tabV[k]?=some v:=hv;rw[h2,List.getElem?_map,List.getElem?_eq_getElem hk2] at hv;cases hv;simp [List.getD,List.getElem?_eq_getElem hk2]
theorem plains_snd (xs:List V) (h:Args Tryd.prog Tryd.f4.params.toList xs):Snd Tryd.prog 4 xs emp (fun v _=>v=.bo true):=by
 rw[Tryd.params4] at h;obtain⟨v0,as0,n0,h0,rfl,v1,as1,n1,h1,rfl,rfl⟩:=h;obtain⟨n,rfl,hn⟩:=isv_node h0;obtain⟨w,rfl,hw,hl⟩:=isv_wb h1;simp only[argV,isA_node,isA_wb,if_true];exact sound mixed Bas_ok (Call_le F _ _ _ _ _ (fun _ _ h=>fz_bo h) (plains_law n hn w hw hl))
def lL:List TypeId:=[4,3,2,5,22,24,25,27,53]
theorem door_met (os:Os) (args:Array Value):laidMetH Tryd.prog Rows.lettersPlainRow.laid ((World.doorLaid Tryd.prog 400 os).forCall (fun _ _=>0) ⟨#[],args,[]⟩).memory :=
 laidMetH_of_parts3 (fuel:=8) (laidMet_of_run' 8 (by kernel_rfl) (by kernel_rfl)) (by kernel_rfl) (by kernel_rfl)
set_option maxRecDepth 100000 in
theorem plains_lifted (os:Os) (started:os.Started) (H:Type) (enc:TypeId × Value→H) :
  ReturnsInHanded {} Tryd.checked os 4 .any (fun w args=>(Rows.lettersPlainSpec.pre enc Tryd.prog Tryd.f4 Rows.lettersPlainRow.domain false w args∧laidMetH Tryd.prog Rows.lettersPlainRow.laid w)∧sizedMet enc Tryd.prog Tryd.f4 (OpenSpec.ofChange Rows.lettersPlainSpec) false w args)
   (Rows.lettersPlainSpec.post enc Tryd.prog Tryd.f4 false true false false):=by
 refine returnsInHanded_of_change_and (C:=Tryd.checked) (X:=fun w _=>laidMetH Tryd.prog Rows.lettersPlainRow.laid w) (fun _ _ _ hh h=>h.of_heap hh) own started (by kernel_rfl) Tryd.func4
  (ChangeSpec.witness_shaped (enc:=enc) (C:=Tryd.checked) (os:=os) (X:=fun w _=>laidMetH Tryd.prog Rows.lettersPlainRow.laid w) false (World.doorLaid Tryd.prog 400 os) #[.agg #[.int .i64 0,.int .u64 0,.int .u64 0,.int .u64 0,.int .u64 0,.slice none 0 0,.int .i64 0,.int .i64 0],.slice none 0 0] 8 rfl (World.shaped_of_RefB (by kernel_rfl) (by kernel_rfl)) (by kernel_rfl) (by kernel_rfl) (by kernel_rfl) (door_met os _)) ?_
 intro W base args ds gs before hval hW _ _ hL _;exact law_contract (fn:=Tryd.f4) (L:=lL) (tb:=4) (fresh:=true) (handsOn:=false) Tryd.func4 (by kernel_rfl) laidOut mapsRow slicesFull rfl (by rw[Tryd.params4];decide) rfl Tryd.underlying4
  (fun ds hl=>by
   rw[Tryd.params4] at hl
   match ds,hl with
   | [d1,d2],_=>exact⟨rfl,rfl,rfl⟩) hval hW plains_snd (gl_of hL)
theorem plains_said:Rows.LettersPlainSaid :=
 OpenClaim.holds_of_wide 4 Tryd.f4 rfl rfl rfl rfl rfl rfl rfl ⟨rfl,rfl,rfl,rfl,rfl⟩ rfl rfl rfl rfl rfl (by kernel_rfl) Tryd.func4 (by kernel_rfl)
  (of_decide_eq_true (by kernel_rfl)) (by unfold Func.isWrapper;first|(rw[if_pos (by decide +kernel)];kernel_rfl)|(rw[if_neg (by decide +kernel)];exact⟨rfl,rfl⟩))
  (fun os started H enc _=>plains_lifted os started H enc)
theorem plains_holds:Rows.LettersPlainCardSaid :=
 Claim7.holds_tied_plain_at .later [] [.data, .data] true (true, "6dd807880f8be36c98742c8d779659f0f0381945821b4216e5c05b1fd2a164a5") false
  plains_said (fun _ h=>by cases h) (by kernel_rfl) (fun _ h=>by cases h) lettersPlain_row_tie rfl ⟨rfl,rfl⟩ (by kernel_rfl) rfl
  (fun f fn hf hfn=>by
   obtain rfl : f = 4 := Option.some.inj ((show Tryd.prog.funcNamed "ostinato/ostinatolaw13.LettersPlain" = some 4 by kernel_rfl).symm.trans hf) |>.symm
   obtain rfl:fn=Tryd.f4:=(Option.some.inj (Tryd.func4.symm.trans hfn)).symm
   exact⟨by kernel_rfl,fun j t ht=>by
    rw[Tryd.params4] at ht;have hm:t∈[27,53]:=by simpa using Array.mem_of_getElem? ht
    have hall:([27,53].all fun u=>!Tryd.prog.wantsStandIn u)=true:=by kernel_rfl
    exact (show Tryd.prog.wantsStandIn t=false by simpa using List.all_eq_true.1 hall t hm)⟩)
  (by kernel_rfl)
#print axioms plains_holds
end Go.Proofs.YtpkmfoinpdnifaaDoor
