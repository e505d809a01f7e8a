import Derived.Test.YtpkijjnlmgdaiaaGreatDoorJ4
import Derived.Test.YtpkijjnlmgdaiaaGreatDoorQ14
import Derived.Test.YtpkijjnlmgdaiaaGreatDoorCards
import Derived.Test.YtpkijjnlmgdaiaaGreatDoorTie
import Derived.ProofKit
import Derived.LaidMore
import Derived.OpenShut
import Derived.Stop.Joined
import Derived.Lib.LaidTab
import Derived.SevenTiedAt

/-
  LettersAlike is true for every input, the listed variables being as the program's text lays them; each argument reads behind the call as it did. (No other condition.)
-/
namespace Go.Proofs.YtpkijjnlmgdaiaaGreatDoor
set_option linter.all false
variable {g i:Nat}
open Go Go.ChangeShapes Go.WideShapes Go.ChangeAt Go.RowKit
def gTab: Tryz.prog.globalNamed "math/bits.deBruijn64tab" = some 1 := by kernel_rfl
def tTab:(Tryz.prog.globals[1]?).map (·.type)=some 191:=by kernel_rfl
def gAll: Tryz.prog.globalNamed "ostinato/class.all" = some 0 := by kernel_rfl
def tAll:(Tryz.prog.globals[0]?).map (·.type)=some 3:=by kernel_rfl
def tabZ:List Int:=tabN.map fun n:Nat=>(n:Int)
def QcW {W:World} {v:Value} (h:W.cell? ⟨g,i,none⟩=some v):Qi W.heap g i=some v:=by
 unfold World.cell? at h;unfold Qi;split at h<;>simp_all
def Qc9 {W:World} {v:Value} (h:Qi W.heap g i=some v):g < W.heap.size:=by
 unfold Qi at h;rcases Nat.lt_or_ge g W.heap.size with h2|h2
 ·exact h2
 ·rw[Array.getElem?_eq_none h2] at h;cases h
def Qny {W:World} (h:laidMetH Tryz.prog Rows.lettersAlikeRow.laid W):GlAt W.heap (fun b=>b < W.heap.size):=by
 rw[MakeChecks.laidMetH_plain _ _ _ (by kernel_rfl)] at h;have h : laidMet Tryz.prog (("math/bits.deBruijn64tab", Lib.tabData .u8 tabZ) :: ("ostinato/class.all", .lit (.int .i64 256)) :: []) W := h
 have hT:=Lib.tabIs_of_head gTab tTab Tryz.underlying191 Tryz.underlying5 (by kernel_rfl) (by kernel_rfl) h;have hb:∀ i,i < 64→Qi W.heap 1 i=some (.int .u8 (tabZ.getD i 0)):=fun i hi=>QcW (hT.cell gTab i hi);have ha:Qi W.heap 0 0=some (.int .i64 256):=by
  obtain⟨_,⟨_,_,_,_,_,_,_,_,_,_,⟨g,t,cs,fuel,p,q,hg,ht,hvar,hd,_,_⟩,_⟩,_⟩:=h;obtain rfl:=Option.some.inj (gAll.symm.trans hg);obtain rfl:=Option.some.inj (tAll.symm.trans ht);obtain⟨n,hc,hx,_⟩:=DataW.trod_int Tryz.underlying3 hd;have hn:n=256:=by
   have:=congrArg Prod.fst hx
   simp only[DataW.lit.injEq,Lit.int.injEq,true_and] at this;exact this.symm
  subst hn;have h0:=World.var?_cell gAll hvar 0;refine QcW (h0.trans ?_)
  have:cs[0]?=cs.toList[0]?:=by simp
  rw[this,hc];rfl
 intro q hq;have hq:q=(0,[.i .i64 256])∨q=(1,tabV):=by simpa [GL,tabV,tabN] using hq
 rcases hq with rfl|rfl
 ·refine⟨Qc9 ha,fun k v hv=>?_⟩
  match k,hv with
  | 0,hv =>
   have hv:some (V.i .i64 256)=some v:=hv;cases hv
   exact⟨.i64,256,rfl,ha⟩
 ·refine⟨Qc9 (hb 0 OM),fun k v hv=>?_⟩
  have hk:k < 64:=(List.getElem?_eq_some_iff.1 hv).1
  refine⟨.u8,tabZ.getD k 0,?_,hb k hk⟩
  have h2:tabV[k]?=(tabZ.map fun z=>V.i .u8 z)[k]?:=by rw[tabV,tabZ,List.map_map];rfl
  have hk2:k < tabZ.length:=hk;have hv:tabV[k]?=some v:=hv;rw[h2,List.getElem?_map,List.getElem?_eq_getElem hk2] at hv;cases hv;simp [List.getD,List.getElem?_eq_getElem hk2]
def QbY (xs:List V) (h:Args Tryz.prog Tryz.f3.params.toList xs):Snd Tryz.prog 3 xs emp (fun v _=>v=.bo true):=by
 rw[Tryz.params3] at h;obtain⟨v0,as0,n0,h0,rfl,v1,as1,n1,h1,rfl,v2,as2,n2,h2,rfl,rfl⟩:=h;obtain⟨n,rfl,hn⟩:=Do h0;obtain⟨m,rfl,hm⟩:=Do h1;obtain⟨w,rfl,hw,hl⟩:=QkJ h2;simp only[argV,Qe0,QmV,if_true];exact QgF mixed QcI (Qa F _ _ _ _ _ (fun _ _ h=>QnG h) (QbR n m hn hm w hw hl))
def lL:List TypeId:=[4,3,2,5,22,24,25,27,28]
def Qd0 (os:Os) (args:Array Value):laidMetH Tryz.prog Rows.lettersAlikeRow.laid ((World.doorLaid Tryz.prog 400 os).forCall (fun _ _=>0) ⟨#[],args,[]⟩).memory :=
 laidMetH_of_parts3 (fuel:=8) (laidMet_of_run' 8 (by kernel_rfl) (by kernel_rfl)) (by kernel_rfl) (by kernel_rfl)
set_option maxRecDepth 100000 in
def HP (os:Os) (started:os.Started) (H:Type) (enc:TypeId × Value→H) :
  ReturnsInHanded {} Tryz.checked os 3 .any (fun w args=>(Rows.lettersAlikeSpec.pre enc Tryz.prog Tryz.f3 Rows.lettersAlikeRow.domain false w args∧laidMetH Tryz.prog Rows.lettersAlikeRow.laid w)∧sizedMet enc Tryz.prog Tryz.f3 (OpenSpec.ofChange Rows.lettersAlikeSpec) false w args)
   (Rows.lettersAlikeSpec.post enc Tryz.prog Tryz.f3 false true false false):=by
 refine returnsInHanded_of_change_and (C:=Tryz.checked) (X:=fun w _=>laidMetH Tryz.prog Rows.lettersAlikeRow.laid w) (fun _ _ _ hh h=>h.of_heap hh) own started (by kernel_rfl) Tryz.func3
  (ChangeSpec.witness_shaped (enc:=enc) (C:=Tryz.checked) (os:=os) (X:=fun w _=>laidMetH Tryz.prog Rows.lettersAlikeRow.laid w) false (World.doorLaid Tryz.prog 400 os) #[.agg #[.int .i64 0,.int .u64 0,.int .u64 0,.int .u64 0,.int .u64 0,.slice none 0 0,.int .i64 0,.int .i64 0],.agg #[.int .i64 0,.int .u64 0,.int .u64 0,.int .u64 0,.int .u64 0,.slice none 0 0,.int .i64 0,.int .i64 0],.slice none 0 0] 8 rfl (World.shaped_of_RefB (by kernel_rfl) (by kernel_rfl)) (by kernel_rfl) (by kernel_rfl) (by kernel_rfl) (Qd0 os _)) ?_
 intro W base args ds gs before hval hW _ _ hL _;exact HD (fn:=Tryz.f3) (L:=lL) (tb:=4) (fresh:=true) (handsOn:=false) Tryz.func3 (by kernel_rfl) Qhs Qha QaT rfl (by rw[Tryz.params3];decide) rfl Tryz.underlying4
  (fun ds hl=>by
   rw[Tryz.params3] at hl
   match ds,hl with
   | [d1,d2,d3],_=>exact⟨rfl,rfl,rfl⟩) hval hW QbY (Qny hL)
def QaS:Rows.LettersAlikeSaid :=
 OpenClaim.holds_of_wide 3 Tryz.f3 rfl rfl rfl rfl rfl rfl rfl ⟨rfl,rfl,rfl,rfl,rfl⟩ rfl rfl rfl rfl rfl (by kernel_rfl) Tryz.func3 (by kernel_rfl)
  (of_decide_eq_true (by kernel_rfl)) (by unfold Func.isWrapper;first|(rw[if_pos (by decide +kernel)];kernel_rfl)|(rw[if_neg (by decide +kernel)];exact⟨rfl,rfl⟩))
  (fun os started H enc _=>HP os started H enc)
theorem alike_holds:Rows.LettersAlikeCardSaid :=
 Claim7.holds_tied_plain_at .later [] [.data, .data] true (true, "7c87be85164ff477595dd7cd5414d21bf98f1fa17d4e816c3b683ea0128ab1ee") false
  QaS (fun _ h=>by cases h) (by kernel_rfl) (fun _ h=>by cases h) lettersAlike_row_tie rfl ⟨rfl,rfl⟩ (by kernel_rfl) rfl
  (fun f fn hf hfn=>by
   obtain rfl : f = 3 := Option.some.inj ((show Tryz.prog.funcNamed "ostinato/ostinatolaw13.LettersAlike" = some 3 by kernel_rfl).symm.trans hf) |>.symm
   obtain rfl:fn=Tryz.f3:=(Option.some.inj (Tryz.func3.symm.trans hfn)).symm
   exact⟨by kernel_rfl,fun j t ht=>by
    rw[Tryz.params3] at ht;have hm:t∈[27,28]:=by simpa using Array.mem_of_getElem? ht
    have hall:([27,28].all fun u=>!Tryz.prog.wantsStandIn u)=true:=by kernel_rfl
    exact (show Tryz.prog.wantsStandIn t=false by simpa using List.all_eq_true.1 hall t hm)⟩)
  (by kernel_rfl)
#print axioms alike_holds
end Go.Proofs.YtpkijjnlmgdaiaaGreatDoor
