import Derived.Test.YtpkijjnlmgdaiaaGreatDoorKn
import Derived.Test.YtpkijjnlmgdaiaaGreatDoorKr
import Derived.Test.YtpkijjnlmgdaiaaGreatDoorA9

namespace Go.Proofs.YtpkijjnlmgdaiaaGreatDoor
set_option linter.all false
variable {A:Au} {As:List Au}
attribute [-go_sem] Qp Qb rfOb V.cells
def DZ (hW:WF A) (hfn:A.first.Nodup):A.first.length≤1000:=by
 have:=WP A.first (List.range 41) hfn fun p hp=>List.mem_range.2 (by have:=(hW.f p hp).2;have:=hW.n;omega)
 have:A.first.length≤41:=by simpa using this
 omega
def Hx (hA:A∈As) {p:Nat} (h1:1≤p) (hp:p < A.sets.length) (b:Nat):Qj (stAt A p) (plF (togF (Zc As)) b)=Qj (stAt A p) b:=by
 refine YI.1 (Qhj (Yb (Zc As)) b).2.2 _ ?_;rw[Zc,List.mem_flatMap]
 refine⟨A,hA,?_⟩
 obtain⟨q,rfl⟩:∃ q,p=1+q:=⟨p - 1,OM⟩;rw[stAt,List.getElem?_eq_getElem hp];have hq:q < (A.sets.drop 1).length:=by rw[List.length_drop];omega
 have:(A.sets.drop 1)[q]=A.sets[1+q]:=List.getElem_drop ..
 exact this ▸ List.getElem_mem hq
def QdL (hA:A∈As) (hW:WF A) (b:Nat):begF A (plF (togF (Zc As)) b)=begF A b:=by
 have:∀ ps:List Nat,(∀ p∈ps,0 < p∧p < A.sets.length)→begL A (plF (togF (Zc As)) b) ps=begL A b ps:=fun ps hps=>by
  unfold begL;congr 1;exact List.filter_congr fun p hp=>Hx hA (hps p hp).1 (hps p hp).2 b
 rw[begF,begF,this _ hW.f]
def Qa0 (hA:A∈As) (hW:WF A) {x:Cf} (hx:QD A x=true) (b:Nat):Yt A x (plF (togF (Zc As)) b)=Yt A x b:=by
 have:∀ ms:List Mv,(∀ m∈ms,MvOk A x.p.toNat m)→ZL A x (plF (togF (Zc As)) b) ms=ZL A x b ms:=fun ms hms=>by
  induction ms with
  | nil=>rfl
  | cons m ms ih =>
   have h:=hms m SM;have ih:=ih fun k hk=>hms k (by simp [hk]);unfold ZL at ih ⊢;rw[List.filterMap_cons,List.filterMap_cons,ih,Hx hA h.to1 (by rw[← hW.la];exact h.to) b]
 rw[Yt,Yt,this _ fun m hm=>Qck hW (Xv hW hx) hm]
theorem V4 {As:List Au} {A:Au} (hA:A∈As) (hW:WF A) (w:List Nat):∀ k,bhF A (w.map (plF (togF (Zc As)))) k=bhF A w k
 | 0=>rfl
 | k+1=>by
  rw[bhF,bhF,List.getElem?_map];cases h:w[k]? with
  | none=>rfl
  | some b =>
   simp only[Option.map_some];by_cases hk:k=0
   ·rw[if_pos hk,if_pos hk,QdL hA hW]
   ·rw[if_neg hk,if_neg hk,V4 hA hW w k]
    have:∀ l:List Cf,(∀ x∈l,QD A x=true)→(l.flatMap fun x=>Yt A x (plF (togF (Zc As)) b))=l.flatMap fun x=>Yt A x b:=fun l hl=>by
     induction l with
     | nil=>rfl
     | cons x l ih=>rw[List.flatMap_cons,List.flatMap_cons,Qa0 hA hW (hl x SM),ih fun y hy=>hl y (by simp [hy])]
    exact this _ (JM hW w k)
def V7 (hA:A∈As) (hW:WF A) (w:List Nat):mtF A (w.map (plF (togF (Zc As))))=mtF A w:=by
 unfold mtF;by_cases h:w=[]
 ·rw[h];rfl
 ·rw[if_neg h,if_neg (by simp [h]),bhS,bhS,List.length_map,V4 hA hW]
set_option maxRecDepth 20000 in
set_option maxHeartbeats 8000000 in
def QbR (n m:Nd) (hn:Zx n) (hm:Zx m) (w:List Nat) (hw:∀ b∈w,b < 256) (hwl:w.length < 9223372036854775808):Pu F 3 [.ag (cel n),.ag (cel m),wbV w] (.bo true):=by
 have haw:=Qdu;obtain⟨A,okA,hA,hokA⟩:=Qbh n hn;obtain⟨B,okB,hB,hokB⟩:=Qbh m hm;refine Qe e3 rfl rfl (by simp only[go_sem,Bool.and_true,wbV]) ?_;dsimp only[fn3,c3];refine RT trivial ?_;refine PRT trivial (r:=.bo true) haw ?_;by_cases hl:w.length≤30
 ·have c0:decide ((w.length:Int) > 30)=false:=decide_eq_false OM;refine RT (Ad2 wbV.eq_1 c0) ?_;refine U_pc (vs:=[.ag (cel n)]) (ws:=[.ag (cel n)]) (Z0) (Vb n _) (Bool.or_eq_true_iff.2 (.inl (KE n))) (by simp only[Bool.and_true,go_sem]) hA ?_;refine RT trivial ?_;refine U_pc (vs:=[.ag (cel m)]) (ws:=[.ag (cel m)]) (Z0) (Vb m _) (Bool.or_eq_true_iff.2 (.inl (KE m))) (by simp only[Bool.and_true,go_sem]) hB ?_;cases okA with
  | false =>
   refine RT trivial ?_;exact Qu rfl rfl
  | true =>
   cases okB with
   | false =>
    refine RT trivial ?_;exact Qu rfl rfl
   | true =>
    obtain⟨hAm,_,hWA,hLA,_⟩:=hokA rfl;obtain⟨hBm,_,hWB,hLB,_⟩:=hokB rfl;have hfA:A.first.length≤1000:=DZ hWA (by rw[hAm];exact WV _);have hfB:B.first.length≤1000:=DZ hWB (by rw[hBm];exact WV _);clear hokA hokB hA hB haw hAm hBm;have h2:∀ X∈[A,B],WF X:=fun X hX=>by
     rcases List.mem_cons.1 hX with rfl|hX
     ·exact hWA
     ·rw[List.mem_singleton.1 hX];exact hWB
    have hM:=D8 [A,B] SM (fun X h=>(h2 X h).n) (fun X h=>(h2 X h).n0) (fun X h=>(h2 X h).w);have tA:=V7 (As:=[A,B]) (A:=A) SM hWA w;have tB:=V7 (As:=[A,B]) (A:=B) SM hWB w;generalize Zc [A,B]=l at hM tA tB;have hf:=fun b (hb:b < 256)=>QmN l hb;have hg:=fun b (hb:b < 256)=>(Qhj (Yb l) b).1;have hPw:∀ s∈ptL l,W64 s:=fun s hs=>by
     obtain⟨i,hi,rfl⟩:=List.mem_iff_getElem.1 hs;exact pt_w hi
    have hPn:=QfV l;generalize letF l=f at hM hf;generalize ptL l=P at hM hf hPw hPn;generalize plF (togF l)=g at hf hg tA tB;have hgw:∀ b∈w.map g,b < 256:=fun b hb=>by
     obtain⟨c,hc,rfl⟩:=List.mem_map.1 hb
     have:=hg c (hw c hc);have:=hw c hc;omega
    have hM:Pu F 10 [.sl [auC A,auC B]] (.ag (.sl (P.map u4)::ins f)):=hM;have hcl:QA [auC A,auC B]=true:=Qfw [A,B];have hL:Pu F 11 [.ag (.sl (P.map u4)::ins f),wbV w] (.sl ((w.map g).map fun b=>[.i .u8 (b:Nat)])):=by
     rw[List.map_map];exact Qcj P OM hPw f g w hw OM fun b hb=>by
      obtain⟨h1,h2⟩:=hf b (hw b hb);rw[byF,if_pos OM,Int.toNat_natCast,List.getElem?_eq_getElem h1];exact h2
    have hgl:(w.map g).length≤41:=by rw[List.length_map];omega
    have hA1:Pu F 12 [.ag (auC A),.sl (w.map fun b:Nat=>[V.i .u8 (b:Int)])] (.bo (mtF A w)):=WD hWA hfA hLA w hw OM;have hB1:Pu F 12 [.ag (auC B),.sl (w.map fun b:Nat=>[V.i .u8 (b:Int)])] (.bo (mtF B w)):=WD hWB hfB hLB w hw OM;have hA2:Pu F 12 [.ag (auC A),.sl ((w.map g).map fun b:Nat=>[V.i .u8 (b:Int)])] (.bo (mtF A w)):=tA ▸ WD hWA hfA hLA (w.map g) hgw hgl;have hB2:Pu F 12 [.ag (auC B),.sl ((w.map g).map fun b:Nat=>[V.i .u8 (b:Int)])] (.bo (mtF B w)):=tB ▸ WD hWB hfB hLB (w.map g) hgw hgl;generalize mtF A w=z at hA1 hA2;generalize mtF B w=y at hB1 hB2;clear tA tB hgw hgl;generalize w.map g=u at hL hA2 hB2;refine RT trivial ?_;refine U_pc (vs:=[.sl [auC A,auC B]]) (ws:=[.sl [auC A,auC B]]) (Z0) (Zu rfl) (Bool.or_eq_true_iff.2 (.inl rfl)) (by simp only[Bool.and_true,go_sem]) hM ?_;refine RT trivial ?_;refine U_pc (vs:=[.ag (.sl (P.map u4)::ins f),wbV w]) (ws:=[.ag (.sl (P.map u4)::ins f),wbV w]) (by simp only[wbV,List.take_succ_cons,List.take_zero,List.drop_succ_cons,List.drop_zero,go_sem]) (Qaw _ _ rfl) (KG _ _ rfl) (Z0) hL ?_;refine RT trivial ?_;refine PRT wbV.eq_1 (r:=.bo z) hA1 ?_;refine RT trivial ?_;refine PRT wbV.eq_1 (r:=.bo z) hA2 ?_;refine RT trivial ?_;refine PRT wbV.eq_1 (r:=.bo y) hB1 ?_;refine RT trivial ?_;refine PRT wbV.eq_1 (r:=.bo y) hB2 ?_;refine RT trivial ?_;exact Qu rfl rfl
 ·have c0:decide ((w.length:Int) > 30)=true:=decide_eq_true OM;refine RT (Ad2 wbV.eq_1 c0) ?_;refine PRT trivial (r:=.bo true) haw ?_;refine RT trivial ?_;exact Qu rfl rfl
end Go.Proofs.YtpkijjnlmgdaiaaGreatDoor
