import Derived.Test.YtklbhcjmaeedhaaGreatDoorC6
import Derived.Test.YtklbhcjmaeedhaaGreatDoorKc

namespace Go.Proofs.YtklbhcjmaeedhaaGreatDoor
set_option linter.all false
variable {o:O} {A:Au} {p:Nat}
attribute [-go_sem] Qy Qj rfOb V.cells
def Qa0:GenO (Call F) 17 [.nil] [] [] .nil [] [] [] []:=by
 refine YS e17 rfl rfl (by simp [domA]) SM SM (by simp [domA]) fun o hb ho=>?_;dsimp only[fn17,c17];refine RN trivial ?_;refine Qca 1000000 (l0:=[]) SM (Zr0) ⟨rfl,fun h=>absurd rfl h⟩ fun o1 s1 s2=>?_;refine RN trivial ?_;refine Yp (fun s=>s) (fun s=>s) [] VA (Zr0) SM SM (Q1 (by simp [domA]) (by simp [domA]) (by simp [domA]) rfl rfl rfl rfl SM SM SM SM (by simp [domA]) SM (by simp [domA]) SM) SM SM fun o1 g1 g2 g3=>?_;refine RN trivial ?_;exact Zg [] [] (fun s=>s) (by rw[ren]) rfl rfl SM SM SM (by rw[rfI]) rfl SM SM
def WD (l:List Cf):(srtC l).length=l.length:=by simp [srtC]
def Qbg (l:List Cf) (h0:l≠[]) (hb:l.length≤2147483647):GenO (Call F) 17 [.rw 1000000 5 0 l.length] [(1000000,.row 5 (l.map cfC))] [] (.rw 1000000 5 0 (cmpC (srtC l)).length) [(1000000,.row 5 ((padC (srtC l)).map cfC))] [] [1000000] []:=by
 have hl0:0 < l.length:=List.length_pos_iff.2 h0;have hs0:srtC l≠[]:=fun h=>by have:=WD l;rw[h] at this;simp at this;omega
 refine YS e17 rfl rfl (by simp [domA]) SM SM (by simp [domA]) fun o hbo ho=>?_;dsimp only[fn17,c17];have o1:=hbo _ (List.mem_singleton.2 rfl);clear hbo ho;dsimp only at o1;refine RN trivial ?_;refine Qca 1000000 (l0:=l) OM (by simp only[go_sem];rw[QC h0]) ⟨Kh l,fun _=>Z1 o1⟩ fun o2 s1 s2=>?_;have k1:=s1.h (by simpa using hs0);refine RN trivial ?_;have hcg:=VC (srtC l) (by rw[WD];exact hl0) (by rw[WD];exact hb);rw[WD] at hcg;refine Yp (fun s=>s) (fun s=>s) [] hcg (Zr0) (by simpa [XW] using k1) SM (Q1 (by simp [domA]) (by simp [domA]) (by simp [domA]) ?_ (by simp [Ka]) (ZW _ _ _ _ _) (by simp [Ka]) SM SM (by simp [domA]) SM (by simp [domA]) SM (by simp [domA]) SM) SM SM fun o3 g1 g2 g3=>?_
 ·simp only[rfL,Bool.and_true];exact ZW _ _ _ _ _
 have k2:=g1 _ (List.mem_singleton.2 rfl);dsimp only at k2;rw[XW] at k2;refine RN trivial ?_;exact Zg [(1000000,.row 5 ((padC (srtC l)).map cfC))] [] (fun s=>s) (by rw[ren]) (by simp [XW]) rfl SM (by simpa using k2) SM (ZW _ _ _ _ _) (by simp [Ka]) (by simp [domA]) SM
def sdC (l:List Cf):List Cf:=cmpC (srtC l)
def QhF {Y L:List Cf} {m:Nat} {s:Nat} (h:o s=some (.row 5 (Y.map cfC))) (hm:m≤Y.length) (hL:Y.take m=L):fzU o (.rw s 5 0 m)=some (.sl (L.map cfC)):=by
 have hs:src o (.rw s 5 0 m)=some (L.map cfC):=by
  simp only[src,h];rw[if_pos (by simp;omega),List.drop_zero,← List.map_take,hL]
 show (match src o (.rw s 5 0 m) with
   | some es=>(es.mapM fun c:List V=>c.mapM (frzU 23 o)).map V.sl
   | none=>none)=_
 rw[hs];dsimp only;rw[ZR fun c hc v hv=>QfH L c hc v hv 22];rfl
def QeG (l:List Cf):(padC l).take (cmpC l).length=cmpC l:=by simp [padC]
def Qik (l:List Cf):(padC l).length=l.length:=by have:=Hh l;simp [padC];omega
def Qeu {e:E} {d:Nat} {ods:List Od} (s:Nat) {l0:List Cf} {l:List Stp} {K:E→O→Prop} (h1:l0.length≤2147483647) (hs:s < 1000000) (hargs:ods.map (Od.ev e)=[ownV s 5 (l0.map cfC)]) (f1:Own o s 5 (l0.map cfC))
  (h:∀ e1 o1 v,fzU o1 v=some (.sl ((sdC l0).map cfC))→wpRU (Call F) l K (upd e1 d v) o1):wpRU (Call F) (⟨some d,none,.nc 17 ods,[]⟩::l) K e o:=by
 by_cases h0:l0=[]
 ·subst h0;refine Yp (fun s=>s) (fun s=>s) [] Qa0 (by rw[hargs];rfl) SM SM (Q1 (by simp [domA]) (by simp [domA]) (by simp [domA]) rfl rfl rfl rfl SM SM SM SM (by simp [domA]) SM (by simp [domA]) SM) SM SM fun o1 g1 g2 g3=>?_;refine h _ _ _ ?_
  have:sdC []=[]:=by simp [sdC,srtC,cmpC,cp]
  rw[this];rfl
 ·rw[QC h0] at hargs;have ho:=f1.h (by simpa using h0);refine Yp (fun t=>if t=1000000 then s else t) (fun t=>if t=1000000 then s else t) [] (Qbg l0 h0 h1) (by rw[hargs];simp only[renL,ren,if_true]) (by simpa [XW] using ho) SM (Q1 (by simp [domA]) (by simp [domA]) (by simp [domA]) ?_ (by simp [Ka]) (ZW _ _ _ _ _) (by simp [Ka]) SM SM (by simp [domA]) SM (by simp [domA]) SM (by simp [domA]) SM) SM SM fun o3 g1 g2 g3=>?_
  ·simp only[rfL,Bool.and_true];exact ZW _ _ _ _ _
  have k2:=g1 _ (List.mem_singleton.2 rfl);dsimp only at k2;rw[XW,if_pos rfl] at k2;refine h _ _ _ ?_;rw[show ren (fun t=>if t=1000000 then s else t) (.rw 1000000 5 0 (cmpC (srtC l0)).length)=.rw s 5 0 (cmpC (srtC l0)).length by simp only[ren,if_true]];exact QhF k2 (by rw[Qik];exact Hh _) (QeG _)
def stAt (A:Au) (p:Nat):Nat→Nat:=(A.sets[p]?).getD zSet
def Qb1 (hp:p < A.sets.length):(A.sets.map u4)[p]?=some (u4 (stAt A p)):=by
 rw[List.getElem?_map,stAt,List.getElem?_eq_getElem hp];rfl
def st_w (hW:WF A) (hp:p < A.sets.length):W64 (stAt A p):=by
 rw[stAt,List.getElem?_eq_getElem hp];exact hW.w _ (List.getElem_mem hp)
def QjN (s:Nat→Nat) (hs:W64 s) (b:Nat) (hb:b < 256):Pu F 15 [.ag (u4 s),.i .u8 b] (.bo (QA s b)):=QiQ s hs b hb _ (fun _=>rfl)
def Qm0 (s:Nat→Nat):List.take 4 (u4 s)=u4 s:=rfl
def Ql0 (s:Nat→Nat) (d:Nat):swpL d (u4 s)=u4 s:=rfl
def QjV (s:Nat→Nat):okf FZ (.ag (u4 s))=true:=rfl
def Qlx (s:Nat→Nat):clo FZ (.ag (u4 s))=true:=rfl
attribute [go_sem] Qf7 Qm0 Ql0 QjV Qlx
def QhR (A:Au) (p:Nat) (o:O):fzsU o [.ag (auC A),.i .i64 p,.nil]=some [.ag (auC A),.i .i64 p,.sl []]:=by
 have h1:fzU o (.ag (auC A))=some (.ag (auC A)):=JM (QbM A);have h2:fzU o (.i .i64 (p:Int))=some (.i .i64 p):=rfl;have h3:fzU o .nil=some (.sl []):=rfl;simp [fzsU,h1,h2,h3]
def begL (A:Au) (b:Nat) (ps:List Nat):List Cf:=(ps.filter fun p=>QA (stAt A p) b).map fun p=>QG A p []
def begF (A:Au) (b:Nat):List Cf:=sdC (begL A b A.first)
set_option maxHeartbeats 1000000 in
def Qe1 (hW:WF A) (hf:A.first.length≤1000) {b:Nat} (hb:b < 256):Pu F 9 [.ag (auC A),.i .u8 b] (.sl ((begF A b).map cfC)):=by
 refine Qh e9 rfl rfl (by simp only[go_sem,Bool.and_true]) ?_;dsimp only[fn9,c9];have hlt:∀ p∈A.first,p < A.sets.length:=fun p hp=>(hW.f p hp).2;unfold begF;generalize hfl:A.first=l at hf hlt;refine RT hfl ?_;refine U_lp (fun r e o=>∃ i:Nat,i+r=l.length∧e 1=.i .u8 b∧e 2=.pt 2 0 0∧e 9=.sl (l.map inC)∧e 10=.i .i64 l.length∧e 11=.i .i64 i∧e 5=ownV 28 5 ((begL A b (l.take i)).map cfC)∧Own o 28 5 ((begL A b (l.take i)).map cfC)∧o 2=some (.row 15 [auC A])) (k:=l.length) ?_ (Qa F) ?_
 ·exact⟨0,OM,Z0,Z0,Z1 hfl,by simp only[hfl,List.length_map,go_sem],Zr0,Zr0,⟨rfl,fun h=>absurd rfl h⟩,Z0⟩
 rintro r e o ⟨i,hir,r1,r2,r9,r10,r11,r5,ho,o2⟩;dsimp only[b9_0];have hln:(begL A b (l.take i)).length≤i:=by
  have h1:=List.length_filter_le (fun p=>QA (stAt A p) b) (l.take i);simp only[begL,List.length_map];rw[List.length_take] at h1;omega
 refine RN (Ad2 r10 r11) ?_;refine Qv (q:=decide ((i:Int) < (l.length:Int))) (Z0) (fun hc=>?_) (fun hc=>?_)
 ·have hi:i < l.length:=by simpa using hc
  have hip:(0:Int)≤(i:Int):=by omega
  have hxi:=VV hi;have hpl:=hlt l[i] (List.getElem_mem hi);have hw:=Zu (i:=i) OM;have htk:begL A b (l.take (i+1))=begL A b (l.take i)++(if QA (stAt A l[i]) b then [QG A l[i] []] else []):=by
   rw[List.take_add_one,List.getElem?_eq_getElem hi];simp only[begL,Option.toList_some,List.filter_append,List.map_append];congr 1;by_cases hbt:QA (stAt A l[i]) b=true
   ·simp [hbt]
   ·simp [hbt]
  generalize l[i]=p at hxi hpl htk;have hxp:(0:Int)≤(p:Int):=by omega
  have hst:=Qb1 hpl;have hhas:=QjN (stAt A p) (st_w hW hpl) b hb;have hent:=D5 hW (p:=p) (by rw[hW.la];exact hpl) (kept:=[]) SM;refine RT (Ad5 r1 r2 r9 r11 (Ad5 o2 hip hxi hxp hst)) ?_;refine PRN r1 (r:=.bo (QA (stAt A p) b)) hhas ?_;refine RN trivial ?_;refine Qv (q:=QA (stAt A p) b) (Z0) (fun hc2=>?_) (fun hc2=>?_)
  ·rw[if_pos hc2] at htk;refine RN (Ad3 r2 r5 o2) ?_;refine U_pc (vs:=[.ag (auC A),.i .i64 p,.nil]) (ws:=[.ag (auC A),.i .i64 p,.sl []]) (r:=.ag (cfC (QG A p []))) (Z0) (QhR _ _ _) (Bool.or_eq_true_iff.2 (.inl (by simp only[clos,List.all_cons,List.all_nil,Bool.and_true,go_sem]))) (Z0) hent ?_;refine RN trivial ?_;refine YO 28 (L:=(begL A b (l.take i)).map cfC) (ys:=[cfC (QG A p [])]) (Z1 r5) ?_ (by (simp only[src,go_sem]<;>rfl)) (by simp [J0]) SM OM ⟨by simp;omega,OM⟩ (Q4 _ ho.c) rfl ?_
   ·exact ((ho.sw RM).up RM).h
   refine RN (Ad2 r11 hw) ?_
   refine⟨r - 1,OM,i+1,OM,Z1 r1,Z1 r2,Z1 r9,Z1 r10,Z0,by simp only[htk,List.map_append,go_sem],?_,Z1 o2⟩
   rw[htk,List.map_append];exact Own.to (by have:=Kh (begL A b (l.take i)++[QG A p []]);rw[List.map_append] at this;exact this)
  ·rw[if_neg (by simp [hc2]),List.append_nil] at htk;refine RN (Ad2 r11 hw) ?_
   exact⟨r - 1,OM,i+1,OM,Z1 r1,Z1 r2,Z1 r9,Z1 r10,Z0,by rw[htk];simp only[r5,go_sem],by rw[htk];exact ho,Z1 o2⟩
 ·have hi:i=l.length:=by
   have:¬ i < l.length:=by simpa using hc
   omega
  subst hi;rw[List.take_length] at r5 ho hln;refine RN r5 ?_;refine Qeu 28 (l0:=begL A b l) OM OM (Z0) ho fun e1 o1 v hv=>?_;refine RN trivial ?_;exact hv
end Go.Proofs.YtklbhcjmaeedhaaGreatDoor
