import Derived.Test.YtocmjakchgcioaaGreatC6
import Derived.Test.YtocmjakchgcioaaGreatKc

namespace Go.Proofs.YtocmjakchgcioaaGreat
set_option linter.all false
attribute [-go_sem] QE Qn rfOb V.cells
theorem QaF:GenO (Call F) 66 [.nil] [] [] .nil [] [] [] []:=by
 refine Yw e66 rfl rfl (by simp [domA]) (by simp) (by simp) (by simp [domA]) fun o hb ho=>?_;dsimp only[fn66,c66];(repeat (with_reducible (first|refine Qa ?_|refine Qc ?_|refine Qb ?_|refine X_nx ?_|(refine U_q (v:=?_) ?h1 ?_;case h1=>((try simp only[go_sem])<;>rfl)))));refine Vx 1000000 (l0:=[]) (by simp) (Zr0) ⟨rfl,fun h=>absurd rfl h⟩ fun o1 s1 s2=>?_;(repeat (with_reducible (first|refine Qa ?_|refine Qc ?_|refine Qb ?_|refine X_nx ?_|(refine U_q (v:=?_) ?h1 ?_;case h1=>((try simp only[go_sem])<;>rfl)))));refine ZX (fun s=>s) (fun s=>s) [] HX (Zr0) (by simp) (by simp) (QI (by simp [domA]) (by simp [domA]) (by simp [domA]) rfl rfl rfl rfl (by simp) (by simp) (by simp) (by simp) (by simp [domA]) (by simp) (by simp [domA]) (by simp)) (by simp) (by simp) fun o1 g1 g2 g3=>?_;(repeat (with_reducible (first|refine Qa ?_|refine Qf ?_|refine X_nx ?_|((first|refine U_q (v:=?_) ?h1 ?_|refine E_1 (v:=?_) ?h1 ?_);case h1=>((try simp only[go_sem])<;>rfl)))));exact QL [] [] (fun s=>s) (by rw[ren]) rfl rfl (by simp) (by simp) (by simp) (by rw[rfI]) rfl (by simp) (by simp)
theorem YN (l:List Cf):(srtC l).length=l.length:=by simp [srtC]
theorem Qau (l:List Cf) (h0:l≠[]) (hb:l.length≤2147483647):GenO (Call F) 66 [.rw 1000000 5 0 l.length] [(1000000,.row 5 (l.map cfC))] [] (.rw 1000000 5 0 (cmpC (srtC l)).length) [(1000000,.row 5 ((padC (srtC l)).map cfC))] [] [1000000] []:=by
 have hl0:0 < l.length:=List.length_pos_iff.2 h0;have hs0:srtC l≠[]:=fun h=>by have:=YN l;rw[h] at this;simp at this;omega
 refine Yw e66 rfl rfl (by simp [domA]) (by simp) (by simp) (by simp [domA]) fun o hbo ho=>?_;dsimp only[fn66,c66];have o1:=hbo _ (List.mem_singleton.2 rfl);clear hbo ho;dsimp only at o1;(repeat (with_reducible (first|refine Qa ?_|refine Qc ?_|refine Qb ?_|refine X_nx ?_|(refine U_q (v:=?_) ?h1 ?_;case h1=>((try simp only[go_sem])<;>rfl)))));refine Vx 1000000 (l0:=l) (by omega) (by simp only[go_sem];rw[Qx h0]) ⟨XE l,fun _=>Z1 o1⟩ fun o2 s1 s2=>?_;have k1:=s1.h (by simpa using hs0);(repeat (with_reducible (first|refine Qa ?_|refine Qc ?_|refine Qb ?_|refine X_nx ?_|(refine U_q (v:=?_) ?h1 ?_;case h1=>((try simp only[go_sem])<;>rfl)))));have hcg:=VA (srtC l) (by rw[YN];exact hl0) (by rw[YN];exact hb);rw[YN] at hcg;refine ZX (fun s=>s) (fun s=>s) [] hcg (Zr0) (by simpa [Ka] using k1) (by simp) (QI (by simp [domA]) (by simp [domA]) (by simp [domA]) ?_ (by simp [Kd]) (Z8 _ _ _ _ _) (by simp [Kd]) (by simp) (by simp) (by simp [domA]) (by simp) (by simp [domA]) (by simp) (by simp [domA]) (by simp)) (by simp) (by simp) fun o3 g1 g2 g3=>?_
 ·simp only[rfL,Bool.and_true];exact Z8 _ _ _ _ _
 have k2:=g1 _ (List.mem_singleton.2 rfl);dsimp only at k2;rw[Ka] at k2;(repeat (with_reducible (first|refine Qa ?_|refine Qf ?_|refine X_nx ?_|((first|refine U_q (v:=?_) ?h1 ?_|refine E_1 (v:=?_) ?h1 ?_);case h1=>((try simp only[go_sem])<;>rfl)))));exact QL [(1000000,.row 5 ((padC (srtC l)).map cfC))] [] (fun s=>s) (by rw[ren]) (by simp [Ka]) rfl (by simp) (by simpa using k2) (by simp) (Z8 _ _ _ _ _) (by simp [Kd]) (by simp [domA]) (by simp)
def sdC (l:List Cf):List Cf:=cmpC (srtC l)
theorem QfN {Y L:List Cf} {m:Nat} {o:O} {s:Nat} (h:o s=some (.row 5 (Y.map cfC))) (hm:m≤Y.length) (hL:Y.take m=L):fzU o (.rw s 5 0 m)=some (.sl (L.map cfC)):=by
 have hs:src o (.rw s 5 0 m)=some (L.map cfC):=by
  simp only[src,h];rw[if_pos (by simp;omega),List.drop_zero,← List.map_take,hL]
 show (match src o (.rw s 5 0 m) with
   | some es=>(es.mapM fun c:List V=>c.mapM (frzU 23 o)).map V.sl
   | none=>none)=_
 rw[hs];dsimp only;rw[Z7 fun c hc v hv=>Ht L c hc v hv 22];rfl
theorem Qc4 (l:List Cf):(padC l).take (cmpC l).length=cmpC l:=by simp [padC]
theorem Qfs (l:List Cf):(padC l).length=l.length:=by have:=Wy l;simp [padC];omega
theorem V4 {e:E} {o:O} {d:Nat} {ods:List Od} (s:Nat) {l0:List Cf} {l:List Stp} {K:E→O→Prop} (h1:l0.length≤2147483647) (hs:s < 1000000) (hargs:ods.map (Od.ev e)=[ownV s 5 (l0.map cfC)]) (f1:Own o s 5 (l0.map cfC))
  (h:∀ e1 o1 v,fzU o1 v=some (.sl ((sdC l0).map cfC))→wpRU (Call F) l K (upd e1 d v) o1):wpRU (Call F) (⟨some d,none,.nc 66 ods,[]⟩::l) K e o:=by
 by_cases h0:l0=[]
 ·subst h0;refine ZX (fun s=>s) (fun s=>s) [] QaF (by rw[hargs];rfl) (by simp) (by simp) (QI (by simp [domA]) (by simp [domA]) (by simp [domA]) rfl rfl rfl rfl (by simp) (by simp) (by simp) (by simp) (by simp [domA]) (by simp) (by simp [domA]) (by simp)) (by simp) (by simp) fun o1 g1 g2 g3=>?_;refine h _ _ _ ?_
  have:sdC []=[]:=by simp [sdC,srtC,cmpC,cp]
  rw[this];rfl
 ·rw[Qx h0] at hargs;have ho:=f1.h (by simpa using h0);refine ZX (fun t=>if t=1000000 then s else t) (fun t=>if t=1000000 then s else t) [] (Qau l0 h0 h1) (by rw[hargs];simp only[renL,ren,if_true]) (by simpa [Ka] using ho) (by simp) (QI (by simp [domA]) (by simp [domA]) (by simp [domA]) ?_ (by simp [Kd]) (Z8 _ _ _ _ _) (by simp [Kd]) (by simp) (by simp) (by simp [domA]) (by simp) (by simp [domA]) (by simp) (by simp [domA]) (by simp)) (by simp) (by simp) fun o3 g1 g2 g3=>?_
  ·simp only[rfL,Bool.and_true];exact Z8 _ _ _ _ _
  have k2:=g1 _ (List.mem_singleton.2 rfl);dsimp only at k2;rw[Ka,if_pos rfl] at k2;refine h _ _ _ ?_;rw[show ren (fun t=>if t=1000000 then s else t) (.rw 1000000 5 0 (cmpC (srtC l0)).length)=.rw s 5 0 (cmpC (srtC l0)).length by simp only[ren,if_true]];exact QfN k2 (by rw[Qfs];exact Wy _) (Qc4 _)
def stAt (A:Au) (p:Nat):Nat→Nat:=(A.sets[p]?).getD zSet
theorem Qf5 {A:Au} {p:Nat} (hp:p < A.sets.length):(A.sets.map u4)[p]?=some (u4 (stAt A p)):=by
 rw[List.getElem?_map,stAt,List.getElem?_eq_getElem hp];rfl
theorem st_w {A:Au} (hW:WF A) {p:Nat} (hp:p < A.sets.length):W64 (stAt A p):=by
 rw[stAt,List.getElem?_eq_getElem hp];exact hW.w _ (List.getElem_mem hp)
theorem Qe7 (s:Nat→Nat) (hs:W64 s) (b:Nat) (hb:b < 256):Pu F 64 [.ag (u4 s),.i .u8 b] (.bo (Zx s b)):=Qkg s hs b hb _ (fun _=>rfl)
theorem QlA (s:Nat→Nat):List.take 4 (u4 s)=u4 s:=rfl
theorem QlD (s:Nat→Nat) (d:Nat):swpL d (u4 s)=u4 s:=rfl
theorem QjX (s:Nat→Nat):okf FZ (.ag (u4 s))=true:=rfl
theorem QjS (s:Nat→Nat):clo FZ (.ag (u4 s))=true:=rfl
attribute [go_sem] QeK QlA QlD QjX QjS
theorem Qho (A:Au) (p:Nat) (o:O):fzsU o [.ag (auC A),.i .i64 p,.nil]=some [.ag (auC A),.i .i64 p,.sl []]:=by
 have h1:fzU o (.ag (auC A))=some (.ag (auC A)):=Y6 (D6 A);have h2:fzU o (.i .i64 (p:Int))=some (.i .i64 p):=rfl;have h3:fzU o .nil=some (.sl []):=rfl;simp [fzsU,h1,h2,h3]
def begL (A:Au) (b:Nat) (ps:List Nat):List Cf:=(ps.filter fun p=>Zx (stAt A p) b).map fun p=>Zn A p []
def begF (A:Au) (b:Nat):List Cf:=sdC (begL A b A.first)
set_option maxHeartbeats 1000000 in
theorem Qc8 {A:Au} (hW:WF A) (hf:A.first.length≤1000) {b:Nat} (hb:b < 256):Pu F 40 [.ag (auC A),.i .u8 b] (.sl ((begF A b).map cfC)):=by
 refine Qr e40 rfl rfl (by simp only[go_sem,Bool.and_true]) ?_;dsimp only[fn40,c40];have hlt:∀ p∈A.first,p < A.sets.length:=fun p hp=>(hW.f p hp).2;unfold begF;generalize hfl:A.first=l at hf hlt;(repeat (with_reducible (first|refine Qa ?_|refine Qc ?_|refine Qb ?_|refine Ql ?_|refine X_nx ?_|((first|refine U_q (v:=?_) ?h1 ?_|refine U_ld (v:=?_) ?h1 ?_);case h1=>((try simp only[hfl,List.length_map,go_sem])<;>rfl))|(refine QC (cs:=?_) (cs':=?_) (n:=?_) ?h1 ?h2 ?h3 ?h4 ?_;case h1|h2|h3|h4=>((try simp only[hfl,List.length_map,go_sem])<;>rfl)))));refine U_lp (fun r e o=>∃ i:Nat,i+r=l.length∧e 1=.i .u8 b∧e 2=.pt 2 0 0∧e 9=.sl (l.map inC)∧e 10=.i .i64 l.length∧e 11=.i .i64 i∧e 5=ownV 28 5 ((begL A b (l.take i)).map cfC)∧Own o 28 5 ((begL A b (l.take i)).map cfC)∧o 2=some (.row 15 [auC A])) (k:=l.length) ?_ (Qh F) ?_
 ·exact⟨0,by omega,Z0,Z0,Z1 hfl,by simp only[hfl,List.length_map,go_sem],Zr0,Zr0,⟨rfl,fun h=>absurd rfl h⟩,Z0⟩
 rintro r e o ⟨i,hir,r1,r2,r9,r10,r11,r5,ho,o2⟩;dsimp only[Qh4];have hln:(begL A b (l.take i)).length≤i:=by
  have h1:=List.length_filter_le (fun p=>Zx (stAt A p) b) (l.take i);simp only[begL,List.length_map];rw[List.length_take] at h1;omega
 (repeat (with_reducible (first|refine Qa ?_|refine Qc ?_|refine Qb ?_|refine X_nx ?_|(refine U_q (v:=?_) ?h1 ?_;case h1=>((try simp only[r10,r11,go_sem])<;>rfl)))));refine Qe (q:=decide ((i:Int) < (l.length:Int))) (Z0) (fun hc=>?_) (fun hc=>?_)
 ·have hi:i < l.length:=by simpa using hc
  have hip:(0:Int)≤(i:Int):=by omega
  have hxi:=Qgm hi;have hpl:=hlt l[i] (List.getElem_mem hi);have hw:=Yc (i:=i) (by omega);have htk:begL A b (l.take (i+1))=begL A b (l.take i)++(if Zx (stAt A l[i]) b then [Zn A l[i] []] else []):=by
   rw[List.take_add_one,List.getElem?_eq_getElem hi];simp only[begL,Option.toList_some,List.filter_append,List.map_append];congr 1;by_cases hbt:Zx (stAt A l[i]) b=true
   ·simp [hbt]
   ·simp [hbt]
  generalize l[i]=p at hxi hpl htk;have hxp:(0:Int)≤(p:Int):=by omega
  have hst:=Qf5 hpl;have hhas:=Qe7 (stAt A p) (st_w hW hpl) b hb;have hent:=VP hW (p:=p) (by rw[hW.la];exact hpl) (kept:=[]) (by simp);(repeat (with_reducible (first|refine Qa ?_|refine Qc ?_|refine Qb ?_|refine Ql ?_|refine Qg ?_|refine X_nx ?_|((first|refine U_q (v:=?_) ?h1 ?_|refine U_ld (v:=?_) ?h1 ?_);case h1=>((try simp only[r1,r2,r9,r11,o2,hip,hxi,hxp,hst,Int.toNat_natCast,go_sem])<;>rfl)))))
  (refine ZU (r:=.bo (Zx (stAt A p) b)) hhas ?h1 ?h2 rfl ?_;(case h1=>((try simp only[r1,go_sem])<;>rfl));(case h2=>simp only[r1,List.all_cons,List.all_nil,Bool.and_true,go_sem]))
  (repeat (with_reducible (first|refine Qa ?_|refine X_nx ?_)));refine Qe (q:=Zx (stAt A p) b) (Z0) (fun hc2=>?_) (fun hc2=>?_)
  ·rw[if_pos hc2] at htk;(repeat (with_reducible (first|refine Qb ?_|((first|refine U_q (v:=?_) ?h1 ?_|refine U_ld (v:=?_) ?h1 ?_);case h1=>((try simp only[r2,r5,o2,go_sem])<;>rfl)))));refine U_pc (vs:=[.ag (auC A),.i .i64 p,.nil]) (ws:=[.ag (auC A),.i .i64 p,.sl []]) (r:=.ag (cfC (Zn A p []))) (Z0) (Qho _ _ _) (Bool.or_eq_true_iff.2 (.inl (by simp only[clos,List.all_cons,List.all_nil,Bool.and_true,go_sem]))) (Z0) hent ?_;(repeat (with_reducible (first|(refine Yu (es:=?_) (es':=?_) ?h1 ?h2 ?h3 ?_;case h1|h2|h3=>((try simp only[go_sem])<;>rfl)))));refine YR 28 (L:=(begL A b (l.take i)).map cfC) (ys:=[cfC (Zn A p [])]) (Z1 r5) ?_ (by (simp only[src,go_sem]<;>rfl)) (by simp [XB]) (by simp) (by omega) ⟨by simp;omega,by omega⟩ (Zj _ ho.c) rfl ?_
   ·exact ((ho.sw (by rfl)).up (by rfl)).h
   (repeat (with_reducible (first|refine Qa ?_|refine Qb ?_|refine X_nx ?_|refine B_nx ?_|(refine U_q (v:=?_) ?h1 ?_;case h1=>((try simp only[r11,hw,go_sem])<;>rfl)))))
   refine⟨r - 1,by omega,i+1,by omega,Z1 r1,Z1 r2,Z1 r9,Z1 r10,Z0,by simp only[htk,List.map_append,go_sem],?_,Z1 o2⟩
   rw[htk,List.map_append];exact Own.to (by have:=XE (begL A b (l.take i)++[Zn A p []]);rw[List.map_append] at this;exact this)
  ·rw[if_neg (by simp [hc2]),List.append_nil] at htk;(repeat (with_reducible (first|refine Qa ?_|refine Qb ?_|refine Qg ?_|refine X_nx ?_|refine B_nx ?_|(refine U_q (v:=?_) ?h1 ?_;case h1=>((try simp only[r11,hw,go_sem])<;>rfl)))))
   exact⟨r - 1,by omega,i+1,by omega,Z1 r1,Z1 r2,Z1 r9,Z1 r10,Z0,by rw[htk];simp only[r5,go_sem],by rw[htk];exact ho,Z1 o2⟩
 ·have hi:i=l.length:=by
   have:¬ i < l.length:=by simpa using hc
   omega
  subst hi;rw[List.take_length] at r5 ho hln;(repeat (with_reducible (first|refine Qc ?_|refine Qb ?_|refine QW ?_|refine X_nx ?_|refine X_ex ?_|refine Qi ?_|(refine U_q (v:=?_) ?h1 ?_;case h1=>((try simp only[r5,go_sem])<;>rfl)))));refine V4 28 (l0:=begL A b l) (by omega) (by omega) (Z0) ho fun e1 o1 v hv=>?_;(repeat (with_reducible (first|refine Qa ?_|refine Qf ?_|refine X_nx ?_|((first|refine U_q (v:=?_) ?h1 ?_|refine E_1 (v:=?_) ?h1 ?_);case h1=>((try simp only[go_sem])<;>rfl)))));exact hv
end Go.Proofs.YtocmjakchgcioaaGreat
