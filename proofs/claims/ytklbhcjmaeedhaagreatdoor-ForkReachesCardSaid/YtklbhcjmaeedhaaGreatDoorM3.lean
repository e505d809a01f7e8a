import Derived.Test.YtklbhcjmaeedhaaGreatDoorM2

namespace Go.Proofs.YtklbhcjmaeedhaaGreatDoor
set_option linter.all false
variable {cl:Qg} {e:E} {o:O} {d sz byt:Nat} {x y:Od} {l:List Stp} {K:E→O→Prop}
def Qga {s len q:Nat} {es:List (List V)} (hx:x.ev e=.rw s sz 0 len) (ho:o s=some (.row q es)) (hle:len≤es.length) (hs:src o (y.ev e)=some []) (hso:Zl len byt)
  (h:wpRU cl l K (upd e d (.rw s sz 0 len)) o):wpRU cl (⟨some d,none,.app sz byt x y,[]⟩::l) K e o:=by
 refine U_W ?_;simp only[UW,hx,hs,ho]
 exact⟨SM,trivial,trivial,hle,by simpa using hso,fun _=>h,fun h0=>absurd rfl h0⟩
def KK (hx:x.ev e=.nil) (hs:src o (y.ev e)=some []) (hb:byt≤65536)
  (h:wpRU cl l K (upd e d .nil) o):wpRU cl (⟨some d,none,.app sz byt x y,[]⟩::l) K e o:=by
 refine U_W ?_;simp only[UW,hx,hs]
 exact⟨SM,⟨SM,hb⟩,fun _=>h,fun h0=>absurd rfl h0⟩
def W9 {l:List Nat} (h:l≠[]):l.map inC≠[]:=by simpa using h
def ZW (s sz a b:Nat) (x:Ob):rfI (domA (obs [(s,x)] [])) (.rw s sz a b)=true:=by rw[rfI];simp [domA,obs,Ji]
def Qch (l:List Nat) (hl:l.length≤1000):GenO (Call F) 60 [ownV 1000000 1 (l.map inC)] [] [(1000000,1,l.map inC)] (ownV 1 1 (l.map inC)) [] [(1000000,1,l.map inC),(1,1,l.map inC)] [] [(1000000,1,l.map inC)]:=by
 refine YS e60 rfl rfl (by simp [domA]) SM SM (by simp [domA]) fun o hb ho=>?_;dsimp only[fn60,c60];have ho:=ho _ (List.mem_singleton.2 rfl);dsimp only at ho;have fin:∀ (o1:O),(l≠[]→o1 1000000=some (.row 1 (l.map inC)))→(l≠[]→o1 7=some (.row 1 (l.map inC)))→GenE (domA (obs [] [(1000000,1,l.map inC),(1,1,l.map inC)])) (obs [] [(1000000,1,l.map inC),(1,1,l.map inC)]) (ownV 1 1 (l.map inC)) (stOf [] [(1000000,1,l.map inC)]) (ownV 7 1 (l.map inC)) o1:=fun o1 h1 h2 =>
  Zg [] [(1000000,1,l.map inC),(7,1,l.map inC)] (fun s=>if s=7 then 1 else s) (by rw[QY];rfl) rfl rfl (by simp [Qs]) SM (by simpa using ⟨h1,h2⟩) (Zm SM) rfl SM SM
 by_cases h0:l=[]
 ·subst h0;have fin:=fin;(repeat (with_reducible (first|refine YK ?_|refine ZM ?_|refine Y3 ?_|refine X_nx ?_|(refine U_q (v:=?_) ?h1 ?_;case h1=>((try simp only[List.map_nil,Q5,go_sem])<;>rfl)))));refine Qgb (by (simp only[Q5,go_sem]<;>rfl)) fun p=>?_;cases p with
  | true =>
   refine RN trivial ?_;exact fin _ (fun h=>absurd rfl h) (fun h=>absurd rfl h)
  | false =>
   refine RN trivial ?_;refine KK (Z0) (by simp only[src,Q5,go_sem,List.map_nil]) OM ?_;refine RN trivial ?_;exact fin _ (fun h=>absurd rfl h) (fun h=>absurd rfl h)
 ·have ho:=ho (W9 h0);have hsz:szV (ownV 1000000 1 (l.map inC))=some true:=by rw[QC h0];simp [szV,h0]
  refine RN hsz ?_;refine QcJ 7 (n:=l.length) (ys:=l.map inC) (ys':=l.map inC) (Z0) (by simp only[go_sem];rw[Kq fun _=>ho]) (Qaq l) SM (by simpa using h0) OM ⟨OM,OM⟩ (Yh _ _) ?_;refine RN trivial ?_
  have:=fin (upd (swpO 7 o) 7 (some (.row 1 (l.map inC)))) (fun _=>by simp only[ho,swpR,Yh,go_sem];have:=Yh 7 l;simp only[swpR] at this;rw[this]) (fun _=>Z0)
  rw[QC (s:=7) h0] at this;exact this
def JE (n:Nat):QQ (List.replicate n [V.i .i64 0])=true:=(QW _).2 fun c hc=>by rw[List.eq_of_mem_replicate hc];rfl
def QbP:GenO (Call F) 103 [.nil,.i .i64 0] [] [] .nil [] [] [] []:=by
 refine YS e103 rfl rfl (by simp [domA]) SM SM (by simp [domA]) fun o hb ho=>?_;dsimp only[Qgn,c103];have hw:IntKind.i64.wrap 0=0:=by decide
 (repeat' (first|refine RSN hw ?_|with_reducible refine GBN hw (fun _=>?_) (fun _=>?_)|with_reducible refine GDN hw (fun _=>?_) (fun _=>?_)));exact Zg [] [] (fun s=>s) (by rw[ren]) rfl rfl SM SM SM (by rw[rfI]) rfl SM SM
def Qd0 (n:Nat) (h0:0 < n) (hn:n≤100000):GenO (Call F) 103 [.nil,.i .i64 n] [] [] (.rw 1 1 0 0) [(1,.row 1 (List.replicate n [V.i .i64 0]))] [] [] []:=by
 refine YS e103 rfl rfl (by simp [domA]) SM SM (by simp [domA]) fun o hb ho=>?_;dsimp only[Qgn,c103];have hw:IntKind.i64.wrap 0=0:=by decide
 have hw1:IntKind.i64.wrap ((n:Int) - 0)=n:=by rw[Qi OM OM];omega
 have c1:decide ((n:Int) < 0)=false:=by simp
 have c2:decide ((n:Int) > 0)=true:=by simp;omega
 refine RN (Ad4 hw hw1 c1 c2) ?_;refine U_q (v:=.nil) (by simp only[cutV,go_sem];simp) ?_;refine RN trivial ?_;refine Qmd 22 (k:=n) (Z0) (by simp only[go_sem];rw[if_pos OM];rfl) (by simpa using (by omega:n≠0)) ⟨OM,OM⟩ OM ?_;refine RN trivial ?_;refine U_q (v:=.rw 22 1 0 0) (by simp only[cutV,go_sem];simp) ?_;refine RN trivial ?_;exact Zg [(22,.row 1 (List.replicate n [V.i .i64 0]))] [] (fun s=>if s=22 then 1 else s) (by rw[ren];rfl) (by simp only[List.map_cons,List.map_nil,Q2 (JE n)];rfl) rfl SM (by simp;simp only[go_sem]) SM (by rw[rfI];rfl) (by simp only[List.all_cons,List.all_nil,Bool.and_true,YD (JE n)]) SM SM
def Qa9 (l1 l2:List Nat) (h1:l1.length≤1000) (h2:l2.length≤1000):GenO (Call F) 64 [.rw 1000000 1 0 2] [(1000000,.row 1 [[ownV 1000001 1 (l1.map inC)],[ownV 1000002 1 (l2.map inC)]])] [(1000001,1,l1.map inC),(1000002,1,l2.map inC)] (ownV 1 1 ((l1++l2).map inC)) [] [(1,1,(l1++l2).map inC)] [] []:=by
 refine YS e64 rfl rfl (by simp [domA]) SM SM (by simp [domA]) fun o hb ho=>?_;dsimp only[fn64,c64];have hb:=hb _ (List.mem_singleton.2 rfl);have ho1:=ho (1000001,1,l1.map inC) SM;have ho2:=ho (1000002,1,l2.map inC) SM;dsimp only at hb ho1 ho2;clear ho;have z1:IntKind.i64.wrap (0+(l1.length:Int))=l1.length:=by rw[Qi OM OM];omega
 have z2:IntKind.i64.wrap ((l1.length:Int)+(l2.length:Int))=((l1.length+l2.length:Nat):Int):=by rw[Qi OM OM];omega
 have n1:decide ((l1.length:Int) < 0)=false:=by simp
 have n2:decide (((l1.length+l2.length:Nat):Int) < 0)=false:=by simp;omega
 have w1:IntKind.i64.wrap 1=1:=by decide
 have w2:IntKind.i64.wrap 2=2:=by decide
 have s1:=ZC 1000001 1 (l1.map inC);have s2:=ZC 1000002 1 (l2.map inC);rw[List.length_map] at s1 s2;simp only[JZ] at s1 s2;refine RN hb ?_;refine YR (Qa F) ?_;conv in Vr=>unfold Vr
 refine RN (Ad2 hb (Ad5 s1 s2 z1 n1 w1)) ?_;refine YR (Qa F) ?_;conv in Vr=>unfold Vr
 (repeat (with_reducible (first|refine YK ?_|refine ZM ?_|refine Y3 ?_|refine K8 ?_|refine Hx ?_|refine X_nx ?_|refine B_nx ?_|((first|refine U_q (v:=?_) ?h1 ?_|refine U_ld (v:=?_) ?h1 ?_|refine Wp ?h1 ?_);case h1=>((try simp only[hb,s1,s2,z2,n2,w2,go_sem])<;>rfl))|(refine Ws ?h1 ?_;case h1=>((try simp only[hb,s1,s2,z2,n2,w2,go_sem])<;>rfl)))));refine YR (Qa F) ?_;conv in Vr=>unfold Vr
 refine RN hb ?_;have fin:∀ (o1:O) (s:Nat),(l1++l2≠[]→o1 s=some (.row 1 ((l1++l2).map inC)))→GenE (domA (obs [] [(1,1,(l1++l2).map inC)])) (obs [] [(1,1,(l1++l2).map inC)]) (ownV 1 1 ((l1++l2).map inC)) (stOf [] []) (ownV s 1 ((l1++l2).map inC)) o1:=fun o1 s h1 =>
  Zg [] [(s,1,(l1++l2).map inC)] (fun t=>if t=s then 1 else t) (by rw[QY];simp) rfl SM (fun q hq=>by rw[List.mem_singleton.1 hq];exact Qs _) SM (fun q hq hne=>by rw[List.mem_singleton.1 hq] at hne ⊢;exact h1 (by simpa using hne)) (Zm SM) rfl SM SM
 by_cases h0:l1.length+l2.length=0
 ·have e1:l1=[]:=List.eq_nil_of_length_eq_zero OM;have e2:l2=[]:=List.eq_nil_of_length_eq_zero OM;subst e1;subst e2;refine Yp (fun s=>s) (fun s=>s) [] QbP (Z0) SM SM (Q1 (by simp [domA]) (by simp [domA]) (by simp [domA]) rfl rfl rfl rfl SM SM SM SM (by simp [domA]) SM (by simp [domA]) SM) SM SM fun o1 g1 g2 g3=>?_;have hb1:o1 1000000=some (.row 1 [[.nil],[.nil]]):=by rw[g3 _ (by simp [domA])];exact hb
  refine RN trivial ?_;refine YR (Qa F) ?_;conv in YF=>unfold YF
  refine RN (Ad2 hb1 w1) ?_;refine KK (Z0) (by (simp only[List.map_nil,Q5,go_sem]<;>rfl)) OM ?_;refine RN (Ad2 hb1 w1) ?_;refine YR (Qa F) ?_;conv in YF=>unfold YF
  refine RN (Ad2 hb1 w2) ?_;refine KK (Z0) (by (simp only[List.map_nil,Q5,go_sem]<;>rfl)) OM ?_;refine RN (Ad2 hb1 w2) ?_;refine YR (Qa F) ?_;conv in YF=>unfold YF
  refine RN hb1 ?_;exact fin _ 1 fun h=>absurd rfl h
 ·refine Yp (fun s=>s) (fun s=>if s=1 then 924 else s) [924] (Qd0 (l1.length+l2.length) OM OM) (Z0) SM SM (Q1 (by simp [domA]) (by simp [domA]) (by simp [domA]) rfl rfl (ZW _ _ _ _ _) (by simp only[List.all_cons,List.all_nil,Bool.and_true,YD (JE _)]) SM SM SM SM (by simp [domA]) SM (by simp [domA]) SM) SM SM fun o1 g1 g2 g3=>?_;have k0:o1 1000000=some (.row 1 [[ownV 1000001 1 (l1.map inC)],[ownV 1000002 1 (l2.map inC)]]):=by rw[g3 _ (by simp [domA])];simp only[hb,go_sem]
  have k1:l1≠[]→o1 1000001=some (.row 1 (l1.map inC)):=fun h=>by rw[g3 _ (by simp [domA])];have:=ho1 (W9 h);simp only[this,go_sem];have h2:=Yh 924 l1;simp only[swpR] at h2;rw[h2]
  have k2:l2≠[]→o1 1000002=some (.row 1 (l2.map inC)):=fun h=>by rw[g3 _ (by simp [domA])];have:=ho2 (W9 h);simp only[this,go_sem];have h2:=Yh 924 l2;simp only[swpR] at h2;rw[h2]
  have k3:o1 924=some (.row 1 (List.replicate (l1.length+l2.length) [V.i .i64 0])):=by
   have:=g1 _ (List.mem_singleton.2 rfl)
   rw[Q2 (JE _)] at this;exact this
  clear g1 g2 g3 hb ho1 ho2;have sr1:src o1 (ownV 1000001 1 (l1.map inC))=some (l1.map inC):=Kq fun h=>k1 (by simpa using h);have sr2:∀ o2:O,(l2≠[]→o2 1000002=some (.row 1 (l2.map inC)))→src o2 (ownV 1000002 1 (l2.map inC))=some (l2.map inC):=fun o2 h2=>Kq fun h=>h2 (by simpa using h);refine RN trivial ?_;refine YR (Qa F) ?_;conv in YF=>unfold YF
  refine RN (Ad2 k0 w1) ?_;by_cases e1:l1=[]
  ·subst e1;have e2:l2≠[]:=fun h=>h0 (by rw[h];rfl);refine Qga (s:=924) (len:=0) (Zr0) k3 (Nat.zero_le _) (by (simp only[List.map_nil,Q5,go_sem]<;>rfl)) ⟨OM,OM⟩ ?_;refine RN (Ad2 k0 w1) ?_;refine YR (Qa F) ?_;conv in YF=>unfold YF
   refine RN (Ad2 k0 w2) ?_;refine DZ (s:=924) (len:=0) (n:=l2.length) (zs:=l2.map inC) (ys:=l2.map inC) (Zr0) k3 (Nat.zero_le _) (by simp only[go_sem];exact sr2 _ k2) (Qaq _) SM (by simpa using e2) OM ⟨OM,OM⟩ (by rw[List.take_zero,List.nil_append];exact Yh _ _) ?_;have k0':(upd (swpO 924 o1) 924 (some (Ob.row 1 (l2.map inC)))) 1000000=some (.row 1 [[ownV 1000001 1 []],[ownV 1000002 1 (l2.map inC)]]):=by simp only[k0,List.map_nil,go_sem]
   refine RN (Ad2 k0' w2) ?_;refine YR (Qa F) ?_;conv in YF=>unfold YF
   refine RN k0' ?_
   have:=fin (upd (swpO 924 o1) 924 (some (Ob.row 1 (l2.map inC)))) 924 (fun _=>Zr0)
   rw[List.nil_append,QC (s:=924) e2] at this;rw[List.nil_append];exact this
  ·refine DZ (s:=924) (len:=0) (n:=l1.length) (zs:=l1.map inC) (ys:=l1.map inC) (Zr0) k3 (Nat.zero_le _) (by simp only[go_sem];exact sr1) (Qaq _) SM (by simpa using e1) OM ⟨OM,OM⟩ (by rw[List.take_zero,List.nil_append];exact Yh _ _) ?_;have k0':(upd (swpO 924 o1) 924 (some (Ob.row 1 (l1.map inC)))) 1000000=some (.row 1 [[ownV 1000001 1 (l1.map inC)],[ownV 1000002 1 (l2.map inC)]]):=by simp only[k0,go_sem]
   have k2':l2≠[]→(upd (swpO 924 o1) 924 (some (Ob.row 1 (l1.map inC)))) 1000002=some (.row 1 (l2.map inC)):=fun h=>by have:=k2 h;simp only[this,go_sem];have h2:=Yh 924 l2;simp only[swpR] at h2;rw[h2]
   have k3':(upd (swpO 924 o1) 924 (some (Ob.row 1 (l1.map inC)))) 924=some (.row 1 (l1.map inC)):=by simp only[go_sem]
   generalize (upd (swpO 924 o1) 924 (some (Ob.row 1 (l1.map inC))))=o2 at k0' k2' k3';refine RN (Ad2 k0' w1) ?_;refine YR (Qa F) ?_;conv in YF=>unfold YF
   refine RN (Ad2 k0' w2) ?_;by_cases e2:l2=[]
   ·subst e2;refine Qga (s:=924) (len:=l1.length) (Z0) k3' SM (by (simp only[List.map_nil,Q5,go_sem]<;>rfl)) ⟨OM,OM⟩ ?_;refine RN (Ad2 k0' w2) ?_;refine YR (Qa F) ?_;conv in YF=>unfold YF
    refine RN k0' ?_
    have:=fin o2 924 (fun _=>by rw[List.append_nil];exact k3')
    rw[List.append_nil,QC (s:=924) e1] at this;rw[List.append_nil];exact this
   ·refine DZ (s:=924) (len:=l1.length) (n:=l2.length) (zs:=(l1++l2).map inC) (ys:=l2.map inC) (Z0) k3' SM (by simp only[go_sem];exact sr2 _ k2') (Qaq _) SM (by simpa using e2) OM ⟨OM,OM⟩ (by rw[List.take_of_length_le SM,← List.map_append];exact Yh _ _) ?_;have k0'':(upd (swpO 924 o2) 924 (some (Ob.row 1 ((l1++l2).map inC)))) 1000000=some (.row 1 [[ownV 1000001 1 (l1.map inC)],[ownV 1000002 1 (l2.map inC)]]):=by simp only[k0',go_sem]
    refine RN (Ad2 k0'' w2) ?_;refine YR (Qa F) ?_;conv in YF=>unfold YF
    refine RN k0'' ?_
    have:=fin (upd (swpO 924 o2) 924 (some (Ob.row 1 ((l1++l2).map inC)))) 924 (fun _=>Z0)
    rw[QC (s:=924) (by simp [e1]),List.length_append] at this;exact this
end Go.Proofs.YtklbhcjmaeedhaaGreatDoor
