import Derived.Test.YtgiedknghbpdfaaM2

namespace Go.Proofs.Ytgiedknghbpdfaa
set_option linter.all false
theorem U_app0 {cl:CallT} {e:E} {o:O} {d sz byt:Nat} {x y:Od} {s len q:Nat} {es:List (List V)} {l:List Stp} {K:E→O→Prop} (hx:x.ev e=.rw s sz 0 len) (ho:o s=some (.row q es)) (hle:len≤es.length) (hs:src o (y.ev e)=some []) (hso:sizeOk len byt)
  (h:wpRU cl l K (upd e d (.rw s sz 0 len)) o):wpRU cl (⟨some d,none,.app sz byt x y,[]⟩::l) K e o:=by
 refine U_W ?_
 simp only[UW,hx,hs,ho]
 exact⟨by simp,trivial,trivial,hle,by simpa using hso,fun _=>h,fun h0=>absurd rfl h0⟩
theorem U_app00 {cl:CallT} {e:E} {o:O} {d sz byt:Nat} {x y:Od} {l:List Stp} {K:E→O→Prop} (hx:x.ev e=.nil) (hs:src o (y.ev e)=some []) (hb:byt≤65536)
  (h:wpRU cl l K (upd e d .nil) o):wpRU cl (⟨some d,none,.app sz byt x y,[]⟩::l) K e o:=by
 refine U_W ?_
 simp only[UW,hx,hs]
 exact⟨by simp,⟨by simp,hb⟩,fun _=>h,fun h0=>absurd rfl h0⟩
theorem inC_ne {l:List Nat} (h:l≠[]):l.map inC≠[]:=by simpa using h
theorem rfI_cons1 (s sz a b:Nat) (x:Ob):rfI (domA (obs [(s,x)] [])) (.rw s sz a b)=true:=by rw[rfI];simp [domA,obs,ofOwn]
theorem clone_gen (l:List Nat) (hl:l.length≤1000):GenO (Call F) 45 [ownV 1000000 1 (l.map inC)] [] [(1000000,1,l.map inC)] (ownV 1 1 (l.map inC)) [] [(1000000,1,l.map inC),(1,1,l.map inC)] [] [(1000000,1,l.map inC)]:=by
 refine U_gfo e45 rfl rfl (by simp [domA]) (by simp) (by simp) (by simp [domA]) fun o hb ho=>?_
 dsimp only[fn45,c45]
 have ho:=ho _ (List.mem_singleton.2 rfl)
 dsimp only at ho
 have fin:∀ (o1:O),(l≠[]→o1 1000000=some (.row 1 (l.map inC)))→(l≠[]→o1 7=some (.row 1 (l.map inC)))→GenE (domA (obs [] [(1000000,1,l.map inC),(1,1,l.map inC)])) (obs [] [(1000000,1,l.map inC),(1,1,l.map inC)]) (ownV 1 1 (l.map inC)) (stOf [] [(1000000,1,l.map inC)]) (ownV 7 1 (l.map inC)) o1:=fun o1 h1 h2 =>
  GenE_own [] [(1000000,1,l.map inC),(7,1,l.map inC)] (fun s=>if s=7 then 1 else s) (by rw[ren_own];rfl) rfl rfl (by simp [cldLL_in]) (by simp) (by simpa using ⟨h1,h2⟩) (rfI_ob (by simp)) rfl (by simp) (by simp)
 by_cases h0:l=[]
 ·subst h0
  have fin:=fin
  (repeat (with_reducible (first|refine U_nil ?_|refine UC_sq ?_|refine UC_rg ?_|refine X_nx ?_|(refine U_q (v:=?_) ?h1 ?_;case h1=>((try simp only[List.map_nil,ownV_nil,go_sem])<;>rfl)))))
  refine U_isz0 (by (simp only[ownV_nil,go_sem]<;>rfl)) fun p=>?_
  cases p with
  | true =>
   (repeat (with_reducible (first|refine U_nil ?_|refine UC_sq ?_|refine UC_rg ?_|refine UC_rt ?_|refine X_nx ?_|refine X_rt ?_|((first|refine U_q (v:=?_) ?h1 ?_|refine E_1 (v:=?_) ?h1 ?_);case h1=>((try simp only[go_sem])<;>rfl))|(refine UC_cdt ?h1 ?_;case h1=>((try simp only[go_sem])<;>rfl)))))
   exact fin _ (fun h=>absurd rfl h) (fun h=>absurd rfl h)
  | false =>
   (repeat (with_reducible (first|refine U_nil ?_|refine UC_sq ?_|refine UC_rg ?_|refine UC_sk ?_|refine X_nx ?_|(refine U_q (v:=?_) ?h1 ?_;case h1=>((try simp only[go_sem])<;>rfl))|refine U_bsl0 ?_|(refine UC_cdf ?h1 ?_;case h1=>((try simp only[go_sem])<;>rfl)))))
   refine U_app00 (by simp only[go_sem]) (by simp only[src,ownV_nil,go_sem,List.map_nil]) (by omega) ?_
   (repeat (with_reducible (first|refine U_nil ?_|refine UC_rt ?_|refine X_nx ?_|((first|refine U_q (v:=?_) ?h1 ?_|refine E_1 (v:=?_) ?h1 ?_);case h1=>((try simp only[go_sem])<;>rfl)))))
   exact fin _ (fun h=>absurd rfl h) (fun h=>absurd rfl h)
 ·have ho:=ho (inC_ne h0)
  have hsz:szV (ownV 1000000 1 (l.map inC))=some true:=by rw[ownV_map_ne h0];simp [szV,h0]
  (repeat (with_reducible (first|refine U_nil ?_|refine UC_sq ?_|refine UC_rg ?_|refine UC_sk ?_|refine X_nx ?_|((first|refine U_q (v:=?_) ?h1 ?_|refine U_isz ?h1 ?_);case h1=>((try simp only[hsz,go_sem])<;>rfl))|refine U_bsl0 ?_|(refine UC_cdf ?h1 ?_;case h1=>((try simp only[hsz,go_sem])<;>rfl)))))
  refine U_appn 7 (n:=l.length) (ys:=l.map inC) (ys':=l.map inC) (by simp only[go_sem]) (by simp only[go_sem];rw[src_own fun _=>ho]) (in_len l) (by simp) (by simpa using h0) (by omega) ⟨by omega,by omega⟩ (swpR_in _ _) ?_
  (repeat (with_reducible (first|refine U_nil ?_|refine UC_rt ?_|refine X_nx ?_|((first|refine U_q (v:=?_) ?h1 ?_|refine E_1 (v:=?_) ?h1 ?_);case h1=>((try simp only[go_sem])<;>rfl)))))
  have:=fin (upd (swpO 7 o) 7 (some (.row 1 (l.map inC)))) (fun _=>by simp only[ho,swpR,swpR_in,go_sem];have:=swpR_in 7 l;simp only[swpR] at this;rw[this]) (fun _=>by simp only[go_sem])
  rw[ownV_map_ne (s:=7) h0] at this
  exact this
theorem zeros_cld (n:Nat):cldLL (List.replicate n [V.i .i64 0])=true:=(cldLL_iff _).2 fun c hc=>by rw[List.eq_of_mem_replicate hc];rfl
theorem grow0_gen:GenO (Call F) 78 [.nil,.i .i64 0] [] [] .nil [] [] [] []:=by
 refine U_gfo e78 rfl rfl (by simp [domA]) (by simp) (by simp) (by simp [domA]) fun o hb ho=>?_
 dsimp only[fn78,c78]
 have hw:IntKind.i64.wrap 0=0:=by decide
 (repeat' (first|(with_reducible (first|refine U_nil ?_|refine UC_sq ?_|refine UC_rg ?_|refine UC_sk ?_|refine UC_rt ?_|refine X_nx ?_|((first|refine U_q (v:=?_) ?h1 ?_|refine E_1 (v:=?_) ?h1 ?_);case h1=>((try simp only[hw,go_sem])<;>rfl))|(refine UC_cdf ?h1 ?_;case h1=>((try simp only[hw,go_sem])<;>rfl))))|with_reducible (refine U_gb (q:=?_) ?h1 (fun _=>?_) (fun _=>?_);case h1=>((try simp only[hw,go_sem])<;>rfl))|with_reducible (refine UC_cdb (q:=?_) ?h1 (fun _=>?_) (fun _=>?_);case h1=>((try simp only[hw,go_sem])<;>rfl))))
 exact GenE_own [] [] (fun s=>s) (by rw[ren]) rfl rfl (by simp) (by simp) (by simp) (by rw[rfI]) rfl (by simp) (by simp)
theorem grow_gen (n:Nat) (h0:0 < n) (hn:n≤100000):GenO (Call F) 78 [.nil,.i .i64 n] [] [] (.rw 1 1 0 0) [(1,.row 1 (List.replicate n [V.i .i64 0]))] [] [] []:=by
 refine U_gfo e78 rfl rfl (by simp [domA]) (by simp) (by simp) (by simp [domA]) fun o hb ho=>?_
 dsimp only[fn78,c78]
 have hw:IntKind.i64.wrap 0=0:=by decide
 have hw1:IntKind.i64.wrap ((n:Int) - 0)=n:=by rw[wrap_i64 (by omega) (by omega)];omega
 have c1:decide ((n:Int) < 0)=false:=by simp
 have c2:decide ((n:Int) > 0)=true:=by simp;omega
 (repeat (with_reducible (first|refine U_nil ?_|refine UC_sq ?_|refine UC_rg ?_|refine UC_sk ?_|refine X_nx ?_|(refine U_q (v:=?_) ?h1 ?_;case h1=>((try simp only[hw,hw1,c1,c2,go_sem])<;>rfl))|(refine UC_cdt ?h1 ?_;case h1=>((try simp only[hw,hw1,c1,c2,go_sem])<;>rfl))|(refine UC_cdf ?h1 ?_;case h1=>((try simp only[hw,hw1,c1,c2,go_sem])<;>rfl)))))
 refine U_q (v:=.nil) (by simp only[cutV,go_sem];simp) ?_
 (repeat (with_reducible (first|(refine U_q (v:=?_) ?h1 ?_;case h1=>((try simp only[go_sem])<;>rfl)))))
 refine U_apz 22 (k:=n) (by simp only[go_sem]) (by simp only[go_sem];rw[if_pos (by omega)];rfl) (by simpa using (by omega:n≠0)) ⟨by omega,by omega⟩ (by omega) ?_
 (repeat (with_reducible (first|(refine U_q (v:=?_) ?h1 ?_;case h1=>((try simp only[go_sem])<;>rfl)))))
 refine U_q (v:=.rw 22 1 0 0) (by simp only[cutV,go_sem];simp) ?_
 (repeat (with_reducible (first|refine U_nil ?_|refine UC_sq ?_|refine UC_rg ?_|refine UC_rt ?_|refine X_nx ?_|((first|refine U_q (v:=?_) ?h1 ?_|refine E_1 (v:=?_) ?h1 ?_);case h1=>((try simp only[go_sem])<;>rfl)))))
 exact GenE_own [(22,.row 1 (List.replicate n [V.i .i64 0]))] [] (fun s=>if s=22 then 1 else s) (by rw[ren];rfl) (by simp only[List.map_cons,List.map_nil,renOb_own (zeros_cld n)];rfl) rfl (by simp) (by simp;simp only[go_sem]) (by simp) (by rw[rfI];rfl) (by simp only[List.all_cons,List.all_nil,Bool.and_true,rfOb_own (zeros_cld n)]) (by simp) (by simp)
theorem concat_gen (l1 l2:List Nat) (h1:l1.length≤1000) (h2:l2.length≤1000):GenO (Call F) 49 [.rw 1000000 1 0 2] [(1000000,.row 1 [[ownV 1000001 1 (l1.map inC)],[ownV 1000002 1 (l2.map inC)]])] [(1000001,1,l1.map inC),(1000002,1,l2.map inC)] (ownV 1 1 ((l1++l2).map inC)) [] [(1,1,(l1++l2).map inC)] [] []:=by
 refine U_gfo e49 rfl rfl (by simp [domA]) (by simp) (by simp) (by simp [domA]) fun o hb ho=>?_
 dsimp only[fn49,c49]
 have hb:=hb _ (List.mem_singleton.2 rfl)
 have ho1:=ho (1000001,1,l1.map inC) (by simp)
 have ho2:=ho (1000002,1,l2.map inC) (by simp)
 dsimp only at hb ho1 ho2
 clear ho
 have z1:IntKind.i64.wrap (0+(l1.length:Int))=l1.length:=by rw[wrap_i64 (by omega) (by omega)];omega
 have z2:IntKind.i64.wrap ((l1.length:Int)+(l2.length:Int))=((l1.length+l2.length:Nat):Int):=by rw[wrap_i64 (by omega) (by omega)];omega
 have n1:decide ((l1.length:Int) < 0)=false:=by simp
 have n2:decide (((l1.length+l2.length:Nat):Int) < 0)=false:=by simp;omega
 have w1:IntKind.i64.wrap 1=1:=by decide
 have w2:IntKind.i64.wrap 2=2:=by decide
 have s1:=slenV_own 1000001 1 (l1.map inC)
 have s2:=slenV_own 1000002 1 (l2.map inC)
 rw[List.length_map] at s1 s2
 simp only[slenV] at s1 s2
 (repeat (with_reducible (first|refine U_nil ?_|refine UC_sq ?_|refine UC_rg ?_|refine UC_bk ?_|refine X_nx ?_|(refine U_q (v:=?_) ?h1 ?_;case h1=>((try simp only[hb,go_sem])<;>rfl)))))
 refine U_unr (Call_le F) ?_
 conv in b49_0=>unfold b49_0
 (repeat (with_reducible (first|refine U_nil ?_|refine UC_sq ?_|refine UC_rg ?_|refine UC_bk ?_|refine UC_sk ?_|refine X_nx ?_|refine B_nx ?_|((first|refine U_q (v:=?_) ?h1 ?_|refine U_ld (v:=?_) ?h1 ?_);case h1=>((try simp only[hb,s1,s2,z1,n1,w1,go_sem])<;>rfl))|(refine UC_cdt ?h1 ?_;case h1=>((try simp only[hb,s1,s2,z1,n1,w1,go_sem])<;>rfl))|(refine UC_cdf ?h1 ?_;case h1=>((try simp only[hb,s1,s2,z1,n1,w1,go_sem])<;>rfl)))))
 refine U_unr (Call_le F) ?_
 conv in b49_0=>unfold b49_0
 (repeat (with_reducible (first|refine U_nil ?_|refine UC_sq ?_|refine UC_rg ?_|refine UC_bk ?_|refine UC_sk ?_|refine X_nx ?_|refine B_nx ?_|((first|refine U_q (v:=?_) ?h1 ?_|refine U_ld (v:=?_) ?h1 ?_);case h1=>((try simp only[hb,s1,s2,z2,n2,w2,go_sem])<;>rfl))|(refine UC_cdt ?h1 ?_;case h1=>((try simp only[hb,s1,s2,z2,n2,w2,go_sem])<;>rfl))|(refine UC_cdf ?h1 ?_;case h1=>((try simp only[hb,s1,s2,z2,n2,w2,go_sem])<;>rfl)))))
 refine U_unr (Call_le F) ?_
 conv in b49_0=>unfold b49_0
 (repeat (with_reducible (first|refine U_nil ?_|refine UC_sq ?_|refine UC_rg ?_|refine UC_ex ?_|refine X_nx ?_|refine X_ex ?_|refine B_self ?_|(refine U_q (v:=?_) ?h1 ?_;case h1=>((try simp only[hb,go_sem])<;>rfl))|(refine UC_cdf ?h1 ?_;case h1=>((try simp only[hb,go_sem])<;>rfl)))))
 have fin:∀ (o1:O) (s:Nat),(l1++l2≠[]→o1 s=some (.row 1 ((l1++l2).map inC)))→GenE (domA (obs [] [(1,1,(l1++l2).map inC)])) (obs [] [(1,1,(l1++l2).map inC)]) (ownV 1 1 ((l1++l2).map inC)) (stOf [] []) (ownV s 1 ((l1++l2).map inC)) o1:=fun o1 s h1 =>
  GenE_own [] [(s,1,(l1++l2).map inC)] (fun t=>if t=s then 1 else t) (by rw[ren_own];simp) rfl (by simp) (fun q hq=>by rw[List.mem_singleton.1 hq];exact cldLL_in _) (by simp) (fun q hq hne=>by rw[List.mem_singleton.1 hq] at hne ⊢;exact h1 (by simpa using hne)) (rfI_ob (by simp)) rfl (by simp) (by simp)
 by_cases h0:l1.length+l2.length=0
 ·have e1:l1=[]:=List.eq_nil_of_length_eq_zero (by omega)
  have e2:l2=[]:=List.eq_nil_of_length_eq_zero (by omega)
  subst e1;subst e2
  refine U_geno (fun s=>s) (fun s=>s) [] grow0_gen (by simp only[go_sem]) (by simp) (by simp) (GenK_own (by simp [domA]) (by simp [domA]) (by simp [domA]) rfl rfl rfl rfl (by simp) (by simp) (by simp) (by simp) (by simp [domA]) (by simp) (by simp [domA]) (by simp)) (by simp) (by simp) fun o1 g1 g2 g3=>?_
  have hb1:o1 1000000=some (.row 1 [[.nil],[.nil]]):=by rw[g3 _ (by simp [domA])];exact hb
  (repeat (with_reducible (first|refine U_nil ?_|refine UC_sq ?_|refine UC_rg ?_|refine UC_bk ?_|refine X_nx ?_|(refine U_q (v:=?_) ?h1 ?_;case h1=>((try simp only[go_sem])<;>rfl))|rw[put_some])))
  refine U_unr (Call_le F) ?_
  conv in b49_1=>unfold b49_1
  (repeat (with_reducible (first|refine U_nil ?_|refine UC_sq ?_|refine UC_rg ?_|refine UC_bk ?_|refine UC_sk ?_|refine X_nx ?_|((first|refine U_q (v:=?_) ?h1 ?_|refine U_ld (v:=?_) ?h1 ?_);case h1=>((try simp only[hb1,w1,go_sem])<;>rfl))|(refine UC_cdt ?h1 ?_;case h1=>((try simp only[hb1,w1,go_sem])<;>rfl)))))
  refine U_app00 (by simp only[go_sem]) (by (simp only[List.map_nil,ownV_nil,go_sem]<;>rfl)) (by omega) ?_
  (repeat (with_reducible (first|refine U_nil ?_|refine UC_rg ?_|refine X_nx ?_|refine B_nx ?_|(refine U_q (v:=?_) ?h1 ?_;case h1=>((try simp only[hb1,w1,go_sem])<;>rfl)))))
  refine U_unr (Call_le F) ?_
  conv in b49_1=>unfold b49_1
  (repeat (with_reducible (first|refine U_nil ?_|refine UC_sq ?_|refine UC_rg ?_|refine UC_bk ?_|refine UC_sk ?_|refine X_nx ?_|((first|refine U_q (v:=?_) ?h1 ?_|refine U_ld (v:=?_) ?h1 ?_);case h1=>((try simp only[hb1,w2,go_sem])<;>rfl))|(refine UC_cdt ?h1 ?_;case h1=>((try simp only[hb1,w2,go_sem])<;>rfl)))))
  refine U_app00 (by simp only[go_sem]) (by (simp only[List.map_nil,ownV_nil,go_sem]<;>rfl)) (by omega) ?_
  (repeat (with_reducible (first|refine U_nil ?_|refine UC_rg ?_|refine X_nx ?_|refine B_nx ?_|(refine U_q (v:=?_) ?h1 ?_;case h1=>((try simp only[hb1,w2,go_sem])<;>rfl)))))
  refine U_unr (Call_le F) ?_
  conv in b49_1=>unfold b49_1
  (repeat (with_reducible (first|refine U_nil ?_|refine UC_sq ?_|refine UC_rg ?_|refine UC_ex ?_|refine UC_rt ?_|refine X_nx ?_|refine X_ex ?_|refine B_self ?_|((first|refine U_q (v:=?_) ?h1 ?_|refine E_1 (v:=?_) ?h1 ?_);case h1=>((try simp only[hb1,go_sem])<;>rfl))|(refine UC_cdf ?h1 ?_;case h1=>((try simp only[hb1,go_sem])<;>rfl)))))
  exact fin _ 1 fun h=>absurd rfl h
 ·refine U_geno (fun s=>s) (fun s=>if s=1 then 924 else s) [924] (grow_gen (l1.length+l2.length) (by omega) (by omega)) (by simp only[go_sem]) (by simp) (by simp) (GenK_own (by simp [domA]) (by simp [domA]) (by simp [domA]) rfl rfl (rfI_cons1 _ _ _ _ _) (by simp only[List.all_cons,List.all_nil,Bool.and_true,rfOb_own (zeros_cld _)]) (by simp) (by simp) (by simp) (by simp) (by simp [domA]) (by simp) (by simp [domA]) (by simp)) (by simp) (by simp) fun o1 g1 g2 g3=>?_
  have k0:o1 1000000=some (.row 1 [[ownV 1000001 1 (l1.map inC)],[ownV 1000002 1 (l2.map inC)]]):=by rw[g3 _ (by simp [domA])];simp only[hb,go_sem]
  have k1:l1≠[]→o1 1000001=some (.row 1 (l1.map inC)):=fun h=>by rw[g3 _ (by simp [domA])];have:=ho1 (inC_ne h);simp only[this,go_sem];have h2:=swpR_in 924 l1;simp only[swpR] at h2;rw[h2]
  have k2:l2≠[]→o1 1000002=some (.row 1 (l2.map inC)):=fun h=>by rw[g3 _ (by simp [domA])];have:=ho2 (inC_ne h);simp only[this,go_sem];have h2:=swpR_in 924 l2;simp only[swpR] at h2;rw[h2]
  have k3:o1 924=some (.row 1 (List.replicate (l1.length+l2.length) [V.i .i64 0])):=by
   have:=g1 _ (List.mem_singleton.2 rfl)
   rw[renOb_own (zeros_cld _)] at this
   exact this
  clear g1 g2 g3 hb ho1 ho2
  have sr1:src o1 (ownV 1000001 1 (l1.map inC))=some (l1.map inC):=src_own fun h=>k1 (by simpa using h)
  have sr2:∀ o2:O,(l2≠[]→o2 1000002=some (.row 1 (l2.map inC)))→src o2 (ownV 1000002 1 (l2.map inC))=some (l2.map inC):=fun o2 h2=>src_own fun h=>h2 (by simpa using h)
  (repeat (with_reducible (first|refine U_nil ?_|refine UC_sq ?_|refine UC_rg ?_|refine UC_bk ?_|refine X_nx ?_|(refine U_q (v:=?_) ?h1 ?_;case h1=>((try simp only[go_sem])<;>rfl))|rw[put_some])))
  refine U_unr (Call_le F) ?_
  conv in b49_1=>unfold b49_1
  (repeat (with_reducible (first|refine U_nil ?_|refine UC_sq ?_|refine UC_rg ?_|refine UC_bk ?_|refine UC_sk ?_|refine X_nx ?_|((first|refine U_q (v:=?_) ?h1 ?_|refine U_ld (v:=?_) ?h1 ?_);case h1=>((try simp only[k0,w1,go_sem])<;>rfl))|(refine UC_cdt ?h1 ?_;case h1=>((try simp only[k0,w1,go_sem])<;>rfl)))))
  by_cases e1:l1=[]
  ·subst e1
   have e2:l2≠[]:=fun h=>h0 (by rw[h];rfl)
   refine U_app0 (s:=924) (len:=0) (by (simp only[go_sem]<;>rfl)) k3 (Nat.zero_le _) (by (simp only[List.map_nil,ownV_nil,go_sem]<;>rfl)) ⟨by omega,by omega⟩ ?_
   (repeat (with_reducible (first|refine U_nil ?_|refine UC_rg ?_|refine X_nx ?_|refine B_nx ?_|(refine U_q (v:=?_) ?h1 ?_;case h1=>((try simp only[k0,w1,go_sem])<;>rfl)))))
   refine U_unr (Call_le F) ?_
   conv in b49_1=>unfold b49_1
   (repeat (with_reducible (first|refine U_nil ?_|refine UC_sq ?_|refine UC_rg ?_|refine UC_bk ?_|refine UC_sk ?_|refine X_nx ?_|((first|refine U_q (v:=?_) ?h1 ?_|refine U_ld (v:=?_) ?h1 ?_);case h1=>((try simp only[k0,w2,go_sem])<;>rfl))|(refine UC_cdt ?h1 ?_;case h1=>((try simp only[k0,w2,go_sem])<;>rfl)))))
   refine U_appr (s:=924) (len:=0) (n:=l2.length) (zs:=l2.map inC) (ys:=l2.map inC) (by (simp only[go_sem]<;>rfl)) k3 (Nat.zero_le _) (by simp only[go_sem];exact sr2 _ k2) (in_len _) (by simp) (by simpa using e2) (by omega) ⟨by omega,by omega⟩ (by rw[List.take_zero,List.nil_append];exact swpR_in _ _) ?_
   have k0':(upd (swpO 924 o1) 924 (some (Ob.row 1 (l2.map inC)))) 1000000=some (.row 1 [[ownV 1000001 1 []],[ownV 1000002 1 (l2.map inC)]]):=by simp only[k0,List.map_nil,go_sem]
   (repeat (with_reducible (first|refine U_nil ?_|refine UC_rg ?_|refine X_nx ?_|refine B_nx ?_|(refine U_q (v:=?_) ?h1 ?_;case h1=>((try simp only[k0',w2,go_sem])<;>rfl)))))
   refine U_unr (Call_le F) ?_
   conv in b49_1=>unfold b49_1
   (repeat (with_reducible (first|refine U_nil ?_|refine UC_sq ?_|refine UC_rg ?_|refine UC_ex ?_|refine UC_rt ?_|refine X_nx ?_|refine X_ex ?_|refine B_self ?_|((first|refine U_q (v:=?_) ?h1 ?_|refine E_1 (v:=?_) ?h1 ?_);case h1=>((try simp only[k0',go_sem])<;>rfl))|(refine UC_cdf ?h1 ?_;case h1=>((try simp only[k0',go_sem])<;>rfl)))))
   have:=fin (upd (swpO 924 o1) 924 (some (Ob.row 1 (l2.map inC)))) 924 (fun _=>by (simp only[go_sem]<;>rfl))
   rw[List.nil_append,ownV_map_ne (s:=924) e2] at this
   rw[List.nil_append]
   exact this
  ·refine U_appr (s:=924) (len:=0) (n:=l1.length) (zs:=l1.map inC) (ys:=l1.map inC) (by (simp only[go_sem]<;>rfl)) k3 (Nat.zero_le _) (by simp only[go_sem];exact sr1) (in_len _) (by simp) (by simpa using e1) (by omega) ⟨by omega,by omega⟩ (by rw[List.take_zero,List.nil_append];exact swpR_in _ _) ?_
   have k0':(upd (swpO 924 o1) 924 (some (Ob.row 1 (l1.map inC)))) 1000000=some (.row 1 [[ownV 1000001 1 (l1.map inC)],[ownV 1000002 1 (l2.map inC)]]):=by simp only[k0,go_sem]
   have k2':l2≠[]→(upd (swpO 924 o1) 924 (some (Ob.row 1 (l1.map inC)))) 1000002=some (.row 1 (l2.map inC)):=fun h=>by have:=k2 h;simp only[this,go_sem];have h2:=swpR_in 924 l2;simp only[swpR] at h2;rw[h2]
   have k3':(upd (swpO 924 o1) 924 (some (Ob.row 1 (l1.map inC)))) 924=some (.row 1 (l1.map inC)):=by simp only[go_sem]
   generalize (upd (swpO 924 o1) 924 (some (Ob.row 1 (l1.map inC))))=o2 at k0' k2' k3'
   (repeat (with_reducible (first|refine U_nil ?_|refine UC_rg ?_|refine X_nx ?_|refine B_nx ?_|(refine U_q (v:=?_) ?h1 ?_;case h1=>((try simp only[k0',w1,go_sem])<;>rfl)))))
   refine U_unr (Call_le F) ?_
   conv in b49_1=>unfold b49_1
   (repeat (with_reducible (first|refine U_nil ?_|refine UC_sq ?_|refine UC_rg ?_|refine UC_bk ?_|refine UC_sk ?_|refine X_nx ?_|((first|refine U_q (v:=?_) ?h1 ?_|refine U_ld (v:=?_) ?h1 ?_);case h1=>((try simp only[k0',w2,go_sem])<;>rfl))|(refine UC_cdt ?h1 ?_;case h1=>((try simp only[k0',w2,go_sem])<;>rfl)))))
   by_cases e2:l2=[]
   ·subst e2
    refine U_app0 (s:=924) (len:=l1.length) (by simp only[go_sem]) k3' (by simp) (by (simp only[List.map_nil,ownV_nil,go_sem]<;>rfl)) ⟨by omega,by omega⟩ ?_
    (repeat (with_reducible (first|refine U_nil ?_|refine UC_rg ?_|refine X_nx ?_|refine B_nx ?_|(refine U_q (v:=?_) ?h1 ?_;case h1=>((try simp only[k0',w2,go_sem])<;>rfl)))))
    refine U_unr (Call_le F) ?_
    conv in b49_1=>unfold b49_1
    (repeat (with_reducible (first|refine U_nil ?_|refine UC_sq ?_|refine UC_rg ?_|refine UC_ex ?_|refine UC_rt ?_|refine X_nx ?_|refine X_ex ?_|refine B_self ?_|((first|refine U_q (v:=?_) ?h1 ?_|refine E_1 (v:=?_) ?h1 ?_);case h1=>((try simp only[k0',go_sem])<;>rfl))|(refine UC_cdf ?h1 ?_;case h1=>((try simp only[k0',go_sem])<;>rfl)))))
    have:=fin o2 924 (fun _=>by rw[List.append_nil];exact k3')
    rw[List.append_nil,ownV_map_ne (s:=924) e1] at this
    rw[List.append_nil]
    exact this
   ·refine U_appr (s:=924) (len:=l1.length) (n:=l2.length) (zs:=(l1++l2).map inC) (ys:=l2.map inC) (by simp only[go_sem]) k3' (by simp) (by simp only[go_sem];exact sr2 _ k2') (in_len _) (by simp) (by simpa using e2) (by omega) ⟨by omega,by omega⟩ (by rw[List.take_of_length_le (by simp),← List.map_append];exact swpR_in _ _) ?_
    have k0'':(upd (swpO 924 o2) 924 (some (Ob.row 1 ((l1++l2).map inC)))) 1000000=some (.row 1 [[ownV 1000001 1 (l1.map inC)],[ownV 1000002 1 (l2.map inC)]]):=by simp only[k0',go_sem]
    (repeat (with_reducible (first|refine U_nil ?_|refine UC_rg ?_|refine X_nx ?_|refine B_nx ?_|(refine U_q (v:=?_) ?h1 ?_;case h1=>((try simp only[k0'',w2,go_sem])<;>rfl)))))
    refine U_unr (Call_le F) ?_
    conv in b49_1=>unfold b49_1
    (repeat (with_reducible (first|refine U_nil ?_|refine UC_sq ?_|refine UC_rg ?_|refine UC_ex ?_|refine UC_rt ?_|refine X_nx ?_|refine X_ex ?_|refine B_self ?_|((first|refine U_q (v:=?_) ?h1 ?_|refine E_1 (v:=?_) ?h1 ?_);case h1=>((try simp only[k0'',go_sem])<;>rfl))|(refine UC_cdf ?h1 ?_;case h1=>((try simp only[k0'',go_sem])<;>rfl)))))
    have:=fin (upd (swpO 924 o2) 924 (some (Ob.row 1 ((l1++l2).map inC)))) 924 (fun _=>by simp only[go_sem])
    rw[ownV_map_ne (s:=924) (by simp [e1]),List.length_append] at this
    exact this
end Go.Proofs.Ytgiedknghbpdfaa
