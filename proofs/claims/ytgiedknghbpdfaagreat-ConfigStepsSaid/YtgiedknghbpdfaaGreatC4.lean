import Derived.Test.YtgiedknghbpdfaaGreatC3

namespace Go.Proofs.YtgiedknghbpdfaaGreat
set_option linter.all false
attribute [-go_sem] swpOb renOb rfOb V.cells
theorem clone64_gen (x:Cf) (n:Nat) (hn:n≤4):GenO (Call F) 59 [.ra 1000000 0 1 n] [(1000000,.row 5 [cfC x])] [] (ownV 1 1 (((cl4 x).take n).map i1)) [(1000000,.row 5 [cfC x])] [(1,1,((cl4 x).take n).map i1)] [1000000] []:=by
 have hsrc:∀ o:O,o 1000000=some (.row 5 [cfC x])→src o (.ra 1000000 0 1 n)=some (((cl4 x).take n).map i1):=fun o h=>by
  simp only[src,h,List.getElem?_cons_zero]
  rw[if_pos (by simp only[cf_len];omega)]
  match n,hn with
  | 0,_=>rfl
  | 1,_=>rfl
  | 2,_=>rfl
  | 3,_=>rfl
  | 4,_=>rfl
 have hcl:∀ D:List Nat,rfOb D (.row 5 [cfC x])=true:=fun D=>rfOb_own (by rfl)
 have hre:∀ f:Nat→Nat,renOb f (.row 5 [cfC x])=.row 5 [cfC x]:=fun f=>renOb_own (by rfl)
 refine U_gfo e59 rfl rfl (by simp [domA]) (by simp) (by simp) (by simp [domA]) fun o hb ho=>?_
 dsimp only[fn59,c59]
 have hb:=hb _ (List.mem_singleton.2 rfl)
 dsimp only at hb
 generalize hL:((cl4 x).take n).map i1=L at hsrc
 have hLl:L.length=n:=by subst hL;simp [cl4];omega
 have hLc:cldLL L=true:=by subst hL;exact i1s_cl _
 have hLs:∀ d,swpR d L=L:=fun d=>by subst hL;exact swpR_map (fun _=>rfl) d _
 have hL1:∀ c∈L,c.length=1:=fun c hc=>by subst hL;obtain⟨y,_,rfl⟩:=List.mem_map.1 hc;rfl
 have fin:∀ (o1:O),o1 1000000=some (.row 5 [cfC x])→(L≠[]→o1 7=some (.row 1 L))→GenE (domA (obs [(1000000,.row 5 [cfC x])] [(1,1,L)])) (obs [(1000000,.row 5 [cfC x])] [(1,1,L)]) (ownV 1 1 L) (stOf [1000000] []) (ownV 7 1 L) o1:=fun o1 h1 h2 =>
  GenE_own [(1000000,.row 5 [cfC x])] [(7,1,L)] (fun s=>if s=7 then 1 else s) (by rw[ren_own];rfl) (by simp [hre]) rfl (by simp [hLc]) (by simpa using h1) (by simpa using h2) (rfI_ob (by simp)) (by simp [hcl]) (by simp [domA]) (by simp)
 have fin0:∀ (o1:O),o1 1000000=some (.row 5 [cfC x])→L=[]→GenE (domA (obs [(1000000,.row 5 [cfC x])] [(1,1,L)])) (obs [(1000000,.row 5 [cfC x])] [(1,1,L)]) (ownV 1 1 L) (stOf [1000000] []) .nil o1:=fun o1 h1 h2=>by
  have:=fin o1 h1 (fun h=>absurd h2 h)
  have e:ownV 7 1 L=.nil:=by rw[h2];rfl
  rw[e] at this;exact this
 by_cases h0:n=0
 ·have hL0:L=[]:=List.eq_nil_of_length_eq_zero (by omega)
  subst h0
  (repeat (with_reducible (first|refine U_nil ?_|refine UC_sq ?_|refine UC_rg ?_|refine X_nx ?_|(refine U_q (v:=?_) ?h1 ?_;case h1=>((try simp only[go_sem])<;>rfl)))))
  refine U_isz0 (by (simp only[go_sem]<;>rfl)) fun p=>?_
  cases p with
  | true =>
   (repeat (with_reducible (first|refine U_nil ?_|refine UC_sq ?_|refine UC_rg ?_|refine UC_rt ?_|refine X_nx ?_|refine X_rt ?_|((first|refine U_q (v:=?_) ?h1 ?_|refine E_1 (v:=?_) ?h1 ?_);case h1=>((try simp only[go_sem])<;>rfl))|(refine UC_cdt ?h1 ?_;case h1=>((try simp only[go_sem])<;>rfl)))))
   exact fin0 _ hb hL0
  | false =>
   (repeat (with_reducible (first|refine U_nil ?_|refine UC_sq ?_|refine UC_rg ?_|refine UC_sk ?_|refine X_nx ?_|(refine U_q (v:=?_) ?h1 ?_;case h1=>((try simp only[go_sem])<;>rfl))|refine U_bsl0 ?_|(refine UC_cdf ?h1 ?_;case h1=>((try simp only[go_sem])<;>rfl)))))
   refine U_app00 (by simp only[go_sem]) (by simp only[go_sem];rw[hsrc _ hb,hL0]) (by omega) ?_
   (repeat (with_reducible (first|refine U_nil ?_|refine UC_rt ?_|refine X_nx ?_|((first|refine U_q (v:=?_) ?h1 ?_|refine E_1 (v:=?_) ?h1 ?_);case h1=>((try simp only[go_sem])<;>rfl)))))
   exact fin0 _ hb hL0
 ·have hz:szV (.ra 1000000 0 1 n)=some true:=by simp [szV,h0]
  (repeat (with_reducible (first|refine U_nil ?_|refine UC_sq ?_|refine UC_rg ?_|refine UC_sk ?_|refine X_nx ?_|((first|refine U_q (v:=?_) ?h1 ?_|refine U_isz ?h1 ?_);case h1=>((try simp only[hz,go_sem])<;>rfl))|refine U_bsl0 ?_|(refine UC_cdf ?h1 ?_;case h1=>((try simp only[hz,go_sem])<;>rfl)))))
  refine U_appn 7 (n:=n) (ys:=L) (ys':=L) (by simp only[go_sem]) (by simp only[go_sem];rw[hsrc _ hb]) hL1 hLl (by simpa using h0) (by omega) ⟨by omega,by omega⟩ (hLs _) ?_
  (repeat (with_reducible (first|refine U_nil ?_|refine UC_rt ?_|refine X_nx ?_|((first|refine U_q (v:=?_) ?h1 ?_|refine E_1 (v:=?_) ?h1 ?_);case h1=>((try simp only[go_sem])<;>rfl)))))
  have:=fin (upd (swpO 7 o) 7 (some (.row 1 L))) (by simp only[hb,go_sem]) (fun _=>by simp only[go_sem])
  have e:ownV 7 1 L=.rw 7 1 0 n:=by unfold ownV;rw[if_neg (by intro h;rw[h] at hLl;simp at hLl;omega),hLl]
  rw[e] at this
  exact this
theorem U_clone64 {e:E} {o:O} {d:Nat} {ods:List Od} (a b:Nat) (x:Cf) (n:Nat) {l:List Stp} {K:E→O→Prop} (hn:n≤4) (hab:(a==b)=false) (hb:b < 1000000) (hargs:ods.map (Od.ev e)=[.ra a 0 1 n]) (ho:o a=some (.row 5 [cfC x]))
  (h:∀ o1,o1 a=some (.row 5 [cfC x])→Own o1 b 1 (((cl4 x).take n).map i1)→(∀ t,t≠a→t≠b→o1 t=swpNO [b] o t)→wpRU (Call F) l K (upd (swpNE [b] e) d (ownV b 1 (((cl4 x).take n).map i1))) o1):wpRU (Call F) (⟨some d,none,.nc 59 ods,[]⟩::l) K e o:=by
 have hab:a≠b:=by simpa using hab
 have hcl:∀ D:List Nat,rfOb D (.row 5 [cfC x])=true:=fun D=>rfOb_own (by rfl)
 have hre:∀ f:Nat→Nat,renOb f (.row 5 [cfC x])=.row 5 [cfC x]:=fun f=>renOb_own (by rfl)
 refine U_geno (fun s=>if s=1000000 then a else s) (fun s=>if s=1000000 then a else if s=1 then b else s) [b] (clone64_gen x n hn) ?_ ?_ (by simp) ?_ (by simp) (fun q hq=>by rw[List.mem_singleton.1 hq];exact i1s_cl _) fun o1 g1 g2 g3=>?_
 ·rw[hargs];simp only[renL,ren,if_true]
 ·intro p hp
  rw[List.mem_singleton.1 hp]
  dsimp only
  rw[hre,if_pos rfl];exact ho
 ·refine GenK_own (by simp [domA]) (by simp [domA,hab]) (by simp [domA]) ?_ (by simp [hcl]) (rfI_ob (by simp)) (by simp [hcl]) (by simp) (fun q hq=>by rw[List.mem_singleton.1 hq];exact i1s_cl _) (by simp [domA,hab]) (by simp) (by simp [domA]) (by simp) (by simp [domA]) (by simp [hb])
  simp only[rfL,Bool.and_true,rfI]
  exact con_ob (by simp [domA])
 ·rw[show ren (fun s=>if s=1000000 then a else if s=1 then b else s) (ownV 1 1 (((cl4 x).take n).map i1))=ownV b 1 (((cl4 x).take n).map i1) from by rw[ren_own];rfl]
  have k1:=g1 _ (List.mem_singleton.2 rfl)
  dsimp only at k1
  rw[hre,if_pos rfl] at k1
  refine h o1 k1 ⟨List.all_eq_true.2 fun c hc=>by obtain⟨y,_,rfl⟩:=List.mem_map.1 hc;rfl,g2 (1,1,((cl4 x).take n).map i1) (by simp)⟩ fun t k1 k2=>g3 t fun s hs=>?_
  simp [domA] at hs
  rcases hs with rfl|rfl
  ·simp [Ne.symm k1]
  ·simp [Ne.symm k2]
def mayV (r:Option Cf):V:=match r with
 | some y=>.tp [.ag (cfC y),.bo true]
 | none=>.tp [.ag (cfC noC),.bo false]
theorem frz_ra {o:O} {a:Nat} {x:Cf} (h:o a=some (.row 5 [cfC x])) {k:Nat} (hk:k≤4):fzU o (.ra a 0 (1+k) (4 - k))=some (.sl (((cl4 x).drop k).map i1)):=by
 have hs:src o (.ra a 0 (1+k) (4 - k))=some (((cl4 x).drop k).map i1):=by
  simp only[src,h,List.getElem?_cons_zero]
  rw[if_pos (by simp only[cf_len];omega)]
  match k,hk with
  | 0,_=>rfl
  | 1,_=>rfl
  | 2,_=>rfl
  | 3,_=>rfl
  | 4,_=>rfl
 show (match src o (.ra a 0 (1+k) (4 - k)) with
   | some es=>(es.mapM fun c:List V=>c.mapM (frzU 23 o)).map V.sl
   | none=>none)=_
 rw[hs]
 dsimp only
 rw[mapM_self2 fun c hc v hv=>by
  obtain⟨y,_,rfl⟩:=List.mem_map.1 hc
  simp [i1] at hv;subst hv;rfl]
 rfl
theorem fza_i1 (l:List Int) {o:O}:∀ c∈l.map i1,∀ v∈c,∀ n,frzU (n+1) o v=some v:=fun c hc v hv n=>by
 obtain⟨x,_,rfl⟩:=List.mem_map.1 hc
 simp [i1] at hv
 subst hv;rfl
theorem fzs_ent {A:Au} {p:Nat} {o:O} {s:Nat} {K:List Int} (h:Own o s 1 (K.map i1)):fzsU o [.ag (auC A),.i .i64 p,ownV s 1 (K.map i1)]=some [.ag (auC A),.i .i64 p,.sl (K.map i1)]:=by
 have h1:fzU o (.ag (auC A))=some (.ag (auC A)):=fzU_ok (okf_au A)
 have h2:fzU o (.i .i64 (p:Int))=some (.i .i64 p):=rfl
 have h3:fzU o (ownV s 1 (K.map i1))=some (.sl (K.map i1)):=frz_own h (fza_i1 K) 22
 simp [fzsU,h1,h2,h3]
theorem fzs_lv {o:O} {a:Nat} {x:Cf} (h:o a=some (.row 5 [cfC x])) {k:Nat} (hk:k≤4) (l:List (Int × Int)):fzsU o [.sl (l.map scC),.ra a 0 (1+k) (4 - k)]=some [.sl (l.map scC),.sl (((cl4 x).drop k).map i1)]:=by
 have h1:fzU o (.sl (l.map scC))=some (.sl (l.map scC)):=rfl
 simp [fzsU,h1,frz_ra h hk]
end Go.Proofs.YtgiedknghbpdfaaGreat
