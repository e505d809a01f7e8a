import Derived.Test.YtgiedknghbpdfaaGreatC12

namespace Go.Proofs.YtgiedknghbpdfaaGreat
set_option linter.all false
attribute [-go_sem] swpOb renOb rfOb V.cells
theorem entI_enter (A:Au) (p:Nat):entI p (arAt A p).length=enterF A p []:=cf_ext rfl fun j hj=>by
 rw[entI,enterF,mkCf_c _ _ hj,mkCf_c _ _ hj];simp [entN]
theorem begL_snoc (A:Au) (b:Nat) (ps:List Nat) (p:Nat):begL A b (ps++[p])=begL A b ps++(if bitOf (stAt A p) b then [enterF A p []] else []):=by
 simp only[begL,List.filter_append,List.map_append]
 congr 1
 by_cases h:bitOf (stAt A p) b=true
 ·simp [h]
 ·simp [h]
set_option maxHeartbeats 2000000 in
theorem rbegin_pu {A:Au} (hW:WF A) (hf:A.first.length≤1000) {b:Nat} (hb:b < 256):Pu F 19 [.ag (auC A),.i .u8 b] (.sl ((begL A b A.first).map cfC)):=by
 have hlt:∀ p∈A.first,p < A.sets.length:=fun p hp=>(hW.f p hp).2
 have hwb:IntKind.i64.wrap (b:Int)=b:=wrap_i64 (by omega) (by omega)
 generalize hfl:A.first=l at hf hlt
 refine U_pure e19 rfl rfl (by simp only[go_sem,Bool.and_true]) ?_
 dsimp only[fn19,c19]
 (repeat (with_reducible (first|refine U_nil ?_|refine UC_sq ?_|refine UC_rg ?_|refine UC_bk ?_|refine X_nx ?_|(refine U_q (v:=?_) ?h1 ?_;case h1=>((try simp only[go_sem])<;>rfl))|(refine U_box (cs:=?_) (cs':=?_) (n:=?_) ?h1 ?h2 ?h3 ?h4 ?_;case h1|h2|h3|h4=>((try simp only[go_sem])<;>rfl)))))
 refine U_lp (fun r e o=>∃ i:Nat,i+r=l.length∧e 1=.i .u8 b∧e 2=.pt 2 0 0∧e 6=.i .i64 i∧e 5=ownV 54 5 ((begL A b (l.take i)).map cfC)∧Own o 54 5 ((begL A b (l.take i)).map cfC)∧o 2=some (.row 15 [auC A])) (k:=l.length) ?_ (Call_le F) ?_
 ·exact⟨0,by omega,by simp only[go_sem],by simp only[go_sem],by (simp only[go_sem]<;>rfl),by (simp only[go_sem]<;>rfl),⟨rfl,fun h=>absurd rfl h⟩,by simp only[go_sem]⟩
 rintro r e o ⟨i,hir,r1,r2,r6,r5,ho,o2⟩
 dsimp only[b19_1]
 have hln:(begL A b (l.take i)).length≤i:=by
  have h1:=List.length_filter_le (fun p=>bitOf (stAt A p) b) (l.take i)
  simp only[begL,List.length_map]
  rw[List.length_take] at h1;omega
 (repeat (with_reducible (first|refine U_nil ?_|refine UC_sq ?_|refine UC_rg ?_|refine X_nx ?_|((first|refine U_q (v:=?_) ?h1 ?_|refine U_ld (v:=?_) ?h1 ?_);case h1=>((try simp only[hfl,r2,r6,o2,List.length_map,go_sem])<;>rfl)))))
 refine UC_cdb (q:=decide ((i:Int) < (l.length:Int))) (by simp only[go_sem]) (fun hc=>?_) (fun hc=>?_)
 ·have hi:i < l.length:=by simpa using hc
  have hip:(0:Int)≤(i:Int):=by omega
  have hxi:=in_at hi
  have hpl:=hlt l[i] (List.getElem_mem hi)
  have hw:=wrap1 (i:=i) (by omega)
  have htk:begL A b (l.take (i+1))=begL A b (l.take i)++(if bitOf (stAt A l[i]) b then [enterF A l[i] []] else []):=by
   rw[← begL_snoc,List.take_add_one,List.getElem?_eq_getElem hi];rfl
  generalize l[i]=p at hxi hpl htk
  have hxp:(0:Int)≤(p:Int):=by omega
  have hst:=st_at hpl
  have hhas:=rhas_pu (stAt A p) (st_w hW hpl) b hb
  have hra:=ar_at (A:=A) (p:=p) (by rw[hW.la];exact hpl)
  have h4:=ar_4 hW (p:=p) (by rw[hW.la];exact hpl)
  have hee:=entI_enter A p
  (repeat (with_reducible (first|refine UC_sq ?_|refine UC_rg ?_|refine UC_bk ?_|refine UC_sk ?_|refine X_nx ?_|((first|refine U_q (v:=?_) ?h1 ?_|refine U_ld (v:=?_) ?h1 ?_);case h1=>((try simp only[hfl,hwb,r1,r2,r6,o2,hip,hxi,hxp,hst,Int.toNat_natCast,go_sem])<;>rfl)))))
  (refine U_pcr (r:=.bo (bitOf (stAt A p) b)) hhas ?h1 ?h2 rfl ?_;(case h1=>((try simp only[hwb,r1,go_sem])<;>rfl));(case h2=>simp only[hwb,r1,List.all_cons,List.all_nil,Bool.and_true,go_sem]))
  cases hbt:bitOf (stAt A p) b with
  | false =>
   rw[hbt] at htk
   have htk:begL A b (l.take (i+1))=begL A b (l.take i):=by rw[htk];simp
   (repeat (with_reducible (first|refine U_nil ?_|refine UC_rg ?_|refine UC_ex ?_|refine X_nx ?_|refine X_ex ?_|refine B_self ?_|(refine U_q (v:=?_) ?h1 ?_;case h1=>((try simp only[r6,hw,go_sem])<;>rfl))|(refine UC_cdt ?h1 ?_;case h1=>((try simp only[r6,hw,go_sem])<;>rfl)))))
   exact⟨r - 1,by omega,i+1,by omega,by simp only[r1,go_sem],by simp only[r2,go_sem],by simp only[go_sem],by rw[htk];simp only[r5,go_sem],by rw[htk];exact ho,by simp only[o2,go_sem]⟩
  | true =>
   rw[hbt,if_pos rfl] at htk
   generalize hal:arAt A p=al at hra h4 hee
   (repeat (with_reducible (first|refine U_nil ?_|refine UC_sq ?_|refine UC_rg ?_|refine UC_bk ?_|refine UC_sk ?_|refine X_nx ?_|((first|refine U_q (v:=?_) ?h1 ?_|refine U_ld (v:=?_) ?h1 ?_|refine U_alc (n:=?_) ?h1 ?_);case h1=>((try simp only[hfl,r2,r6,o2,hip,hxi,Int.toNat_natCast,go_sem])<;>rfl))|(refine U_sto (id:=?_) (i:=?_) (j:=?_) (q:=?_) (es:=?_) (cs:=?_) (vs:=?_) (es':=?_) ?h1 ?h2 ?h3 ?h4 ?h5 ?h6 ?h7 ?_;case h1|h2|h3|h4|h5|h6|h7=>((try simp only[hfl,r2,r6,o2,hip,hxi,Int.toNat_natCast,go_sem])<;>rfl))|(refine UC_cdf ?h1 ?_;case h1=>((try simp only[hfl,r2,r6,o2,hip,hxi,Int.toNat_natCast,go_sem])<;>rfl)))))
   refine UC_cutx (fun e o=>e 1=.i .u8 b∧e 2=.pt 2 0 0∧e 6=.i .i64 i∧e 5=ownV 54 5 ((begL A b (l.take i)).map cfC)∧e 7=.pt 7 0 0∧Own o 54 5 ((begL A b (l.take i)).map cfC)∧o 2=some (.row 15 [auC A])∧o 7=some (.row 5 [cfC (enterF A p [])])) ?_ ?_
   ·refine U_lp (fun r e o=>∃ k:Nat,k+r=al.length∧e 1=.i .u8 b∧e 2=.pt 2 0 0∧e 6=.i .i64 i∧e 5=ownV 54 5 ((begL A b (l.take i)).map cfC)∧e 7=.pt 7 0 0∧e 8=.i .i64 k∧Own o 54 5 ((begL A b (l.take i)).map cfC)∧o 2=some (.row 15 [auC A])∧o 7=some (.row 5 [cfC (entI p k)])) (k:=al.length) ?_ (Call_le F) ?_
    ·exact⟨0,by omega,by simp only[r1,go_sem],by simp only[r2,go_sem],by simp only[r6,go_sem],by simp only[r5,go_sem],by simp only[go_sem],by (simp only[go_sem]<;>rfl),by (repeat (first|with_reducible assumption|((with_reducible first|refine Own.up ?hh ?_|refine Own.sw ?hh ?_|refine Own.swN ?hh ?_);(case hh=>rfl)))),by simp only[o2,go_sem],by (simp only[go_sem]<;>rfl)⟩
    clear r1 r2 r6 r5 ho o2
    rintro r' e o ⟨k,hkr,r1,r2,r6,r5,r7,r8,ho,o2,o7⟩
    dsimp only[b19_0]
    have e7:(cfC (entI p k))[0]?=some (.i .i64 (p:Int)):=rfl
    have ep:(entI p k).p=p:=rfl
    (repeat (with_reducible (first|refine U_nil ?_|refine UC_sq ?_|refine UC_rg ?_|refine X_nx ?_|((first|refine U_q (v:=?_) ?h1 ?_|refine U_ld (v:=?_) ?h1 ?_);case h1=>((try simp only[ep,r2,r7,r8,o2,o7,hra,hxp,Int.toNat_natCast,List.length_map,go_sem])<;>rfl)))))
    refine UC_cdb (q:=decide ((k:Int) < (al.length:Int))) (by simp only[go_sem]) (fun hc2=>?_) (fun hc2=>?_)
    ·have hk:k < al.length:=by simpa using hc2
     have hk4:k < 4:=by omega
     have hkp:(0:Int)≤(k:Int):=by omega
     have hk4':((k:Int) < 4)=True:=by simp;omega
     have hspl:=cf_spl (entI p k) 1 hk4
     rw[entI_set p k hk4] at hspl
     have hle:1+k+1≤5:=by omega
     have hwk:=wrap1 (i:=k) (by omega)
     (repeat (with_reducible (first|refine U_nil ?_|refine UC_sq ?_|refine UC_rg ?_|refine UC_bk ?_|refine UC_sk ?_|refine X_nx ?_|refine B_nx ?_|(refine U_q (v:=?_) ?h1 ?_;case h1=>((try simp only[r7,r8,o7,hkp,hk4',hspl,hle,Int.toNat_natCast,Nat.mul_one,List.set_cons_zero,hwk,List.getElem?_cons_zero,go_sem])<;>rfl))|(refine U_sto (id:=?_) (i:=?_) (j:=?_) (q:=?_) (es:=?_) (cs:=?_) (vs:=?_) (es':=?_) ?h1 ?h2 ?h3 ?h4 ?h5 ?h6 ?h7 ?_;case h1|h2|h3|h4|h5|h6|h7=>((try simp only[r7,r8,o7,hkp,hk4',hspl,hle,Int.toNat_natCast,Nat.mul_one,List.set_cons_zero,hwk,List.getElem?_cons_zero,go_sem])<;>rfl)))))
     exact⟨r' - 1,by omega,k+1,by omega,by simp only[r1,go_sem],by simp only[r2,go_sem],by simp only[r6,go_sem],by simp only[r5,go_sem],by simp only[r7,go_sem],by simp only[go_sem],by (repeat (first|with_reducible assumption|((with_reducible first|refine Own.up ?hh ?_|refine Own.sw ?hh ?_|refine Own.swN ?hh ?_);(case hh=>rfl)))),by simp only[o2,go_sem],by simp only[go_sem]⟩
    ·have hk:k=al.length:=by
      have:¬ k < al.length:=by simpa using hc2
      omega
     subst hk
     rw[hee] at o7
     (repeat (with_reducible (first|refine UC_ex ?_|refine X_ex ?_)))
     exact⟨rfl,by simp only[r1,go_sem],by simp only[r2,go_sem],by simp only[r6,go_sem],by simp only[r5,go_sem],by simp only[r7,go_sem],ho,o2,o7⟩
   clear r1 r2 r6 r5 ho o2
   rintro e o ⟨r1,r2,r6,r5,r7,ho,o2,o7⟩
   (repeat (with_reducible (first|refine UC_rg ?_|refine X_nx ?_|((first|refine U_q (v:=?_) ?h1 ?_|refine U_ld (v:=?_) ?h1 ?_);case h1=>((try simp only[r5,r7,o7,go_sem])<;>rfl))|(refine U_bsl (es:=?_) (es':=?_) ?h1 ?h2 ?h3 ?_;case h1|h2|h3=>((try simp only[r5,r7,o7,go_sem])<;>rfl)))))
   refine U_appo 54 (L:=(begL A b (l.take i)).map cfC) (ys:=[cfC (enterF A p [])]) (by simp only[r5,go_sem]) ?_ (by (simp only[src,go_sem]<;>rfl)) (by simp [cf_len]) (by simp) (by omega) ⟨by simp;omega,by omega⟩ (swpR_cls _ ho.c) rfl ?_
   ·exact Own.h (by (repeat (first|with_reducible assumption|((with_reducible first|refine Own.up ?hh ?_|refine Own.sw ?hh ?_|refine Own.swN ?hh ?_);(case hh=>rfl)))))
   (repeat (with_reducible (first|refine U_nil ?_|refine UC_rg ?_|refine X_nx ?_|refine B_nx ?_|(refine U_q (v:=?_) ?h1 ?_;case h1=>((try simp only[r6,hw,go_sem])<;>rfl)))))
   refine⟨r - 1,by omega,i+1,by omega,by simp only[r1,go_sem],by simp only[r2,go_sem],by simp only[go_sem],by simp only[htk,List.map_append,go_sem],?_,by simp only[o2,go_sem]⟩
   rw[htk,List.map_append]
   exact Own.to (by have:=cf_cls (begL A b (l.take i)++[enterF A p []]);rw[List.map_append] at this;exact this)
 ·have hi:i=l.length:=by
   have:¬ i < l.length:=by simpa using hc
   omega
  subst hi
  rw[List.take_length] at r5 ho
  (repeat (with_reducible (first|refine U_nil ?_|refine UC_sq ?_|refine UC_rg ?_|refine UC_ex ?_|refine UC_rt ?_|refine X_nx ?_|refine X_ex ?_|refine B_self ?_|((first|refine U_q (v:=?_) ?h1 ?_|refine E_1 (v:=?_) ?h1 ?_);case h1=>((try simp only[r5,go_sem])<;>rfl)))))
  exact frz_own ho (fza_cf _) 22
def rst1 (A:Au) (x:Cf) (b:Nat) (out:List Cf) (m:Mv):List Cf:=match mayF A x m with
 | some y=>if bitOf (stAt A m.to) b=true∧y ∉ out then out++[y] else out
 | none=>out
def rstL (A:Au) (x:Cf) (b:Nat) (ms:List Mv):List Cf:=ms.foldl (rst1 A x b) []
theorem rst_all (A:Au) (x:Cf) (b:Nat):∀ (ms:List Mv) (out:List Cf),out.Nodup→(ms.foldl (rst1 A x b) out).Nodup∧(ms.foldl (rst1 A x b) out).length≤out.length+ms.length∧∀ y,y∈ms.foldl (rst1 A x b) out↔y∈out∨y∈stepL A x b ms
 | [],out,h=>⟨h,by simp,fun y=>by simp [stepL]⟩
 | m::ms,out,h=>by
  have h1:(rst1 A x b out m).Nodup∧(rst1 A x b out m).length≤out.length+1∧∀ y,y∈rst1 A x b out m↔y∈out∨(if bitOf (stAt A m.to) b then mayF A x m else none)=some y:=by
   unfold rst1
   cases hv:mayF A x m with
   | none=>exact⟨h,by simp,fun y=>by simp⟩
   | some z =>
    dsimp only
    by_cases hb:bitOf (stAt A m.to) b=true
    ·by_cases hz:z∈out
     ·rw[if_neg (fun hh=>hh.2 hz)]
      refine⟨h,by omega,fun y=>?_⟩
      rw[if_pos hb]
      constructor
      ·exact .inl
      ·rintro (hh|hh)
       ·exact hh
       ·cases hh;exact hz
     ·rw[if_pos ⟨hb,hz⟩]
      refine⟨List.nodup_append.2 ⟨h,by simp,fun a ha c hc e=>?_⟩,by simp,fun y=>?_⟩
      ·rw[List.mem_singleton.1 hc] at e
       rw[e] at ha;exact hz ha
      ·rw[if_pos hb,List.mem_append,List.mem_singleton]
       constructor
       ·rintro (hh|hh)
        ·exact .inl hh
        ·exact .inr (by rw[hh])
       ·rintro (hh|hh)
        ·exact .inl hh
        ·exact .inr (Option.some.inj hh).symm
    ·rw[if_neg (fun hh=>hb hh.1)]
     exact⟨h,by omega,fun y=>by simp [hb]⟩
  obtain⟨g1,g2,g3⟩:=rst_all A x b ms (rst1 A x b out m) h1.1
  rw[List.foldl_cons]
  refine⟨g1,by simp only[List.length_cons];omega,fun y=>?_⟩
  rw[g3,h1.2.2]
  have hs:y∈stepL A x b (m::ms)↔(if bitOf (stAt A m.to) b then mayF A x m else none)=some y∨y∈stepL A x b ms:=by
   unfold stepL
   rw[List.filterMap_cons]
   cases hv:(if bitOf (stAt A m.to) b then mayF A x m else none) with
   | none=>simp
   | some z =>
    simp only[List.mem_cons,Option.some.injEq]
    constructor
    ·rintro (h|h)
     ·exact .inl h.symm
     ·exact .inr h
    ·rintro (h|h)
     ·exact .inl h.symm
     ·exact .inr h
  rw[hs,or_assoc]
theorem fzs_own2 {o:O} {s:Nat} {L:List Cf} {y:Cf} (h:Own o s 5 (L.map cfC)):fzsU o [ownV s 5 (L.map cfC),.ag (cfC y)]=some [.sl (L.map cfC),.ag (cfC y)]:=by
 have h1:fzU o (ownV s 5 (L.map cfC))=some (.sl (L.map cfC)):=frz_own h (fza_cf L) 22
 have h2:fzU o (.ag (cfC y))=some (.ag (cfC y)):=fzU_ok (okf_cf y)
 simp [fzsU,h1,h2]
set_option maxHeartbeats 2000000 in
theorem rstep_pu {A:Au} (hW:WF A) (hL:∀ l∈A.moves,l.length < 2147483648) {x:Cf} (hr:rightB A x=true) {b:Nat} (hb:b < 256):Pu F 21 [.ag (auC A),.ag (cfC x),.i .u8 b] (.sl ((rstL A x b (mvAt A x.p.toNat)).map cfC)):=by
 obtain⟨r1,r2,_⟩:=rightB_iff.1 hr
 obtain⟨p,hp⟩:∃ p:Nat,x.p=p:=⟨x.p.toNat,by omega⟩
 have hpt:x.p.toNat=p:=by omega
 have hpp:(0:Int)≤(p:Int):=by omega
 have hpl:p < A.moves.length:=by rw[hW.lm,← hW.la];omega
 have hmo:=mo_at hpl
 have hml:=hL _ (List.mem_of_getElem? (mo_get hpl))
 have hmk:∀ m∈mvAt A p,MvOk A x.p.toNat m:=fun m hm=>mvOk hW (mo_get (p:=x.p.toNat) (by rw[hpt];exact hpl)) (by rw[hpt];exact hm)
 have hwb:IntKind.i64.wrap (b:Int)=b:=wrap_i64 (by omega) (by omega)
 rw[hpt]
 generalize mvAt A p=l at hmo hml hmk
 refine U_pure e21 rfl rfl (by simp only[go_sem,Bool.and_true]) ?_
 dsimp only[fn21,c21]
 (repeat (with_reducible (first|refine U_nil ?_|refine UC_sq ?_|refine UC_rg ?_|refine UC_bk ?_|refine X_nx ?_|(refine U_q (v:=?_) ?h1 ?_;case h1=>((try simp only[go_sem])<;>rfl))|(refine U_box (cs:=?_) (cs':=?_) (n:=?_) ?h1 ?h2 ?h3 ?h4 ?_;case h1|h2|h3|h4=>((try simp only[go_sem])<;>rfl)))))
 refine U_lp (fun r e o=>∃ i:Nat,i+r=l.length∧e 2=.i .u8 b∧e 3=.pt 3 0 0∧e 4=.pt 4 0 0∧e 8=.i .i64 i∧e 7=ownV 61 5 ((rstL A x b (l.take i)).map cfC)∧Own o 61 5 ((rstL A x b (l.take i)).map cfC)∧o 3=some (.row 15 [auC A])∧o 4=some (.row 5 [cfC x])) (k:=l.length) ?_ (Call_le F) ?_
 ·exact⟨0,by omega,by simp only[go_sem],by simp only[go_sem],by simp only[go_sem],by (simp only[go_sem]<;>rfl),by (simp only[go_sem]<;>rfl),⟨rfl,fun h=>absurd rfl h⟩,by simp only[go_sem],by simp only[go_sem]⟩
 rintro r e o ⟨i,hir,r2,r3,r4,r8,r7,ho,o3,o4⟩
 dsimp only[b21_0]
 have hln:=(rst_all A x b (l.take i) [] List.nodup_nil).2.1
 rw[List.length_take,List.length_nil] at hln
 have hln:(rstL A x b (l.take i)).length≤i:=by unfold rstL;omega
 (repeat (with_reducible (first|refine U_nil ?_|refine UC_sq ?_|refine UC_rg ?_|refine X_nx ?_|((first|refine U_q (v:=?_) ?h1 ?_|refine U_ld (v:=?_) ?h1 ?_);case h1=>((try simp only[hp,r3,r4,r8,o3,o4,hmo,hpp,Int.toNat_natCast,List.length_map,go_sem])<;>rfl)))))
 refine UC_cdb (q:=decide ((i:Int) < (l.length:Int))) (by simp only[go_sem]) (fun hc=>?_) (fun hc=>?_)
 ·have hi:i < l.length:=by simpa using hc
  have hip:(0:Int)≤(i:Int):=by omega
  have hxi:=mvs_at hi
  have hw:=wrap1 (i:=i) (by omega)
  have htk:rstL A x b (l.take (i+1))=rst1 A x b (rstL A x b (l.take i)) l[i]:=by
   rw[List.take_add_one,List.getElem?_eq_getElem hi]
   simp only[rstL,Option.toList_some,List.foldl_append,List.foldl_cons,List.foldl_nil]
  have hmi:=hmk l[i] (List.getElem_mem hi)
  generalize l[i]=m at hxi htk hmi
  generalize rstL A x b (l.take i)=L at r7 ho hln htk
  have hto:m.to < A.sets.length:=by rw[← hW.la];exact hmi.to
  have hst:=st_at hto
  have htp:(0:Int)≤(m.to:Int):=by omega
  have hhas:=rhas_pu (stAt A m.to) (st_w hW hto) b hb
  have hmay:=rmay_pu hW hr hmi
  cases hv:mayF A x m with
  | none =>
   rw[hv] at hmay
   have htk:rstL A x b (l.take (i+1))=L:=by rw[htk];simp [rst1,hv]
   (repeat (with_reducible (first|refine U_nil ?_|refine UC_sq ?_|refine UC_rg ?_|refine UC_bk ?_|refine UC_sk ?_|refine X_nx ?_|((first|refine U_q (v:=?_) ?h1 ?_|refine U_ld (v:=?_) ?h1 ?_|refine U_alc (n:=?_) ?h1 ?_);case h1=>((try simp only[hp,r3,r4,r8,o3,o4,hmo,hpp,hip,hxi,Int.toNat_natCast,go_sem])<;>rfl))|(refine U_sto (id:=?_) (i:=?_) (j:=?_) (q:=?_) (es:=?_) (cs:=?_) (vs:=?_) (es':=?_) ?h1 ?h2 ?h3 ?h4 ?h5 ?h6 ?h7 ?_;case h1|h2|h3|h4|h5|h6|h7=>((try simp only[hp,r3,r4,r8,o3,o4,hmo,hpp,hip,hxi,Int.toNat_natCast,go_sem])<;>rfl)))))
   (refine U_pcr (r:=.tp [.ag (cfC noC),.bo false]) hmay ?h1 ?h2 rfl ?_;(case h1=>((try simp only[r3,r4,go_sem])<;>rfl));(case h2=>simp only[r3,r4,List.all_cons,List.all_nil,Bool.and_true,go_sem]))
   (repeat (with_reducible (first|refine U_nil ?_|refine UC_sq ?_|refine UC_rg ?_|refine UC_sk ?_|refine X_nx ?_|refine B_nx ?_|((first|refine U_q (v:=?_) ?h1 ?_|refine U_alc (n:=?_) ?h1 ?_);case h1=>((try simp only[r8,hw,go_sem])<;>rfl))|(refine U_sto (id:=?_) (i:=?_) (j:=?_) (q:=?_) (es:=?_) (cs:=?_) (vs:=?_) (es':=?_) ?h1 ?h2 ?h3 ?h4 ?h5 ?h6 ?h7 ?_;case h1|h2|h3|h4|h5|h6|h7=>((try simp only[r8,hw,go_sem])<;>rfl))|(refine U_gs2 ?h1 ?_;case h1=>((try simp only[r8,hw,go_sem])<;>rfl))|(refine UC_cdf ?h1 ?_;case h1=>((try simp only[r8,hw,go_sem])<;>rfl))|rw[put_some])))
   refine⟨r - 1,by omega,i+1,by omega,by simp only[r2,go_sem],by simp only[r3,go_sem],by simp only[r4,go_sem],by simp only[go_sem],by rw[htk];simp only[r7,go_sem],?_,by simp only[o3,go_sem],by simp only[o4,go_sem]⟩
   rw[htk];(repeat (first|with_reducible assumption|((with_reducible first|refine Own.up ?hh ?_|refine Own.sw ?hh ?_|refine Own.swN ?hh ?_);(case hh=>rfl))))
  | some y =>
   rw[hv] at hmay
   (repeat (with_reducible (first|refine U_nil ?_|refine UC_sq ?_|refine UC_rg ?_|refine UC_bk ?_|refine UC_sk ?_|refine X_nx ?_|((first|refine U_q (v:=?_) ?h1 ?_|refine U_ld (v:=?_) ?h1 ?_|refine U_alc (n:=?_) ?h1 ?_);case h1=>((try simp only[hp,r3,r4,r8,o3,o4,hmo,hpp,hip,hxi,Int.toNat_natCast,go_sem])<;>rfl))|(refine U_sto (id:=?_) (i:=?_) (j:=?_) (q:=?_) (es:=?_) (cs:=?_) (vs:=?_) (es':=?_) ?h1 ?h2 ?h3 ?h4 ?h5 ?h6 ?h7 ?_;case h1|h2|h3|h4|h5|h6|h7=>((try simp only[hp,r3,r4,r8,o3,o4,hmo,hpp,hip,hxi,Int.toNat_natCast,go_sem])<;>rfl)))))
   (refine U_pcr (r:=.tp [.ag (cfC y),.bo true]) hmay ?h1 ?h2 rfl ?_;(case h1=>((try simp only[r3,r4,go_sem])<;>rfl));(case h2=>simp only[r3,r4,List.all_cons,List.all_nil,Bool.and_true,go_sem]))
   (repeat (with_reducible (first|refine U_nil ?_|refine UC_sq ?_|refine UC_rg ?_|refine X_nx ?_|((first|refine U_q (v:=?_) ?h1 ?_|refine U_ld (v:=?_) ?h1 ?_|refine U_alc (n:=?_) ?h1 ?_);case h1=>((try simp only[r2,r3,o3,htp,hst,hwb,Int.toNat_natCast,go_sem])<;>rfl))|(refine U_sto (id:=?_) (i:=?_) (j:=?_) (q:=?_) (es:=?_) (cs:=?_) (vs:=?_) (es':=?_) ?h1 ?h2 ?h3 ?h4 ?h5 ?h6 ?h7 ?_;case h1|h2|h3|h4|h5|h6|h7=>((try simp only[r2,r3,o3,htp,hst,hwb,Int.toNat_natCast,go_sem])<;>rfl))|(refine U_gt ?h1 ?_;case h1=>((try simp only[r2,r3,o3,htp,hst,hwb,Int.toNat_natCast,go_sem])<;>rfl)))))
   (refine U_pcr (r:=.bo (bitOf (stAt A m.to) b)) hhas ?h1 ?h2 rfl ?_;(case h1=>((try simp only[hwb,r2,go_sem])<;>rfl));(case h2=>simp only[hwb,r2,List.all_cons,List.all_nil,Bool.and_true,go_sem]))
   cases hbt:bitOf (stAt A m.to) b with
   | false =>
    have htk:rstL A x b (l.take (i+1))=L:=by rw[htk];simp [rst1,hv,hbt]
    (repeat (with_reducible (first|refine U_nil ?_|refine UC_rg ?_|refine UC_sk ?_|refine X_nx ?_|refine B_nx ?_|(refine U_q (v:=?_) ?h1 ?_;case h1=>((try simp only[r8,hw,go_sem])<;>rfl))|(refine U_gs2 ?h1 ?_;case h1=>((try simp only[r8,hw,go_sem])<;>rfl))|(refine UC_cdf ?h1 ?_;case h1=>((try simp only[r8,hw,go_sem])<;>rfl))|rw[put_some])))
    refine⟨r - 1,by omega,i+1,by omega,by simp only[r2,go_sem],by simp only[r3,go_sem],by simp only[r4,go_sem],by simp only[go_sem],by rw[htk];simp only[r7,go_sem],?_,by simp only[o3,go_sem],by simp only[o4,go_sem]⟩
    rw[htk];(repeat (first|with_reducible assumption|((with_reducible first|refine Own.up ?hh ?_|refine Own.sw ?hh ?_|refine Own.swN ?hh ?_);(case hh=>rfl))))
   | true =>
    have hhc:=hasc_pu y L (by omega)
    (repeat (with_reducible (first|((first|refine U_q (v:=?_) ?h1 ?_|refine U_ld (v:=?_) ?h1 ?_);case h1=>((try simp only[r7,go_sem])<;>rfl))|(refine U_gt ?h1 ?_;case h1=>((try simp only[r7,go_sem])<;>rfl)))))
    refine U_pc (vs:=[ownV 61 5 (L.map cfC),.ag (cfC y)]) (ws:=[.sl (L.map cfC),.ag (cfC y)]) (r:=.bo (decide (y∈L))) (by simp only[r7,go_sem]) (fzs_own2 (by (repeat (first|with_reducible assumption|((with_reducible first|refine Own.up ?hh ?_|refine Own.sw ?hh ?_|refine Own.swN ?hh ?_);(case hh=>rfl)))))) (Bool.or_eq_true_iff.2 (.inr rfl)) rfl hhc ?_
    by_cases hy:y∈L
    ·have d1:decide (y∈L)=true:=by simpa using hy
     have htk:rstL A x b (l.take (i+1))=L:=by rw[htk];simp [rst1,hv,hy]
     (repeat (with_reducible (first|refine U_nil ?_|refine UC_rg ?_|refine UC_sk ?_|refine X_nx ?_|refine B_nx ?_|(refine U_q (v:=?_) ?h1 ?_;case h1=>((try simp only[d1,r8,hw,go_sem])<;>rfl))|(refine U_gt ?h1 ?_;case h1=>((try simp only[d1,r8,hw,go_sem])<;>rfl))|(refine UC_cdf ?h1 ?_;case h1=>((try simp only[d1,r8,hw,go_sem])<;>rfl)))))
     refine⟨r - 1,by omega,i+1,by omega,by simp only[r2,go_sem],by simp only[r3,go_sem],by simp only[r4,go_sem],by simp only[go_sem],by rw[htk];simp only[r7,go_sem],?_,by simp only[o3,go_sem],by simp only[o4,go_sem]⟩
     rw[htk];(repeat (first|with_reducible assumption|((with_reducible first|refine Own.up ?hh ?_|refine Own.sw ?hh ?_|refine Own.swN ?hh ?_);(case hh=>rfl))))
    ·have d1:decide (y∈L)=false:=by simpa using hy
     have htk:rstL A x b (l.take (i+1))=L++[y]:=by rw[htk];simp [rst1,hv,hbt,hy]
     (repeat (with_reducible (first|refine U_nil ?_|refine UC_rg ?_|refine X_nx ?_|((first|refine U_q (v:=?_) ?h1 ?_|refine U_ld (v:=?_) ?h1 ?_);case h1=>((try simp only[d1,r7,go_sem])<;>rfl))|(refine U_bsl (es:=?_) (es':=?_) ?h1 ?h2 ?h3 ?_;case h1|h2|h3=>((try simp only[d1,r7,go_sem])<;>rfl))|(refine U_gt ?h1 ?_;case h1=>((try simp only[d1,r7,go_sem])<;>rfl))|(refine UC_cdt ?h1 ?_;case h1=>((try simp only[d1,r7,go_sem])<;>rfl)))))
     refine U_appo 61 (L:=L.map cfC) (ys:=[cfC y]) (by simp only[r7,go_sem]) ?_ (by (simp only[src,go_sem]<;>rfl)) (by simp [cf_len]) (by simp) (by omega) ⟨by simp;omega,by omega⟩ (swpR_cls _ ho.c) rfl ?_
     ·exact Own.h (by (repeat (first|with_reducible assumption|((with_reducible first|refine Own.up ?hh ?_|refine Own.sw ?hh ?_|refine Own.swN ?hh ?_);(case hh=>rfl)))))
     (repeat (with_reducible (first|refine U_nil ?_|refine UC_rg ?_|refine X_nx ?_|refine B_nx ?_|(refine U_q (v:=?_) ?h1 ?_;case h1=>((try simp only[r8,hw,go_sem])<;>rfl)))))
     refine⟨r - 1,by omega,i+1,by omega,by simp only[r2,go_sem],by simp only[r3,go_sem],by simp only[r4,go_sem],by simp only[go_sem],by simp only[htk,List.map_append,go_sem],?_,by simp only[o3,go_sem],by simp only[o4,go_sem]⟩
     rw[htk,List.map_append]
     exact Own.to (by have:=cf_cls (L++[y]);rw[List.map_append] at this;exact this)
 ·have hi:i=l.length:=by
   have:¬ i < l.length:=by simpa using hc
   omega
  subst hi
  rw[List.take_length] at r7 ho
  (repeat (with_reducible (first|refine U_nil ?_|refine UC_sq ?_|refine UC_rg ?_|refine UC_ex ?_|refine UC_rt ?_|refine X_nx ?_|refine X_ex ?_|refine B_self ?_|((first|refine U_q (v:=?_) ?h1 ?_|refine E_1 (v:=?_) ?h1 ?_);case h1=>((try simp only[r7,go_sem])<;>rfl)))))
  exact frz_own ho (fza_cf _) 22
end Go.Proofs.YtgiedknghbpdfaaGreat
