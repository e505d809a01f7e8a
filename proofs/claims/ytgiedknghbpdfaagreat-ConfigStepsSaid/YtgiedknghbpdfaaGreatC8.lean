import Derived.Test.YtgiedknghbpdfaaGreatC7

namespace Go.Proofs.YtgiedknghbpdfaaGreat
set_option linter.all false
attribute [-go_sem] swpOb renOb rfOb V.cells
theorem okf_tpau (A:Au) (b:Bool):okf FZ (.tp [.ag (auC A),.bo b])=true:=by obtain⟨⟨ak,as_,ap,al,ah⟩,S,Cs,R,Fi,Mo,La,Em⟩:=A;rfl
theorem clos_cel (n:Nd):clos [.ag (cel n)]=true:=by simp only[clos,List.all_cons,List.all_nil,Bool.and_true,go_sem]
theorem fzs_cel (n:Nd) (o:O):fzsU o [.ag (cel n)]=some [.ag (cel n)]:=fzsU_ok (by simp only[List.all_cons,List.all_nil,Bool.and_true,go_sem])
theorem auto_big (n:Nd) (hs:small n) (hb:sizeF n 80 > 80):Pu F 9 [.ag (cel n)] (.tp [.ag (auC noA),.bo false]):=by
 have hsz:Pu F 27 [.ag (cel n),.i .i64 80] (.i .i64 (sizeF n 80)):=size_ok n hs 80 (by omega) (by omega) emp _ (fun _=>rfl)
 have hA1:decide (sizeF n 80 > 80)=true:=by simpa using hb
 refine U_pure e9 rfl rfl (by simp only[go_sem,Bool.and_true]) ?_
 dsimp only[fn9,c9]
 (repeat' (first|(with_reducible (first|refine U_nil ?_|refine UC_sq ?_|refine UC_rg ?_|refine UC_rt ?_|refine X_nx ?_|refine X_rt ?_|((first|refine U_q (v:=?_) ?h1 ?_|refine U_ld (v:=?_) ?h1 ?_|refine U_alc (n:=?_) ?h1 ?_);case h1=>((try simp only[hA1,go_sem])<;>rfl))|(refine U_box (cs:=?_) (cs':=?_) (n:=?_) ?h1 ?h2 ?h3 ?h4 ?_;case h1|h2|h3|h4=>((try simp only[hA1,go_sem])<;>rfl))|(refine U_sto (id:=?_) (i:=?_) (j:=?_) (q:=?_) (es:=?_) (cs:=?_) (vs:=?_) (es':=?_) ?h1 ?h2 ?h3 ?h4 ?h5 ?h6 ?h7 ?_;case h1|h2|h3|h4|h5|h6|h7=>((try simp only[hA1,go_sem])<;>rfl))|(refine UC_cdt ?h1 ?_;case h1=>((try simp only[hA1,go_sem])<;>rfl))|(refine E_2 (v:=?_) (u:=?_) ?h1 ?h2 ?_;case h1|h2=>((try simp only[hA1,go_sem])<;>rfl))))|((with_reducible refine U_pc (g:=27) (r:=.i .i64 (sizeF n 80)) (vs:=?_) (ws:=?_) ?h1 ?h2 ?h3 ?h4 ?h5 ?_);(case h1=>((try simp only[hA1,go_sem])<;>rfl));(case h2=>refine fzsU_ok ?_;first|rfl|simp only[List.all_cons,List.all_nil,Bool.and_true,go_sem]);(case h5=>exact hsz);(case h3=>first|exact Bool.or_eq_true_iff.2 (.inr rfl)|(refine Bool.or_eq_true_iff.2 (.inl ?_);simp only[clos,List.all_cons,List.all_nil,Bool.and_true,go_sem]));(case h4=>first|rfl|simp only[go_sem,Bool.and_true]))|with_reducible (refine U_gb (q:=?_) ?h1 (fun _=>?_) (fun _=>?_);case h1=>((try simp only[hA1,go_sem])<;>rfl))|with_reducible (refine UC_cdb (q:=?_) ?h1 (fun _=>?_) (fun _=>?_);case h1=>((try simp only[hA1,go_sem])<;>rfl))))
 rfl
theorem auto_of (n:Nd) (hs:small n) (hb:¬ sizeF n 80 > 80) {A:Au} {er:Int} (hM:Pu F 28 [.ag (cel n)] (.tp [.ag (auC A),.i .i64 er])):Pu F 9 [.ag (cel n)] (.tp [.ag (auC A),.bo (er==0)]):=by
 have hsz:Pu F 27 [.ag (cel n),.i .i64 80] (.i .i64 (sizeF n 80)):=size_ok n hs 80 (by omega) (by omega) emp _ (fun _=>rfl)
 have hA1:decide (sizeF n 80 > 80)=false:=by simpa using hb
 refine U_pure e9 rfl rfl (by simp only[go_sem,Bool.and_true]) ?_
 dsimp only[fn9,c9]
 (repeat' (first|(with_reducible (first|refine U_nil ?_|refine UC_sq ?_|refine UC_rg ?_|refine UC_sk ?_|refine X_nx ?_|((first|refine U_q (v:=?_) ?h1 ?_|refine U_ld (v:=?_) ?h1 ?_|refine U_alc (n:=?_) ?h1 ?_);case h1=>((try simp only[hA1,go_sem])<;>rfl))|(refine U_box (cs:=?_) (cs':=?_) (n:=?_) ?h1 ?h2 ?h3 ?h4 ?_;case h1|h2|h3|h4=>((try simp only[hA1,go_sem])<;>rfl))|(refine UC_cdf ?h1 ?_;case h1=>((try simp only[hA1,go_sem])<;>rfl))))|((with_reducible refine U_pc (g:=27) (r:=.i .i64 (sizeF n 80)) (vs:=?_) (ws:=?_) ?h1 ?h2 ?h3 ?h4 ?h5 ?_);(case h1=>((try simp only[hA1,go_sem])<;>rfl));(case h2=>refine fzsU_ok ?_;first|rfl|simp only[List.all_cons,List.all_nil,Bool.and_true,go_sem]);(case h5=>exact hsz);(case h3=>first|exact Bool.or_eq_true_iff.2 (.inr rfl)|(refine Bool.or_eq_true_iff.2 (.inl ?_);simp only[clos,List.all_cons,List.all_nil,Bool.and_true,go_sem]));(case h4=>first|rfl|simp only[go_sem,Bool.and_true]))|with_reducible (refine U_gb (q:=?_) ?h1 (fun _=>?_) (fun _=>?_);case h1=>((try simp only[hA1,go_sem])<;>rfl))|with_reducible (refine UC_cdb (q:=?_) ?h1 (fun _=>?_) (fun _=>?_);case h1=>((try simp only[hA1,go_sem])<;>rfl))))
 refine U_pc (vs:=[.ag (cel n)]) (ws:=[.ag (cel n)]) (by simp only[go_sem]) (fzs_cel n _) (Bool.or_eq_true_iff.2 (.inl (clos_cel n))) (by simp only[Bool.and_true,go_sem]) hM ?_
 (repeat (with_reducible (first|refine U_nil ?_|refine UC_sq ?_|refine UC_rg ?_|refine UC_rt ?_|refine X_nx ?_|((first|refine U_q (v:=?_) ?h1 ?_|refine U_ld (v:=?_) ?h1 ?_|refine U_alc (n:=?_) ?h1 ?_);case h1=>((try simp only[go_sem])<;>rfl))|(refine U_sto (id:=?_) (i:=?_) (j:=?_) (q:=?_) (es:=?_) (cs:=?_) (vs:=?_) (es':=?_) ?h1 ?h2 ?h3 ?h4 ?h5 ?h6 ?h7 ?_;case h1|h2|h3|h4|h5|h6|h7=>((try simp only[go_sem])<;>rfl))|(refine E_2 (v:=?_) (u:=?_) ?h1 ?h2 ?_;case h1|h2=>((try simp only[go_sem])<;>rfl)))))
 exact fz_of rfl (okf_tpau A _)
theorem auto_pu (n:Nd) (hs:small n):∃ (A:Au) (ok:Bool),Pu F 9 [.ag (cel n)] (.tp [.ag (auC A),.bo ok])∧(ok=true→A=makeT (simpleN n)∧formed (simpleN n)=true∧WF A∧(∀ l∈A.moves,l.length < 2147483648)∧cntN n≤80):=by
 by_cases hb:sizeF n 80 > 80
 ·exact⟨noA,false,auto_big n hs hb,fun h=>by cases h⟩
 ·have hc:cntN n≤80:=by
   have:=sizeF_cnt n 80 (by omega) (by omega)
   omega
  obtain⟨A,er,hM,h⟩:=make_pu n hs (by omega)
  refine⟨A,er==0,auto_of n hs hb hM,fun h0=>?_⟩
  rcases h with⟨h1,_⟩|⟨h1,h2,h3,h4,h5,h6⟩
  ·exact absurd (by simpa using h0) h1
  ·exact⟨h4,h3,h5,h6,hc⟩
def twoS:Nat→Nat:=fun j=>if j=0 then 2 else 0
def twoT:Nd:=.mk 1 twoS [] 0 0
theorem two_ok:okN twoT:=⟨⟨fun j _=>by unfold twoS;split<;>omega,by simp,by simp [smallL]⟩,rfl⟩
theorem two_simple:simpleN twoT=twoT:=rfl
theorem two_wk:wk twoT 0 0 []=⟨[1],[1],false,1,[]⟩:=rfl
theorem two_first:(makeT twoT).first=[1]:=by
 have h1:srtN [1]=[1]:=by simp [srtN]
 simp only[makeT,two_wk,h1]
theorem two_wf:WF (makeT twoT):=makeT_wf _ rfl two_ok.1 rfl
theorem two_auto:Pu F 9 [.ag (cel twoT)] (.tp [.ag (auC (makeT twoT)),.bo true]):=by
 have:=auto_of twoT two_ok.1 (by decide) (make_ok twoT two_ok (by decide) rfl)
 rw[two_simple] at this;exact this
def twoC:Cf:=⟨1,0,0,0,0⟩
theorem sd_one (x:Cf):sdC [x]=[x]:=by simp [sdC,srtC,cmpC,cp]
theorem two_beg:begF (makeT twoT) 1=[twoC]:=by
 have h1:bitOf (stAt (makeT twoT) 1) 1=true:=rfl
 have h2:begL (makeT twoT) 1 [1]=[twoC]:=by
  simp only[begL,List.filter_cons,h1,if_true,List.filter_nil,List.map_cons,List.map_nil]
  rfl
 rw[begF,two_first,h2,sd_one]
theorem two_right:rightB (makeT twoT) twoC=true:=by rfl
theorem two_acc:accB (makeT twoT) twoC=true:=by rfl
theorem cawake_pu:Pu F 8 [] (.bo true):=by
 have hA:=two_auto
 have hB:=begin_pu two_wf (by rw[two_first];simp) (b:=1) (by omega)
 rw[two_beg] at hB
 have hR:=right_pu two_wf twoC
 rw[two_right] at hR
 have hC:=acc_pu two_wf twoC
 rw[two_acc] at hC
 have hcel:V.ag (cel twoT)=.ag [.i .i64 1,.i .u64 2,.i .u64 0,.i .u64 0,.i .u64 0,.sl [],.i .i64 0,.i .i64 0]:=rfl
 rw[hcel] at hA
 have hfl:(V.sl ((makeT twoT).first.map inC))=.sl [[.i .i64 1]]:=by rw[two_first];rfl
 generalize makeT twoT=A at hA hB hR hC hfl
 have hB':Pu F 17 [.ag (auC A),.i .u8 1] (.sl [cfC twoC]):=hB
 refine U_pure e8 rfl rfl (by simp only[go_sem,Bool.and_true]) ?_
 dsimp only[fn8,c8]
 (repeat (with_reducible (first|refine U_nil ?_|refine UC_sq ?_|refine UC_rg ?_|refine X_nx ?_|(refine U_q (v:=?_) ?h1 ?_;case h1=>((try simp only[go_sem])<;>rfl)))))
 refine U_pc (ws:=[.ag [.i .i64 1,.i .u64 2,.i .u64 0,.i .u64 0,.i .u64 0,.sl [],.i .i64 0,.i .i64 0]]) (by (simp only[go_sem]<;>rfl)) rfl (Bool.or_eq_true_iff.2 (.inl ?_)) ?_ hA ?_
 ·rfl
 ·simp only[Bool.and_true,go_sem]
 (repeat (with_reducible (first|refine U_nil ?_|refine UC_sq ?_|refine UC_rg ?_|refine UC_sk ?_|refine X_nx ?_|((first|refine U_q (v:=?_) ?h1 ?_|refine U_ld (v:=?_) ?h1 ?_|refine U_alc (n:=?_) ?h1 ?_);case h1=>((try simp only[hfl,go_sem])<;>rfl))|(refine U_sto (id:=?_) (i:=?_) (j:=?_) (q:=?_) (es:=?_) (cs:=?_) (vs:=?_) (es':=?_) ?h1 ?h2 ?h3 ?h4 ?h5 ?h6 ?h7 ?_;case h1|h2|h3|h4|h5|h6|h7=>((try simp only[hfl,go_sem])<;>rfl))|(refine U_gt ?h1 ?_;case h1=>((try simp only[hfl,go_sem])<;>rfl))|(refine UC_cdf ?h1 ?_;case h1=>((try simp only[hfl,go_sem])<;>rfl)))))
 (refine U_pc (g:=17) (r:=.sl [cfC twoC]) (vs:=?_) (ws:=?_) ?h1 ?h2 ?h3 ?h4 ?h5 ?_;(case h1=>((try simp only[go_sem])<;>rfl));(case h2=>refine fzsU_ok ?_;first|rfl|simp only[List.all_cons,List.all_nil,Bool.and_true,go_sem]);(case h5=>exact hB');(case h3=>first|exact Bool.or_eq_true_iff.2 (.inr rfl)|(refine Bool.or_eq_true_iff.2 (.inl ?_);simp only[clos,List.all_cons,List.all_nil,Bool.and_true,go_sem]));(case h4=>first|rfl|simp only[go_sem,Bool.and_true]))
 (repeat (with_reducible (first|refine U_nil ?_|refine UC_sq ?_|refine UC_rg ?_|refine X_nx ?_|((first|refine U_q (v:=?_) ?h1 ?_|refine U_ld (v:=?_) ?h1 ?_);case h1=>((try simp only[go_sem])<;>rfl))|(refine U_gt ?h1 ?_;case h1=>((try simp only[go_sem])<;>rfl)))))
 (refine U_pcr (r:=.bo true) hR ?h1 ?h2 rfl ?_;(case h1=>((try simp only[go_sem])<;>rfl));(case h2=>simp only[List.all_cons,List.all_nil,Bool.and_true,go_sem]))
 (repeat (with_reducible (first|((first|refine U_q (v:=?_) ?h1 ?_|refine U_ld (v:=?_) ?h1 ?_);case h1=>((try simp only[go_sem])<;>rfl))|(refine U_gt ?h1 ?_;case h1=>((try simp only[go_sem])<;>rfl)))))
 (refine U_pcr (r:=.bo true) hC ?h1 ?h2 rfl ?_;(case h1=>((try simp only[go_sem])<;>rfl));(case h2=>simp only[List.all_cons,List.all_nil,Bool.and_true,go_sem]))
 (repeat (with_reducible (first|refine U_nil ?_|refine UC_rt ?_|refine X_nx ?_|((first|refine U_q (v:=?_) ?h1 ?_|refine E_1 (v:=?_) ?h1 ?_);case h1=>((try simp only[go_sem])<;>rfl)))))
 rfl
theorem u64_nat (n:Int):∃ m:Nat,IntKind.u64.wrap n=m:=⟨(n % 18446744073709551616).toNat,by
 simp [IntKind.wrap,IntKind.bits,IntKind.signed];omega⟩
theorem tmod_nat (a b:Nat):(a:Int).tmod (b:Int)=((a % b:Nat):Int):=by
 rw[Int.tmod_eq_emod_of_nonneg (by omega)];exact (Int.natCast_emod a b).symm
def nearV (c:Int) (s:Int × Int):Int:=IntKind.i64.wrap (1+IntKind.i64.wrap ((IntKind.u64.wrap c).tmod (if s.2 > s.1 then s.2 else s.1)))
def nearI (p:Nat) (x:Cf) (ss:List (Int × Int)):Nat→Cf
 | 0=>⟨p,0,0,0,0⟩
 | i+1=>(nearI p x ss i).setC i (nearV (x.c i) ((ss[i]?).getD (0,0)))
def nearC (A:Au) (x:Cf) (as':Bool):Cf :=
 if as'=false∨A.around.length < 2 then x
 else nearI ((IntKind.u64.wrap x.p).toNat % (A.around.length - 1)+1) x (scAt A ((IntKind.u64.wrap x.p).toNat % (A.around.length - 1)+1)) (arAt A ((IntKind.u64.wrap x.p).toNat % (A.around.length - 1)+1)).length
theorem nearI_p (p:Nat) (x:Cf) (ss:List (Int × Int)):∀ i,(nearI p x ss i).p=p
 | 0=>rfl
 | i+1=>nearI_p p x ss i
set_option maxHeartbeats 1000000 in
theorem near_pu {A:Au} (hW:WF A) (x:Cf) (as':Bool):Pu F 10 [.ag (auC A),.ag (cfC x),.bo as'] (.ag (cfC (nearC A x as'))):=by
 have hlen:A.around.length≤41:=by rw[hW.la];exact hW.n
 by_cases h0:as'=false∨A.around.length < 2
 ·rw[nearC,if_pos h0]
  refine U_pure e10 rfl rfl (by simp only[go_sem,Bool.and_true]) ?_
  dsimp only[fn10,c10]
  cases as' with
  | false =>
   (repeat (with_reducible (first|refine U_nil ?_|refine UC_sq ?_|refine UC_rg ?_|refine UC_rt ?_|refine X_nx ?_|refine X_rt ?_|((first|refine U_q (v:=?_) ?h1 ?_|refine U_ld (v:=?_) ?h1 ?_|refine E_1 (v:=?_) ?h1 ?_|refine U_alc (n:=?_) ?h1 ?_);case h1=>((try simp only[go_sem])<;>rfl))|(refine U_box (cs:=?_) (cs':=?_) (n:=?_) ?h1 ?h2 ?h3 ?h4 ?_;case h1|h2|h3|h4=>((try simp only[go_sem])<;>rfl))|(refine U_sto (id:=?_) (i:=?_) (j:=?_) (q:=?_) (es:=?_) (cs:=?_) (vs:=?_) (es':=?_) ?h1 ?h2 ?h3 ?h4 ?h5 ?h6 ?h7 ?_;case h1|h2|h3|h4|h5|h6|h7=>((try simp only[go_sem])<;>rfl))|(refine U_gs1 ?h1 ?_;case h1=>((try simp only[go_sem])<;>rfl))|(refine UC_cdt ?h1 ?_;case h1=>((try simp only[go_sem])<;>rfl)))))
   exact fz_of (by simp) rfl
  | true =>
   have h1:A.around.length < 2:=by rcases h0 with h|h;cases h;exact h
   have c1:decide ((A.around.length:Int) < 2)=true:=by simp;omega
   (repeat (with_reducible (first|refine U_nil ?_|refine UC_sq ?_|refine UC_rg ?_|refine UC_rt ?_|refine X_nx ?_|refine X_rt ?_|((first|refine U_q (v:=?_) ?h1 ?_|refine U_ld (v:=?_) ?h1 ?_|refine E_1 (v:=?_) ?h1 ?_|refine U_alc (n:=?_) ?h1 ?_);case h1=>((try simp only[c1,List.length_map,go_sem])<;>rfl))|(refine U_box (cs:=?_) (cs':=?_) (n:=?_) ?h1 ?h2 ?h3 ?h4 ?_;case h1|h2|h3|h4=>((try simp only[c1,List.length_map,go_sem])<;>rfl))|(refine U_sto (id:=?_) (i:=?_) (j:=?_) (q:=?_) (es:=?_) (cs:=?_) (vs:=?_) (es':=?_) ?h1 ?h2 ?h3 ?h4 ?h5 ?h6 ?h7 ?_;case h1|h2|h3|h4|h5|h6|h7=>((try simp only[c1,List.length_map,go_sem])<;>rfl))|(refine U_gt ?h1 ?_;case h1=>((try simp only[c1,List.length_map,go_sem])<;>rfl))|(refine UC_cdt ?h1 ?_;case h1=>((try simp only[c1,List.length_map,go_sem])<;>rfl)))))
   exact fz_of (by simp) rfl
 rw[nearC,if_neg h0]
 obtain⟨rfl,h2⟩:as'=true∧2≤A.around.length:=by
  cases as'
  ·exact absurd (.inl rfl) h0
  ·exact⟨rfl,by omega⟩
 clear h0
 have c1:decide ((A.around.length:Int) < 2)=false:=by simp;omega
 obtain⟨u,hu⟩:=u64_nat x.p
 have hun:(IntKind.u64.wrap x.p).toNat=u:=by rw[hu];simp
 rw[hun]
 obtain⟨m,hm⟩:∃ m,m=A.around.length - 1:=⟨_,rfl⟩
 rw[← hm]
 have hm1:1≤m:=by omega
 have w1:IntKind.i64.wrap ((A.around.length:Int) - 1)=(m:Int):=by rw[wrap_i64 (by omega) (by omega)];omega
 have w2:IntKind.u64.wrap (m:Int)=(m:Int):=wrap_u64 (by omega) (by omega)
 have w3:(((m:Int))=0)=False:=by simp;omega
 have hq:u % m < m:=Nat.mod_lt _ (by omega)
 have w4:IntKind.i64.wrap (((u % m:Nat)):Int)=((u % m:Nat):Int):=wrap_i64 (by omega) (by omega)
 have w5:IntKind.i64.wrap (1+((u % m:Nat):Int))=((u % m+1:Nat):Int):=by rw[wrap_i64 (by omega) (by omega)];omega
 have hpl:u % m+1 < A.around.length:=by omega
 have wt:=tmod_nat u m
 have hss:∀ (i:Nat) (h:i < (arAt A (u % m+1)).length),((scAt A (u % m+1))[i]?).getD (0,0)=scI A (arAt A (u % m+1))[i]:=fun i h=>by rw[scAt_get h];rfl
 generalize u % m+1=p at w5 hpl hss
 generalize u % m=q at w4 w5 wt
 have hra:=ar_at hpl
 have hpp:(0:Int)≤(p:Int):=by omega
 have h4:=ar_4 hW hpl
 have hlt:∀ i∈arAt A p,i < A.scopes.length:=fun i hi=>ar_lt hW hpl hi
 generalize arAt A p=l at hra h4 hlt hss
 generalize scAt A p=ss at hss
 refine U_pure e10 rfl rfl (by simp only[go_sem,Bool.and_true]) ?_
 dsimp only[fn10,c10]
 (repeat (with_reducible (first|refine U_nil ?_|refine UC_sq ?_|refine UC_rg ?_|refine UC_bk ?_|refine UC_sk ?_|refine X_nx ?_|((first|refine U_q (v:=?_) ?h1 ?_|refine U_ld (v:=?_) ?h1 ?_|refine U_alc (n:=?_) ?h1 ?_);case h1=>((try simp only[c1,hu,w1,w2,w3,wt,w4,w5,List.length_map,go_sem])<;>rfl))|(refine U_box (cs:=?_) (cs':=?_) (n:=?_) ?h1 ?h2 ?h3 ?h4 ?_;case h1|h2|h3|h4=>((try simp only[c1,hu,w1,w2,w3,wt,w4,w5,List.length_map,go_sem])<;>rfl))|(refine U_sto (id:=?_) (i:=?_) (j:=?_) (q:=?_) (es:=?_) (cs:=?_) (vs:=?_) (es':=?_) ?h1 ?h2 ?h3 ?h4 ?h5 ?h6 ?h7 ?_;case h1|h2|h3|h4|h5|h6|h7=>((try simp only[c1,hu,w1,w2,w3,wt,w4,w5,List.length_map,go_sem])<;>rfl))|(refine U_gt ?h1 ?_;case h1=>((try simp only[c1,hu,w1,w2,w3,wt,w4,w5,List.length_map,go_sem])<;>rfl))|(refine UC_cdf ?h1 ?_;case h1=>((try simp only[c1,hu,w1,w2,w3,wt,w4,w5,List.length_map,go_sem])<;>rfl)))))
 refine U_lp (fun r e o=>∃ i:Nat,i+r=l.length∧e 3=.pt 3 0 0∧e 4=.pt 4 0 0∧e 6=.pt 6 0 0∧e 7=.pt 7 0 0∧e 8=.i .i64 i∧o 3=some (.row 15 [auC A])∧o 4=some (.row 5 [cfC x])∧o 6=some (.row 5 [cfC noC])∧o 7=some (.row 5 [cfC (nearI p x ss i)])) (k:=l.length) ?_ (Call_le F) ?_
 ·exact⟨0,by omega,by simp only[go_sem],by simp only[go_sem],by simp only[go_sem],by simp only[go_sem],by (simp only[go_sem]<;>rfl),by simp only[go_sem],by simp only[go_sem],by (simp only[go_sem]<;>rfl),by (simp only[go_sem]<;>rfl)⟩
 rintro r e o ⟨i,hir,r3,r4,r6,r7,r8,o3,o4,o6,o7⟩
 dsimp only[b10_0]
 have hnp:=nearI_p p x ss i
 by_cases hi:i < l.length
 ·have hi4:i < 4:=by omega
  have hip:(0:Int)≤(i:Int):=by omega
  have hi4':((i:Int) < 4)=True:=by simp;omega
  have d1:decide ((i:Int) < (l.length:Int))=true:=by simp;omega
  have d2:decide ((i:Int) < 4)=true:=by simp;omega
  have hw:=wrap1 (i:=i) (by omega)
  have hxi:=cf_get x hi4
  have hli:=in_at hi
  have hlp:(0:Int)≤(l[i]:Int):=by omega
  have hsi:=sc_at (hlt l[i] (List.getElem_mem hi))
  have hok:=scI_ok hW (hlt l[i] (List.getElem_mem hi))
  have hsg:=hss i hi
  generalize scI A l[i]=s at hsi hok hsg
  have hspl:∀ n,splice (1+i) [.i .i64 n] (cfC (nearI p x ss i))=cfC ((nearI p x ss i).setC i n):=fun n=>cf_spl _ n hi4
  have hle:1+i+1≤5:=by omega
  unfold scOk at hok
  have m1:IntKind.u64.wrap (if s.2 > s.1 then s.2 else s.1)=(if s.2 > s.1 then s.2 else s.1):=by split<;>exact wrap_u64 (by omega) (by omega)
  have m2:((if s.2 > s.1 then s.2 else s.1)=0)=False:=by simp only[eq_iff_iff,iff_false];split<;>omega
  have hv:IntKind.i64.wrap (1+IntKind.i64.wrap ((IntKind.u64.wrap (x.c i)).tmod (if s.2 > s.1 then s.2 else s.1)))=nearV (x.c i) s:=rfl
  have hnx:(nearI p x ss i).setC i (nearV (x.c i) s)=nearI p x ss (i+1):=by rw[nearI,hsg]
  generalize nearI p x ss i=y at o7 hnp hspl hnx
  generalize hmx:(if s.2 > s.1 then s.2 else s.1)=mx at m1 m2 hv
  (repeat (with_reducible (first|refine U_nil ?_|refine UC_sq ?_|refine UC_rg ?_|refine UC_bk ?_|refine UC_sk ?_|refine X_nx ?_|refine B_nx ?_|((first|refine U_q (v:=?_) ?h1 ?_|refine U_ld (v:=?_) ?h1 ?_|refine U_alc (n:=?_) ?h1 ?_);case h1=>((try simp only[hmx,m1,m2,hv,hspl,hnx,hle,List.set_cons_zero,hnp,r3,r4,r7,r8,o3,o4,o7,hra,hpp,d1,d2,hip,hli,hlp,hsi,hi4',hxi,hw,mxV,Int.toNat_natCast,Nat.mul_one,List.length_map,go_sem])<;>rfl))|(refine U_sto (id:=?_) (i:=?_) (j:=?_) (q:=?_) (es:=?_) (cs:=?_) (vs:=?_) (es':=?_) ?h1 ?h2 ?h3 ?h4 ?h5 ?h6 ?h7 ?_;case h1|h2|h3|h4|h5|h6|h7=>((try simp only[hmx,m1,m2,hv,hspl,hnx,hle,List.set_cons_zero,hnp,r3,r4,r7,r8,o3,o4,o7,hra,hpp,d1,d2,hip,hli,hlp,hsi,hi4',hxi,hw,mxV,Int.toNat_natCast,Nat.mul_one,List.length_map,go_sem])<;>rfl))|(refine U_gt ?h1 ?_;case h1=>((try simp only[hmx,m1,m2,hv,hspl,hnx,hle,List.set_cons_zero,hnp,r3,r4,r7,r8,o3,o4,o7,hra,hpp,d1,d2,hip,hli,hlp,hsi,hi4',hxi,hw,mxV,Int.toNat_natCast,Nat.mul_one,List.length_map,go_sem])<;>rfl))|(refine UC_cdt ?h1 ?_;case h1=>((try simp only[hmx,m1,m2,hv,hspl,hnx,hle,List.set_cons_zero,hnp,r3,r4,r7,r8,o3,o4,o7,hra,hpp,d1,d2,hip,hli,hlp,hsi,hi4',hxi,hw,mxV,Int.toNat_natCast,Nat.mul_one,List.length_map,go_sem])<;>rfl)))))
  exact⟨r - 1,by omega,i+1,by omega,by simp only[r3,go_sem],by simp only[r4,go_sem],by simp only[r6,go_sem],by simp only[r7,go_sem],by simp only[go_sem],by simp only[o3,go_sem],by simp only[o4,go_sem],by simp only[o6,go_sem],by simp only[go_sem]⟩
 ·have hi:i=l.length:=by omega
  subst hi
  have d1:decide ((l.length:Int) < (l.length:Int))=false:=by simp
  (repeat (with_reducible (first|refine U_nil ?_|refine UC_sq ?_|refine UC_rg ?_|refine UC_ex ?_|refine UC_rt ?_|refine X_nx ?_|refine X_ex ?_|refine B_self ?_|((first|refine U_q (v:=?_) ?h1 ?_|refine U_ld (v:=?_) ?h1 ?_|refine E_1 (v:=?_) ?h1 ?_);case h1=>((try simp only[hnp,r3,r6,r7,r8,o3,o6,o7,hra,hpp,d1,Int.toNat_natCast,List.length_map,go_sem])<;>rfl))|(refine U_sto (id:=?_) (i:=?_) (j:=?_) (q:=?_) (es:=?_) (cs:=?_) (vs:=?_) (es':=?_) ?h1 ?h2 ?h3 ?h4 ?h5 ?h6 ?h7 ?_;case h1|h2|h3|h4|h5|h6|h7=>((try simp only[hnp,r3,r6,r7,r8,o3,o6,o7,hra,hpp,d1,Int.toNat_natCast,List.length_map,go_sem])<;>rfl))|(refine U_gs2 ?h1 ?_;case h1=>((try simp only[hnp,r3,r6,r7,r8,o3,o6,o7,hra,hpp,d1,Int.toNat_natCast,List.length_map,go_sem])<;>rfl))|(refine UC_cdf ?h1 ?_;case h1=>((try simp only[hnp,r3,r6,r7,r8,o3,o6,o7,hra,hpp,d1,Int.toNat_natCast,List.length_map,go_sem])<;>rfl)))))
  exact fz_of (by simp) rfl
end Go.Proofs.YtgiedknghbpdfaaGreat
