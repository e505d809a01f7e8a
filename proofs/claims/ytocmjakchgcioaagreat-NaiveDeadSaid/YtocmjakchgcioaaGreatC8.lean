import Derived.Test.YtocmjakchgcioaaGreatC7

namespace Go.Proofs.YtocmjakchgcioaaGreat
set_option linter.all false
attribute [-go_sem] swpOb renOb rfOb V.cells
theorem okf_tpau (A:Au) (b:Bool):okf FZ (.tp [.ag (auC A),.bo b])=true:=by obtain⟨⟨ak,as_,ap,al,ah⟩,S,Cs,R,Fi,Mo,La,Em⟩:=A;rfl
theorem clos_cel (n:Nd):clos [.ag (cel n)]=true:=by simp only[clos,List.all_cons,List.all_nil,Bool.and_true,go_sem]
theorem fzs_cel (n:Nd) (o:O):fzsU o [.ag (cel n)]=some [.ag (cel n)]:=fzsU_ok (by simp only[List.all_cons,List.all_nil,Bool.and_true,go_sem])
theorem auto_big (n:Nd) (hs:small n) (hb:sizeF n 80 > 80):Pu F 9 [.ag (cel n)] (.tp [.ag (auC noA),.bo false]):=by
 have hsz:Pu F 18 [.ag (cel n),.i .i64 80] (.i .i64 (sizeF n 80)):=size_ok n hs 80 (by omega) (by omega) emp _ (fun _=>rfl);have hA1:decide (sizeF n 80 > 80)=true:=by simpa using hb
 refine U_pure e9 rfl rfl (by simp only[go_sem,Bool.and_true]) ?_;dsimp only[fn9,c9];(repeat' (first|(with_reducible (first|refine U_nil ?_|refine UC_sq ?_|refine UC_rg ?_|refine UC_rt ?_|refine X_nx ?_|refine X_rt ?_|((first|refine U_q (v:=?_) ?h1 ?_|refine U_ld (v:=?_) ?h1 ?_|refine U_alc (n:=?_) ?h1 ?_|refine UC_cdt ?h1 ?_);case h1=>((try simp only[hA1,go_sem])<;>rfl))|(refine U_box (cs:=?_) (cs':=?_) (n:=?_) ?h1 ?h2 ?h3 ?h4 ?_;case h1|h2|h3|h4=>((try simp only[hA1,go_sem])<;>rfl))|(refine U_sto (id:=?_) (i:=?_) (j:=?_) (q:=?_) (es:=?_) (cs:=?_) (vs:=?_) (es':=?_) ?h1 ?h2 ?h3 ?h4 ?h5 ?h6 ?h7 ?_;case h1|h2|h3|h4|h5|h6|h7=>((try simp only[hA1,go_sem])<;>rfl))|(refine E_2 (v:=?_) (u:=?_) ?h1 ?h2 ?_;case h1|h2=>((try simp only[hA1,go_sem])<;>rfl))))|((with_reducible refine U_pc (g:=18) (r:=.i .i64 (sizeF n 80)) (vs:=?_) (ws:=?_) ?h1 ?h2 ?h3 ?h4 ?h5 ?_);(case h1=>((try simp only[hA1,go_sem])<;>rfl));(case h2=>refine fzsU_ok ?_;first|rfl|simp only[List.all_cons,List.all_nil,Bool.and_true,go_sem]);(case h5=>exact hsz);(case h3=>first|exact Bool.or_eq_true_iff.2 (.inr rfl)|(refine Bool.or_eq_true_iff.2 (.inl ?_);simp only[clos,List.all_cons,List.all_nil,Bool.and_true,go_sem]));(case h4=>first|rfl|simp only[go_sem,Bool.and_true]))|with_reducible (refine U_gb (q:=?_) ?h1 (fun _=>?_) (fun _=>?_);case h1=>((try simp only[hA1,go_sem])<;>rfl))|with_reducible (refine UC_cdb (q:=?_) ?h1 (fun _=>?_) (fun _=>?_);case h1=>((try simp only[hA1,go_sem])<;>rfl))));rfl
theorem auto_of (n:Nd) (hs:small n) (hb:¬ sizeF n 80 > 80) {A:Au} {er:Int} (hM:Pu F 19 [.ag (cel n)] (.tp [.ag (auC A),.i .i64 er])):Pu F 9 [.ag (cel n)] (.tp [.ag (auC A),.bo (er==0)]):=by
 have hsz:Pu F 18 [.ag (cel n),.i .i64 80] (.i .i64 (sizeF n 80)):=size_ok n hs 80 (by omega) (by omega) emp _ (fun _=>rfl);have hA1:decide (sizeF n 80 > 80)=false:=by simpa using hb
 refine U_pure e9 rfl rfl (by simp only[go_sem,Bool.and_true]) ?_;dsimp only[fn9,c9];(repeat' (first|(with_reducible (first|refine U_nil ?_|refine UC_sq ?_|refine UC_rg ?_|refine UC_sk ?_|refine X_nx ?_|((first|refine U_q (v:=?_) ?h1 ?_|refine U_ld (v:=?_) ?h1 ?_|refine U_alc (n:=?_) ?h1 ?_);case h1=>((try simp only[hA1,go_sem])<;>rfl))|(refine U_box (cs:=?_) (cs':=?_) (n:=?_) ?h1 ?h2 ?h3 ?h4 ?_;case h1|h2|h3|h4=>((try simp only[hA1,go_sem])<;>rfl))|(refine UC_cdf ?h1 ?_;case h1=>((try simp only[hA1,go_sem])<;>rfl))))|((with_reducible refine U_pc (g:=18) (r:=.i .i64 (sizeF n 80)) (vs:=?_) (ws:=?_) ?h1 ?h2 ?h3 ?h4 ?h5 ?_);(case h1=>((try simp only[hA1,go_sem])<;>rfl));(case h2=>refine fzsU_ok ?_;first|rfl|simp only[List.all_cons,List.all_nil,Bool.and_true,go_sem]);(case h5=>exact hsz);(case h3=>first|exact Bool.or_eq_true_iff.2 (.inr rfl)|(refine Bool.or_eq_true_iff.2 (.inl ?_);simp only[clos,List.all_cons,List.all_nil,Bool.and_true,go_sem]));(case h4=>first|rfl|simp only[go_sem,Bool.and_true]))|with_reducible (refine U_gb (q:=?_) ?h1 (fun _=>?_) (fun _=>?_);case h1=>((try simp only[hA1,go_sem])<;>rfl))|with_reducible (refine UC_cdb (q:=?_) ?h1 (fun _=>?_) (fun _=>?_);case h1=>((try simp only[hA1,go_sem])<;>rfl))));refine U_pc (vs:=[.ag (cel n)]) (ws:=[.ag (cel n)]) (Z0) (fzs_cel n _) (Bool.or_eq_true_iff.2 (.inl (clos_cel n))) (by simp only[Bool.and_true,go_sem]) hM ?_;(repeat (with_reducible (first|refine U_nil ?_|refine UC_sq ?_|refine UC_rg ?_|refine UC_rt ?_|refine X_nx ?_|((first|refine U_q (v:=?_) ?h1 ?_|refine U_ld (v:=?_) ?h1 ?_|refine U_alc (n:=?_) ?h1 ?_);case h1=>((try simp only[go_sem])<;>rfl))|(refine U_sto (id:=?_) (i:=?_) (j:=?_) (q:=?_) (es:=?_) (cs:=?_) (vs:=?_) (es':=?_) ?h1 ?h2 ?h3 ?h4 ?h5 ?h6 ?h7 ?_;case h1|h2|h3|h4|h5|h6|h7=>((try simp only[go_sem])<;>rfl))|(refine E_2 (v:=?_) (u:=?_) ?h1 ?h2 ?_;case h1|h2=>((try simp only[go_sem])<;>rfl)))));exact fz_of rfl (okf_tpau A _)
theorem auto_pu (n:Nd) (hs:small n):∃ (A:Au) (ok:Bool),Pu F 9 [.ag (cel n)] (.tp [.ag (auC A),.bo ok])∧(ok=true→A=makeT (simpleN n)∧formed (simpleN n)=true∧WF A∧(∀ l∈A.moves,l.length < 2147483648)∧cntN n≤80):=by
 by_cases hb:sizeF n 80 > 80
 ·exact⟨noA,false,auto_big n hs hb,fun h=>by cases h⟩
 ·have hc:cntN n≤80:=by
   have:=sizeF_cnt n 80 (by omega) (by omega)
   omega
  obtain⟨A,er,hM,h⟩:=make_pu n hs (by omega)
  refine⟨A,er==0,auto_of n hs hb hM,fun h0=>?_⟩
  rcases h with⟨h1,_⟩|⟨h1,h2,h3,h4,h5,h6⟩
  ·exact absurd (by simpa using h0) h1
  ·exact⟨h4,h3,h5,h6,hc⟩
def twoS:Nat→Nat:=fun j=>if j=0 then 2 else 0
def twoT:Nd:=.mk 1 twoS [] 0 0
theorem two_ok:okN twoT:=⟨⟨fun j _=>by unfold twoS;split<;>omega,by simp,by simp [smallL]⟩,rfl⟩
theorem two_simple:simpleN twoT=twoT:=rfl
theorem two_wk:wk twoT 0 0 []=⟨[1],[1],false,1,[]⟩:=rfl
theorem two_first:(makeT twoT).first=[1]:=by
 have h1:srtN [1]=[1]:=by simp [srtN]
 simp only[makeT,two_wk,h1]
theorem two_wf:WF (makeT twoT):=makeT_wf _ rfl two_ok.1 rfl
theorem two_auto:Pu F 9 [.ag (cel twoT)] (.tp [.ag (auC (makeT twoT)),.bo true]):=by
 have:=auto_of twoT two_ok.1 (by decide) (make_ok twoT two_ok (by decide) rfl)
 rw[two_simple] at this;exact this
def twoC:Cf:=⟨1,0,0,0,0⟩
theorem sd_one (x:Cf):sdC [x]=[x]:=by simp [sdC,srtC,cmpC,cp]
theorem two_beg:begF (makeT twoT) 1=[twoC]:=by
 have h1:bitOf (stAt (makeT twoT) 1) 1=true:=rfl;have h2:begL (makeT twoT) 1 [1]=[twoC]:=by
  simp only[begL,List.filter_cons,h1,if_true,List.filter_nil,List.map_cons,List.map_nil];rfl
 rw[begF,two_first,h2,sd_one]
theorem two_acc:accB (makeT twoT) twoC=true:=by rfl
def nearV (c:Int) (s:Int × Int):Int:=IntKind.i64.wrap (1+IntKind.i64.wrap ((IntKind.u64.wrap c).tmod (if s.2 > s.1 then s.2 else s.1)))
def nearI (p:Nat) (x:Cf) (ss:List (Int × Int)):Nat→Cf
 | 0=>⟨p,0,0,0,0⟩
 | i+1=>(nearI p x ss i).setC i (nearV (x.c i) ((ss[i]?).getD (0,0)))
def nearC (A:Au) (x:Cf) (as':Bool):Cf :=
 if as'=false∨A.around.length < 2 then x
 else nearI ((IntKind.u64.wrap x.p).toNat % (A.around.length - 1)+1) x (scAt A ((IntKind.u64.wrap x.p).toNat % (A.around.length - 1)+1)) (arAt A ((IntKind.u64.wrap x.p).toNat % (A.around.length - 1)+1)).length
end Go.Proofs.YtocmjakchgcioaaGreat
