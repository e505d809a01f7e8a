import Derived.Test.YtocmjakchgcioaaGreatC7

namespace Go.Proofs.YtocmjakchgcioaaGreat
set_option linter.all false
attribute [-go_sem] QE Qn rfOb V.cells
theorem Qdd (A:Au) (b:Bool):okf FZ (.tp [.ag (auC A),.bo b])=true:=by obtain⟨⟨ak,as_,ap,al,ah⟩,S,Cs,R,Fi,Mo,La,Em⟩:=A;rfl
theorem Dh (n:Nd):clos [.ag (cel n)]=true:=by simp only[clos,List.all_cons,List.all_nil,Bool.and_true,go_sem]
theorem Qbc (n:Nd) (o:O):fzsU o [.ag (cel n)]=some [.ag (cel n)]:=Qj (by simp only[List.all_cons,List.all_nil,Bool.and_true,go_sem])
theorem Qdo (n:Nd) (hs:ZO n) (hb:ZJ n 80 > 80):Pu F 9 [.ag (cel n)] (.tp [.ag (auC noA),.bo false]):=by
 have hsz:Pu F 18 [.ag (cel n),.i .i64 80] (.i .i64 (ZJ n 80)):=Vk n hs 80 (by omega) (by omega) emp _ (fun _=>rfl);have hA1:decide (ZJ n 80 > 80)=true:=by simpa using hb
 refine Qr e9 rfl rfl (by simp only[go_sem,Bool.and_true]) ?_;dsimp only[fn9,c9];(repeat' (first|(with_reducible (first|refine Qa ?_|refine Qc ?_|refine Qb ?_|refine Qf ?_|refine X_nx ?_|refine X_rt ?_|((first|refine U_q (v:=?_) ?h1 ?_|refine U_ld (v:=?_) ?h1 ?_|refine QK (n:=?_) ?h1 ?_|refine Qm ?h1 ?_);case h1=>((try simp only[hA1,go_sem])<;>rfl))|(refine QC (cs:=?_) (cs':=?_) (n:=?_) ?h1 ?h2 ?h3 ?h4 ?_;case h1|h2|h3|h4=>((try simp only[hA1,go_sem])<;>rfl))|(refine Qq (id:=?_) (i:=?_) (j:=?_) (q:=?_) (es:=?_) (cs:=?_) (vs:=?_) (es':=?_) ?h1 ?h2 ?h3 ?h4 ?h5 ?h6 ?h7 ?_;case h1|h2|h3|h4|h5|h6|h7=>((try simp only[hA1,go_sem])<;>rfl))|(refine E_2 (v:=?_) (u:=?_) ?h1 ?h2 ?_;case h1|h2=>((try simp only[hA1,go_sem])<;>rfl))))|((with_reducible refine U_pc (g:=18) (r:=.i .i64 (ZJ n 80)) (vs:=?_) (ws:=?_) ?h1 ?h2 ?h3 ?h4 ?h5 ?_);(case h1=>((try simp only[hA1,go_sem])<;>rfl));(case h2=>refine Qj ?_;first|rfl|simp only[List.all_cons,List.all_nil,Bool.and_true,go_sem]);(case h5=>exact hsz);(case h3=>first|exact Bool.or_eq_true_iff.2 (.inr rfl)|(refine Bool.or_eq_true_iff.2 (.inl ?_);simp only[clos,List.all_cons,List.all_nil,Bool.and_true,go_sem]));(case h4=>first|rfl|simp only[go_sem,Bool.and_true]))|with_reducible (refine U_gb (q:=?_) ?h1 (fun _=>?_) (fun _=>?_);case h1=>((try simp only[hA1,go_sem])<;>rfl))|with_reducible (refine Qe (q:=?_) ?h1 (fun _=>?_) (fun _=>?_);case h1=>((try simp only[hA1,go_sem])<;>rfl))));rfl
theorem Qbi (n:Nd) (hs:ZO n) (hb:¬ ZJ n 80 > 80) {A:Au} {er:Int} (hM:Pu F 19 [.ag (cel n)] (.tp [.ag (auC A),.i .i64 er])):Pu F 9 [.ag (cel n)] (.tp [.ag (auC A),.bo (er==0)]):=by
 have hsz:Pu F 18 [.ag (cel n),.i .i64 80] (.i .i64 (ZJ n 80)):=Vk n hs 80 (by omega) (by omega) emp _ (fun _=>rfl);have hA1:decide (ZJ n 80 > 80)=false:=by simpa using hb
 refine Qr e9 rfl rfl (by simp only[go_sem,Bool.and_true]) ?_;dsimp only[fn9,c9];(repeat' (first|(with_reducible (first|refine Qa ?_|refine Qc ?_|refine Qb ?_|refine Qg ?_|refine X_nx ?_|((first|refine U_q (v:=?_) ?h1 ?_|refine U_ld (v:=?_) ?h1 ?_|refine QK (n:=?_) ?h1 ?_);case h1=>((try simp only[hA1,go_sem])<;>rfl))|(refine QC (cs:=?_) (cs':=?_) (n:=?_) ?h1 ?h2 ?h3 ?h4 ?_;case h1|h2|h3|h4=>((try simp only[hA1,go_sem])<;>rfl))|(refine Qk ?h1 ?_;case h1=>((try simp only[hA1,go_sem])<;>rfl))))|((with_reducible refine U_pc (g:=18) (r:=.i .i64 (ZJ n 80)) (vs:=?_) (ws:=?_) ?h1 ?h2 ?h3 ?h4 ?h5 ?_);(case h1=>((try simp only[hA1,go_sem])<;>rfl));(case h2=>refine Qj ?_;first|rfl|simp only[List.all_cons,List.all_nil,Bool.and_true,go_sem]);(case h5=>exact hsz);(case h3=>first|exact Bool.or_eq_true_iff.2 (.inr rfl)|(refine Bool.or_eq_true_iff.2 (.inl ?_);simp only[clos,List.all_cons,List.all_nil,Bool.and_true,go_sem]));(case h4=>first|rfl|simp only[go_sem,Bool.and_true]))|with_reducible (refine U_gb (q:=?_) ?h1 (fun _=>?_) (fun _=>?_);case h1=>((try simp only[hA1,go_sem])<;>rfl))|with_reducible (refine Qe (q:=?_) ?h1 (fun _=>?_) (fun _=>?_);case h1=>((try simp only[hA1,go_sem])<;>rfl))));refine U_pc (vs:=[.ag (cel n)]) (ws:=[.ag (cel n)]) (Z0) (Qbc n _) (Bool.or_eq_true_iff.2 (.inl (Dh n))) (by simp only[Bool.and_true,go_sem]) hM ?_;(repeat (with_reducible (first|refine Qa ?_|refine Qc ?_|refine Qb ?_|refine Qf ?_|refine X_nx ?_|((first|refine U_q (v:=?_) ?h1 ?_|refine U_ld (v:=?_) ?h1 ?_|refine QK (n:=?_) ?h1 ?_);case h1=>((try simp only[go_sem])<;>rfl))|(refine Qq (id:=?_) (i:=?_) (j:=?_) (q:=?_) (es:=?_) (cs:=?_) (vs:=?_) (es':=?_) ?h1 ?h2 ?h3 ?h4 ?h5 ?h6 ?h7 ?_;case h1|h2|h3|h4|h5|h6|h7=>((try simp only[go_sem])<;>rfl))|(refine E_2 (v:=?_) (u:=?_) ?h1 ?h2 ?_;case h1|h2=>((try simp only[go_sem])<;>rfl)))));exact QJ rfl (Qdd A _)
theorem Qht (n:Nd) (hs:ZO n):∃ (A:Au) (ok:Bool),Pu F 9 [.ag (cel n)] (.tp [.ag (auC A),.bo ok])∧(ok=true→A=Zy (Qo n)∧Qz (Qo n)=true∧WF A∧(∀ l∈A.moves,l.length < 2147483648)∧cntN n≤80):=by
 by_cases hb:ZJ n 80 > 80
 ·exact⟨noA,false,Qdo n hs hb,fun h=>by cases h⟩
 ·have hc:cntN n≤80:=by
   have:=HQ n 80 (by omega) (by omega)
   omega
  obtain⟨A,er,hM,h⟩:=QgH n hs (by omega)
  refine⟨A,er==0,Qbi n hs hb hM,fun h0=>?_⟩
  rcases h with⟨h1,_⟩|⟨h1,h2,h3,h4,h5,h6⟩
  ·exact absurd (by simpa using h0) h1
  ·exact⟨h4,h3,h5,h6,hc⟩
def twoS:Nat→Nat:=fun j=>if j=0 then 2 else 0
def twoT:Nd:=.mk 1 twoS [] 0 0
theorem Qbk:okN twoT:=⟨⟨fun j _=>by unfold twoS;split<;>omega,by simp,by simp [XZ]⟩,rfl⟩
theorem Qar:Qo twoT=twoT:=rfl
theorem Qep:wk twoT 0 0 []=⟨[1],[1],false,1,[]⟩:=rfl
theorem Xk:(Zy twoT).first=[1]:=by
 have h1:srtN [1]=[1]:=by simp [srtN]
 simp only[Zy,Qep,h1]
theorem Qe3:WF (Zy twoT):=DK _ rfl Qbk.1 rfl
theorem QdP:Pu F 9 [.ag (cel twoT)] (.tp [.ag (auC (Zy twoT)),.bo true]):=by
 have:=Qbi twoT Qbk.1 (by decide) (Qbw twoT Qbk (by decide) rfl)
 rw[Qar] at this;exact this
def twoC:Cf:=⟨1,0,0,0,0⟩
theorem QeM (x:Cf):sdC [x]=[x]:=by simp [sdC,srtC,cmpC,cp]
theorem QhS:begF (Zy twoT) 1=[twoC]:=by
 have h1:Zx (stAt (Zy twoT) 1) 1=true:=rfl;have h2:begL (Zy twoT) 1 [1]=[twoC]:=by
  simp only[begL,List.filter_cons,h1,if_true,List.filter_nil,List.map_cons,List.map_nil];rfl
 rw[begF,Xk,h2,QeM]
theorem Qhe:accB (Zy twoT) twoC=true:=by rfl
theorem DH (a b:Nat):(a:Int).tmod (b:Int)=((a % b:Nat):Int):=by
 rw[Int.tmod_eq_emod_of_nonneg (by omega)];exact (Int.natCast_emod a b).symm
def Qlv (c:Int) (s:Int × Int):Int:=IntKind.i64.wrap (1+IntKind.i64.wrap ((IntKind.u64.wrap c).tmod (if s.2 > s.1 then s.2 else s.1)))
def QkF (p:Nat) (x:Cf) (ss:List (Int × Int)):Nat→Cf
 | 0=>⟨p,0,0,0,0⟩
 | i+1=>(QkF p x ss i).setC i (Qlv (x.c i) ((ss[i]?).getD (0,0)))
def nearC (A:Au) (x:Cf) (as':Bool):Cf :=
 if as'=false∨A.around.length < 2 then x
 else QkF ((IntKind.u64.wrap x.p).toNat % (A.around.length - 1)+1) x (scAt A ((IntKind.u64.wrap x.p).toNat % (A.around.length - 1)+1)) (arAt A ((IntKind.u64.wrap x.p).toNat % (A.around.length - 1)+1)).length
end Go.Proofs.YtocmjakchgcioaaGreat
