import Derived.Test.YtocmjakchgcioaaGreatM1

namespace Go.Proofs.YtocmjakchgcioaaGreat
set_option linter.all false
theorem QfD (n:Nat):cldL (inC n)=true:=rfl
theorem Qdh (n:Nat):ZI (inC n)=true:=rfl
theorem Qy (l:List Nat):QT (l.map inC)=true:=QS QfD l
theorem QbE (l:List Nat):cld (.sl (l.map inC))=true:=by rw[cld];exact Qy l
theorem DN (l:List Nat):∀ c∈l.map inC,c.length=1:=fun c hc=>by obtain⟨x,_,rfl⟩:=List.mem_map.1 hc;rfl
theorem Yr (d:Nat) (l:List Nat):swpR d (l.map inC)=l.map inC:=VS Qdh d l
theorem QkR (l:List Nat):Pu F 56 [.sl (l.map inC)] (.bo (decide (l.length > 4))):=by
 refine Qr e56 rfl rfl (by simp only[go_sem,Qy,Bool.and_true]) ?_;dsimp only[fn56,c56];(repeat' (first|(with_reducible (first|refine Qa ?_|refine Qc ?_|refine Qb ?_|refine Qf ?_|refine X_nx ?_|((first|refine U_q (v:=?_) ?h1 ?_|refine E_1 (v:=?_) ?h1 ?_);case h1=>((try simp only[List.length_map,go_sem])<;>rfl))))|with_reducible (refine U_gb (q:=?_) ?h1 (fun _=>?_) (fun _=>?_);case h1=>((try simp only[List.length_map,go_sem])<;>rfl))|with_reducible (refine Qe (q:=?_) ?h1 (fun _=>?_) (fun _=>?_);case h1=>((try simp only[List.length_map,go_sem])<;>rfl))));refine QJ ?_ rfl;congr 1;rw[decide_eq_decide];omega
theorem QhL (L:List (List Nat)) (hl:L.length≤1000) (g:Nat) (p:List Nat→Bool) (h:∀ x∈L,Pu F g [.sl (x.map inC)] (.bo (p x))) :
  Pu F 78 [.sl (L.map lsC),.fn g []] (.i .i64 (idxF p L)):=by
 have hcl:QT (L.map lsC)=true:=QS (fun x=>by show cldL [.sl (x.map inC)]=true;rw[cldL,QbE,cldL];rfl) L;refine Qr e78 rfl rfl (by simp only[go_sem,hcl,Bool.and_true]) ?_;dsimp only[fn78,c78];(repeat (with_reducible (first|refine Qa ?_|refine Qc ?_|refine Qb ?_|refine Ql ?_|refine X_nx ?_|(refine U_q (v:=?_) ?h1 ?_;case h1=>((try simp only[List.length_map,go_sem])<;>rfl)))));refine U_lp (fun r e o=>∃ i:Nat,i+r=L.length∧e 0=.sl (L.map lsC)∧e 1=.fn g []∧e 7=.i .i64 L.length∧e 8=.i .i64 i∧∀ x∈L.take i,p x=false) (k:=L.length) ?_ (Qh F) ?_
 ·exact⟨0,by omega,Z0,Z0,by simp only[List.length_map,go_sem],Zr0,by simp⟩
 rintro r e o ⟨i,hir,h0,h1,h7,h8,hp⟩;dsimp only[Qje];(repeat (with_reducible (first|refine Qa ?_|refine Qc ?_|refine Qb ?_|refine X_nx ?_|(refine U_q (v:=?_) ?h1 ?_;case h1=>((try simp only[h7,h8,go_sem])<;>rfl)))));refine Qe (q:=decide ((i:Int) < (L.length:Int))) (Z0) (fun hc=>?_) (fun hc=>?_)
 ·have hi:i < L.length:=by simpa using hc
  have hxi:(L.map lsC)[i]?=some [.sl (L[i].map inC)]:=by rw[List.getElem?_map,List.getElem?_eq_getElem hi];rfl
  have hw1:IntKind.i64.wrap ((i:Int)+1)=((i+1:Nat):Int):=by rw[Qt (by omega) (by omega)];rfl
  have hpos:(0:Int)≤(i:Int):=by omega
  (repeat (with_reducible (first|refine Qa ?_|refine Qc ?_|refine Qb ?_|refine Ql ?_|refine Qg ?_|refine X_nx ?_|((first|refine U_q (v:=?_) ?h1 ?_|refine U_ld (v:=?_) ?h1 ?_);case h1=>((try simp only[h0,h1,h7,h8,hpos,Int.toNat_natCast,hxi,go_sem])<;>rfl)))));refine U_pv (g:=g) (cs:=[]) (vs:=[.sl (L[i].map inC)]) (ws:=[.sl (L[i].map inC)]) (r:=.bo (p L[i])) (Z1 h1) (Zr0) (Qj (by simp only[List.all_cons,List.all_nil,Bool.and_true,go_sem])) (Bool.or_eq_true_iff.2 (.inr rfl)) rfl (h _ (List.getElem_mem _)) ?_;(repeat (with_reducible (first|refine Qa ?_|refine X_nx ?_)));refine Qe (q:=p L[i]) (Z0) (fun hc2=>?_) (fun hc2=>?_)
  ·(repeat (with_reducible (first|refine Qa ?_|refine Qc ?_|refine Qb ?_|refine Qf ?_|refine X_nx ?_|refine X_rt ?_|refine B_rt ?_|((first|refine U_q (v:=?_) ?h1 ?_|refine E_1 (v:=?_) ?h1 ?_);case h1=>((try simp only[h8,go_sem])<;>rfl)))));refine QJ ?_ rfl;have h2:L.any p=true:=List.any_eq_true.2 ⟨L[i],List.getElem_mem _,hc2⟩;have h3:L.findIdx p=i:=(List.findIdx_eq hi).2 ⟨hc2,fun j hj=>hp _ (by rw[List.mem_take_iff_getElem];exact⟨j,by omega,rfl⟩)⟩;simp [idxF,h2,h3]
  ·(repeat (with_reducible (first|refine Qa ?_|refine Qb ?_|refine Qg ?_|refine X_nx ?_|refine B_nx ?_|(refine U_q (v:=?_) ?h1 ?_;case h1=>((try simp only[h8,hw1,go_sem])<;>rfl)))))
   refine⟨r - 1,by omega,i+1,by omega,Z1 h0,Z1 h1,Z1 h7,Z0,fun x hx=>?_⟩
   rw[List.take_add_one,List.getElem?_eq_getElem hi] at hx;rcases List.mem_append.1 hx with hx|hx
   ·exact hp x hx
   ·simp at hx;rw[hx];exact hc2
 ·have hi:i=L.length:=by
   have:¬ i < L.length:=by simpa using hc
   omega
  subst hi;rw[List.take_length] at hp;(repeat (with_reducible (first|refine Qa ?_|refine Qc ?_|refine Qb ?_|refine QW ?_|refine Qf ?_|refine X_nx ?_|refine X_ex ?_|refine Qi ?_|((first|refine U_q (v:=?_) ?h1 ?_|refine E_1 (v:=?_) ?h1 ?_);case h1=>((try simp only[go_sem])<;>rfl)))));refine QJ ?_ rfl
  have:L.any p=false:=by
   rw[Bool.eq_false_iff];intro h;obtain⟨x,hx,hpx⟩:=List.any_eq_true.1 h;rw[hp x hx] at hpx;cases hpx
  simp [idxF,this]
theorem Qdz (L:List (List Nat)) (hl:L.length≤1000) (g:Nat) (p:List Nat→Bool) (h:∀ x∈L,Pu F g [.sl (x.map inC)] (.bo (p x))) :
  Pu F 55 [.sl (L.map lsC),.fn g []] (.bo (L.any p)):=by
 have hi:=QhL L hl g p h;have hcl:QT (L.map lsC)=true:=QS (fun x=>by show cldL [.sl (x.map inC)]=true;rw[cldL,QbE,cldL];rfl) L;refine Qr e55 rfl rfl (by simp only[go_sem,hcl,Bool.and_true]) ?_;dsimp only[fn55,c55];(repeat' (first|(with_reducible (first|refine Qa ?_|refine Qc ?_|refine Qb ?_|refine Qf ?_|refine X_nx ?_|((first|refine U_q (v:=?_) ?h1 ?_|refine E_1 (v:=?_) ?h1 ?_);case h1=>((try simp only[go_sem])<;>rfl))))|((with_reducible refine U_pc (g:=78) (r:=.i .i64 (idxF p L)) (vs:=?_) (ws:=?_) ?h1 ?h2 ?h3 ?h4 ?h5 ?_);(case h1=>((try simp only[go_sem])<;>rfl));(case h2=>refine Qj ?_;first|rfl|simp only[List.all_cons,List.all_nil,Bool.and_true,go_sem]);(case h5=>exact hi);(case h3=>first|exact Bool.or_eq_true_iff.2 (.inr rfl)|(refine Bool.or_eq_true_iff.2 (.inl ?_);simp only[clos,List.all_cons,List.all_nil,Bool.and_true,go_sem]));(case h4=>first|rfl|simp only[go_sem,Bool.and_true]))|with_reducible (refine U_gb (q:=?_) ?h1 (fun _=>?_) (fun _=>?_);case h1=>((try simp only[go_sem])<;>rfl))|with_reducible (refine Qe (q:=?_) ?h1 (fun _=>?_) (fun _=>?_);case h1=>((try simp only[go_sem])<;>rfl))));exact QJ (by rw[ZF]) rfl
end Go.Proofs.YtocmjakchgcioaaGreat
