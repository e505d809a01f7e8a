import Derived.Test.YtklbhcjmaeedhaaGreatDoorM1

namespace Go.Proofs.YtklbhcjmaeedhaaGreatDoor
set_option linter.all false
def Qhx (n:Nat):cldL (inC n)=true:=rfl
def Qe6 (n:Nat):Zc (inC n)=true:=rfl
def Qs (l:List Nat):QQ (l.map inC)=true:=QP Qhx l
def QbN (l:List Nat):cld (.sl (l.map inC))=true:=by rw[cld];exact Qs l
def Qaq (l:List Nat):∀ c∈l.map inC,c.length=1:=fun c hc=>by obtain⟨x,_,rfl⟩:=List.mem_map.1 hc;rfl
def Yh (d:Nat) (l:List Nat):swpR d (l.map inC)=l.map inC:=DP Qe6 d l
def Qk1 (l:List Nat):Pu F 42 [.sl (l.map inC)] (.bo (decide (l.length > 4))):=by
 refine Qh e42 rfl rfl (by simp only[go_sem,Qs,Bool.and_true]) ?_;dsimp only[fn42,c42];(repeat' (first|refine RST trivial ?_|with_reducible refine GBT trivial (fun _=>?_) (fun _=>?_)|with_reducible refine GDT trivial (fun _=>?_) (fun _=>?_)));refine Qp ?_ rfl;congr 1;rw[decide_eq_decide];omega
def Qgt (L:List (List Nat)) (hl:L.length≤1000) (g:Nat) (p:List Nat→Bool) (h:∀ x∈L,Pu F g [.sl (x.map inC)] (.bo (p x))) :
  Pu F 62 [.sl (L.map lsC),.fn g []] (.i .i64 (idxF p L)):=by
 have hcl:QQ (L.map lsC)=true:=QP (fun x=>by show cldL [.sl (x.map inC)]=true;rw[cldL,QbN,cldL];rfl) L;refine Qh e62 rfl rfl (by simp only[go_sem,hcl,Bool.and_true]) ?_;dsimp only[fn62,c62];refine RT trivial ?_;refine U_lp (fun r e o=>∃ i:Nat,i+r=L.length∧e 0=.sl (L.map lsC)∧e 1=.fn g []∧e 7=.i .i64 L.length∧e 8=.i .i64 i∧∀ x∈L.take i,p x=false) (k:=L.length) ?_ (Qa F) ?_
 ·exact⟨0,OM,Z0,Z0,by simp only[List.length_map,go_sem],Zr0,SM⟩
 rintro r e o ⟨i,hir,h0,h1,h7,h8,hp⟩;dsimp only[Qku];refine RN (Ad2 h7 h8) ?_;refine Qv (q:=decide ((i:Int) < (L.length:Int))) (Z0) (fun hc=>?_) (fun hc=>?_)
 ·have hi:i < L.length:=by simpa using hc
  have hxi:(L.map lsC)[i]?=some [.sl (L[i].map inC)]:=by rw[List.getElem?_map,List.getElem?_eq_getElem hi];rfl
  have hw1:IntKind.i64.wrap ((i:Int)+1)=((i+1:Nat):Int):=by rw[Qi OM OM];rfl
  have hpos:(0:Int)≤(i:Int):=by omega
  refine RT (Ad2 h0 (Ad5 h1 h7 h8 hpos hxi)) ?_;refine U_pv (g:=g) (cs:=[]) (vs:=[.sl (L[i].map inC)]) (ws:=[.sl (L[i].map inC)]) (r:=.bo (p L[i])) (Z1 h1) (Zr0) (Zp (by simp only[List.all_cons,List.all_nil,Bool.and_true,go_sem])) (Bool.or_eq_true_iff.2 (.inr rfl)) rfl (h _ (List.getElem_mem _)) ?_;refine RN trivial ?_;refine Qv (q:=p L[i]) (Z0) (fun hc2=>?_) (fun hc2=>?_)
  ·refine RN h8 ?_;refine Qp ?_ rfl;have h2:L.any p=true:=List.any_eq_true.2 ⟨L[i],List.getElem_mem _,hc2⟩;have h3:L.findIdx p=i:=(List.findIdx_eq hi).2 ⟨hc2,fun j hj=>hp _ (by rw[List.mem_take_iff_getElem];exact⟨j,OM,rfl⟩)⟩;simp [idxF,h2,h3]
  ·refine RN (Ad2 h8 hw1) ?_
   refine⟨r - 1,OM,i+1,OM,Z1 h0,Z1 h1,Z1 h7,Z0,fun x hx=>?_⟩
   rw[List.take_add_one,List.getElem?_eq_getElem hi] at hx;rcases List.mem_append.1 hx with hx|hx
   ·exact hp x hx
   ·simp at hx;rw[hx];exact hc2
 ·have hi:i=L.length:=by
   have:¬ i < L.length:=by simpa using hc
   omega
  subst hi;rw[List.take_length] at hp;refine RN trivial ?_;refine Qp ?_ rfl
  have:L.any p=false:=by
   rw[Bool.eq_false_iff];intro h;obtain⟨x,hx,hpx⟩:=List.any_eq_true.1 h;rw[hp x hx] at hpx;cases hpx
  simp [idxF,this]
def QeC (L:List (List Nat)) (hl:L.length≤1000) (g:Nat) (p:List Nat→Bool) (h:∀ x∈L,Pu F g [.sl (x.map inC)] (.bo (p x))) :
  Pu F 41 [.sl (L.map lsC),.fn g []] (.bo (L.any p)):=by
 have hi:=Qgt L hl g p h;have hcl:QQ (L.map lsC)=true:=QP (fun x=>by show cldL [.sl (x.map inC)]=true;rw[cldL,QbN,cldL];rfl) L;refine Qh e41 rfl rfl (by simp only[go_sem,hcl,Bool.and_true]) ?_;dsimp only[fn41,c41];(repeat' (first|refine RSN trivial ?_|((with_reducible refine PCN trivial (r:=.i .i64 (idxF p L)) ?h ?_);case h=>exact hi)|with_reducible refine GBN trivial (fun _=>?_) (fun _=>?_)|with_reducible refine GDN trivial (fun _=>?_) (fun _=>?_)));exact Qp (by rw[ZA]) rfl
end Go.Proofs.YtklbhcjmaeedhaaGreatDoor
