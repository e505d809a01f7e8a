import Derived.Test.YtklbhcjmaeedhaaGreatDoorC7
import Derived.Test.YtklbhcjmaeedhaaGreatDoorA7
import Derived.Test.YtklbhcjmaeedhaaGreatDoorA9

namespace Go.Proofs.YtklbhcjmaeedhaaGreatDoor
set_option linter.all false
theorem JO {α:Type} [DecidableEq α]:∀ (l m:List α),l.Nodup→(∀ x∈l,x∈m)→l.length≤m.length
 | [],_,_,_=>by simp
 | a::l,m,hn,h=>by
  have ha:=h a SM;rw[List.nodup_cons] at hn
  have:=JO l (m.erase a) hn.2 fun x hx=>(List.mem_erase_of_ne (fun e=>hn.1 (by rw[← e];exact hx))).2 (h x (by simp [hx]))
  rw[List.length_erase_of_mem ha] at this;have hp:0 < m.length:=List.length_pos_of_mem ha;simp only[List.length_cons];omega
def Hj (l:List Cf):(srtC l).Perm l:=List.mergeSort_perm _ _
theorem Qgi {l:List Cf}:∀ (n:Nat),n≤l.length→∀ y,y∈cp l n↔∃ i,∃ h:i < l.length,i < n∧l[i]=y
 | 0,_,y=>by simp [cp]
 | n+1,hn,y=>by
  have ih:=Qgi (l:=l) n OM y;have hnl:n < l.length:=by omega
  have hg:l[n]?=some l[n]:=List.getElem?_eq_getElem hnl;by_cases h0:0 < n∧l[n - 1]?=some l[n]
  ·rw[Qh6 hg h0.1 h0.2,ih];constructor
   ·rintro⟨i,h1,h2,h3⟩;exact⟨i,h1,OM,h3⟩
   ·rintro⟨i,h1,h2,h3⟩
    by_cases hi:i=n
    ·subst hi
     have:=h0.2
     have g:i - 1 < l.length:=by omega
     rw[List.getElem?_eq_getElem g] at this
     exact⟨i - 1,OM,OM,by rw[← h3];exact Option.some.inj this⟩
    ·exact⟨i,h1,OM,h3⟩
  ·have hc:cp l (n+1)=cp l n++[l[n]]:=by simp only[cp,hg];rw[if_neg h0]
   rw[hc,List.mem_append,ih,List.mem_singleton];constructor
   ·rintro (⟨i,h1,h2,h3⟩|h)
    ·exact⟨i,h1,OM,h3⟩
    ·exact⟨n,OM,OM,h.symm⟩
   ·rintro⟨i,h1,h2,h3⟩
    by_cases hi:i=n
    ·subst hi;exact .inr h3.symm
    ·exact .inl ⟨i,h1,OM,h3⟩
def Qf3 (l:List Cf) (y:Cf):y∈sdC l↔y∈l:=by
 rw[sdC,cmpC,Qgi _ (Nat.le_refl _),← (Hj l).mem_iff,List.mem_iff_getElem];constructor
 ·rintro⟨i,h1,_,h3⟩;exact⟨i,h1,h3⟩
 ·rintro⟨i,h1,h3⟩;exact⟨i,h1,h1,h3⟩
end Go.Proofs.YtklbhcjmaeedhaaGreatDoor
