import Derived.Test.YtklbhcjmaeedhaaGreatDoorM18

namespace Go.Proofs.YtklbhcjmaeedhaaGreatDoor
set_option linter.all false
attribute [-go_sem] Qy Qj rfOb V.cells
theorem Db (k:Eg):∀ (L:List (Eg × Int)),(incE k L).length≤L.length+1
 | []=>by simp [incE]
 | (k',n)::L=>by
  simp only[incE];split
  ·simp
  ·have:=Db k L;simp only[List.length_cons];omega
theorem De (a keep:Nat) (again:Bool):∀ (to:List Nat) (L:List (Eg × Int)),(lnk1 a to keep again L).length≤L.length+to.length
 | [],L=>by simp [lnk1]
 | b::to,L=>by
  have h1:=Db (a,⟨b,keep,again⟩) L;have h2:=De a keep again to (incE (a,⟨b,keep,again⟩) L);simp only[lnk1,List.foldl_cons,List.length_cons] at h2 ⊢;omega
theorem QbB (keep:Nat) (again:Bool) (to:List Nat):∀ (fr:List Nat) (L:List (Eg × Int)),(lnk fr to keep again L).length≤L.length+fr.length*to.length
 | [],L=>by simp [lnk]
 | a::fr,L=>by
  have h1:=De a keep again to L;have h2:=QbB keep again to fr (lnk1 a to keep again L);simp only[lnk,List.foldl_cons,List.length_cons,Nat.add_mul,Nat.one_mul] at h2 ⊢;omega
def Qf1 {keep:Nat} {again:Bool} {to fr:List Nat} {L:List (Eg × Int)} (h1:fr.length≤1000) (h2:to.length≤1000):(lnk fr to keep again L).length≤L.length+1000000:=by
 have:=QbB keep again to fr L
 have h3:=Nat.mul_le_mul h1 h2;omega
mutual
theorem wk_L:∀ (n:Nd) (sc nx:Nat) (L:List (Eg × Int)),nx+cntN n≤1000→(wk n sc nx L).L.length+1000000≤L.length+cntN n*2000000
 | .mk k s ps lo hi,sc,nx,L,h=>by
  simp only[cntN] at h;rw[wk,cntN];split
  ·split<;>dsimp only<;>omega
  ·split
   ·have:=Qju ps sc ⟨[],[],true,nx,L⟩ nx (Nat.le_refl _) (by dsimp only;simp only[List.length_nil];omega) (by dsimp only;simp only[List.length_nil];omega) (by dsimp only;omega)
    dsimp only at this;omega
   ·split
    ·have:=QjM ps sc ⟨[],[],false,nx,L⟩ (by dsimp only;omega)
     dsimp only at this;omega
    ·split
     ·have h1:=Ql5 ps (if cnts k lo hi then sc+1 else sc) nx L OM;obtain⟨a,b,c,d⟩:=Qcn ps (if cnts k lo hi then sc+1 else sc) nx L;generalize wkH ps (if cnts k lo hi then sc+1 else sc) nx L=x at *;dsimp only;split
      ·omega
      ·have:=Qf1 (keep:=sc) (again:=cnts k lo hi) (to:=x.first) (fr:=x.last) (L:=x.L) OM OM
       omega
     ·dsimp only;omega
theorem Qju:∀ (ps:List Nd) (sc:Nat) (y:Nds) (n0:Nat),n0≤y.next→y.first.length+n0≤y.next→y.last.length+n0≤y.next→y.next+cntL ps≤1000→(wkC ps sc y).L.length≤y.L.length+cntL ps*2000000
 | [],sc,y,n0,_,_,_,_=>by rw[wkC];omega
 | p::ps,sc,y,n0,h0,h1,h2,h3=>by
  simp only[cntL] at h3;rw[cntL];obtain⟨a,b,c,d⟩:=JT p sc y.next y.L;have hp:=wk_L p sc y.next y.L OM;rw[wkC];generalize wk p sc y.next y.L=x at *;have hl:=Qf1 (keep:=sc) (again:=false) (to:=x.first) (fr:=y.last) (L:=x.L) OM OM
  have:=Qju ps sc ⟨if y.empty then y.first++x.first else y.first,if x.empty then y.last++x.last else x.last,y.empty&&x.empty,x.next,lnk y.last x.first sc false x.L⟩ n0 (by dsimp only;omega) (by dsimp only;split<;>(try simp only[List.length_append])<;>omega) (by dsimp only;split<;>(try simp only[List.length_append])<;>omega) (by dsimp only;omega)
  dsimp only at this ⊢;omega
theorem QjM:∀ (ps:List Nd) (sc:Nat) (y:Nds),y.next+cntL ps≤1000→(wkA ps sc y).L.length≤y.L.length+cntL ps*2000000
 | [],sc,y,_=>by rw[wkA];omega
 | p::ps,sc,y,h3=>by
  simp only[cntL] at h3;rw[cntL];obtain⟨a,b,c,d⟩:=JT p sc y.next y.L;have hp:=wk_L p sc y.next y.L OM;rw[wkA];generalize wk p sc y.next y.L=x at *
  have:=QjM ps sc ⟨y.first++x.first,y.last++x.last,y.empty||x.empty,x.next,x.L⟩ (by dsimp only;omega)
  dsimp only at this ⊢;omega
theorem Ql5:∀ (ps:List Nd) (sc nx:Nat) (L:List (Eg × Int)),nx+cntL ps≤1000→(wkH ps sc nx L).L.length≤L.length+cntL ps*2000000
 | [],sc,nx,L,_=>by rw[wkH];dsimp only;omega
 | p::ps,sc,nx,L,h=>by
  simp only[cntL] at h;rw[cntL]
  have:=wk_L p sc nx L OM
  rw[wkH];omega
end
def lsR (N:Nat) (l:List Nat):List (List V):=(List.range N).map fun p=>[V.bo (l.contains p)]
def QgP (N:Nat):lsR N []=List.replicate N [V.bo false]:=by
 simp [lsR,List.map_const']
def QhB (N:Nat) (l:List Nat):(lsR N l).length=N:=by simp [lsR]
def QiD (N:Nat) (l:List Nat) (p:Nat) (h:p < N):(lsR N l).set p [V.bo true]=lsR N (l++[p]):=by
 apply List.ext_getElem?;intro i;rw[List.getElem?_set];by_cases hi:p=i
 ·subst hi;rw[if_pos rfl,QhB,if_pos h];simp [lsR,h]
 ·rw[if_neg hi];simp only[lsR,List.getElem?_map];cases h2:(List.range N)[i]? with
  | none=>rfl
  | some j =>
   have:j=i:=by have:=(List.getElem?_eq_some_iff.1 h2).2;simpa using this.symm
   subst this;simp [List.contains_eq_mem,Ne.symm hi]
def Qbu {s sz:Nat} {L L':List (List V)} (h:L.length=L'.length):ownV s sz L=ownV s sz L':=by
 unfold ownV;rw[h];by_cases h0:L=[]
 ·subst h0
  have:L'=[]:=List.eq_nil_of_length_eq_zero h.symm
  rw[if_pos rfl,if_pos this]
 ·have:L'≠[]:=fun hh=>h0 (List.eq_nil_of_length_eq_zero (by rw[h,hh];rfl))
  rw[if_neg h0,if_neg this]
theorem Vj {f g:Nat→List Mv} (h:∀ p,(f p).length=(g p).length):∀ (n k:Nat),mvR f k n=mvR g k n
 | 0,k=>rfl
 | n+1,k=>by
  simp only[mvR,Vj h n (k+1)];rw[Qbu (s:=6000+k) (sz:=3) (L:=(f k).map mvC) (L':=(g k).map mvC) (by simp [h k])]
end Go.Proofs.YtklbhcjmaeedhaaGreatDoor
