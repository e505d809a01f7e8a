import Derived.Test.YtklbhcjmaeedhaaGreatDoorKa

namespace Go.Proofs.YtklbhcjmaeedhaaGreatDoor
set_option linter.all false
structure Fo (nx:Nat) (q:Nds):Prop where
 le:nx≤q.next
 nd:q.first.Nodup
 rg:∀ p∈q.first,nx < p∧p≤q.next
def Fo.app {nx:Nat} {y x:Nds} (hy:Fo nx y) (hx:Fo y.next x):(y.first++x.first).Nodup∧∀ p∈y.first++x.first,nx < p∧p≤x.next:=by
 refine⟨List.nodup_append.2 ⟨hy.nd,hx.nd,fun a ha b hb e=>?_⟩,fun p hp=>?_⟩
 ·have h1:=hy.rg a ha;have h2:=hx.rg b hb;omega
 ·have h3:=hx.le;have h4:=hy.le;rcases List.mem_append.1 hp with h|h
  ·have:=hy.rg p h;omega
  ·have:=hx.rg p h;omega
mutual
theorem QeZ:∀ (n:Nd) (sc nx:Nat) (L:List (Eg × Int)),Fo nx (wk n sc nx L)
 | .mk k s ps lo hi,sc,nx,L=>by
  rw[wk];split
  ·split
   ·exact⟨Nat.le_refl _,SM,SM⟩
   ·exact⟨by dsimp only;omega,SM,SM⟩
  ·split
   ·exact Qgf ps sc _ nx ⟨Nat.le_refl _,SM,SM⟩
   ·split
    ·exact QfT ps sc _ nx ⟨Nat.le_refl _,SM,SM⟩
    ·split
     ·have h:=Qki ps (if cnts k lo hi then sc+1 else sc) nx L
      exact⟨h.le,h.nd,h.rg⟩
     ·exact⟨Nat.le_refl _,SM,SM⟩
theorem Qgf:∀ (ps:List Nd) (sc:Nat) (y:Nds) (nx:Nat),Fo nx y→Fo nx (wkC ps sc y)
 | [],sc,y,nx,h=>by rw[wkC];exact h
 | p::ps,sc,y,nx,h=>by
  rw[wkC];have hx:=QeZ p sc y.next y.L;have ha:=h.app hx;refine Qgf ps sc _ nx ⟨Nat.le_trans h.le hx.le,?_,?_⟩
  ·dsimp only;split
   ·exact ha.1
   ·exact h.nd
  ·dsimp only;split
   ·exact ha.2
   ·intro q hq
    have:=h.rg q hq
    have:=hx.le
    omega
theorem QfT:∀ (ps:List Nd) (sc:Nat) (y:Nds) (nx:Nat),Fo nx y→Fo nx (wkA ps sc y)
 | [],sc,y,nx,h=>by rw[wkA];exact h
 | p::ps,sc,y,nx,h=>by
  rw[wkA];have hx:=QeZ p sc y.next y.L;have ha:=h.app hx;exact QfT ps sc _ nx ⟨Nat.le_trans h.le hx.le,ha.1,ha.2⟩
theorem Qki:∀ (ps:List Nd) (sc nx:Nat) (L:List (Eg × Int)),Fo nx (wkH ps sc nx L)
 | [],sc,nx,L=>by rw[wkH];exact⟨Nat.le_refl _,SM,SM⟩
 | p::ps,sc,nx,L=>by rw[wkH];exact QeZ p sc nx L
end
def VW (t:Nd):(Qf t).first.Nodup:=((List.mergeSort_perm _ _).nodup_iff).2 (QeZ t 0 0 []).nd
end Go.Proofs.YtklbhcjmaeedhaaGreatDoor
