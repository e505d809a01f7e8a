import Derived.Test.YtklbhcjmaeedhaaGreatDoorC12

namespace Go.Proofs.YtklbhcjmaeedhaaGreatDoor
set_option linter.all false
attribute [-go_sem] Qy Qj rfOb V.cells
def rst1 (A:Au) (x:Cf) (b:Nat) (out:List Cf) (m:Mv):List Cf:=match mayF A x m with
 | some y=>if QA (stAt A m.to) b=true∧y ∉ out then out++[y] else out
 | none=>out
def rstL (A:Au) (x:Cf) (b:Nat) (ms:List Mv):List Cf:=ms.foldl (rst1 A x b) []
def QaJ {o:O} {s:Nat} {L:List Cf} {y:Cf} (h:Own o s 5 (L.map cfC)):fzsU o [ownV s 5 (L.map cfC),.ag (cfC y)]=some [.sl (L.map cfC),.ag (cfC y)]:=by
 have h1:fzU o (ownV s 5 (L.map cfC))=some (.sl (L.map cfC)):=YT h (QfH L) 22;have h2:fzU o (.ag (cfC y))=some (.ag (cfC y)):=JM (QfZ y);simp [fzsU,h1,h2]
end Go.Proofs.YtklbhcjmaeedhaaGreatDoor
