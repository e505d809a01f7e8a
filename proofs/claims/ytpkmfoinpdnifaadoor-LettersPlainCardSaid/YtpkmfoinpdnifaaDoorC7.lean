import Derived.Test.YtpkmfoinpdnifaaDoorC6
import Derived.Test.YtpkmfoinpdnifaaDoorKc

namespace Go.Proofs.YtpkmfoinpdnifaaDoor
set_option linter.all false
attribute [-go_sem] swpOb renOb rfOb V.cells
def sdC (l:List Cf):List Cf:=cmpC (srtC l)
def stAt (A:Au) (p:Nat):Nat→Nat:=(A.sets[p]?).getD zSet
theorem has_pu (s:Nat→Nat) (hs:W64 s) (b:Nat) (hb:b < 256):Pu F 18 [.ag (u4 s),.i .u8 b] (.bo (bitOf s b)):=has_ok s hs b hb _ (fun _=>rfl)
theorem u4_tk (s:Nat→Nat):List.take 4 (u4 s)=u4 s:=rfl
theorem u4_sw (s:Nat→Nat) (d:Nat):swpL d (u4 s)=u4 s:=rfl
theorem okf_u4 (s:Nat→Nat):okf FZ (.ag (u4 s))=true:=rfl
theorem clo_u4 (s:Nat→Nat):clo FZ (.ag (u4 s))=true:=rfl
attribute [go_sem] u4_len u4_tk u4_sw okf_u4 clo_u4
def begL (A:Au) (b:Nat) (ps:List Nat):List Cf:=(ps.filter fun p=>bitOf (stAt A p) b).map fun p=>enterF A p []
def begF (A:Au) (b:Nat):List Cf:=sdC (begL A b A.first)
end Go.Proofs.YtpkmfoinpdnifaaDoor
