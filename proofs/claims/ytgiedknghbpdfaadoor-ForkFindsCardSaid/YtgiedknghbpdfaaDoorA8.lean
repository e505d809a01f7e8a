import Derived.Test.YtgiedknghbpdfaaDoorC7
import Derived.Test.YtgiedknghbpdfaaDoorA7
import Derived.Test.YtgiedknghbpdfaaDoorA9

namespace Go.Proofs.YtgiedknghbpdfaaDoor
set_option linter.all false
theorem nodup_len {α:Type} [DecidableEq α]:∀ (l m:List α),l.Nodup→(∀ x∈l,x∈m)→l.length≤m.length
 | [],_,_,_=>by simp
 | a::l,m,hn,h=>by
  have ha:=h a (by simp);rw[List.nodup_cons] at hn
  have:=nodup_len l (m.erase a) hn.2 fun x hx=>(List.mem_erase_of_ne (fun e=>hn.1 (by rw[← e];exact hx))).2 (h x (by simp [hx]))
  rw[List.length_erase_of_mem ha] at this;have hp:0 < m.length:=List.length_pos_of_mem ha;simp only[List.length_cons];omega
end Go.Proofs.YtgiedknghbpdfaaDoor
