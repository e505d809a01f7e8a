import Derived.Test.YtgiedknghbpdfaaR10
import Derived.Test.YtgiedknghbpdfaaKt

namespace Go.Proofs.Ytgiedknghbpdfaa
set_option linter.all false
attribute [-go_sem] swpOb renOb rfOb V.cells
theorem ml_cld (l:List (List Mv)):cldLL (l.map mlC)=true:=cldLL_map (fun x=>by
 rw[mlC,cldL,cld,cldLL_map (fun _=>rfl)];rfl) l
theorem bo_cld (l:List Bool):cldLL (l.map boC)=true:=cldLL_map (fun _=>rfl) l
end Go.Proofs.Ytgiedknghbpdfaa
