import Derived.Test.YtpkmfoinpdnifaaDoorKc

namespace Go.Proofs.YtpkmfoinpdnifaaDoor
set_option linter.all false
attribute [-go_sem] swpOb renOb rfOb V.cells
def cmp4 (x y:Cf):Int:=orI2 (cmpI x.c0 y.c0) (orI2 (cmpI x.c1 y.c1) (orI2 (cmpI x.c2 y.c2) (cmpI x.c3 y.c3)))
def Cf.v (x:Cf):Nat→Int
 | 0=>x.p
 | j+1=>x.c j
def srtC (l:List Cf):List Cf:=l.mergeSort fun x y=>!(ltOf ordC) y x
end Go.Proofs.YtpkmfoinpdnifaaDoor
