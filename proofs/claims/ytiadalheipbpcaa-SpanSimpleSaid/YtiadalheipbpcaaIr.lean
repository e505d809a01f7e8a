import Derived.Test.YtiadalheipbpcaaMc
import Derived.Test.YtiadalheipbpcaaRows
import Derived.KernelRfl



/-
  The small machine's form of this seat's functions.
-/
namespace Go.Proofs.Ytiadalheipbpcaa
set_option linter.all false

def imL : List (Nat × Nat × Nat) := [(19, (12, 5)), (19, (12, 6)), (20, (9, 5)), (20, (17, 4)), (27, (6, 4)), (31, (6, 7)), (32, (5, 4)), (33, (9, 7))]
def im (f r i : Nat) : Bool := imL.contains (f, r, i)
noncomputable def F : Nat → Option Fn := comp Try.prog im

def b3_0 : C :=
  .sq (.sq (.rg [⟨some 19, none, .q (.mov (.t 8)), []⟩,
    ⟨some 20, none, .q (.mov (.t 2)), []⟩,
    ⟨some 21, none, .q (.len (.t 20)), []⟩,
    ⟨some 22, none, .q (.bin .leq (.t 19) (.t 21)), []⟩])
  (.cd (.t 22)
   (.sk)
   (.ex 0)))
  (.sq (.bk 1 (.rg [⟨some 25, none, .q (.mov (.t 7)), []⟩,
    ⟨some 26, none, .q (.mov (.t 25)), []⟩,
    ⟨some 28, some (26, false), .q (.mov (.t 2)), []⟩,
    ⟨some 29, some (26, false), .q (.mov (.t 8)), []⟩,
    ⟨some 30, some (26, false), .q (.slc 1 (.t 28) none (some (.t 29)) none), []⟩,
    ⟨some 27, some (26, false), .ld 8 true (.t 3), []⟩,
    ⟨some 31, some (26, false), .pc 11 [(.t 27), (.t 30)], []⟩,
    ⟨some 32, some (26, false), .q (.mov (.t 31)), []⟩,
    ⟨some 34, some (32, true), .q (.mov (.t 2)), []⟩,
    ⟨some 35, some (32, true), .q (.mov (.t 8)), []⟩,
    ⟨some 36, some (32, true), .q (.slc 1 (.t 34) (some (.t 35)) none none), []⟩,
    ⟨some 33, some (32, true), .ld 8 true (.t 4), []⟩,
    ⟨some 37, some (32, true), .pc 11 [(.t 33), (.t 36)], []⟩,
    ⟨some 38, some (26, false), .q (.pick (.t 32) (.t 37) (.k (.bo false))), []⟩,
    ⟨some 39, none, .q (.pick (.t 26) (.k (.bo true)) (.t 38)), []⟩,
    ⟨some 7, none, .q (.mov (.t 39)), []⟩]))
  (.rg [⟨some 23, none, .q (.mov (.t 8)), []⟩,
    ⟨some 24, none, .q (.bin .add (.t 23) (.k (.i .i64 1))), []⟩,
    ⟨some 8, none, .q (.mov (.t 24)), []⟩]))
def c3 : C :=
  .sq (.rg [⟨some 3, none, .box (.t 0), []⟩,
    ⟨some 4, none, .box (.t 1), []⟩,
    ⟨some 6, none, .q (.mov (.k (.bo false))), []⟩])
  (.sq (.sq (.rg [⟨some 9, none, .pc 9 [], []⟩,
    ⟨some 10, none, .q (.un .not (.t 9)), []⟩,
    ⟨some 11, none, .q (.mov (.t 10)), []⟩,
    ⟨some 12, some (11, false), .ld 8 true (.t 3), []⟩,
    ⟨some 13, some (11, false), .ld 8 true (.t 4), []⟩,
    ⟨some 14, some (11, false), .q (.mov (.t 2)), []⟩,
    ⟨some 15, some (11, false), .pc 10 [(.t 12), (.t 13), (.t 14)], []⟩,
    ⟨some 16, some (11, false), .q (.un .not (.t 15)), []⟩,
    ⟨some 17, none, .q (.pick (.t 11) (.k (.bo true)) (.t 16)), []⟩])
  (.cd (.t 17)
   (.sq (.rg [⟨some 18, none, .pc 9 [], []⟩,
      ⟨some 6, none, .q (.mov (.t 18)), []⟩])
    (.rt))
   (.sk)))
  (.sq (.rg [⟨some 7, none, .q (.mov (.k (.bo false))), []⟩])
  (.sq (.sq (.rg [⟨some 8, none, .q (.mov (.k (.i .i64 0))), []⟩])
  (.bk 0 (.lp b3_0)))
  (.sq (.rg [⟨some 40, none, .ld 8 true (.t 3), []⟩,
    ⟨some 41, none, .ld 8 true (.t 4), []⟩,
    ⟨some 42, none, .bsl 8 2 [.i .i64 0, .i .u64 0, .i .u64 0, .i .u64 0, .i .u64 0, .nil, .i .i64 0, .i .i64 0] [(0, (.t 40)), (1, (.t 41))], []⟩,
    ⟨some 43, none, .q (.bld [.i .i64 0, .i .u64 0, .i .u64 0, .i .u64 0, .i .u64 0, .nil, .i .i64 0, .i .i64 0] [(0, 1, (.k (.i .i64 2))), (5, 1, (.t 42))]), []⟩,
    ⟨some 44, none, .q (.mov (.t 2)), []⟩,
    ⟨some 45, none, .pc 11 [(.t 43), (.t 44)], []⟩,
    ⟨some 46, none, .q (.mov (.t 7)), []⟩,
    ⟨some 47, none, .q (.eqb false (.t 45) (.t 46)), []⟩,
    ⟨some 6, none, .q (.mov (.t 47)), []⟩])
  (.rt)))))
def fn3 : Fn := { n := 48, np := 3, res := [.t 6], body := c3 }
theorem e3 : F 3 = some fn3 := by kernel_rfl

def c4 : C :=
  .sq (.rg [⟨some 3, none, .box (.t 0), []⟩,
    ⟨some 4, none, .box (.t 1), []⟩,
    ⟨some 6, none, .q (.mov (.k (.bo false))), []⟩])
  (.sq (.sq (.rg [⟨some 7, none, .pc 9 [], []⟩,
    ⟨some 8, none, .q (.un .not (.t 7)), []⟩,
    ⟨some 9, none, .q (.mov (.t 8)), []⟩,
    ⟨some 10, some (9, false), .ld 8 true (.t 3), []⟩,
    ⟨some 11, some (9, false), .ld 8 true (.t 4), []⟩,
    ⟨some 12, some (9, false), .q (.mov (.t 2)), []⟩,
    ⟨some 13, some (9, false), .pc 10 [(.t 10), (.t 11), (.t 12)], []⟩,
    ⟨some 14, some (9, false), .q (.un .not (.t 13)), []⟩,
    ⟨some 15, none, .q (.pick (.t 9) (.k (.bo true)) (.t 14)), []⟩])
  (.cd (.t 15)
   (.sq (.rg [⟨some 16, none, .pc 9 [], []⟩,
      ⟨some 6, none, .q (.mov (.t 16)), []⟩])
    (.rt))
   (.sk)))
  (.sq (.rg [⟨some 21, none, .q (.mov (.t 2)), []⟩,
    ⟨some 24, none, .q (.mov (.t 2)), []⟩,
    ⟨some 17, none, .ld 8 true (.t 3), []⟩,
    ⟨some 18, none, .ld 8 true (.t 4), []⟩,
    ⟨some 23, none, .ld 8 true (.t 3), []⟩,
    ⟨some 19, none, .bsl 8 2 [.i .i64 0, .i .u64 0, .i .u64 0, .i .u64 0, .i .u64 0, .nil, .i .i64 0, .i .i64 0] [(0, (.t 17)), (1, (.t 18))], []⟩,
    ⟨some 20, none, .q (.bld [.i .i64 0, .i .u64 0, .i .u64 0, .i .u64 0, .i .u64 0, .nil, .i .i64 0, .i .i64 0] [(0, 1, (.k (.i .i64 3))), (5, 1, (.t 19))]), []⟩,
    ⟨some 22, none, .pc 11 [(.t 20), (.t 21)], []⟩,
    ⟨some 25, none, .pc 11 [(.t 23), (.t 24)], []⟩,
    ⟨some 26, none, .q (.mov (.t 25)), []⟩,
    ⟨some 28, some (26, false), .q (.mov (.t 2)), []⟩,
    ⟨some 27, some (26, false), .ld 8 true (.t 4), []⟩,
    ⟨some 29, some (26, false), .pc 11 [(.t 27), (.t 28)], []⟩,
    ⟨some 30, none, .q (.pick (.t 26) (.k (.bo true)) (.t 29)), []⟩,
    ⟨some 31, none, .q (.eqb false (.t 22) (.t 30)), []⟩,
    ⟨some 6, none, .q (.mov (.t 31)), []⟩])
  (.rt)))
def fn4 : Fn := { n := 32, np := 3, res := [.t 6], body := c4 }
theorem e4 : F 4 = some fn4 := by kernel_rfl

def c5 : C :=
  .sq (.rg [⟨some 3, none, .box (.t 0), []⟩,
    ⟨some 5, none, .box (.t 2), []⟩,
    ⟨some 6, none, .q (.mov (.k (.bo false))), []⟩])
  (.sq (.sq (.rg [⟨some 11, none, .pc 9 [], []⟩,
    ⟨some 12, none, .q (.un .not (.t 11)), []⟩,
    ⟨some 13, none, .q (.mov (.t 12)), []⟩,
    ⟨some 14, some (13, false), .ld 8 true (.t 3), []⟩,
    ⟨some 15, some (13, false), .ld 8 true (.t 3), []⟩,
    ⟨some 16, some (13, false), .q (.mov (.t 1)), []⟩,
    ⟨some 17, some (13, false), .pc 10 [(.t 14), (.t 15), (.t 16)], []⟩,
    ⟨some 18, some (13, false), .q (.un .not (.t 17)), []⟩,
    ⟨some 19, none, .q (.pick (.t 13) (.k (.bo true)) (.t 18)), []⟩,
    ⟨some 20, none, .q (.mov (.t 19)), []⟩,
    ⟨some 21, some (20, false), .q (.mov (.t 1)), []⟩,
    ⟨some 22, some (20, false), .q (.len (.t 21)), []⟩,
    ⟨some 23, some (20, false), .q (.bin .gtr (.t 22) (.k (.i .i64 12))), []⟩,
    ⟨some 24, none, .q (.pick (.t 20) (.k (.bo true)) (.t 23)), []⟩])
  (.cd (.t 24)
   (.sq (.rg [⟨some 25, none, .pc 9 [], []⟩,
      ⟨some 6, none, .q (.mov (.t 25)), []⟩])
    (.rt))
   (.sk)))
  (.sq (.rg [⟨some 26, none, .q (.ixq 2 1 (.t 5) (.k (.i .i64 0))), []⟩,
    ⟨some 30, none, .q (.ixq 2 1 (.t 5) (.k (.i .i64 1))), []⟩,
    ⟨some 27, none, .ld 1 false (.t 26), []⟩,
    ⟨some 28, none, .q (.bin .rem (.t 27) (.k (.i .u32 1000000000))), []⟩,
    ⟨some 29, none, .q (.cv .i64 (.t 28)), []⟩,
    ⟨some 7, none, .q (.mov (.t 29)), []⟩,
    ⟨some 31, none, .ld 1 false (.t 30), []⟩,
    ⟨some 32, none, .q (.bin .rem (.t 31) (.k (.i .u32 1000000000))), []⟩,
    ⟨some 33, none, .q (.cv .i64 (.t 32)), []⟩,
    ⟨some 8, none, .q (.mov (.t 33)), []⟩])
  (.sq (.rg [⟨some 34, none, .ld 8 true (.t 3), []⟩,
    ⟨some 35, none, .q (.mov (.t 7)), []⟩,
    ⟨some 36, none, .pc 12 [(.t 34), (.t 35)], []⟩,
    ⟨some 9, none, .alc [.i .i64 0, .i .u64 0, .i .u64 0, .i .u64 0, .i .u64 0, .nil, .i .i64 0, .i .i64 0], []⟩,
    ⟨none, none, .sto 8 (.t 9) (.t 36), []⟩])
  (.sq (.rg [⟨some 37, none, .ld 8 true (.t 3), []⟩,
    ⟨some 38, none, .q (.mov (.t 8)), []⟩,
    ⟨some 39, none, .pc 12 [(.t 37), (.t 38)], []⟩,
    ⟨some 10, none, .alc [.i .i64 0, .i .u64 0, .i .u64 0, .i .u64 0, .i .u64 0, .nil, .i .i64 0, .i .i64 0], []⟩,
    ⟨none, none, .sto 8 (.t 10) (.t 39), []⟩])
  (.sq (.rg [⟨some 41, none, .q (.mov (.t 7)), []⟩,
    ⟨some 42, none, .q (.mov (.t 8)), []⟩,
    ⟨some 43, none, .q (.bin .add (.t 41) (.t 42)), []⟩,
    ⟨some 45, none, .q (.mov (.t 1)), []⟩,
    ⟨some 51, none, .q (.mov (.t 1)), []⟩,
    ⟨some 40, none, .ld 8 true (.t 3), []⟩,
    ⟨some 47, none, .ld 8 true (.t 9), []⟩,
    ⟨some 48, none, .ld 8 true (.t 10), []⟩,
    ⟨some 44, none, .pc 12 [(.t 40), (.t 43)], []⟩,
    ⟨some 46, none, .pc 11 [(.t 44), (.t 45)], []⟩,
    ⟨some 49, none, .bsl 8 2 [.i .i64 0, .i .u64 0, .i .u64 0, .i .u64 0, .i .u64 0, .nil, .i .i64 0, .i .i64 0] [(0, (.t 47)), (1, (.t 48))], []⟩,
    ⟨some 50, none, .q (.bld [.i .i64 0, .i .u64 0, .i .u64 0, .i .u64 0, .i .u64 0, .nil, .i .i64 0, .i .i64 0] [(0, 1, (.k (.i .i64 2))), (5, 1, (.t 49))]), []⟩,
    ⟨some 52, none, .pc 11 [(.t 50), (.t 51)], []⟩,
    ⟨some 53, none, .q (.eqb false (.t 46) (.t 52)), []⟩,
    ⟨some 6, none, .q (.mov (.t 53)), []⟩])
  (.rt))))))
def fn5 : Fn := { n := 54, np := 3, res := [.t 6], body := c5 }
theorem e5 : F 5 = some fn5 := by kernel_rfl

def c6 : C :=
  .sq (.rg [⟨some 3, none, .box (.t 0), []⟩,
    ⟨some 5, none, .box (.t 2), []⟩,
    ⟨some 6, none, .q (.mov (.k (.bo false))), []⟩])
  (.sq (.sq (.rg [⟨some 12, none, .pc 9 [], []⟩,
    ⟨some 13, none, .q (.un .not (.t 12)), []⟩,
    ⟨some 14, none, .q (.mov (.t 13)), []⟩,
    ⟨some 15, some (14, false), .ld 8 true (.t 3), []⟩,
    ⟨some 16, some (14, false), .ld 8 true (.t 3), []⟩,
    ⟨some 17, some (14, false), .q (.mov (.t 1)), []⟩,
    ⟨some 18, some (14, false), .pc 10 [(.t 15), (.t 16), (.t 17)], []⟩,
    ⟨some 19, some (14, false), .q (.un .not (.t 18)), []⟩,
    ⟨some 20, none, .q (.pick (.t 14) (.k (.bo true)) (.t 19)), []⟩])
  (.cd (.t 20)
   (.sq (.rg [⟨some 21, none, .pc 9 [], []⟩,
      ⟨some 6, none, .q (.mov (.t 21)), []⟩])
    (.rt))
   (.sk)))
  (.sq (.rg [⟨some 22, none, .q (.ixq 4 1 (.t 5) (.k (.i .i64 0))), []⟩,
    ⟨some 23, none, .ld 1 false (.t 22), []⟩,
    ⟨some 24, none, .q (.cv .i64 (.t 23)), []⟩,
    ⟨some 7, none, .q (.mov (.t 24)), []⟩])
  (.sq (.rg [⟨some 25, none, .q (.mov (.t 7)), []⟩,
    ⟨some 26, none, .q (.ixq 4 1 (.t 5) (.k (.i .i64 1))), []⟩,
    ⟨some 27, none, .ld 1 false (.t 26), []⟩,
    ⟨some 28, none, .q (.cv .i64 (.t 27)), []⟩,
    ⟨some 29, none, .q (.bin .add (.t 25) (.t 28)), []⟩,
    ⟨some 8, none, .q (.mov (.t 29)), []⟩])
  (.sq (.rg [⟨some 30, none, .ld 8 true (.t 3), []⟩,
    ⟨some 31, none, .bsl 8 1 [.i .i64 0, .i .u64 0, .i .u64 0, .i .u64 0, .i .u64 0, .nil, .i .i64 0, .i .i64 0] [(0, (.t 30))], []⟩,
    ⟨some 32, none, .q (.mov (.t 7)), []⟩,
    ⟨some 33, none, .q (.mov (.t 8)), []⟩,
    ⟨some 34, none, .q (.bld [.i .i64 0, .i .u64 0, .i .u64 0, .i .u64 0, .i .u64 0, .nil, .i .i64 0, .i .i64 0] [(0, 1, (.k (.i .i64 4))), (5, 1, (.t 31)), (6, 1, (.t 32)), (7, 1, (.t 33))]), []⟩,
    ⟨some 9, none, .alc [.i .i64 0, .i .u64 0, .i .u64 0, .i .u64 0, .i .u64 0, .nil, .i .i64 0, .i .i64 0], []⟩,
    ⟨none, none, .sto 8 (.t 9) (.t 34), []⟩])
  (.sq (.rg [⟨some 35, none, .ld 8 true (.t 3), []⟩,
    ⟨some 36, none, .bsl 8 1 [.i .i64 0, .i .u64 0, .i .u64 0, .i .u64 0, .i .u64 0, .nil, .i .i64 0, .i .i64 0] [(0, (.t 35))], []⟩,
    ⟨some 37, none, .q (.mov (.t 7)), []⟩,
    ⟨some 38, none, .q (.mov (.t 7)), []⟩,
    ⟨some 39, none, .q (.ixq 4 1 (.t 5) (.k (.i .i64 2))), []⟩,
    ⟨some 40, none, .ld 1 false (.t 39), []⟩,
    ⟨some 41, none, .q (.cv .i64 (.t 40)), []⟩,
    ⟨some 42, none, .q (.mx false (.t 38) (.t 41)), []⟩,
    ⟨some 43, none, .q (.bin .sub (.t 37) (.t 42)), []⟩,
    ⟨some 44, none, .q (.mov (.t 8)), []⟩,
    ⟨some 45, none, .q (.ixq 4 1 (.t 5) (.k (.i .i64 3))), []⟩,
    ⟨some 46, none, .ld 1 false (.t 45), []⟩,
    ⟨some 47, none, .q (.cv .i64 (.t 46)), []⟩,
    ⟨some 48, none, .q (.bin .add (.t 44) (.t 47)), []⟩,
    ⟨some 49, none, .q (.bld [.i .i64 0, .i .u64 0, .i .u64 0, .i .u64 0, .i .u64 0, .nil, .i .i64 0, .i .i64 0] [(0, 1, (.k (.i .i64 4))), (5, 1, (.t 36)), (6, 1, (.t 43)), (7, 1, (.t 48))]), []⟩,
    ⟨some 10, none, .alc [.i .i64 0, .i .u64 0, .i .u64 0, .i .u64 0, .i .u64 0, .nil, .i .i64 0, .i .i64 0], []⟩,
    ⟨none, none, .sto 8 (.t 10) (.t 49), []⟩])
  (.sq (.rg [⟨some 50, none, .ld 8 true (.t 3), []⟩,
    ⟨some 51, none, .bsl 8 1 [.i .i64 0, .i .u64 0, .i .u64 0, .i .u64 0, .i .u64 0, .nil, .i .i64 0, .i .i64 0] [(0, (.t 50))], []⟩,
    ⟨some 52, none, .q (.mov (.t 7)), []⟩,
    ⟨some 53, none, .q (.bld [.i .i64 0, .i .u64 0, .i .u64 0, .i .u64 0, .i .u64 0, .nil, .i .i64 0, .i .i64 0] [(0, 1, (.k (.i .i64 4))), (5, 1, (.t 51)), (6, 1, (.t 52)), (7, 1, (.k (.i .i64 (-1))))]), []⟩,
    ⟨some 11, none, .alc [.i .i64 0, .i .u64 0, .i .u64 0, .i .u64 0, .i .u64 0, .nil, .i .i64 0, .i .i64 0], []⟩,
    ⟨none, none, .sto 8 (.t 11) (.t 53), []⟩])
  (.sq (.rg [⟨some 54, none, .ld 8 true (.t 9), []⟩,
    ⟨some 55, none, .q (.mov (.t 1)), []⟩,
    ⟨some 56, none, .pc 11 [(.t 54), (.t 55)], []⟩,
    ⟨some 57, none, .q (.un .not (.t 56)), []⟩,
    ⟨some 58, none, .q (.mov (.t 57)), []⟩,
    ⟨some 59, some (58, false), .ld 8 true (.t 10), []⟩,
    ⟨some 60, some (58, false), .q (.mov (.t 1)), []⟩,
    ⟨some 61, some (58, false), .pc 11 [(.t 59), (.t 60)], []⟩,
    ⟨some 62, some (58, false), .q (.mov (.t 61)), []⟩,
    ⟨some 63, some (62, true), .ld 8 true (.t 11), []⟩,
    ⟨some 64, some (62, true), .q (.mov (.t 1)), []⟩,
    ⟨some 65, some (62, true), .pc 11 [(.t 63), (.t 64)], []⟩,
    ⟨some 66, some (58, false), .q (.pick (.t 62) (.t 65) (.k (.bo false))), []⟩,
    ⟨some 67, none, .q (.pick (.t 58) (.k (.bo true)) (.t 66)), []⟩,
    ⟨some 6, none, .q (.mov (.t 67)), []⟩])
  (.rt))))))))
def fn6 : Fn := { n := 68, np := 3, res := [.t 6], body := c6 }
theorem e6 : F 6 = some fn6 := by kernel_rfl

def b7_0 : C :=
  .sq (.sq (.rg [⟨some 30, none, .q (.mov (.t 9)), []⟩,
    ⟨some 31, none, .q (.mov (.t 8)), []⟩,
    ⟨some 32, none, .q (.len (.t 31)), []⟩,
    ⟨some 33, none, .q (.bin .lss (.t 30) (.t 32)), []⟩])
  (.cd (.t 33)
   (.sk)
   (.ex 0)))
  (.sq (.bk 1 (.rg [⟨some 36, none, .q (.mov (.t 8)), []⟩,
    ⟨some 37, none, .q (.mov (.t 9)), []⟩,
    ⟨some 38, none, .q (.ixp 1 (.t 36) (.t 37)), []⟩,
    ⟨none, none, .sto 1 (.t 38) (.k (.i .u8 65)), []⟩]))
  (.rg [⟨some 34, none, .q (.mov (.t 9)), []⟩,
    ⟨some 35, none, .q (.bin .add (.t 34) (.k (.i .i64 1))), []⟩,
    ⟨some 9, none, .q (.mov (.t 35)), []⟩]))
def c7 : C :=
  .sq (.rg [⟨some 6, none, .q (.mov (.k (.bo false))), []⟩])
  (.sq (.sq (.rg [⟨some 12, none, .pc 9 [], []⟩,
    ⟨some 13, none, .q (.un .not (.t 12)), []⟩])
  (.cd (.t 13)
   (.sq (.rg [⟨some 6, none, .q (.mov (.k (.bo false))), []⟩])
    (.rt))
   (.sk)))
  (.sq (.rg [⟨some 14, none, .q (.bld [.i .u64 0, .i .u64 0, .i .u64 0, .i .u64 0] [(0, 1, (.k (.i .u64 0))), (1, 1, (.k (.i .u64 2)))]), []⟩,
    ⟨some 15, none, .q (.bld [.i .i64 0, .i .u64 0, .i .u64 0, .i .u64 0, .i .u64 0, .nil, .i .i64 0, .i .i64 0] [(0, 1, (.k (.i .i64 1))), (1, 4, (.t 14))]), []⟩,
    ⟨some 16, none, .bsl 8 1 [.i .i64 0, .i .u64 0, .i .u64 0, .i .u64 0, .i .u64 0, .nil, .i .i64 0, .i .i64 0] [(0, (.t 15))], []⟩,
    ⟨some 17, none, .q (.mov (.t 0)), []⟩,
    ⟨some 18, none, .q (.mov (.t 1)), []⟩,
    ⟨some 19, none, .q (.mx false (.t 17) (.t 18)), []⟩,
    ⟨some 20, none, .q (.cv .i64 (.t 19)), []⟩,
    ⟨some 21, none, .q (.mov (.t 0)), []⟩,
    ⟨some 22, none, .q (.mov (.t 1)), []⟩,
    ⟨some 23, none, .q (.mx true (.t 21) (.t 22)), []⟩,
    ⟨some 24, none, .q (.cv .i64 (.t 23)), []⟩,
    ⟨some 25, none, .q (.bld [.i .i64 0, .i .u64 0, .i .u64 0, .i .u64 0, .i .u64 0, .nil, .i .i64 0, .i .i64 0] [(0, 1, (.k (.i .i64 4))), (5, 1, (.t 16)), (6, 1, (.t 20)), (7, 1, (.t 24))]), []⟩,
    ⟨some 7, none, .alc [.i .i64 0, .i .u64 0, .i .u64 0, .i .u64 0, .i .u64 0, .nil, .i .i64 0, .i .i64 0], []⟩,
    ⟨none, none, .sto 8 (.t 7) (.t 25), []⟩])
  (.sq (.rg [⟨some 26, none, .q (.mov (.t 2)), []⟩,
    ⟨some 27, none, .q (.bin .rem (.t 26) (.k (.i .u16 260))), []⟩,
    ⟨some 28, none, .q (.cv .i64 (.t 27)), []⟩,
    ⟨some 29, none, .mks 1 1 [.i .u8 0] (.t 28) (.t 28), []⟩,
    ⟨some 8, none, .q (.mov (.t 29)), []⟩])
  (.sq (.sq (.rg [⟨some 9, none, .q (.mov (.k (.i .i64 0))), []⟩])
  (.bk 0 (.lp b7_0)))
  (.sq (.rg [⟨some 40, none, .ld 8 true (.t 7), []⟩,
    ⟨some 41, none, .q (.mov (.t 8)), []⟩,
    ⟨some 42, none, .pc 13 [(.t 40), (.t 41)], []⟩,
    ⟨some 39, none, .q (.mov (.t 42)), []⟩,
    ⟨some 43, none, .q (.ext (.t 39) 0), []⟩,
    ⟨some 44, none, .q (.ext (.t 39) 1), []⟩,
    ⟨some 10, none, .q (.mov (.t 43)), []⟩,
    ⟨some 11, none, .q (.mov (.t 44)), []⟩])
  (.sq (.sq (.rg [⟨some 45, none, .q (.mov (.t 8)), []⟩,
    ⟨some 46, none, .q (.len (.t 45)), []⟩,
    ⟨some 47, none, .q (.bin .gtr (.t 46) (.k (.i .i64 200))), []⟩])
  (.cd (.t 47)
   (.sq (.rg [⟨some 48, none, .q (.mov (.t 11)), []⟩,
      ⟨some 49, none, .q (.bin .eql (.t 48) (.k (.i .i64 3))), []⟩,
      ⟨some 50, none, .q (.mov (.t 49)), []⟩,
      ⟨some 51, some (50, true), .q (.mov (.t 10)), []⟩,
      ⟨some 52, some (50, true), .q (.un .not (.t 51)), []⟩,
      ⟨some 53, none, .q (.pick (.t 50) (.t 52) (.k (.bo false))), []⟩,
      ⟨some 6, none, .q (.mov (.t 53)), []⟩])
    (.rt))
   (.sk)))
  (.sq (.rg [⟨some 54, none, .q (.mov (.t 11)), []⟩,
    ⟨some 55, none, .q (.bin .eql (.t 54) (.k (.i .i64 0))), []⟩,
    ⟨some 56, none, .q (.mov (.t 55)), []⟩,
    ⟨some 57, some (56, true), .q (.mov (.t 10)), []⟩,
    ⟨some 58, some (56, true), .q (.mov (.t 8)), []⟩,
    ⟨some 59, some (56, true), .q (.len (.t 58)), []⟩,
    ⟨some 60, some (56, true), .q (.adr 6 (.t 7)), []⟩,
    ⟨some 61, some (56, true), .ld 1 false (.t 60), []⟩,
    ⟨some 62, some (56, true), .q (.bin .geq (.t 59) (.t 61)), []⟩,
    ⟨some 63, some (56, true), .q (.mov (.t 62)), []⟩,
    ⟨some 64, some (63, true), .q (.mov (.t 8)), []⟩,
    ⟨some 65, some (63, true), .q (.len (.t 64)), []⟩,
    ⟨some 66, some (63, true), .q (.adr 7 (.t 7)), []⟩,
    ⟨some 67, some (63, true), .ld 1 false (.t 66), []⟩,
    ⟨some 68, some (63, true), .q (.bin .leq (.t 65) (.t 67)), []⟩,
    ⟨some 69, some (56, true), .q (.pick (.t 63) (.t 68) (.k (.bo false))), []⟩,
    ⟨some 70, some (56, true), .q (.eqb false (.t 57) (.t 69)), []⟩,
    ⟨some 71, none, .q (.pick (.t 56) (.t 70) (.k (.bo false))), []⟩,
    ⟨some 6, none, .q (.mov (.t 71)), []⟩])
  (.rt))))))))
def fn7 : Fn := { n := 72, np := 3, res := [.t 6], body := c7 }
theorem e7 : F 7 = some fn7 := by kernel_rfl

def c8 : C :=
  .sq (.rg [⟨some 2, none, .box (.t 0), []⟩,
    ⟨some 4, none, .q (.mov (.k (.bo false))), []⟩])
  (.sq (.sq (.rg [⟨some 11, none, .pc 9 [], []⟩,
    ⟨some 12, none, .q (.un .not (.t 11)), []⟩,
    ⟨some 13, none, .q (.mov (.t 12)), []⟩,
    ⟨some 14, some (13, false), .ld 8 true (.t 2), []⟩,
    ⟨some 15, some (13, false), .pc 14 [(.t 14), (.k (.i .i64 80))], []⟩,
    ⟨some 16, some (13, false), .q (.bin .gtr (.t 15) (.k (.i .i64 80))), []⟩,
    ⟨some 17, none, .q (.pick (.t 13) (.k (.bo true)) (.t 16)), []⟩,
    ⟨some 18, none, .q (.mov (.t 17)), []⟩,
    ⟨some 19, some (18, false), .q (.mov (.t 1)), []⟩,
    ⟨some 20, some (18, false), .q (.len (.t 19)), []⟩,
    ⟨some 21, some (18, false), .q (.bin .gtr (.t 20) (.k (.i .i64 20))), []⟩,
    ⟨some 22, none, .q (.pick (.t 18) (.k (.bo true)) (.t 21)), []⟩,
    ⟨some 23, none, .q (.mov (.t 22)), []⟩,
    ⟨some 24, some (23, false), .ld 8 true (.t 2), []⟩,
    ⟨some 25, some (23, false), .pc 15 [(.t 24)], []⟩,
    ⟨some 26, some (23, false), .q (.un .not (.t 25)), []⟩,
    ⟨some 27, none, .q (.pick (.t 23) (.k (.bo true)) (.t 26)), []⟩])
  (.cd (.t 27)
   (.sq (.rg [⟨some 28, none, .pc 9 [], []⟩,
      ⟨some 4, none, .q (.mov (.t 28)), []⟩])
    (.rt))
   (.sk)))
  (.sq (.rg [⟨some 30, none, .ld 8 true (.t 2), []⟩,
    ⟨some 31, none, .pc 16 [(.t 30)], []⟩,
    ⟨some 29, none, .q (.mov (.t 31)), []⟩,
    ⟨some 32, none, .q (.ext (.t 29) 0), []⟩,
    ⟨some 33, none, .q (.ext (.t 29) 1), []⟩,
    ⟨some 5, none, .alc [.i .i64 0, .i .u64 0, .i .u64 0, .i .u64 0, .i .u64 0, .nil, .i .i64 0, .i .i64 0], []⟩,
    ⟨none, none, .sto 8 (.t 5) (.t 32), []⟩,
    ⟨some 6, none, .q (.mov (.t 33)), []⟩])
  (.sq (.rg [⟨some 35, none, .ld 8 true (.t 2), []⟩,
    ⟨some 36, none, .q (.mov (.t 1)), []⟩,
    ⟨some 37, none, .pc 13 [(.t 35), (.t 36)], []⟩,
    ⟨some 34, none, .q (.mov (.t 37)), []⟩,
    ⟨some 38, none, .q (.ext (.t 34) 0), []⟩,
    ⟨some 39, none, .q (.ext (.t 34) 1), []⟩,
    ⟨some 7, none, .q (.mov (.t 38)), []⟩,
    ⟨some 8, none, .q (.mov (.t 39)), []⟩])
  (.sq (.rg [⟨some 41, none, .ld 8 true (.t 5), []⟩,
    ⟨some 42, none, .q (.mov (.t 1)), []⟩,
    ⟨some 43, none, .pc 13 [(.t 41), (.t 42)], []⟩,
    ⟨some 40, none, .q (.mov (.t 43)), []⟩,
    ⟨some 44, none, .q (.ext (.t 40) 0), []⟩,
    ⟨some 45, none, .q (.ext (.t 40) 1), []⟩,
    ⟨some 9, none, .q (.mov (.t 44)), []⟩,
    ⟨some 10, none, .q (.mov (.t 45)), []⟩])
  (.sq (.rg [⟨some 46, none, .q (.mov (.t 6)), []⟩,
    ⟨some 47, none, .q (.bin .eql (.t 46) (.k (.i .i64 0))), []⟩,
    ⟨some 48, none, .q (.mov (.t 47)), []⟩,
    ⟨some 49, some (48, true), .q (.mov (.t 8)), []⟩,
    ⟨some 50, some (48, true), .q (.bin .eql (.t 49) (.k (.i .i64 0))), []⟩,
    ⟨some 51, none, .q (.pick (.t 48) (.t 50) (.k (.bo false))), []⟩,
    ⟨some 52, none, .q (.mov (.t 51)), []⟩,
    ⟨some 53, some (52, true), .q (.mov (.t 10)), []⟩,
    ⟨some 54, some (52, true), .q (.bin .eql (.t 53) (.k (.i .i64 0))), []⟩,
    ⟨some 55, none, .q (.pick (.t 52) (.t 54) (.k (.bo false))), []⟩,
    ⟨some 56, none, .q (.mov (.t 55)), []⟩,
    ⟨some 57, some (56, true), .q (.mov (.t 7)), []⟩,
    ⟨some 58, some (56, true), .q (.mov (.t 9)), []⟩,
    ⟨some 59, some (56, true), .q (.eqb false (.t 57) (.t 58)), []⟩,
    ⟨some 60, none, .q (.pick (.t 56) (.t 59) (.k (.bo false))), []⟩,
    ⟨some 4, none, .q (.mov (.t 60)), []⟩])
  (.rt))))))
def fn8 : Fn := { n := 61, np := 2, res := [.t 4], body := c8 }
theorem e8 : F 8 = some fn8 := by kernel_rfl

def c9 : C :=
  .sq (.rg [⟨some 0, none, .q (.mov (.k (.bo false))), []⟩])
  (.sq (.rg [⟨some 4, none, .q (.bld [.i .u64 0, .i .u64 0, .i .u64 0, .i .u64 0] [(0, 1, (.k (.i .u64 2)))]), []⟩,
    ⟨some 5, none, .q (.bld [.i .i64 0, .i .u64 0, .i .u64 0, .i .u64 0, .i .u64 0, .nil, .i .i64 0, .i .i64 0] [(0, 1, (.k (.i .i64 1))), (1, 4, (.t 4))]), []⟩,
    ⟨some 6, none, .bsl 1 1 [.i .u8 0] [(0, (.k (.i .u8 1)))], []⟩,
    ⟨some 7, none, .pc 13 [(.t 5), (.t 6)], []⟩,
    ⟨some 3, none, .q (.mov (.t 7)), []⟩,
    ⟨some 8, none, .q (.ext (.t 3) 0), []⟩,
    ⟨some 9, none, .q (.ext (.t 3) 1), []⟩,
    ⟨some 1, none, .q (.mov (.t 8)), []⟩,
    ⟨some 2, none, .q (.mov (.t 9)), []⟩])
  (.sq (.rg [⟨some 10, none, .q (.mov (.t 2)), []⟩,
    ⟨some 11, none, .q (.bin .eql (.t 10) (.k (.i .i64 0))), []⟩,
    ⟨some 12, none, .q (.mov (.t 11)), []⟩,
    ⟨some 13, some (12, true), .q (.mov (.t 1)), []⟩,
    ⟨some 14, none, .q (.pick (.t 12) (.t 13) (.k (.bo false))), []⟩,
    ⟨some 0, none, .q (.mov (.t 14)), []⟩])
  (.rt)))
def fn9 : Fn := { n := 15, np := 0, res := [.t 0], body := c9 }
theorem e9 : F 9 = some fn9 := by kernel_rfl

def c10 : C :=
  .sq (.rg [⟨some 3, none, .box (.t 0), []⟩,
    ⟨some 4, none, .box (.t 1), []⟩,
    ⟨some 6, none, .q (.mov (.k (.bo false))), []⟩])
  (.sq (.rg [⟨some 7, none, .ld 8 true (.t 3), []⟩,
    ⟨some 8, none, .pc 14 [(.t 7), (.k (.i .i64 40))], []⟩,
    ⟨some 9, none, .q (.bin .leq (.t 8) (.k (.i .i64 40))), []⟩,
    ⟨some 10, none, .q (.mov (.t 9)), []⟩,
    ⟨some 11, some (10, true), .ld 8 true (.t 4), []⟩,
    ⟨some 12, some (10, true), .pc 14 [(.t 11), (.k (.i .i64 40))], []⟩,
    ⟨some 13, some (10, true), .q (.bin .leq (.t 12) (.k (.i .i64 40))), []⟩,
    ⟨some 14, none, .q (.pick (.t 10) (.t 13) (.k (.bo false))), []⟩,
    ⟨some 15, none, .q (.mov (.t 14)), []⟩,
    ⟨some 16, some (15, true), .q (.mov (.t 2)), []⟩,
    ⟨some 17, some (15, true), .q (.len (.t 16)), []⟩,
    ⟨some 18, some (15, true), .q (.bin .leq (.t 17) (.k (.i .i64 16))), []⟩,
    ⟨some 19, none, .q (.pick (.t 15) (.t 18) (.k (.bo false))), []⟩,
    ⟨some 20, none, .q (.mov (.t 19)), []⟩,
    ⟨some 21, some (20, true), .ld 8 true (.t 3), []⟩,
    ⟨some 22, some (20, true), .pc 15 [(.t 21)], []⟩,
    ⟨some 23, none, .q (.pick (.t 20) (.t 22) (.k (.bo false))), []⟩,
    ⟨some 24, none, .q (.mov (.t 23)), []⟩,
    ⟨some 25, some (24, true), .ld 8 true (.t 4), []⟩,
    ⟨some 26, some (24, true), .pc 15 [(.t 25)], []⟩,
    ⟨some 27, none, .q (.pick (.t 24) (.t 26) (.k (.bo false))), []⟩,
    ⟨some 6, none, .q (.mov (.t 27)), []⟩])
  (.rt))
def fn10 : Fn := { n := 28, np := 3, res := [.t 6], body := c10 }
theorem e10 : F 10 = some fn10 := by kernel_rfl

def c11 : C :=
  .sq (.rg [⟨some 2, none, .box (.t 0), []⟩,
    ⟨some 4, none, .q (.mov (.k (.bo false))), []⟩])
  (.sq (.rg [⟨some 8, none, .ld 8 true (.t 2), []⟩,
    ⟨some 9, none, .q (.mov (.t 1)), []⟩,
    ⟨some 10, none, .pc 13 [(.t 8), (.t 9)], []⟩,
    ⟨some 7, none, .q (.mov (.t 10)), []⟩,
    ⟨some 11, none, .q (.ext (.t 7) 0), []⟩,
    ⟨some 12, none, .q (.ext (.t 7) 1), []⟩,
    ⟨some 5, none, .q (.mov (.t 11)), []⟩,
    ⟨some 6, none, .q (.mov (.t 12)), []⟩])
  (.sq (.rg [⟨some 13, none, .q (.mov (.t 6)), []⟩,
    ⟨some 14, none, .q (.bin .eql (.t 13) (.k (.i .i64 0))), []⟩,
    ⟨some 15, none, .q (.mov (.t 14)), []⟩,
    ⟨some 16, some (15, true), .q (.mov (.t 5)), []⟩,
    ⟨some 17, none, .q (.pick (.t 15) (.t 16) (.k (.bo false))), []⟩,
    ⟨some 4, none, .q (.mov (.t 17)), []⟩])
  (.rt)))
def fn11 : Fn := { n := 18, np := 2, res := [.t 4], body := c11 }
theorem e11 : F 11 = some fn11 := by kernel_rfl

def c12 : C :=
  .sq (.rg [⟨some 2, none, .box (.t 0), []⟩,
    ⟨some 4, none, .alc [.i .i64 0, .i .u64 0, .i .u64 0, .i .u64 0, .i .u64 0, .nil, .i .i64 0, .i .i64 0], []⟩])
  (.sq (.rg [⟨some 5, none, .ld 8 true (.t 2), []⟩,
    ⟨some 6, none, .bsl 8 1 [.i .i64 0, .i .u64 0, .i .u64 0, .i .u64 0, .i .u64 0, .nil, .i .i64 0, .i .i64 0] [(0, (.t 5))], []⟩,
    ⟨some 7, none, .q (.mov (.t 1)), []⟩,
    ⟨some 8, none, .q (.mov (.t 1)), []⟩,
    ⟨some 9, none, .q (.bld [.i .i64 0, .i .u64 0, .i .u64 0, .i .u64 0, .i .u64 0, .nil, .i .i64 0, .i .i64 0] [(0, 1, (.k (.i .i64 4))), (5, 1, (.t 6)), (6, 1, (.t 7)), (7, 1, (.t 8))]), []⟩,
    ⟨none, none, .sto 8 (.t 4) (.t 9), []⟩])
  (.rt))
def fn12 : Fn := { n := 10, np := 2, res := [.c 4 8 true], body := c12 }
theorem e12 : F 12 = some fn12 := by kernel_rfl

def c13 : C :=
  .sq (.rg [⟨some 2, none, .box (.t 0), []⟩,
    ⟨some 4, none, .q (.mov (.k (.bo false))), []⟩,
    ⟨some 5, none, .q (.mov (.k (.i .i64 0))), []⟩])
  (.sq (.rg [⟨some 9, none, .ld 8 true (.t 2), []⟩,
    ⟨some 10, none, .q (.mov (.t 1)), []⟩,
    ⟨some 11, none, .pc 17 [(.t 9), (.t 10)], []⟩,
    ⟨some 8, none, .q (.mov (.t 11)), []⟩,
    ⟨some 12, none, .q (.ext (.t 8) 0), []⟩,
    ⟨some 13, none, .q (.ext (.t 8) 1), []⟩,
    ⟨some 6, none, .q (.mov (.t 12)), []⟩,
    ⟨some 7, none, .q (.mov (.t 13)), []⟩])
  (.sq (.sq (.rg [⟨some 14, none, .q (.mov (.t 7)), []⟩,
    ⟨some 15, none, .q (.bin .neq (.t 14) (.k (.i .i64 0))), []⟩])
  (.cd (.t 15)
   (.sq (.rg [⟨some 16, none, .q (.mov (.t 7)), []⟩,
      ⟨some 4, none, .q (.mov (.k (.bo false))), []⟩,
      ⟨some 5, none, .q (.mov (.t 16)), []⟩])
    (.rt))
   (.sk)))
  (.sq (.rg [⟨some 17, none, .q (.mov (.t 6)), []⟩,
    ⟨some 18, none, .q (.ixp 1 (.t 17) (.k (.i .i64 0))), []⟩,
    ⟨some 19, none, .ld 1 false (.t 18), []⟩,
    ⟨some 20, none, .q (.mov (.t 1)), []⟩,
    ⟨some 21, none, .q (.len (.t 20)), []⟩,
    ⟨some 22, none, .q (.ixp 1 (.t 19) (.t 21)), []⟩,
    ⟨some 23, none, .ld 1 false (.t 22), []⟩,
    ⟨some 4, none, .q (.mov (.t 23)), []⟩,
    ⟨some 5, none, .q (.mov (.k (.i .i64 0))), []⟩])
  (.rt))))
def fn13 : Fn := { n := 24, np := 2, res := [.t 4, .t 5], body := c13 }
theorem e13 : F 13 = some fn13 := by kernel_rfl

def b14_0 : C :=
  .sq (.sq (.rg [⟨some 7, none, .q (.mov (.t 6)), []⟩,
    ⟨some 8, none, .q (.adr 5 (.t 2)), []⟩,
    ⟨some 9, none, .ld 1 false (.t 8), []⟩,
    ⟨some 10, none, .q (.len (.t 9)), []⟩,
    ⟨some 11, none, .q (.bin .lss (.t 7) (.t 10)), []⟩,
    ⟨some 12, none, .q (.mov (.t 11)), []⟩,
    ⟨some 13, some (12, true), .q (.mov (.t 5)), []⟩,
    ⟨some 14, some (12, true), .q (.mov (.t 1)), []⟩,
    ⟨some 15, some (12, true), .q (.bin .leq (.t 13) (.t 14)), []⟩,
    ⟨some 16, none, .q (.pick (.t 12) (.t 15) (.k (.bo false))), []⟩])
  (.cd (.t 16)
   (.sk)
   (.ex 0)))
  (.sq (.bk 1 (.rg [⟨some 19, none, .q (.mov (.t 5)), []⟩,
    ⟨some 20, none, .q (.adr 5 (.t 2)), []⟩,
    ⟨some 21, none, .ld 1 false (.t 20), []⟩,
    ⟨some 22, none, .q (.mov (.t 6)), []⟩,
    ⟨some 23, none, .q (.ixp 8 (.t 21) (.t 22)), []⟩,
    ⟨some 24, none, .ld 8 true (.t 23), []⟩,
    ⟨some 25, none, .q (.mov (.t 1)), []⟩,
    ⟨some 26, none, .q (.mov (.t 5)), []⟩,
    ⟨some 27, none, .q (.bin .sub (.t 25) (.t 26)), []⟩,
    ⟨some 28, none, .pc 14 [(.t 24), (.t 27)], []⟩,
    ⟨some 29, none, .q (.bin .add (.t 19) (.t 28)), []⟩,
    ⟨some 5, none, .q (.mov (.t 29)), []⟩]))
  (.rg [⟨some 17, none, .q (.mov (.t 6)), []⟩,
    ⟨some 18, none, .q (.bin .add (.t 17) (.k (.i .i64 1))), []⟩,
    ⟨some 6, none, .q (.mov (.t 18)), []⟩]))
def c14 : C :=
  .sq (.rg [⟨some 2, none, .box (.t 0), []⟩,
    ⟨some 4, none, .q (.mov (.k (.i .i64 0))), []⟩])
  (.sq (.rg [⟨some 5, none, .q (.mov (.k (.i .i64 1))), []⟩])
  (.sq (.sq (.rg [⟨some 6, none, .q (.mov (.k (.i .i64 0))), []⟩])
  (.bk 0 (.lp b14_0)))
  (.sq (.rg [⟨some 30, none, .q (.mov (.t 5)), []⟩,
    ⟨some 4, none, .q (.mov (.t 30)), []⟩])
  (.rt))))
def fn14 : Fn := { n := 31, np := 2, res := [.t 4], body := c14 }
theorem e14 : F 14 = some fn14 := by kernel_rfl

def b15_0 : C :=
  .sq (.sq (.rg [⟨some 91, none, .q (.mov (.t 6)), []⟩,
    ⟨some 92, none, .q (.adr 5 (.t 1)), []⟩,
    ⟨some 93, none, .ld 1 false (.t 92), []⟩,
    ⟨some 94, none, .q (.len (.t 93)), []⟩,
    ⟨some 95, none, .q (.bin .lss (.t 91) (.t 94)), []⟩,
    ⟨some 96, none, .q (.mov (.t 95)), []⟩,
    ⟨some 97, some (96, true), .q (.mov (.t 5)), []⟩,
    ⟨some 98, none, .q (.pick (.t 96) (.t 97) (.k (.bo false))), []⟩])
  (.cd (.t 98)
   (.sk)
   (.ex 1)))
  (.sq (.bk 2 (.rg [⟨some 101, none, .q (.adr 5 (.t 1)), []⟩,
    ⟨some 102, none, .ld 1 false (.t 101), []⟩,
    ⟨some 103, none, .q (.mov (.t 6)), []⟩,
    ⟨some 104, none, .q (.ixp 8 (.t 102) (.t 103)), []⟩,
    ⟨some 105, none, .ld 8 true (.t 104), []⟩,
    ⟨some 106, none, .pc 15 [(.t 105)], []⟩,
    ⟨some 5, none, .q (.mov (.t 106)), []⟩]))
  (.rg [⟨some 99, none, .q (.mov (.t 6)), []⟩,
    ⟨some 100, none, .q (.bin .add (.t 99) (.k (.i .i64 1))), []⟩,
    ⟨some 6, none, .q (.mov (.t 100)), []⟩]))
def c15 : C :=
  .sq (.rg [⟨some 1, none, .box (.t 0), []⟩,
    ⟨some 2, none, .q (.mov (.k (.bo false))), []⟩])
  (.sq (.rg [⟨some 7, none, .q (.adr 1 (.t 1)), []⟩,
    ⟨some 8, none, .ld 4 true (.t 7), []⟩,
    ⟨some 9, none, .q (.bld [.i .u64 0, .i .u64 0, .i .u64 0, .i .u64 0] []), []⟩,
    ⟨some 10, none, .q (.eqp false true [.i .u64, .i .u64, .i .u64, .i .u64] (.t 8) (.t 9)), []⟩,
    ⟨some 3, none, .q (.mov (.t 10)), []⟩])
  (.sq (.rg [⟨some 11, none, .q (.adr 6 (.t 1)), []⟩,
    ⟨some 12, none, .ld 1 false (.t 11), []⟩,
    ⟨some 13, none, .q (.bin .eql (.t 12) (.k (.i .i64 0))), []⟩,
    ⟨some 14, none, .q (.mov (.t 13)), []⟩,
    ⟨some 15, some (14, true), .q (.adr 7 (.t 1)), []⟩,
    ⟨some 16, some (14, true), .ld 1 false (.t 15), []⟩,
    ⟨some 17, some (14, true), .q (.bin .eql (.t 16) (.k (.i .i64 0))), []⟩,
    ⟨some 18, none, .q (.pick (.t 14) (.t 17) (.k (.bo false))), []⟩,
    ⟨some 4, none, .q (.mov (.t 18)), []⟩])
  (.sq (.rg [⟨some 5, none, .q (.mov (.k (.bo false))), []⟩])
  (.sq (.sq (.rg [⟨some 19, none, .q (.adr 0 (.t 1)), []⟩,
    ⟨some 20, none, .ld 1 false (.t 19), []⟩])
  (.bk 0 (.sq (.rg [⟨some 22, none, .q (.bin .eql (.t 20) (.k (.i .i64 0))), []⟩,
    ⟨some 21, none, .q (.mov (.t 22)), []⟩])
  (.cd (.t 21)
   (.rg [⟨some 23, none, .q (.mov (.t 3)), []⟩,
      ⟨some 24, none, .q (.mov (.t 23)), []⟩,
      ⟨some 25, some (24, true), .q (.mov (.t 4)), []⟩,
      ⟨some 26, none, .q (.pick (.t 24) (.t 25) (.k (.bo false))), []⟩,
      ⟨some 27, none, .q (.mov (.t 26)), []⟩,
      ⟨some 28, some (27, true), .q (.adr 5 (.t 1)), []⟩,
      ⟨some 29, some (27, true), .ld 1 false (.t 28), []⟩,
      ⟨some 30, some (27, true), .q (.len (.t 29)), []⟩,
      ⟨some 31, some (27, true), .q (.bin .eql (.t 30) (.k (.i .i64 0))), []⟩,
      ⟨some 32, none, .q (.pick (.t 27) (.t 31) (.k (.bo false))), []⟩,
      ⟨some 5, none, .q (.mov (.t 32)), []⟩])
   (.sq (.rg [⟨some 34, none, .q (.bin .eql (.t 20) (.k (.i .i64 1))), []⟩,
      ⟨some 33, none, .q (.mov (.t 34)), []⟩])
    (.cd (.t 33)
     (.rg [⟨some 35, none, .q (.mov (.t 4)), []⟩,
        ⟨some 36, none, .q (.mov (.t 35)), []⟩,
        ⟨some 37, some (36, true), .q (.adr 5 (.t 1)), []⟩,
        ⟨some 38, some (36, true), .ld 1 false (.t 37), []⟩,
        ⟨some 39, some (36, true), .q (.len (.t 38)), []⟩,
        ⟨some 40, some (36, true), .q (.bin .eql (.t 39) (.k (.i .i64 0))), []⟩,
        ⟨some 41, none, .q (.pick (.t 36) (.t 40) (.k (.bo false))), []⟩,
        ⟨some 5, none, .q (.mov (.t 41)), []⟩])
     (.sq (.sq (.rg [⟨some 43, none, .q (.bin .eql (.t 20) (.k (.i .i64 2))), []⟩,
        ⟨some 42, none, .q (.mov (.t 43)), []⟩])
      (.cd (.t 42)
       (.sk)
       (.rg [⟨some 44, none, .q (.bin .eql (.t 20) (.k (.i .i64 3))), []⟩,
          ⟨some 42, none, .q (.mov (.t 44)), []⟩])))
      (.cd (.t 42)
       (.rg [⟨some 45, none, .q (.mov (.t 3)), []⟩,
          ⟨some 46, none, .q (.mov (.t 45)), []⟩,
          ⟨some 47, some (46, true), .q (.mov (.t 4)), []⟩,
          ⟨some 48, none, .q (.pick (.t 46) (.t 47) (.k (.bo false))), []⟩,
          ⟨some 49, none, .q (.mov (.t 48)), []⟩,
          ⟨some 50, some (49, true), .q (.adr 5 (.t 1)), []⟩,
          ⟨some 51, some (49, true), .ld 1 false (.t 50), []⟩,
          ⟨some 52, some (49, true), .q (.len (.t 51)), []⟩,
          ⟨some 53, some (49, true), .q (.bin .gtr (.t 52) (.k (.i .i64 1))), []⟩,
          ⟨some 54, none, .q (.pick (.t 49) (.t 53) (.k (.bo false))), []⟩,
          ⟨some 5, none, .q (.mov (.t 54)), []⟩])
       (.sq (.rg [⟨some 56, none, .q (.bin .eql (.t 20) (.k (.i .i64 4))), []⟩,
          ⟨some 55, none, .q (.mov (.t 56)), []⟩])
        (.cd (.t 55)
         (.rg [⟨some 57, none, .q (.mov (.t 3)), []⟩,
            ⟨some 58, none, .q (.mov (.t 57)), []⟩,
            ⟨some 59, some (58, true), .q (.adr 5 (.t 1)), []⟩,
            ⟨some 60, some (58, true), .ld 1 false (.t 59), []⟩,
            ⟨some 61, some (58, true), .q (.len (.t 60)), []⟩,
            ⟨some 62, some (58, true), .q (.bin .eql (.t 61) (.k (.i .i64 1))), []⟩,
            ⟨some 63, none, .q (.pick (.t 58) (.t 62) (.k (.bo false))), []⟩,
            ⟨some 64, none, .q (.mov (.t 63)), []⟩,
            ⟨some 65, some (64, true), .q (.adr 6 (.t 1)), []⟩,
            ⟨some 66, some (64, true), .ld 1 false (.t 65), []⟩,
            ⟨some 67, some (64, true), .q (.bin .geq (.t 66) (.k (.i .i64 0))), []⟩,
            ⟨some 68, none, .q (.pick (.t 64) (.t 67) (.k (.bo false))), []⟩,
            ⟨some 69, none, .q (.mov (.t 68)), []⟩,
            ⟨some 70, some (69, true), .q (.adr 6 (.t 1)), []⟩,
            ⟨some 71, some (69, true), .ld 1 false (.t 70), []⟩,
            ⟨some 72, some (69, true), .q (.bin .leq (.t 71) (.k (.i .i64 2147483647))), []⟩,
            ⟨some 73, none, .q (.pick (.t 69) (.t 72) (.k (.bo false))), []⟩,
            ⟨some 74, none, .q (.mov (.t 73)), []⟩,
            ⟨some 75, some (74, true), .q (.adr 7 (.t 1)), []⟩,
            ⟨some 76, some (74, true), .ld 1 false (.t 75), []⟩,
            ⟨some 77, some (74, true), .q (.bin .leq (.t 76) (.k (.i .i64 2147483647))), []⟩,
            ⟨some 78, none, .q (.pick (.t 74) (.t 77) (.k (.bo false))), []⟩,
            ⟨some 79, none, .q (.mov (.t 78)), []⟩,
            ⟨some 80, some (79, true), .q (.adr 7 (.t 1)), []⟩,
            ⟨some 81, some (79, true), .ld 1 false (.t 80), []⟩,
            ⟨some 82, some (79, true), .q (.bin .eql (.t 81) (.k (.i .i64 (-1)))), []⟩,
            ⟨some 83, some (79, true), .q (.mov (.t 82)), []⟩,
            ⟨some 84, some (83, false), .q (.adr 7 (.t 1)), []⟩,
            ⟨some 85, some (83, false), .ld 1 false (.t 84), []⟩,
            ⟨some 86, some (83, false), .q (.adr 6 (.t 1)), []⟩,
            ⟨some 87, some (83, false), .ld 1 false (.t 86), []⟩,
            ⟨some 88, some (83, false), .q (.bin .geq (.t 85) (.t 87)), []⟩,
            ⟨some 89, some (79, true), .q (.pick (.t 83) (.k (.bo true)) (.t 88)), []⟩,
            ⟨some 90, none, .q (.pick (.t 79) (.t 89) (.k (.bo false))), []⟩,
            ⟨some 5, none, .q (.mov (.t 90)), []⟩])
         (.sk)))))))))))
  (.sq (.sq (.rg [⟨some 6, none, .q (.mov (.k (.i .i64 0))), []⟩])
  (.bk 1 (.lp b15_0)))
  (.sq (.rg [⟨some 107, none, .q (.mov (.t 5)), []⟩,
    ⟨some 2, none, .q (.mov (.t 107)), []⟩])
  (.rt)))))))
def fn15 : Fn := { n := 108, np := 1, res := [.t 2], body := c15 }
theorem e15 : F 15 = some fn15 := by kernel_rfl

def c16 : C :=
  .sq (.rg [⟨some 1, none, .box (.t 0), []⟩,
    ⟨some 2, none, .alc [.i .i64 0, .i .u64 0, .i .u64 0, .i .u64 0, .i .u64 0, .nil, .i .i64 0, .i .i64 0], []⟩,
    ⟨some 3, none, .q (.mov (.k (.i .i64 0))), []⟩])
  (.sq (.sq (.rg [⟨some 4, none, .ld 8 true (.t 1), []⟩,
    ⟨some 5, none, .pc 18 [(.t 4)], []⟩,
    ⟨some 6, none, .q (.un .not (.t 5)), []⟩])
  (.cd (.t 6)
   (.sq (.rg [⟨some 7, none, .q (.bld [.i .i64 0, .i .u64 0, .i .u64 0, .i .u64 0, .i .u64 0, .nil, .i .i64 0, .i .i64 0] []), []⟩,
      ⟨none, none, .sto 8 (.t 2) (.t 7), []⟩,
      ⟨some 3, none, .q (.mov (.k (.i .i64 1))), []⟩])
    (.rt))
   (.sk)))
  (.sq (.rg [⟨some 8, none, .ld 8 true (.t 1), []⟩,
    ⟨some 9, none, .pc 19 [(.t 8)], []⟩,
    ⟨none, none, .sto 8 (.t 2) (.t 9), []⟩,
    ⟨some 3, none, .q (.mov (.k (.i .i64 0))), []⟩])
  (.rt)))
def fn16 : Fn := { n := 10, np := 1, res := [.c 2 8 true, .t 3], body := c16 }
theorem e16 : F 16 = some fn16 := by kernel_rfl

def b17_0 : C :=
  .sq (.rg [⟨some 31, none, .q (.bin .lss (.t 30) (.t 29)), []⟩])
  (.sq (.cd (.t 31)
   (.sk)
   (.ex 3))
  (.sq (.bk 4 (.sq (.rg [⟨some 32, none, .q (.mov (.t 30)), []⟩,
    ⟨some 10, none, .q (.mov (.t 32)), []⟩])
  (.rg [⟨some 33, none, .q (.mov (.t 9)), []⟩,
    ⟨some 34, none, .ld 4 true (.t 8), []⟩,
    ⟨some 35, none, .q (.mov (.t 10)), []⟩,
    ⟨some 36, none, .pc 21 [(.t 34), (.t 35)], []⟩,
    ⟨some 37, none, .bsl 1 1 [.bo false] [(0, (.t 36))], []⟩,
    ⟨some 38, none, .app 1 1 (.t 33) (.t 37), []⟩,
    ⟨some 9, none, .q (.mov (.t 38)), []⟩])))
  (.rg [⟨some 39, none, .q (.bin .add (.t 30) (.k (.i .i64 1))), []⟩,
    ⟨some 30, none, .q (.mov (.t 39)), []⟩])))
def b17_1 : C :=
  .sq (.rg [⟨some 24, none, .q (.bin .lss (.t 23) (.t 22)), []⟩])
  (.sq (.cd (.t 24)
   (.sk)
   (.ex 1))
  (.sq (.bk 2 (.sq (.rg [⟨some 25, none, .q (.ixp 4 (.t 21) (.t 23)), []⟩,
    ⟨some 26, none, .ld 4 true (.t 25), []⟩,
    ⟨some 8, none, .alc [.i .u64 0, .i .u64 0, .i .u64 0, .i .u64 0], []⟩,
    ⟨none, none, .sto 4 (.t 8) (.t 26), []⟩])
  (.sq (.rg [⟨some 9, none, .q (.mov (.k (.nil))), []⟩])
  (.sq (.sq (.rg [⟨some 27, none, .q (.mov (.t 1)), []⟩,
    ⟨some 28, none, .q (.len (.t 27)), []⟩,
    ⟨some 29, none, .q (.bin .add (.t 28) (.k (.i .i64 1))), []⟩,
    ⟨some 30, none, .q (.mov (.k (.i .i64 0))), []⟩])
  (.bk 3 (.lp b17_0)))
  (.rg [⟨some 40, none, .q (.mov (.t 6)), []⟩,
    ⟨some 41, none, .q (.mov (.t 9)), []⟩,
    ⟨some 42, none, .bsl 1 1 [.nil] [(0, (.t 41))], []⟩,
    ⟨some 43, none, .app 1 24 (.t 40) (.t 42), []⟩,
    ⟨some 6, none, .q (.mov (.t 43)), []⟩])))))
  (.rg [⟨some 44, none, .q (.bin .add (.t 23) (.k (.i .i64 1))), []⟩,
    ⟨some 23, none, .q (.mov (.t 44)), []⟩])))
def c17 : C :=
  .sq (.rg [⟨some 2, none, .box (.t 0), []⟩,
    ⟨some 4, none, .q (.mov (.k (.nil))), []⟩,
    ⟨some 5, none, .q (.mov (.k (.i .i64 0))), []⟩])
  (.sq (.bk 0 (.sq (.rg [⟨some 12, none, .ld 8 true (.t 2), []⟩,
    ⟨some 13, none, .pc 18 [(.t 12)], []⟩,
    ⟨some 14, none, .q (.un .not (.t 13)), []⟩,
    ⟨some 11, none, .q (.mov (.t 14)), []⟩])
  (.cd (.t 11)
   (.sq (.rg [⟨some 4, none, .q (.mov (.k (.nil))), []⟩,
      ⟨some 5, none, .q (.mov (.k (.i .i64 1))), []⟩])
    (.rt))
   (.sq (.rg [⟨some 16, none, .q (.mov (.t 1)), []⟩,
      ⟨some 17, none, .q (.len (.t 16)), []⟩,
      ⟨some 18, none, .q (.bin .gtr (.t 17) (.k (.i .i64 200))), []⟩,
      ⟨some 15, none, .q (.mov (.t 18)), []⟩])
    (.cd (.t 15)
     (.sq (.rg [⟨some 4, none, .q (.mov (.k (.nil))), []⟩,
        ⟨some 5, none, .q (.mov (.k (.i .i64 3))), []⟩])
      (.rt))
     (.sk))))))
  (.sq (.rg [⟨some 6, none, .q (.mov (.k (.nil))), []⟩])
  (.sq (.sq (.rg [⟨some 19, none, .ld 8 true (.t 2), []⟩,
    ⟨some 20, none, .q (.mov (.t 1)), []⟩,
    ⟨some 21, none, .pc 20 [(.t 19), (.t 20)], []⟩,
    ⟨some 22, none, .q (.len (.t 21)), []⟩,
    ⟨some 23, none, .q (.mov (.k (.i .i64 0))), []⟩])
  (.bk 1 (.lp b17_1)))
  (.sq (.rg [⟨some 45, none, .q (.mov (.t 6)), []⟩,
    ⟨some 4, none, .q (.mov (.t 45)), []⟩,
    ⟨some 5, none, .q (.mov (.k (.i .i64 0))), []⟩])
  (.rt)))))
def fn17 : Fn := { n := 46, np := 2, res := [.t 4, .t 5], body := c17 }
theorem e17 : F 17 = some fn17 := by kernel_rfl

def c18 : C :=
  .sq (.rg [⟨some 1, none, .box (.t 0), []⟩,
    ⟨some 2, none, .q (.mov (.k (.bo false))), []⟩])
  (.sq (.rg [⟨some 3, none, .ld 8 true (.t 1), []⟩,
    ⟨some 4, none, .pc 22 [(.t 3)], []⟩,
    ⟨some 5, none, .q (.mov (.t 4)), []⟩,
    ⟨some 6, some (5, true), .q (.adr 5 (.t 1)), []⟩,
    ⟨some 7, some (5, true), .ld 1 false (.t 6), []⟩,
    ⟨some 8, some (5, true), .pc 23 [(.t 7), (.k (.fn 24 []))], []⟩,
    ⟨some 9, some (5, true), .q (.un .not (.t 8)), []⟩,
    ⟨some 10, none, .q (.pick (.t 5) (.t 9) (.k (.bo false))), []⟩,
    ⟨some 2, none, .q (.mov (.t 10)), []⟩])
  (.rt))
def fn18 : Fn := { n := 11, np := 1, res := [.t 2], body := c18 }
theorem e18 : F 18 = some fn18 := by kernel_rfl

def b19_0 : C :=
  .sq (.rg [⟨some 13, none, .q (.bin .lss (.t 12) (.t 11)), []⟩])
  (.sq (.cd (.t 13)
   (.sk)
   (.ex 0))
  (.sq (.bk 1 (.sq (.rg [⟨some 14, none, .q (.ixp 8 (.t 10) (.t 12)), []⟩,
    ⟨some 15, none, .ld 8 true (.t 14), []⟩,
    ⟨some 5, none, .alc [.i .i64 0, .i .u64 0, .i .u64 0, .i .u64 0, .i .u64 0, .nil, .i .i64 0, .i .i64 0], []⟩,
    ⟨none, none, .sto 8 (.t 5) (.t 15), []⟩])
  (.rg [⟨some 16, none, .q (.mov (.t 3)), []⟩,
    ⟨some 17, none, .ld 8 true (.t 5), []⟩,
    ⟨some 18, none, .pc 19 [(.t 17)], []⟩,
    ⟨some 19, none, .bsl 8 1 [.i .i64 0, .i .u64 0, .i .u64 0, .i .u64 0, .i .u64 0, .nil, .i .i64 0, .i .i64 0] [(0, (.t 18))], []⟩,
    ⟨some 20, none, .app 8 80 (.t 16) (.t 19), []⟩,
    ⟨some 3, none, .q (.mov (.t 20)), []⟩])))
  (.rg [⟨some 21, none, .q (.bin .add (.t 12) (.k (.i .i64 1))), []⟩,
    ⟨some 12, none, .q (.mov (.t 21)), []⟩])))
def c19 : C :=
  .sq (.rg [⟨some 1, none, .box (.t 0), []⟩,
    ⟨some 2, none, .alc [.i .i64 0, .i .u64 0, .i .u64 0, .i .u64 0, .i .u64 0, .nil, .i .i64 0, .i .i64 0], []⟩])
  (.sq (.sq (.rg [⟨some 6, none, .ld 8 true (.t 1), []⟩,
    ⟨some 7, none, .pc 25 [(.t 6)], []⟩])
  (.cd (.t 7)
   (.sq (.rg [⟨some 8, none, .q (.bld [.i .i64 0, .i .u64 0, .i .u64 0, .i .u64 0, .i .u64 0, .nil, .i .i64 0, .i .i64 0] [(0, 1, (.k (.i .i64 1)))]), []⟩,
      ⟨none, none, .sto 8 (.t 2) (.t 8), []⟩])
    (.rt))
   (.sk)))
  (.sq (.rg [⟨some 3, none, .q (.mov (.k (.nil))), []⟩])
  (.sq (.sq (.rg [⟨some 9, none, .q (.adr 5 (.t 1)), []⟩,
    ⟨some 10, none, .ld 1 false (.t 9), []⟩,
    ⟨some 11, none, .q (.len (.t 10)), []⟩,
    ⟨some 12, none, .q (.mov (.k (.i .i64 0))), []⟩])
  (.bk 0 (.lp b19_0)))
  (.sq (.sq (.rg [⟨some 22, none, .q (.adr 0 (.t 1)), []⟩,
    ⟨some 23, none, .ld 1 false (.t 22), []⟩])
  (.bk 2 (.sq (.sq (.rg [⟨some 25, none, .q (.bin .eql (.t 23) (.k (.i .i64 2))), []⟩,
    ⟨some 24, none, .q (.mov (.t 25)), []⟩])
  (.cd (.t 24)
   (.sk)
   (.rg [⟨some 26, none, .q (.bin .eql (.t 23) (.k (.i .i64 3))), []⟩,
      ⟨some 24, none, .q (.mov (.t 26)), []⟩])))
  (.cd (.t 24)
   (.sq (.rg [⟨some 27, none, .q (.adr 0 (.t 1)), []⟩,
      ⟨some 29, none, .q (.adr 0 (.t 1)), []⟩,
      ⟨some 31, none, .q (.mov (.t 3)), []⟩,
      ⟨some 28, none, .ld 1 false (.t 27), []⟩,
      ⟨some 30, none, .ld 1 false (.t 29), []⟩,
      ⟨some 32, none, .nc 27 [(.t 30), (.k (.nil)), (.t 31)], [.ld 1 false (.t 27)]⟩,
      ⟨some 33, none, .nc 26 [(.t 28), (.t 32)], []⟩,
      ⟨none, none, .sto 8 (.t 2) (.t 33), []⟩])
    (.rt))
   (.sq (.rg [⟨some 35, none, .q (.bin .eql (.t 23) (.k (.i .i64 4))), []⟩,
      ⟨some 34, none, .q (.mov (.t 35)), []⟩])
    (.cd (.t 34)
     (.sq (.rg [⟨some 36, none, .q (.mov (.t 3)), []⟩,
        ⟨some 37, none, .q (.ixp 8 (.t 36) (.k (.i .i64 0))), []⟩,
        ⟨some 39, none, .q (.adr 6 (.t 1)), []⟩,
        ⟨some 41, none, .q (.adr 7 (.t 1)), []⟩,
        ⟨some 38, none, .ld 8 true (.t 37), []⟩,
        ⟨some 40, none, .ld 1 false (.t 39), []⟩,
        ⟨some 42, none, .ld 1 false (.t 41), []⟩,
        ⟨some 43, none, .pc 28 [(.t 38), (.t 40), (.t 42)], []⟩,
        ⟨none, none, .sto 8 (.t 2) (.t 43), []⟩])
      (.rt))
     (.sk)))))))
  (.sq (.rg [⟨some 44, none, .ld 8 true (.t 1), []⟩,
    ⟨none, none, .sto 8 (.t 2) (.t 44), []⟩])
  (.rt))))))
def fn19 : Fn := { n := 45, np := 1, res := [.c 2 8 true], body := c19 }
theorem e19 : F 19 = some fn19 := by kernel_rfl

def b20_0 : C :=
  .sq (.rg [⟨some 30, none, .q (.bin .lss (.t 29) (.t 28)), []⟩])
  (.sq (.cd (.t 30)
   (.sk)
   (.ex 1))
  (.sq (.bk 2 (.sq (.rg [⟨some 31, none, .q (.mov (.t 29)), []⟩,
    ⟨some 32, none, .q (.ixp 1 (.t 27) (.t 29)), []⟩,
    ⟨some 33, none, .ld 1 false (.t 32), []⟩,
    ⟨some 7, none, .q (.mov (.t 31)), []⟩,
    ⟨some 8, none, .q (.mov (.t 33)), []⟩])
  (.sq (.rg [⟨some 34, none, .q (.adr 1 (.t 2)), []⟩,
    ⟨some 35, none, .ld 4 true (.t 34), []⟩,
    ⟨some 36, none, .q (.mov (.t 8)), []⟩,
    ⟨some 37, none, .pc 29 [(.t 35), (.t 36)], []⟩])
  (.cd (.t 37)
   (.rg [⟨some 38, none, .q (.mov (.t 6)), []⟩,
      ⟨some 39, none, .q (.mov (.t 7)), []⟩,
      ⟨some 40, none, .q (.ixp 4 (.t 38) (.t 39)), []⟩,
      ⟨some 41, none, .q (.mov (.t 7)), []⟩,
      ⟨some 42, none, .q (.bin .add (.t 41) (.k (.i .i64 1))), []⟩,
      ⟨some 43, none, .nc 30 [(.t 40), (.t 42)], []⟩])
   (.sk)))))
  (.rg [⟨some 44, none, .q (.bin .add (.t 29) (.k (.i .i64 1))), []⟩,
    ⟨some 29, none, .q (.mov (.t 44)), []⟩])))
def b20_1 : C :=
  .sq (.rg [⟨some 54, none, .q (.bin .lss (.t 53) (.t 52)), []⟩])
  (.sq (.cd (.t 54)
   (.sk)
   (.ex 3))
  (.sq (.bk 4 (.sq (.rg [⟨some 55, none, .q (.ixp 8 (.t 51) (.t 53)), []⟩,
    ⟨some 56, none, .ld 8 true (.t 55), []⟩,
    ⟨some 11, none, .alc [.i .i64 0, .i .u64 0, .i .u64 0, .i .u64 0, .i .u64 0, .nil, .i .i64 0, .i .i64 0], []⟩,
    ⟨none, none, .sto 8 (.t 11) (.t 56), []⟩])
  (.rg [⟨some 57, none, .q (.mov (.t 9)), []⟩,
    ⟨some 58, none, .ld 8 true (.t 11), []⟩,
    ⟨some 59, none, .q (.mov (.t 1)), []⟩,
    ⟨some 60, none, .pc 20 [(.t 58), (.t 59)], []⟩,
    ⟨some 61, none, .nc 31 [(.t 57), (.t 60)], []⟩,
    ⟨some 9, none, .q (.mov (.t 61)), []⟩])))
  (.rg [⟨some 62, none, .q (.bin .add (.t 53) (.k (.i .i64 1))), []⟩,
    ⟨some 53, none, .q (.mov (.t 62)), []⟩])))
def b20_2 : C :=
  .sq (.rg [⟨some 72, none, .q (.bin .lss (.t 71) (.t 70)), []⟩])
  (.sq (.cd (.t 72)
   (.sk)
   (.ex 5))
  (.sq (.bk 6 (.sq (.rg [⟨some 73, none, .q (.ixp 8 (.t 69) (.t 71)), []⟩,
    ⟨some 74, none, .ld 8 true (.t 73), []⟩,
    ⟨some 14, none, .alc [.i .i64 0, .i .u64 0, .i .u64 0, .i .u64 0, .i .u64 0, .nil, .i .i64 0, .i .i64 0], []⟩,
    ⟨none, none, .sto 8 (.t 14) (.t 74), []⟩])
  (.rg [⟨some 75, none, .q (.mov (.t 12)), []⟩,
    ⟨some 76, none, .ld 8 true (.t 14), []⟩,
    ⟨some 77, none, .q (.mov (.t 1)), []⟩,
    ⟨some 78, none, .pc 20 [(.t 76), (.t 77)], []⟩,
    ⟨some 79, none, .pc 33 [(.t 75), (.t 78)], []⟩,
    ⟨some 12, none, .q (.mov (.t 79)), []⟩])))
  (.rg [⟨some 80, none, .q (.bin .add (.t 71) (.k (.i .i64 1))), []⟩,
    ⟨some 71, none, .q (.mov (.t 80)), []⟩])))
def c20 : C :=
  .sq (.rg [⟨some 2, none, .box (.t 0), []⟩,
    ⟨some 4, none, .q (.mov (.k (.nil))), []⟩])
  (.sq (.rg [⟨some 18, none, .q (.mov (.t 1)), []⟩,
    ⟨some 19, none, .q (.len (.t 18)), []⟩,
    ⟨some 20, none, .q (.bin .add (.t 19) (.k (.i .i64 1))), []⟩,
    ⟨some 5, none, .q (.mov (.t 20)), []⟩])
  (.sq (.sq (.rg [⟨some 21, none, .q (.adr 0 (.t 2)), []⟩,
    ⟨some 22, none, .ld 1 false (.t 21), []⟩])
  (.bk 0 (.sq (.rg [⟨some 24, none, .q (.bin .eql (.t 22) (.k (.i .i64 1))), []⟩,
    ⟨some 23, none, .q (.mov (.t 24)), []⟩])
  (.cd (.t 23)
   (.sq (.rg [⟨some 25, none, .q (.mov (.t 5)), []⟩,
      ⟨some 26, none, .mks 4 32 [.i .u64 0, .i .u64 0, .i .u64 0, .i .u64 0] (.t 25) (.t 25), []⟩,
      ⟨some 6, none, .q (.mov (.t 26)), []⟩])
    (.sq (.sq (.rg [⟨some 27, none, .q (.mov (.t 1)), []⟩,
      ⟨some 28, none, .q (.len (.t 27)), []⟩,
      ⟨some 29, none, .q (.mov (.k (.i .i64 0))), []⟩])
    (.bk 1 (.lp b20_0)))
    (.sq (.rg [⟨some 45, none, .q (.mov (.t 6)), []⟩,
      ⟨some 4, none, .q (.mov (.t 45)), []⟩])
    (.rt))))
   (.sq (.rg [⟨some 47, none, .q (.bin .eql (.t 22) (.k (.i .i64 3))), []⟩,
      ⟨some 46, none, .q (.mov (.t 47)), []⟩])
    (.cd (.t 46)
     (.sq (.rg [⟨some 48, none, .q (.mov (.t 5)), []⟩,
        ⟨some 49, none, .mks 4 32 [.i .u64 0, .i .u64 0, .i .u64 0, .i .u64 0] (.t 48) (.t 48), []⟩,
        ⟨some 9, none, .q (.mov (.t 49)), []⟩])
      (.sq (.sq (.rg [⟨some 50, none, .q (.adr 5 (.t 2)), []⟩,
        ⟨some 51, none, .ld 1 false (.t 50), []⟩,
        ⟨some 52, none, .q (.len (.t 51)), []⟩,
        ⟨some 53, none, .q (.mov (.k (.i .i64 0))), []⟩])
      (.bk 3 (.lp b20_1)))
      (.sq (.rg [⟨some 63, none, .q (.mov (.t 9)), []⟩,
        ⟨some 4, none, .q (.mov (.t 63)), []⟩])
      (.rt))))
     (.sq (.rg [⟨some 65, none, .q (.bin .eql (.t 22) (.k (.i .i64 2))), []⟩,
        ⟨some 64, none, .q (.mov (.t 65)), []⟩])
      (.cd (.t 64)
       (.sq (.rg [⟨some 66, none, .q (.mov (.t 5)), []⟩,
          ⟨some 67, none, .pc 32 [(.t 66)], []⟩,
          ⟨some 12, none, .q (.mov (.t 67)), []⟩])
        (.sq (.sq (.rg [⟨some 68, none, .q (.adr 5 (.t 2)), []⟩,
          ⟨some 69, none, .ld 1 false (.t 68), []⟩,
          ⟨some 70, none, .q (.len (.t 69)), []⟩,
          ⟨some 71, none, .q (.mov (.k (.i .i64 0))), []⟩])
        (.bk 5 (.lp b20_2)))
        (.sq (.rg [⟨some 81, none, .q (.mov (.t 12)), []⟩,
          ⟨some 4, none, .q (.mov (.t 81)), []⟩])
        (.rt))))
       (.sq (.rg [⟨some 83, none, .q (.bin .eql (.t 22) (.k (.i .i64 4))), []⟩,
          ⟨some 82, none, .q (.mov (.t 83)), []⟩])
        (.cd (.t 82)
         (.sq (.rg [⟨some 84, none, .q (.adr 5 (.t 2)), []⟩,
            ⟨some 85, none, .ld 1 false (.t 84), []⟩,
            ⟨some 86, none, .q (.ixp 8 (.t 85) (.k (.i .i64 0))), []⟩,
            ⟨some 87, none, .ld 8 true (.t 86), []⟩,
            ⟨some 88, none, .q (.mov (.t 1)), []⟩,
            ⟨some 89, none, .pc 20 [(.t 87), (.t 88)], []⟩,
            ⟨some 15, none, .q (.mov (.t 89)), []⟩])
          (.sq (.rg [⟨some 90, none, .q (.mov (.t 15)), []⟩,
            ⟨some 91, none, .q (.mov (.t 5)), []⟩,
            ⟨some 92, none, .pc 32 [(.t 91)], []⟩,
            ⟨some 93, none, .pc 31 [(.t 90), (.t 92)], []⟩,
            ⟨some 16, none, .q (.mov (.t 93)), []⟩])
          (.sq (.rg [⟨some 94, none, .q (.adr 7 (.t 2)), []⟩,
            ⟨some 95, none, .ld 1 false (.t 94), []⟩,
            ⟨some 96, none, .q (.adr 6 (.t 2)), []⟩,
            ⟨some 97, none, .ld 1 false (.t 96), []⟩,
            ⟨some 98, none, .q (.bin .sub (.t 95) (.t 97)), []⟩,
            ⟨some 17, none, .q (.mov (.t 98)), []⟩])
          (.sq (.sq (.rg [⟨some 99, none, .q (.adr 7 (.t 2)), []⟩,
            ⟨some 100, none, .ld 1 false (.t 99), []⟩,
            ⟨some 101, none, .q (.bin .eql (.t 100) (.k (.i .i64 (-1)))), []⟩])
          (.cd (.t 101)
           (.rg [⟨some 102, none, .q (.mov (.t 5)), []⟩,
              ⟨some 17, none, .q (.mov (.t 102)), []⟩])
           (.sk)))
          (.sq (.rg [⟨some 103, none, .q (.mov (.t 15)), []⟩,
            ⟨some 104, none, .q (.adr 6 (.t 2)), []⟩,
            ⟨some 105, none, .ld 1 false (.t 104), []⟩,
            ⟨some 106, none, .pc 34 [(.t 103), (.t 105)], []⟩,
            ⟨some 107, none, .q (.mov (.t 16)), []⟩,
            ⟨some 108, none, .q (.mov (.t 17)), []⟩,
            ⟨some 109, none, .pc 34 [(.t 107), (.t 108)], []⟩,
            ⟨some 110, none, .pc 33 [(.t 106), (.t 109)], []⟩,
            ⟨some 4, none, .q (.mov (.t 110)), []⟩])
          (.rt))))))
         (.sk)))))))))))
  (.sq (.rg [⟨some 111, none, .q (.mov (.t 5)), []⟩,
    ⟨some 112, none, .pc 32 [(.t 111)], []⟩,
    ⟨some 4, none, .q (.mov (.t 112)), []⟩])
  (.rt))))
def fn20 : Fn := { n := 113, np := 2, res := [.t 4], body := c20 }
theorem e20 : F 20 = some fn20 := by kernel_rfl

def c21 : C :=
  .sq (.rg [⟨some 2, none, .box (.t 0), []⟩,
    ⟨some 4, none, .q (.mov (.k (.bo false))), []⟩])
  (.sq (.rg [⟨some 5, none, .q (.mov (.t 1)), []⟩,
    ⟨some 6, none, .q (.bin .shr (.t 5) (.k (.i .u64 6))), []⟩,
    ⟨some 7, none, .q (.ixq 4 1 (.t 2) (.t 6)), []⟩,
    ⟨some 8, none, .ld 1 false (.t 7), []⟩,
    ⟨some 9, none, .q (.mov (.t 1)), []⟩,
    ⟨some 10, none, .q (.bin .and (.t 9) (.k (.i .i64 63))), []⟩,
    ⟨some 11, none, .q (.bin .shr (.t 8) (.t 10)), []⟩,
    ⟨some 12, none, .q (.bin .and (.t 11) (.k (.i .u64 1))), []⟩,
    ⟨some 13, none, .q (.bin .eql (.t 12) (.k (.i .u64 1))), []⟩,
    ⟨some 4, none, .q (.mov (.t 13)), []⟩])
  (.rt))
def fn21 : Fn := { n := 14, np := 2, res := [.t 4], body := c21 }
theorem e21 : F 21 = some fn21 := by kernel_rfl

def c22 : C :=
  .sq (.rg [⟨some 1, none, .box (.t 0), []⟩,
    ⟨some 2, none, .q (.mov (.k (.bo false))), []⟩])
  (.sq (.rg [⟨some 4, none, .q (.adr 6 (.t 1)), []⟩,
    ⟨some 5, none, .ld 1 false (.t 4), []⟩,
    ⟨some 6, none, .q (.bin .eql (.t 5) (.k (.i .i64 0))), []⟩,
    ⟨some 7, none, .q (.mov (.t 6)), []⟩,
    ⟨some 8, some (7, true), .q (.adr 7 (.t 1)), []⟩,
    ⟨some 9, some (7, true), .ld 1 false (.t 8), []⟩,
    ⟨some 10, some (7, true), .q (.bin .eql (.t 9) (.k (.i .i64 0))), []⟩,
    ⟨some 11, none, .q (.pick (.t 7) (.t 10) (.k (.bo false))), []⟩,
    ⟨some 3, none, .q (.mov (.t 11)), []⟩])
  (.sq (.sq (.rg [⟨some 12, none, .q (.adr 0 (.t 1)), []⟩,
    ⟨some 13, none, .ld 1 false (.t 12), []⟩])
  (.bk 0 (.sq (.rg [⟨some 15, none, .q (.bin .eql (.t 13) (.k (.i .i64 0))), []⟩,
    ⟨some 14, none, .q (.mov (.t 15)), []⟩])
  (.cd (.t 14)
   (.sq (.rg [⟨some 16, none, .q (.mov (.t 3)), []⟩,
      ⟨some 17, none, .q (.mov (.t 16)), []⟩,
      ⟨some 18, some (17, true), .q (.adr 1 (.t 1)), []⟩,
      ⟨some 19, some (17, true), .ld 4 true (.t 18), []⟩,
      ⟨some 20, some (17, true), .pc 35 [(.t 19)], []⟩,
      ⟨some 21, none, .q (.pick (.t 17) (.t 20) (.k (.bo false))), []⟩,
      ⟨some 22, none, .q (.mov (.t 21)), []⟩,
      ⟨some 23, some (22, true), .q (.adr 5 (.t 1)), []⟩,
      ⟨some 24, some (22, true), .ld 1 false (.t 23), []⟩,
      ⟨some 25, some (22, true), .q (.len (.t 24)), []⟩,
      ⟨some 26, some (22, true), .q (.bin .eql (.t 25) (.k (.i .i64 0))), []⟩,
      ⟨some 27, none, .q (.pick (.t 22) (.t 26) (.k (.bo false))), []⟩,
      ⟨some 2, none, .q (.mov (.t 27)), []⟩])
    (.rt))
   (.sq (.rg [⟨some 29, none, .q (.bin .eql (.t 13) (.k (.i .i64 1))), []⟩,
      ⟨some 28, none, .q (.mov (.t 29)), []⟩])
    (.cd (.t 28)
     (.sq (.rg [⟨some 30, none, .q (.mov (.t 3)), []⟩,
        ⟨some 31, none, .q (.mov (.t 30)), []⟩,
        ⟨some 32, some (31, true), .q (.adr 5 (.t 1)), []⟩,
        ⟨some 33, some (31, true), .ld 1 false (.t 32), []⟩,
        ⟨some 34, some (31, true), .q (.len (.t 33)), []⟩,
        ⟨some 35, some (31, true), .q (.bin .eql (.t 34) (.k (.i .i64 0))), []⟩,
        ⟨some 36, none, .q (.pick (.t 31) (.t 35) (.k (.bo false))), []⟩,
        ⟨some 2, none, .q (.mov (.t 36)), []⟩])
      (.rt))
     (.sq (.sq (.rg [⟨some 38, none, .q (.bin .eql (.t 13) (.k (.i .i64 2))), []⟩,
        ⟨some 37, none, .q (.mov (.t 38)), []⟩])
      (.cd (.t 37)
       (.sk)
       (.rg [⟨some 39, none, .q (.bin .eql (.t 13) (.k (.i .i64 3))), []⟩,
          ⟨some 37, none, .q (.mov (.t 39)), []⟩])))
      (.cd (.t 37)
       (.sq (.rg [⟨some 40, none, .q (.mov (.t 3)), []⟩,
          ⟨some 41, none, .q (.mov (.t 40)), []⟩,
          ⟨some 42, some (41, true), .q (.adr 1 (.t 1)), []⟩,
          ⟨some 43, some (41, true), .ld 4 true (.t 42), []⟩,
          ⟨some 44, some (41, true), .pc 35 [(.t 43)], []⟩,
          ⟨some 45, none, .q (.pick (.t 41) (.t 44) (.k (.bo false))), []⟩,
          ⟨some 46, none, .q (.mov (.t 45)), []⟩,
          ⟨some 47, some (46, true), .q (.adr 5 (.t 1)), []⟩,
          ⟨some 48, some (46, true), .ld 1 false (.t 47), []⟩,
          ⟨some 49, some (46, true), .q (.len (.t 48)), []⟩,
          ⟨some 50, some (46, true), .q (.bin .geq (.t 49) (.k (.i .i64 2))), []⟩,
          ⟨some 51, none, .q (.pick (.t 46) (.t 50) (.k (.bo false))), []⟩,
          ⟨some 2, none, .q (.mov (.t 51)), []⟩])
        (.rt))
       (.sq (.rg [⟨some 53, none, .q (.bin .eql (.t 13) (.k (.i .i64 4))), []⟩,
          ⟨some 52, none, .q (.mov (.t 53)), []⟩])
        (.cd (.t 52)
         (.sq (.rg [⟨some 54, none, .q (.adr 1 (.t 1)), []⟩,
            ⟨some 55, none, .ld 4 true (.t 54), []⟩,
            ⟨some 56, none, .pc 35 [(.t 55)], []⟩,
            ⟨some 57, none, .q (.mov (.t 56)), []⟩,
            ⟨some 58, some (57, true), .q (.adr 5 (.t 1)), []⟩,
            ⟨some 59, some (57, true), .ld 1 false (.t 58), []⟩,
            ⟨some 60, some (57, true), .q (.len (.t 59)), []⟩,
            ⟨some 61, some (57, true), .q (.bin .eql (.t 60) (.k (.i .i64 1))), []⟩,
            ⟨some 62, none, .q (.pick (.t 57) (.t 61) (.k (.bo false))), []⟩,
            ⟨some 63, none, .q (.mov (.t 62)), []⟩,
            ⟨some 64, some (63, true), .q (.adr 6 (.t 1)), []⟩,
            ⟨some 65, some (63, true), .ld 1 false (.t 64), []⟩,
            ⟨some 66, some (63, true), .q (.bin .geq (.t 65) (.k (.i .i64 0))), []⟩,
            ⟨some 67, none, .q (.pick (.t 63) (.t 66) (.k (.bo false))), []⟩,
            ⟨some 68, none, .q (.mov (.t 67)), []⟩,
            ⟨some 69, some (68, true), .q (.adr 6 (.t 1)), []⟩,
            ⟨some 70, some (68, true), .ld 1 false (.t 69), []⟩,
            ⟨some 71, some (68, true), .q (.bin .leq (.t 70) (.k (.i .i64 2147483647))), []⟩,
            ⟨some 72, none, .q (.pick (.t 68) (.t 71) (.k (.bo false))), []⟩,
            ⟨some 73, none, .q (.mov (.t 72)), []⟩,
            ⟨some 74, some (73, true), .q (.adr 7 (.t 1)), []⟩,
            ⟨some 75, some (73, true), .ld 1 false (.t 74), []⟩,
            ⟨some 76, some (73, true), .q (.bin .eql (.t 75) (.k (.i .i64 (-1)))), []⟩,
            ⟨some 77, some (73, true), .q (.mov (.t 76)), []⟩,
            ⟨some 78, some (77, false), .q (.adr 7 (.t 1)), []⟩,
            ⟨some 79, some (77, false), .ld 1 false (.t 78), []⟩,
            ⟨some 80, some (77, false), .q (.adr 6 (.t 1)), []⟩,
            ⟨some 81, some (77, false), .ld 1 false (.t 80), []⟩,
            ⟨some 82, some (77, false), .q (.bin .geq (.t 79) (.t 81)), []⟩,
            ⟨some 83, some (77, false), .q (.mov (.t 82)), []⟩,
            ⟨some 84, some (83, true), .q (.adr 7 (.t 1)), []⟩,
            ⟨some 85, some (83, true), .ld 1 false (.t 84), []⟩,
            ⟨some 86, some (83, true), .q (.bin .leq (.t 85) (.k (.i .i64 2147483647))), []⟩,
            ⟨some 87, some (77, false), .q (.pick (.t 83) (.t 86) (.k (.bo false))), []⟩,
            ⟨some 88, some (73, true), .q (.pick (.t 77) (.k (.bo true)) (.t 87)), []⟩,
            ⟨some 89, none, .q (.pick (.t 73) (.t 88) (.k (.bo false))), []⟩,
            ⟨some 2, none, .q (.mov (.t 89)), []⟩])
          (.rt))
         (.sk)))))))))))
  (.sq (.rg [⟨some 2, none, .q (.mov (.k (.bo false))), []⟩])
  (.rt))))
def fn22 : Fn := { n := 90, np := 1, res := [.t 2], body := c22 }
theorem e22 : F 22 = some fn22 := by kernel_rfl

def c23 : C :=
  .sq (.rg [⟨some 4, none, .q (.mov (.k (.bo false))), []⟩])
  (.sq (.rg [⟨some 5, none, .q (.mov (.t 0)), []⟩,
    ⟨some 6, none, .q (.mov (.t 1)), []⟩,
    ⟨some 7, none, .pc 36 [(.t 5), (.t 6)], []⟩,
    ⟨some 8, none, .q (.bin .geq (.t 7) (.k (.i .i64 0))), []⟩,
    ⟨some 4, none, .q (.mov (.t 8)), []⟩])
  (.rt))
def fn23 : Fn := { n := 9, np := 2, res := [.t 4], body := c23 }
theorem e23 : F 23 = some fn23 := by kernel_rfl

def c24 : C :=
  .sq (.rg [⟨some 1, none, .box (.t 0), []⟩,
    ⟨some 2, none, .q (.mov (.k (.bo false))), []⟩])
  (.sq (.rg [⟨some 3, none, .ld 8 true (.t 1), []⟩,
    ⟨some 4, none, .pc 18 [(.t 3)], []⟩,
    ⟨some 5, none, .q (.un .not (.t 4)), []⟩,
    ⟨some 2, none, .q (.mov (.t 5)), []⟩])
  (.rt))
def fn24 : Fn := { n := 6, np := 1, res := [.t 2], body := c24 }
theorem e24 : F 24 = some fn24 := by kernel_rfl

def c25 : C :=
  .sq (.rg [⟨some 1, none, .box (.t 0), []⟩,
    ⟨some 2, none, .q (.mov (.k (.bo false))), []⟩])
  (.sq (.sq (.rg [⟨some 3, none, .q (.adr 0 (.t 1)), []⟩,
    ⟨some 4, none, .ld 1 false (.t 3), []⟩])
  (.bk 0 (.sq (.rg [⟨some 6, none, .q (.bin .eql (.t 4) (.k (.i .i64 1))), []⟩,
    ⟨some 5, none, .q (.mov (.t 6)), []⟩])
  (.cd (.t 5)
   (.sq (.rg [⟨some 7, none, .q (.adr 1 (.t 1)), []⟩,
      ⟨some 8, none, .ld 4 true (.t 7), []⟩,
      ⟨some 9, none, .pc 35 [(.t 8)], []⟩,
      ⟨some 2, none, .q (.mov (.t 9)), []⟩])
    (.rt))
   (.sq (.rg [⟨some 11, none, .q (.bin .eql (.t 4) (.k (.i .i64 2))), []⟩,
      ⟨some 10, none, .q (.mov (.t 11)), []⟩])
    (.cd (.t 10)
     (.sq (.rg [⟨some 12, none, .q (.adr 5 (.t 1)), []⟩,
        ⟨some 13, none, .ld 1 false (.t 12), []⟩,
        ⟨some 14, none, .pc 23 [(.t 13), (.k (.fn 25 []))], []⟩,
        ⟨some 2, none, .q (.mov (.t 14)), []⟩])
      (.rt))
     (.sq (.rg [⟨some 16, none, .q (.bin .eql (.t 4) (.k (.i .i64 3))), []⟩,
        ⟨some 15, none, .q (.mov (.t 16)), []⟩])
      (.cd (.t 15)
       (.sq (.rg [⟨some 17, none, .q (.adr 5 (.t 1)), []⟩,
          ⟨some 18, none, .ld 1 false (.t 17), []⟩,
          ⟨some 19, none, .pc 23 [(.t 18), (.k (.fn 37 []))], []⟩,
          ⟨some 20, none, .q (.un .not (.t 19)), []⟩,
          ⟨some 2, none, .q (.mov (.t 20)), []⟩])
        (.rt))
       (.sq (.rg [⟨some 22, none, .q (.bin .eql (.t 4) (.k (.i .i64 4))), []⟩,
          ⟨some 21, none, .q (.mov (.t 22)), []⟩])
        (.cd (.t 21)
         (.sq (.rg [⟨some 23, none, .q (.adr 6 (.t 1)), []⟩,
            ⟨some 24, none, .ld 1 false (.t 23), []⟩,
            ⟨some 25, none, .q (.bin .gtr (.t 24) (.k (.i .i64 0))), []⟩,
            ⟨some 26, none, .q (.mov (.t 25)), []⟩,
            ⟨some 27, some (26, true), .q (.adr 5 (.t 1)), []⟩,
            ⟨some 28, some (26, true), .ld 1 false (.t 27), []⟩,
            ⟨some 29, some (26, true), .q (.ixp 8 (.t 28) (.k (.i .i64 0))), []⟩,
            ⟨some 30, some (26, true), .ld 8 true (.t 29), []⟩,
            ⟨some 31, some (26, true), .pc 25 [(.t 30)], []⟩,
            ⟨some 32, none, .q (.pick (.t 26) (.t 31) (.k (.bo false))), []⟩,
            ⟨some 2, none, .q (.mov (.t 32)), []⟩])
          (.rt))
         (.sk)))))))))))
  (.sq (.rg [⟨some 2, none, .q (.mov (.k (.bo false))), []⟩])
  (.rt)))
def fn25 : Fn := { n := 33, np := 1, res := [.t 2], body := c25 }
theorem e25 : F 25 = some fn25 := by kernel_rfl

def c26 : C :=
  .sq (.rg [⟨some 4, none, .alc [.i .i64 0, .i .u64 0, .i .u64 0, .i .u64 0, .i .u64 0, .nil, .i .i64 0, .i .i64 0], []⟩])
  (.sq (.sq (.rg [⟨some 5, none, .q (.mov (.t 1)), []⟩,
    ⟨some 6, none, .q (.len (.t 5)), []⟩])
  (.bk 0 (.sq (.rg [⟨some 8, none, .q (.bin .eql (.t 6) (.k (.i .i64 0))), []⟩,
    ⟨some 7, none, .q (.mov (.t 8)), []⟩])
  (.cd (.t 7)
   (.sq (.rg [⟨some 9, none, .q (.bld [.i .i64 0, .i .u64 0, .i .u64 0, .i .u64 0, .i .u64 0, .nil, .i .i64 0, .i .i64 0] []), []⟩,
      ⟨none, none, .sto 8 (.t 4) (.t 9), []⟩])
    (.rt))
   (.sq (.rg [⟨some 11, none, .q (.bin .eql (.t 6) (.k (.i .i64 1))), []⟩,
      ⟨some 10, none, .q (.mov (.t 11)), []⟩])
    (.cd (.t 10)
     (.sq (.rg [⟨some 12, none, .q (.mov (.t 1)), []⟩,
        ⟨some 13, none, .q (.ixp 8 (.t 12) (.k (.i .i64 0))), []⟩,
        ⟨some 14, none, .ld 8 true (.t 13), []⟩,
        ⟨none, none, .sto 8 (.t 4) (.t 14), []⟩])
      (.rt))
     (.sk)))))))
  (.sq (.rg [⟨some 15, none, .q (.mov (.t 0)), []⟩,
    ⟨some 16, none, .q (.mov (.t 1)), []⟩,
    ⟨some 17, none, .q (.bld [.i .i64 0, .i .u64 0, .i .u64 0, .i .u64 0, .i .u64 0, .nil, .i .i64 0, .i .i64 0] [(0, 1, (.t 15)), (5, 1, (.t 16))]), []⟩,
    ⟨none, none, .sto 8 (.t 4) (.t 17), []⟩])
  (.rt)))
def fn26 : Fn := { n := 18, np := 2, res := [.c 4 8 true], body := c26 }
theorem e26 : F 26 = some fn26 := by kernel_rfl

def b27_0 : C :=
  .sq (.rg [⟨some 12, none, .q (.bin .lss (.t 11) (.t 10)), []⟩])
  (.sq (.cd (.t 12)
   (.sk)
   (.ex 0))
  (.sq (.bk 1 (.sq (.rg [⟨some 13, none, .q (.ixp 8 (.t 9) (.t 11)), []⟩,
    ⟨some 14, none, .ld 8 true (.t 13), []⟩,
    ⟨some 8, none, .alc [.i .i64 0, .i .u64 0, .i .u64 0, .i .u64 0, .i .u64 0, .nil, .i .i64 0, .i .i64 0], []⟩,
    ⟨none, none, .sto 8 (.t 8) (.t 14), []⟩])
  (.bk 2 (.sq (.rg [⟨some 20, none, .q (.adr 0 (.t 8)), []⟩,
    ⟨some 21, none, .ld 1 false (.t 20), []⟩,
    ⟨some 22, none, .q (.mov (.t 0)), []⟩,
    ⟨some 23, none, .q (.bin .eql (.t 21) (.t 22)), []⟩,
    ⟨some 19, none, .q (.mov (.t 23)), []⟩])
  (.cd (.t 19)
   (.rg [⟨some 24, none, .q (.mov (.t 0)), []⟩,
      ⟨some 25, none, .q (.mov (.t 1)), []⟩,
      ⟨some 26, none, .q (.adr 5 (.t 8)), []⟩,
      ⟨some 27, none, .ld 1 false (.t 26), []⟩,
      ⟨some 28, none, .nc 27 [(.t 24), (.t 25), (.t 27)], []⟩,
      ⟨some 1, none, .q (.mov (.t 28)), []⟩])
   (.sq (.rg [⟨some 30, none, .q (.mov (.t 0)), []⟩,
      ⟨some 31, none, .q (.bin .eql (.t 30) (.k (.i .i64 2))), []⟩,
      ⟨some 32, none, .q (.mov (.t 31)), []⟩,
      ⟨some 33, some (32, true), .q (.adr 0 (.t 8)), []⟩,
      ⟨some 34, some (32, true), .ld 1 false (.t 33), []⟩,
      ⟨some 35, some (32, true), .q (.bin .eql (.t 34) (.k (.i .i64 0))), []⟩,
      ⟨some 36, none, .q (.pick (.t 32) (.t 35) (.k (.bo false))), []⟩,
      ⟨some 29, none, .q (.mov (.t 36)), []⟩])
    (.cd (.t 29)
     (.sk)
     (.sq (.rg [⟨some 38, none, .q (.mov (.t 0)), []⟩,
        ⟨some 39, none, .q (.bin .eql (.t 38) (.k (.i .i64 3))), []⟩,
        ⟨some 40, none, .q (.mov (.t 39)), []⟩,
        ⟨some 41, some (40, true), .ld 8 true (.t 8), []⟩,
        ⟨some 42, some (40, true), .pc 25 [(.t 41)], []⟩,
        ⟨some 43, some (40, true), .q (.mov (.t 42)), []⟩,
        ⟨some 44, some (43, false), .q (.mov (.t 1)), []⟩,
        ⟨some 45, some (43, false), .q (.mkf 38 [(.t 8)]), []⟩,
        ⟨some 46, some (43, false), .pc 23 [(.t 44), (.t 45)], []⟩,
        ⟨some 47, some (40, true), .q (.pick (.t 43) (.k (.bo true)) (.t 46)), []⟩,
        ⟨some 48, none, .q (.pick (.t 40) (.t 47) (.k (.bo false))), []⟩,
        ⟨some 37, none, .q (.mov (.t 48)), []⟩])
      (.cd (.t 37)
       (.sk)
       (.rg [⟨some 15, none, .q (.mov (.t 1)), []⟩,
          ⟨some 16, none, .ld 8 true (.t 8), []⟩,
          ⟨some 17, none, .bsl 8 1 [.i .i64 0, .i .u64 0, .i .u64 0, .i .u64 0, .i .u64 0, .nil, .i .i64 0, .i .i64 0] [(0, (.t 16))], []⟩,
          ⟨some 18, none, .app 8 80 (.t 15) (.t 17), []⟩,
          ⟨some 1, none, .q (.mov (.t 18)), []⟩]))))))))))
  (.rg [⟨some 49, none, .q (.bin .add (.t 11) (.k (.i .i64 1))), []⟩,
    ⟨some 11, none, .q (.mov (.t 49)), []⟩])))
def c27 : C :=
  .sq (.rg [⟨some 6, none, .q (.mov (.k (.nil))), []⟩])
  (.sq (.sq (.rg [⟨some 9, none, .q (.mov (.t 2)), []⟩,
    ⟨some 10, none, .q (.len (.t 9)), []⟩,
    ⟨some 11, none, .q (.mov (.k (.i .i64 0))), []⟩])
  (.bk 0 (.lp b27_0)))
  (.sq (.rg [⟨some 50, none, .q (.mov (.t 1)), []⟩,
    ⟨some 6, none, .q (.mov (.t 50)), []⟩])
  (.rt)))
def fn27 : Fn := { n := 51, np := 3, res := [.t 6], body := c27 }
theorem e27 : F 27 = some fn27 := by kernel_rfl

def c28 : C :=
  .sq (.rg [⟨some 3, none, .box (.t 0), []⟩,
    ⟨some 6, none, .alc [.i .i64 0, .i .u64 0, .i .u64 0, .i .u64 0, .i .u64 0, .nil, .i .i64 0, .i .i64 0], []⟩])
  (.sq (.bk 0 (.sq (.rg [⟨some 8, none, .q (.mov (.t 2)), []⟩,
    ⟨some 9, none, .q (.bin .eql (.t 8) (.k (.i .i64 0))), []⟩,
    ⟨some 10, none, .q (.mov (.t 9)), []⟩,
    ⟨some 11, some (10, false), .q (.adr 0 (.t 3)), []⟩,
    ⟨some 12, some (10, false), .ld 1 false (.t 11), []⟩,
    ⟨some 13, some (10, false), .q (.bin .eql (.t 12) (.k (.i .i64 0))), []⟩,
    ⟨some 14, none, .q (.pick (.t 10) (.k (.bo true)) (.t 13)), []⟩,
    ⟨some 15, none, .q (.mov (.t 14)), []⟩,
    ⟨some 16, some (15, false), .ld 8 true (.t 3), []⟩,
    ⟨some 17, some (15, false), .pc 25 [(.t 16)], []⟩,
    ⟨some 18, none, .q (.pick (.t 15) (.k (.bo true)) (.t 17)), []⟩,
    ⟨some 7, none, .q (.mov (.t 18)), []⟩])
  (.cd (.t 7)
   (.sq (.rg [⟨some 19, none, .q (.bld [.i .i64 0, .i .u64 0, .i .u64 0, .i .u64 0, .i .u64 0, .nil, .i .i64 0, .i .i64 0] []), []⟩,
      ⟨none, none, .sto 8 (.t 6) (.t 19), []⟩])
    (.rt))
   (.sq (.rg [⟨some 21, none, .q (.mov (.t 1)), []⟩,
      ⟨some 22, none, .q (.bin .eql (.t 21) (.k (.i .i64 1))), []⟩,
      ⟨some 23, none, .q (.mov (.t 22)), []⟩,
      ⟨some 24, some (23, true), .q (.mov (.t 2)), []⟩,
      ⟨some 25, some (23, true), .q (.bin .eql (.t 24) (.k (.i .i64 1))), []⟩,
      ⟨some 26, none, .q (.pick (.t 23) (.t 25) (.k (.bo false))), []⟩,
      ⟨some 20, none, .q (.mov (.t 26)), []⟩])
    (.cd (.t 20)
     (.sq (.rg [⟨some 27, none, .ld 8 true (.t 3), []⟩,
        ⟨none, none, .sto 8 (.t 6) (.t 27), []⟩])
      (.rt))
     (.sq (.rg [⟨some 29, none, .ld 8 true (.t 3), []⟩,
        ⟨some 30, none, .pc 40 [(.t 29)], []⟩,
        ⟨some 28, none, .q (.mov (.t 30)), []⟩])
      (.cd (.t 28)
       (.rg [⟨some 1, none, .q (.mov (.k (.i .i64 0))), []⟩])
       (.sk))))))))
  (.sq (.rg [⟨some 31, none, .ld 8 true (.t 3), []⟩,
    ⟨some 32, none, .bsl 8 1 [.i .i64 0, .i .u64 0, .i .u64 0, .i .u64 0, .i .u64 0, .nil, .i .i64 0, .i .i64 0] [(0, (.t 31))], []⟩,
    ⟨some 33, none, .q (.mov (.t 1)), []⟩,
    ⟨some 34, none, .q (.mov (.t 2)), []⟩,
    ⟨some 35, none, .q (.bld [.i .i64 0, .i .u64 0, .i .u64 0, .i .u64 0, .i .u64 0, .nil, .i .i64 0, .i .i64 0] [(0, 1, (.k (.i .i64 4))), (5, 1, (.t 32)), (6, 1, (.t 33)), (7, 1, (.t 34))]), []⟩,
    ⟨none, none, .sto 8 (.t 6) (.t 35), []⟩])
  (.rt)))
def fn28 : Fn := { n := 36, np := 3, res := [.c 6 8 true], body := c28 }
theorem e28 : F 28 = some fn28 := by kernel_rfl

def c29 : C :=
  .sq (.rg [⟨some 2, none, .box (.t 0), []⟩,
    ⟨some 4, none, .q (.mov (.k (.bo false))), []⟩])
  (.sq (.rg [⟨some 5, none, .q (.mov (.t 1)), []⟩,
    ⟨some 6, none, .q (.bin .shr (.t 5) (.k (.i .u64 6))), []⟩,
    ⟨some 7, none, .q (.ixq 4 1 (.t 2) (.t 6)), []⟩,
    ⟨some 8, none, .ld 1 false (.t 7), []⟩,
    ⟨some 9, none, .q (.mov (.t 1)), []⟩,
    ⟨some 10, none, .q (.bin .and (.t 9) (.k (.i .u8 63))), []⟩,
    ⟨some 11, none, .q (.bin .shr (.t 8) (.t 10)), []⟩,
    ⟨some 12, none, .q (.bin .and (.t 11) (.k (.i .u64 1))), []⟩,
    ⟨some 13, none, .q (.bin .eql (.t 12) (.k (.i .u64 1))), []⟩,
    ⟨some 4, none, .q (.mov (.t 13)), []⟩])
  (.rt))
def fn29 : Fn := { n := 14, np := 2, res := [.t 4], body := c29 }
theorem e29 : F 29 = some fn29 := by kernel_rfl

def c30 : C :=
  .rg [⟨some 4, none, .q (.mov (.t 0)), []⟩,
    ⟨some 5, none, .q (.mov (.t 1)), []⟩,
    ⟨some 6, none, .q (.bin .shr (.t 5) (.k (.i .u64 6))), []⟩,
    ⟨some 7, none, .q (.nck (.t 4)), []⟩,
    ⟨some 8, none, .q (.ixq 4 1 (.t 7) (.t 6)), []⟩,
    ⟨some 10, none, .q (.mov (.t 1)), []⟩,
    ⟨some 11, none, .q (.bin .and (.t 10) (.k (.i .i64 63))), []⟩,
    ⟨some 12, none, .q (.bin .shl (.k (.i .u64 1)) (.t 11)), []⟩,
    ⟨some 14, none, .q (.nck (.t 4)), []⟩,
    ⟨some 9, none, .ld 1 false (.t 8), []⟩,
    ⟨some 13, none, .q (.bin .or (.t 9) (.t 12)), []⟩,
    ⟨some 15, none, .q (.ixq 4 1 (.t 14) (.t 6)), []⟩,
    ⟨none, none, .sto 1 (.t 15) (.t 13), []⟩]
def fn30 : Fn := { n := 16, np := 2, res := [], body := c30 }
theorem e30 : F 30 = some fn30 := by kernel_rfl

def b31_0 : C :=
  .sq (.rg [⟨some 13, none, .q (.bin .lss (.t 12) (.t 11)), []⟩])
  (.sq (.cd (.t 13)
   (.sk)
   (.ex 0))
  (.sq (.bk 1 (.sq (.rg [⟨some 14, none, .q (.mov (.t 12)), []⟩,
    ⟨some 6, none, .q (.mov (.t 14)), []⟩])
  (.sq (.rg [⟨some 15, none, .q (.mov (.t 5)), []⟩,
    ⟨some 16, none, .q (.mov (.t 6)), []⟩,
    ⟨some 17, none, .q (.mov (.t 0)), []⟩,
    ⟨some 18, none, .q (.mov (.t 6)), []⟩,
    ⟨some 19, none, .q (.ixp 4 (.t 17) (.t 18)), []⟩,
    ⟨some 20, none, .ld 4 true (.t 19), []⟩,
    ⟨some 21, none, .q (.ixp 4 (.t 15) (.t 16)), []⟩,
    ⟨none, none, .sto 4 (.t 21) (.t 20), []⟩])
  (.rg [⟨some 22, none, .q (.mov (.t 5)), []⟩,
    ⟨some 23, none, .q (.mov (.t 6)), []⟩,
    ⟨some 24, none, .q (.ixp 4 (.t 22) (.t 23)), []⟩,
    ⟨some 25, none, .q (.mov (.t 1)), []⟩,
    ⟨some 26, none, .q (.mov (.t 6)), []⟩,
    ⟨some 27, none, .q (.ixp 4 (.t 25) (.t 26)), []⟩,
    ⟨some 28, none, .ld 4 true (.t 27), []⟩,
    ⟨some 29, none, .nc 41 [(.t 24), (.t 28)], []⟩]))))
  (.rg [⟨some 30, none, .q (.bin .add (.t 12) (.k (.i .i64 1))), []⟩,
    ⟨some 12, none, .q (.mov (.t 30)), []⟩])))
def c31 : C :=
  .sq (.rg [⟨some 4, none, .q (.mov (.k (.nil))), []⟩])
  (.sq (.rg [⟨some 7, none, .q (.mov (.t 0)), []⟩,
    ⟨some 8, none, .q (.len (.t 7)), []⟩,
    ⟨some 9, none, .mks 4 32 [.i .u64 0, .i .u64 0, .i .u64 0, .i .u64 0] (.t 8) (.t 8), []⟩,
    ⟨some 5, none, .q (.mov (.t 9)), []⟩])
  (.sq (.sq (.rg [⟨some 10, none, .q (.mov (.t 5)), []⟩,
    ⟨some 11, none, .q (.len (.t 10)), []⟩,
    ⟨some 12, none, .q (.mov (.k (.i .i64 0))), []⟩])
  (.bk 0 (.lp b31_0)))
  (.sq (.rg [⟨some 31, none, .q (.mov (.t 5)), []⟩,
    ⟨some 4, none, .q (.mov (.t 31)), []⟩])
  (.rt))))
def fn31 : Fn := { n := 32, np := 2, res := [.t 4], body := c31 }
theorem e31 : F 31 = some fn31 := by kernel_rfl

def b32_0 : C :=
  .sq (.rg [⟨some 10, none, .q (.bin .lss (.t 9) (.t 8)), []⟩])
  (.sq (.cd (.t 10)
   (.sk)
   (.ex 0))
  (.sq (.bk 1 (.sq (.rg [⟨some 11, none, .q (.mov (.t 9)), []⟩,
    ⟨some 4, none, .q (.mov (.t 11)), []⟩])
  (.rg [⟨some 12, none, .q (.mov (.t 3)), []⟩,
    ⟨some 13, none, .q (.mov (.t 4)), []⟩,
    ⟨some 14, none, .q (.ixp 4 (.t 12) (.t 13)), []⟩,
    ⟨some 15, none, .q (.mov (.t 4)), []⟩,
    ⟨some 16, none, .nc 30 [(.t 14), (.t 15)], []⟩])))
  (.rg [⟨some 17, none, .q (.bin .add (.t 9) (.k (.i .i64 1))), []⟩,
    ⟨some 9, none, .q (.mov (.t 17)), []⟩])))
def c32 : C :=
  .sq (.rg [⟨some 2, none, .q (.mov (.k (.nil))), []⟩])
  (.sq (.rg [⟨some 5, none, .q (.mov (.t 0)), []⟩,
    ⟨some 6, none, .mks 4 32 [.i .u64 0, .i .u64 0, .i .u64 0, .i .u64 0] (.t 5) (.t 5), []⟩,
    ⟨some 3, none, .q (.mov (.t 6)), []⟩])
  (.sq (.sq (.rg [⟨some 7, none, .q (.mov (.t 3)), []⟩,
    ⟨some 8, none, .q (.len (.t 7)), []⟩,
    ⟨some 9, none, .q (.mov (.k (.i .i64 0))), []⟩])
  (.bk 0 (.lp b32_0)))
  (.sq (.rg [⟨some 18, none, .q (.mov (.t 3)), []⟩,
    ⟨some 2, none, .q (.mov (.t 18)), []⟩])
  (.rt))))
def fn32 : Fn := { n := 19, np := 1, res := [.t 2], body := c32 }
theorem e32 : F 32 = some fn32 := by kernel_rfl

def b33_0 : C :=
  .sq (.rg [⟨some 19, none, .q (.bin .lss (.t 18) (.t 17)), []⟩])
  (.sq (.cd (.t 19)
   (.sk)
   (.ex 2))
  (.sq (.bk 3 (.sq (.rg [⟨some 20, none, .q (.mov (.t 18)), []⟩,
    ⟨some 7, none, .q (.mov (.t 20)), []⟩])
  (.sq (.rg [⟨some 21, none, .q (.mov (.t 0)), []⟩,
    ⟨some 22, none, .q (.mov (.t 6)), []⟩,
    ⟨some 23, none, .q (.ixp 4 (.t 21) (.t 22)), []⟩,
    ⟨some 24, none, .ld 4 true (.t 23), []⟩,
    ⟨some 25, none, .q (.mov (.t 7)), []⟩,
    ⟨some 26, none, .pc 21 [(.t 24), (.t 25)], []⟩])
  (.cd (.t 26)
   (.rg [⟨some 27, none, .q (.mov (.t 5)), []⟩,
      ⟨some 28, none, .q (.mov (.t 6)), []⟩,
      ⟨some 29, none, .q (.ixp 4 (.t 27) (.t 28)), []⟩,
      ⟨some 30, none, .q (.mov (.t 1)), []⟩,
      ⟨some 31, none, .q (.mov (.t 7)), []⟩,
      ⟨some 32, none, .q (.ixp 4 (.t 30) (.t 31)), []⟩,
      ⟨some 33, none, .ld 4 true (.t 32), []⟩,
      ⟨some 34, none, .nc 41 [(.t 29), (.t 33)], []⟩])
   (.sk)))))
  (.rg [⟨some 35, none, .q (.bin .add (.t 18) (.k (.i .i64 1))), []⟩,
    ⟨some 18, none, .q (.mov (.t 35)), []⟩])))
def b33_1 : C :=
  .sq (.rg [⟨some 14, none, .q (.bin .lss (.t 13) (.t 12)), []⟩])
  (.sq (.cd (.t 14)
   (.sk)
   (.ex 0))
  (.sq (.bk 1 (.sq (.rg [⟨some 15, none, .q (.mov (.t 13)), []⟩,
    ⟨some 6, none, .q (.mov (.t 15)), []⟩])
  (.sq (.rg [⟨some 16, none, .q (.mov (.t 1)), []⟩,
    ⟨some 17, none, .q (.len (.t 16)), []⟩,
    ⟨some 18, none, .q (.mov (.k (.i .i64 0))), []⟩])
  (.bk 2 (.lp b33_0)))))
  (.rg [⟨some 36, none, .q (.bin .add (.t 13) (.k (.i .i64 1))), []⟩,
    ⟨some 13, none, .q (.mov (.t 36)), []⟩])))
def c33 : C :=
  .sq (.rg [⟨some 4, none, .q (.mov (.k (.nil))), []⟩])
  (.sq (.rg [⟨some 8, none, .q (.mov (.t 0)), []⟩,
    ⟨some 9, none, .q (.len (.t 8)), []⟩,
    ⟨some 10, none, .mks 4 32 [.i .u64 0, .i .u64 0, .i .u64 0, .i .u64 0] (.t 9) (.t 9), []⟩,
    ⟨some 5, none, .q (.mov (.t 10)), []⟩])
  (.sq (.sq (.rg [⟨some 11, none, .q (.mov (.t 5)), []⟩,
    ⟨some 12, none, .q (.len (.t 11)), []⟩,
    ⟨some 13, none, .q (.mov (.k (.i .i64 0))), []⟩])
  (.bk 0 (.lp b33_1)))
  (.sq (.rg [⟨some 37, none, .q (.mov (.t 5)), []⟩,
    ⟨some 4, none, .q (.mov (.t 37)), []⟩])
  (.rt))))
def fn33 : Fn := { n := 38, np := 2, res := [.t 4], body := c33 }
theorem e33 : F 33 = some fn33 := by kernel_rfl

def b34_0 : C :=
  .sq (.sq (.rg [⟨some 9, none, .q (.mov (.t 1)), []⟩,
    ⟨some 10, none, .q (.bin .gtr (.t 9) (.k (.i .i64 0))), []⟩])
  (.cd (.t 10)
   (.sk)
   (.ex 0)))
  (.sq (.bk 1 (.sq (.sq (.rg [⟨some 13, none, .q (.mov (.t 1)), []⟩,
    ⟨some 14, none, .q (.bin .and (.t 13) (.k (.i .i64 1))), []⟩,
    ⟨some 15, none, .q (.bin .eql (.t 14) (.k (.i .i64 1))), []⟩])
  (.cd (.t 15)
   (.rg [⟨some 16, none, .q (.mov (.t 5)), []⟩,
      ⟨some 17, none, .q (.mov (.t 0)), []⟩,
      ⟨some 18, none, .pc 33 [(.t 16), (.t 17)], []⟩,
      ⟨some 5, none, .q (.mov (.t 18)), []⟩])
   (.sk)))
  (.rg [⟨some 19, none, .q (.mov (.t 0)), []⟩,
    ⟨some 20, none, .q (.mov (.t 0)), []⟩,
    ⟨some 21, none, .pc 33 [(.t 19), (.t 20)], []⟩,
    ⟨some 0, none, .q (.mov (.t 21)), []⟩])))
  (.rg [⟨some 11, none, .q (.mov (.t 1)), []⟩,
    ⟨some 12, none, .q (.bin .shr (.t 11) (.k (.i .u64 1))), []⟩,
    ⟨some 1, none, .q (.mov (.t 12)), []⟩]))
def c34 : C :=
  .sq (.rg [⟨some 4, none, .q (.mov (.k (.nil))), []⟩])
  (.sq (.rg [⟨some 6, none, .q (.mov (.t 0)), []⟩,
    ⟨some 7, none, .q (.len (.t 6)), []⟩,
    ⟨some 8, none, .pc 32 [(.t 7)], []⟩,
    ⟨some 5, none, .q (.mov (.t 8)), []⟩])
  (.sq (.bk 0 (.lp b34_0))
  (.sq (.rg [⟨some 22, none, .q (.mov (.t 5)), []⟩,
    ⟨some 4, none, .q (.mov (.t 22)), []⟩])
  (.rt))))
def fn34 : Fn := { n := 23, np := 2, res := [.t 4], body := c34 }
theorem e34 : F 34 = some fn34 := by kernel_rfl

def c35 : C :=
  .sq (.rg [⟨some 1, none, .box (.t 0), []⟩,
    ⟨some 2, none, .q (.mov (.k (.bo false))), []⟩])
  (.sq (.rg [⟨some 3, none, .ld 4 true (.t 1), []⟩,
    ⟨some 4, none, .q (.bld [.i .u64 0, .i .u64 0, .i .u64 0, .i .u64 0] []), []⟩,
    ⟨some 5, none, .q (.eqp false true [.i .u64, .i .u64, .i .u64, .i .u64] (.t 3) (.t 4)), []⟩,
    ⟨some 2, none, .q (.mov (.t 5)), []⟩])
  (.rt))
def fn35 : Fn := { n := 6, np := 1, res := [.t 2], body := c35 }
theorem e35 : F 35 = some fn35 := by kernel_rfl

def b36_0 : C :=
  .sq (.rg [⟨some 9, none, .q (.bin .lss (.t 8) (.t 7)), []⟩])
  (.sq (.cd (.t 9)
   (.sk)
   (.ex 0))
  (.sq (.bk 1 (.sq (.rg [⟨some 10, none, .q (.mov (.t 8)), []⟩,
    ⟨some 5, none, .q (.mov (.t 10)), []⟩])
  (.sq (.rg [⟨some 11, none, .q (.mov (.t 1)), []⟩,
    ⟨some 12, none, .q (.mov (.t 0)), []⟩,
    ⟨some 13, none, .q (.mov (.t 5)), []⟩,
    ⟨some 14, none, .q (.ixp 8 (.t 12) (.t 13)), []⟩,
    ⟨some 15, none, .ld 8 true (.t 14), []⟩,
    ⟨some 16, none, .pv (.t 11) [(.t 15)], []⟩])
  (.cd (.t 16)
   (.sq (.rg [⟨some 17, none, .q (.mov (.t 5)), []⟩,
      ⟨some 4, none, .q (.mov (.t 17)), []⟩])
    (.rt))
   (.sk)))))
  (.rg [⟨some 18, none, .q (.bin .add (.t 8) (.k (.i .i64 1))), []⟩,
    ⟨some 8, none, .q (.mov (.t 18)), []⟩])))
def c36 : C :=
  .sq (.rg [⟨some 4, none, .q (.mov (.k (.i .i64 0))), []⟩])
  (.sq (.sq (.rg [⟨some 6, none, .q (.mov (.t 0)), []⟩,
    ⟨some 7, none, .q (.len (.t 6)), []⟩,
    ⟨some 8, none, .q (.mov (.k (.i .i64 0))), []⟩])
  (.bk 0 (.lp b36_0)))
  (.sq (.rg [⟨some 4, none, .q (.mov (.k (.i .i64 (-1)))), []⟩])
  (.rt)))
def fn36 : Fn := { n := 19, np := 2, res := [.t 4], body := c36 }
theorem e36 : F 36 = some fn36 := by kernel_rfl

def c37 : C :=
  .sq (.rg [⟨some 1, none, .box (.t 0), []⟩,
    ⟨some 2, none, .q (.mov (.k (.bo false))), []⟩])
  (.sq (.rg [⟨some 3, none, .ld 8 true (.t 1), []⟩,
    ⟨some 4, none, .pc 25 [(.t 3)], []⟩,
    ⟨some 5, none, .q (.un .not (.t 4)), []⟩,
    ⟨some 2, none, .q (.mov (.t 5)), []⟩])
  (.rt))
def fn37 : Fn := { n := 6, np := 1, res := [.t 2], body := c37 }
theorem e37 : F 37 = some fn37 := by kernel_rfl

def c38 : C :=
  .sq (.rg [⟨some 2, none, .box (.t 0), []⟩,
    ⟨some 3, none, .q (.mov (.k (.bo false))), []⟩])
  (.sq (.rg [⟨some 4, none, .ld 8 true (.t 1), []⟩,
    ⟨some 5, none, .ld 8 true (.t 2), []⟩,
    ⟨some 6, none, .pc 39 [(.t 4), (.t 5)], []⟩,
    ⟨some 3, none, .q (.mov (.t 6)), []⟩])
  (.rt))
def fn38 : Fn := { n := 7, np := 2, res := [.t 3], body := c38 }
theorem e38 : F 38 = some fn38 := by kernel_rfl

def c39 : C :=
  .sq (.rg [⟨some 2, none, .box (.t 0), []⟩,
    ⟨some 3, none, .box (.t 1), []⟩,
    ⟨some 4, none, .q (.mov (.k (.bo false))), []⟩])
  (.sq (.rg [⟨some 5, none, .q (.adr 0 (.t 2)), []⟩,
    ⟨some 6, none, .ld 1 false (.t 5), []⟩,
    ⟨some 7, none, .q (.adr 0 (.t 3)), []⟩,
    ⟨some 8, none, .ld 1 false (.t 7), []⟩,
    ⟨some 9, none, .q (.bin .eql (.t 6) (.t 8)), []⟩,
    ⟨some 10, none, .q (.mov (.t 9)), []⟩,
    ⟨some 11, some (10, true), .q (.adr 1 (.t 2)), []⟩,
    ⟨some 12, some (10, true), .ld 4 true (.t 11), []⟩,
    ⟨some 13, some (10, true), .q (.adr 1 (.t 3)), []⟩,
    ⟨some 14, some (10, true), .ld 4 true (.t 13), []⟩,
    ⟨some 15, some (10, true), .q (.eqp false true [.i .u64, .i .u64, .i .u64, .i .u64] (.t 12) (.t 14)), []⟩,
    ⟨some 16, none, .q (.pick (.t 10) (.t 15) (.k (.bo false))), []⟩,
    ⟨some 17, none, .q (.mov (.t 16)), []⟩,
    ⟨some 18, some (17, true), .q (.adr 6 (.t 2)), []⟩,
    ⟨some 19, some (17, true), .ld 1 false (.t 18), []⟩,
    ⟨some 20, some (17, true), .q (.adr 6 (.t 3)), []⟩,
    ⟨some 21, some (17, true), .ld 1 false (.t 20), []⟩,
    ⟨some 22, some (17, true), .q (.bin .eql (.t 19) (.t 21)), []⟩,
    ⟨some 23, none, .q (.pick (.t 17) (.t 22) (.k (.bo false))), []⟩,
    ⟨some 24, none, .q (.mov (.t 23)), []⟩,
    ⟨some 25, some (24, true), .q (.adr 7 (.t 2)), []⟩,
    ⟨some 26, some (24, true), .ld 1 false (.t 25), []⟩,
    ⟨some 27, some (24, true), .q (.adr 7 (.t 3)), []⟩,
    ⟨some 28, some (24, true), .ld 1 false (.t 27), []⟩,
    ⟨some 29, some (24, true), .q (.bin .eql (.t 26) (.t 28)), []⟩,
    ⟨some 30, none, .q (.pick (.t 24) (.t 29) (.k (.bo false))), []⟩,
    ⟨some 31, none, .q (.mov (.t 30)), []⟩,
    ⟨some 32, some (31, true), .q (.adr 5 (.t 2)), []⟩,
    ⟨some 33, some (31, true), .ld 1 false (.t 32), []⟩,
    ⟨some 34, some (31, true), .q (.adr 5 (.t 3)), []⟩,
    ⟨some 35, some (31, true), .ld 1 false (.t 34), []⟩,
    ⟨some 36, some (31, true), .pc 42 [(.t 33), (.t 35), (.k (.fn 39 []))], []⟩,
    ⟨some 37, none, .q (.pick (.t 31) (.t 36) (.k (.bo false))), []⟩,
    ⟨some 4, none, .q (.mov (.t 37)), []⟩])
  (.rt))
def fn39 : Fn := { n := 38, np := 2, res := [.t 4], body := c39 }
theorem e39 : F 39 = some fn39 := by kernel_rfl

def c40 : C :=
  .sq (.rg [⟨some 1, none, .box (.t 0), []⟩,
    ⟨some 2, none, .q (.mov (.k (.bo false))), []⟩])
  (.sq (.sq (.rg [⟨some 3, none, .q (.adr 0 (.t 1)), []⟩,
    ⟨some 4, none, .ld 1 false (.t 3), []⟩])
  (.bk 0 (.sq (.rg [⟨some 6, none, .q (.bin .eql (.t 4) (.k (.i .i64 1))), []⟩,
    ⟨some 5, none, .q (.mov (.t 6)), []⟩])
  (.cd (.t 5)
   (.sq (.rg [⟨some 2, none, .q (.mov (.k (.bo false))), []⟩])
    (.rt))
   (.sq (.rg [⟨some 8, none, .q (.bin .eql (.t 4) (.k (.i .i64 2))), []⟩,
      ⟨some 7, none, .q (.mov (.t 8)), []⟩])
    (.cd (.t 7)
     (.sq (.rg [⟨some 9, none, .q (.adr 5 (.t 1)), []⟩,
        ⟨some 10, none, .ld 1 false (.t 9), []⟩,
        ⟨some 11, none, .pc 23 [(.t 10), (.k (.fn 43 []))], []⟩,
        ⟨some 12, none, .q (.un .not (.t 11)), []⟩,
        ⟨some 2, none, .q (.mov (.t 12)), []⟩])
      (.rt))
     (.sq (.rg [⟨some 14, none, .q (.bin .eql (.t 4) (.k (.i .i64 3))), []⟩,
        ⟨some 13, none, .q (.mov (.t 14)), []⟩])
      (.cd (.t 13)
       (.sq (.rg [⟨some 15, none, .q (.adr 5 (.t 1)), []⟩,
          ⟨some 16, none, .ld 1 false (.t 15), []⟩,
          ⟨some 17, none, .pc 23 [(.t 16), (.k (.fn 40 []))], []⟩,
          ⟨some 2, none, .q (.mov (.t 17)), []⟩])
        (.rt))
       (.sq (.rg [⟨some 19, none, .q (.bin .eql (.t 4) (.k (.i .i64 4))), []⟩,
          ⟨some 18, none, .q (.mov (.t 19)), []⟩])
        (.cd (.t 18)
         (.sq (.rg [⟨some 20, none, .q (.adr 6 (.t 1)), []⟩,
            ⟨some 21, none, .ld 1 false (.t 20), []⟩,
            ⟨some 22, none, .q (.bin .eql (.t 21) (.k (.i .i64 0))), []⟩,
            ⟨some 23, none, .q (.mov (.t 22)), []⟩,
            ⟨some 24, some (23, false), .q (.adr 5 (.t 1)), []⟩,
            ⟨some 25, some (23, false), .ld 1 false (.t 24), []⟩,
            ⟨some 26, some (23, false), .q (.ixp 8 (.t 25) (.k (.i .i64 0))), []⟩,
            ⟨some 27, some (23, false), .ld 8 true (.t 26), []⟩,
            ⟨some 28, some (23, false), .pc 40 [(.t 27)], []⟩,
            ⟨some 29, none, .q (.pick (.t 23) (.k (.bo true)) (.t 28)), []⟩,
            ⟨some 2, none, .q (.mov (.t 29)), []⟩])
          (.rt))
         (.sk)))))))))))
  (.sq (.rg [⟨some 2, none, .q (.mov (.k (.bo true))), []⟩])
  (.rt)))
def fn40 : Fn := { n := 30, np := 1, res := [.t 2], body := c40 }
theorem e40 : F 40 = some fn40 := by kernel_rfl

def b41_0 : C :=
  .sq (.rg [⟨some 8, none, .q (.bin .lss (.t 7) (.k (.i .i64 4))), []⟩])
  (.sq (.cd (.t 8)
   (.sk)
   (.ex 0))
  (.sq (.bk 1 (.sq (.rg [⟨some 9, none, .q (.mov (.t 7)), []⟩,
    ⟨some 10, none, .q (.ixa 4 1 false (.t 6) (.t 7)), []⟩,
    ⟨some 4, none, .q (.mov (.t 9)), []⟩,
    ⟨some 5, none, .q (.mov (.t 10)), []⟩])
  (.rg [⟨some 11, none, .q (.mov (.t 0)), []⟩,
    ⟨some 12, none, .q (.mov (.t 4)), []⟩,
    ⟨some 13, none, .q (.nck (.t 11)), []⟩,
    ⟨some 14, none, .q (.ixq 4 1 (.t 13) (.t 12)), []⟩,
    ⟨some 16, none, .q (.mov (.t 5)), []⟩,
    ⟨some 18, none, .q (.nck (.t 11)), []⟩,
    ⟨some 15, none, .ld 1 false (.t 14), []⟩,
    ⟨some 17, none, .q (.bin .or (.t 15) (.t 16)), []⟩,
    ⟨some 19, none, .q (.ixq 4 1 (.t 18) (.t 12)), []⟩,
    ⟨none, none, .sto 1 (.t 19) (.t 17), []⟩])))
  (.rg [⟨some 20, none, .q (.bin .add (.t 7) (.k (.i .i64 1))), []⟩,
    ⟨some 7, none, .q (.mov (.t 20)), []⟩])))
def c41 : C :=
  .sq (.rg [⟨some 3, none, .box (.t 1), []⟩])
  (.sq (.rg [⟨some 6, none, .ld 4 true (.t 3), []⟩,
    ⟨some 7, none, .q (.mov (.k (.i .i64 0))), []⟩])
  (.bk 0 (.lp b41_0)))
def fn41 : Fn := { n := 21, np := 2, res := [], body := c41 }
theorem e41 : F 41 = some fn41 := by kernel_rfl

def b42_0 : C :=
  .sq (.rg [⟨some 18, none, .q (.bin .lss (.t 17) (.t 16)), []⟩])
  (.sq (.cd (.t 18)
   (.sk)
   (.ex 0))
  (.sq (.bk 1 (.sq (.rg [⟨some 19, none, .q (.mov (.t 17)), []⟩,
    ⟨some 20, none, .q (.ixp 8 (.t 15) (.t 17)), []⟩,
    ⟨some 21, none, .ld 8 true (.t 20), []⟩,
    ⟨some 8, none, .alc [.i .i64 0, .i .u64 0, .i .u64 0, .i .u64 0, .i .u64 0, .nil, .i .i64 0, .i .i64 0], []⟩,
    ⟨some 7, none, .q (.mov (.t 19)), []⟩,
    ⟨none, none, .sto 8 (.t 8) (.t 21), []⟩])
  (.sq (.rg [⟨some 22, none, .q (.mov (.t 1)), []⟩,
    ⟨some 23, none, .q (.mov (.t 7)), []⟩,
    ⟨some 24, none, .q (.ixp 8 (.t 22) (.t 23)), []⟩,
    ⟨some 25, none, .ld 8 true (.t 24), []⟩,
    ⟨some 9, none, .alc [.i .i64 0, .i .u64 0, .i .u64 0, .i .u64 0, .i .u64 0, .nil, .i .i64 0, .i .i64 0], []⟩,
    ⟨none, none, .sto 8 (.t 9) (.t 25), []⟩])
  (.sq (.rg [⟨some 26, none, .q (.mov (.t 2)), []⟩,
    ⟨some 27, none, .ld 8 true (.t 8), []⟩,
    ⟨some 28, none, .ld 8 true (.t 9), []⟩,
    ⟨some 29, none, .pv (.t 26) [(.t 27), (.t 28)], []⟩,
    ⟨some 30, none, .q (.un .not (.t 29)), []⟩])
  (.cd (.t 30)
   (.sq (.rg [⟨some 6, none, .q (.mov (.k (.bo false))), []⟩])
    (.rt))
   (.sk))))))
  (.rg [⟨some 31, none, .q (.bin .add (.t 17) (.k (.i .i64 1))), []⟩,
    ⟨some 17, none, .q (.mov (.t 31)), []⟩])))
def c42 : C :=
  .sq (.rg [⟨some 6, none, .q (.mov (.k (.bo false))), []⟩])
  (.sq (.sq (.rg [⟨some 10, none, .q (.mov (.t 0)), []⟩,
    ⟨some 11, none, .q (.len (.t 10)), []⟩,
    ⟨some 12, none, .q (.mov (.t 1)), []⟩,
    ⟨some 13, none, .q (.len (.t 12)), []⟩,
    ⟨some 14, none, .q (.bin .neq (.t 11) (.t 13)), []⟩])
  (.cd (.t 14)
   (.sq (.rg [⟨some 6, none, .q (.mov (.k (.bo false))), []⟩])
    (.rt))
   (.sk)))
  (.sq (.sq (.rg [⟨some 15, none, .q (.mov (.t 0)), []⟩,
    ⟨some 16, none, .q (.len (.t 15)), []⟩,
    ⟨some 17, none, .q (.mov (.k (.i .i64 0))), []⟩])
  (.bk 0 (.lp b42_0)))
  (.sq (.rg [⟨some 6, none, .q (.mov (.k (.bo true))), []⟩])
  (.rt))))
def fn42 : Fn := { n := 32, np := 3, res := [.t 6], body := c42 }
theorem e42 : F 42 = some fn42 := by kernel_rfl

def c43 : C :=
  .sq (.rg [⟨some 1, none, .box (.t 0), []⟩,
    ⟨some 2, none, .q (.mov (.k (.bo false))), []⟩])
  (.sq (.rg [⟨some 3, none, .ld 8 true (.t 1), []⟩,
    ⟨some 4, none, .pc 40 [(.t 3)], []⟩,
    ⟨some 5, none, .q (.un .not (.t 4)), []⟩,
    ⟨some 2, none, .q (.mov (.t 5)), []⟩])
  (.rt))
def fn43 : Fn := { n := 6, np := 1, res := [.t 2], body := c43 }
theorem e43 : F 43 = some fn43 := by kernel_rfl

end Go.Proofs.Ytiadalheipbpcaa
