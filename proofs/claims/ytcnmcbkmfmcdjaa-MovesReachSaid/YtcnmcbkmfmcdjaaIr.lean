import Derived.Test.YtcnmcbkmfmcdjaaBs

/-
  The small machine's form of this seat's functions.
-/
namespace Go.Proofs.Ytcnmcbkmfmcdjaa
set_option linter.all false

def imL : List (Nat × Nat × Nat) := [(10, (5, 3)), (10, (7, 2)), (10, (20, 1)), (19, (5, 2)), (20, (8, 4)), (20, (10, 4)), (20, (12, 3)), (29, (3, 6)), (29, (6, 1)), (29, (11, 3)), (33, (5, 3)), (33, (6, 6)), (33, (8, 5)), (33, (10, 5)), (34, (5, 3)), (34, (6, 5)), (34, (7, 5)), (35, (5, 6)), (35, (7, 7)), (44, (12, 5)), (44, (12, 6)), (49, (9, 1)), (76, (6, 4)), (29, (6, 7))]
def im (f r i : Nat) : Bool := imL.contains (f, r, i)
noncomputable def F : En := enOf Try.prog im bsL Bas

def c8 : C :=
  .sq (.rg [⟨some 0, none, .q (.mov (.k (.bo false))), []⟩])
  (.sq (.rg [⟨some 4, none, .q (.bld [.i .u64 0, .i .u64 0, .i .u64 0, .i .u64 0] [(0, 1, (.k (.i .u64 1)))]), []⟩,
    ⟨some 5, none, .q (.bld [.i .i64 0, .i .u64 0, .i .u64 0, .i .u64 0, .i .u64 0, .nil, .i .i64 0, .i .i64 0] [(0, 1, (.k (.i .i64 1))), (1, 4, (.t 4))]), []⟩,
    ⟨some 6, none, .pc 10 [(.t 5)], []⟩,
    ⟨some 3, none, .q (.mov (.t 6)), []⟩,
    ⟨some 7, none, .q (.ext (.t 3) 0), []⟩,
    ⟨some 8, none, .q (.ext (.t 3) 1), []⟩,
    ⟨some 1, none, .alc [.i .i64 0, .i .u64 0, .i .u64 0, .i .u64 0, .i .u64 0, .nil, .i .i64 0, .i .i64 0, .nil, .nil, .nil, .nil, .nil, .nil, .bo false], []⟩,
    ⟨none, none, .sto 15 (.t 1) (.t 7), []⟩,
    ⟨some 2, none, .q (.mov (.t 8)), []⟩])
  (.sq (.rg [⟨some 9, none, .q (.mov (.t 2)), []⟩,
    ⟨some 10, none, .q (.bin .eql (.t 9) (.k (.i .i64 0))), []⟩,
    ⟨some 11, none, .q (.mov (.t 10)), []⟩,
    ⟨some 12, some (11, true), .q (.adr 11 (.t 1)), []⟩,
    ⟨some 13, some (11, true), .ld 1 false (.t 12), []⟩,
    ⟨some 14, some (11, true), .q (.len (.t 13)), []⟩,
    ⟨some 15, some (11, true), .q (.bin .eql (.t 14) (.k (.i .i64 1))), []⟩,
    ⟨some 16, none, .q (.pick (.t 11) (.t 15) (.k (.bo false))), []⟩,
    ⟨some 17, none, .q (.mov (.t 16)), []⟩,
    ⟨some 18, some (17, true), .q (.adr 13 (.t 1)), []⟩,
    ⟨some 19, some (17, true), .ld 1 false (.t 18), []⟩,
    ⟨some 20, some (17, true), .q (.len (.t 19)), []⟩,
    ⟨some 21, some (17, true), .q (.bin .eql (.t 20) (.k (.i .i64 2))), []⟩,
    ⟨some 22, none, .q (.pick (.t 17) (.t 21) (.k (.bo false))), []⟩,
    ⟨some 23, none, .q (.mov (.t 22)), []⟩,
    ⟨some 24, some (23, true), .q (.adr 13 (.t 1)), []⟩,
    ⟨some 25, some (23, true), .ld 1 false (.t 24), []⟩,
    ⟨some 26, some (23, true), .q (.ixp 1 (.t 25) (.k (.i .i64 1))), []⟩,
    ⟨some 27, some (23, true), .ld 1 false (.t 26), []⟩,
    ⟨some 28, none, .q (.pick (.t 23) (.t 27) (.k (.bo false))), []⟩,
    ⟨some 29, none, .q (.mov (.t 28)), []⟩,
    ⟨some 30, some (29, true), .q (.adr 14 (.t 1)), []⟩,
    ⟨some 31, some (29, true), .ld 1 false (.t 30), []⟩,
    ⟨some 32, some (29, true), .q (.un .not (.t 31)), []⟩,
    ⟨some 33, none, .q (.pick (.t 29) (.t 32) (.k (.bo false))), []⟩,
    ⟨some 0, none, .q (.mov (.t 33)), []⟩])
  (.rt)))
def fn8 : Fn := { n := 34, np := 0, res := [.t 0], body := c8 }
theorem e8 : F 8 = some fn8 := by kernel_rfl

def b9_0 : C :=
  .sq (.sq (.rg [⟨some 7, none, .q (.mov (.t 6)), []⟩,
    ⟨some 8, none, .q (.adr 5 (.t 2)), []⟩,
    ⟨some 9, none, .ld 1 false (.t 8), []⟩,
    ⟨some 10, none, .q (.len (.t 9)), []⟩,
    ⟨some 11, none, .q (.bin .lss (.t 7) (.t 10)), []⟩,
    ⟨some 12, none, .q (.mov (.t 11)), []⟩,
    ⟨some 13, some (12, true), .q (.mov (.t 5)), []⟩,
    ⟨some 14, some (12, true), .q (.mov (.t 1)), []⟩,
    ⟨some 15, some (12, true), .q (.bin .leq (.t 13) (.t 14)), []⟩,
    ⟨some 16, none, .q (.pick (.t 12) (.t 15) (.k (.bo false))), []⟩])
  (.cd (.t 16)
   (.sk)
   (.ex 0)))
  (.sq (.bk 1 (.rg [⟨some 19, none, .q (.mov (.t 5)), []⟩,
    ⟨some 20, none, .q (.adr 5 (.t 2)), []⟩,
    ⟨some 21, none, .ld 1 false (.t 20), []⟩,
    ⟨some 22, none, .q (.mov (.t 6)), []⟩,
    ⟨some 23, none, .q (.ixp 8 (.t 21) (.t 22)), []⟩,
    ⟨some 24, none, .ld 8 true (.t 23), []⟩,
    ⟨some 25, none, .q (.mov (.t 1)), []⟩,
    ⟨some 26, none, .q (.mov (.t 5)), []⟩,
    ⟨some 27, none, .q (.bin .sub (.t 25) (.t 26)), []⟩,
    ⟨some 28, none, .pc 9 [(.t 24), (.t 27)], []⟩,
    ⟨some 29, none, .q (.bin .add (.t 19) (.t 28)), []⟩,
    ⟨some 5, none, .q (.mov (.t 29)), []⟩]))
  (.rg [⟨some 17, none, .q (.mov (.t 6)), []⟩,
    ⟨some 18, none, .q (.bin .add (.t 17) (.k (.i .i64 1))), []⟩,
    ⟨some 6, none, .q (.mov (.t 18)), []⟩]))
def c9 : C :=
  .sq (.rg [⟨some 2, none, .box (.t 0), []⟩,
    ⟨some 4, none, .q (.mov (.k (.i .i64 0))), []⟩])
  (.sq (.rg [⟨some 5, none, .q (.mov (.k (.i .i64 1))), []⟩])
  (.sq (.sq (.rg [⟨some 6, none, .q (.mov (.k (.i .i64 0))), []⟩])
  (.bk 0 (.lp b9_0)))
  (.sq (.rg [⟨some 30, none, .q (.mov (.t 5)), []⟩,
    ⟨some 4, none, .q (.mov (.t 30)), []⟩])
  (.rt))))
def fn9 : Fn := { n := 31, np := 2, res := [.t 4], body := c9 }
theorem e9 : F 9 = some fn9 := by kernel_rfl

def b10_0 : C :=
  .sq (.rg [⟨some 51, none, .q (.bin .lss (.t 50) (.t 49)), []⟩])
  (.sq (.cd (.t 51)
   (.sk)
   (.ex 0))
  (.sq (.bk 1 (.sq (.rg [⟨some 52, none, .q (.ixp 1 (.t 48) (.t 50)), []⟩,
    ⟨some 53, none, .ld 1 false (.t 52), []⟩,
    ⟨some 10, none, .q (.mov (.t 53)), []⟩])
  (.rg [⟨some 54, none, .q (.adr 13 (.t 8)), []⟩,
    ⟨some 55, none, .ld 1 false (.t 54), []⟩,
    ⟨some 56, none, .q (.mov (.t 10)), []⟩,
    ⟨some 57, none, .q (.ixp 1 (.t 55) (.t 56)), []⟩,
    ⟨none, none, .sto 1 (.t 57) (.k (.bo true)), []⟩])))
  (.rg [⟨some 58, none, .q (.bin .add (.t 50) (.k (.i .i64 1))), []⟩,
    ⟨some 50, none, .q (.mov (.t 58)), []⟩])))
def b10_1 : C :=
  .sq (.rg [⟨some 64, none, .nxt (.t 63), []⟩,
    ⟨some 65, none, .q (.ext (.t 64) 0), []⟩])
  (.sq (.cd (.t 65)
   (.sk)
   (.ex 2))
  (.bk 3 (.sq (.rg [⟨some 66, none, .ent (.t 63), []⟩,
    ⟨some 67, none, .q (.ext (.t 66) 0), []⟩,
    ⟨some 11, none, .alc [.i .i64 0, .i .i64 0, .i .i64 0, .bo false], []⟩,
    ⟨none, none, .sto 4 (.t 11) (.t 67), []⟩])
  (.rg [⟨some 68, none, .q (.adr 12 (.t 8)), []⟩,
    ⟨some 70, none, .q (.adr 0 (.t 11)), []⟩,
    ⟨some 72, none, .q (.adr 12 (.t 8)), []⟩,
    ⟨some 74, none, .q (.adr 0 (.t 11)), []⟩,
    ⟨some 78, none, .q (.adr 1 (.t 11)), []⟩,
    ⟨some 69, none, .ld 1 false (.t 68), []⟩,
    ⟨some 71, none, .ld 1 false (.t 70), []⟩,
    ⟨some 73, none, .ld 1 false (.t 72), []⟩,
    ⟨some 75, none, .ld 1 false (.t 74), []⟩,
    ⟨some 76, none, .q (.ixp 1 (.t 73) (.t 75)), []⟩,
    ⟨some 77, none, .ld 1 false (.t 76), []⟩,
    ⟨some 79, none, .ld 3 true (.t 78), []⟩,
    ⟨some 80, none, .bsl 3 1 [.i .i64 0, .i .i64 0, .bo false] [(0, (.t 79))], []⟩,
    ⟨some 81, none, .app 3 24 (.t 77) (.t 80), [.ld 1 false (.t 68), .ld 1 false (.t 70)]⟩,
    ⟨some 82, none, .q (.ixp 1 (.t 69) (.t 71)), []⟩,
    ⟨none, none, .sto 1 (.t 82) (.t 81), []⟩]))))
def b10_2 : C :=
  .sq (.rg [⟨some 87, none, .q (.bin .lss (.t 86) (.t 85)), []⟩])
  (.sq (.cd (.t 87)
   (.sk)
   (.ex 4))
  (.sq (.bk 5 (.sq (.rg [⟨some 88, none, .q (.ixp 1 (.t 84) (.t 86)), []⟩,
    ⟨some 89, none, .ld 1 false (.t 88), []⟩,
    ⟨some 13, none, .q (.mov (.t 89)), []⟩])
  (.rg [⟨some 90, none, .q (.mov (.t 13)), []⟩,
    ⟨some 91, none, .nc 22 [(.t 90), (.k (.fn 23 []))], []⟩])))
  (.rg [⟨some 92, none, .q (.bin .add (.t 86) (.k (.i .i64 1))), []⟩,
    ⟨some 86, none, .q (.mov (.t 92)), []⟩])))
def c10 : C :=
  .sq (.rg [⟨some 1, none, .box (.t 0), []⟩,
    ⟨some 2, none, .alc [.i .i64 0, .i .u64 0, .i .u64 0, .i .u64 0, .i .u64 0, .nil, .i .i64 0, .i .i64 0, .nil, .nil, .nil, .nil, .nil, .nil, .bo false], []⟩,
    ⟨some 3, none, .q (.mov (.k (.i .i64 0))), []⟩])
  (.sq (.rg [⟨some 15, none, .ld 8 true (.t 1), []⟩,
    ⟨some 16, none, .pc 19 [(.t 15)], []⟩,
    ⟨some 14, none, .q (.mov (.t 16)), []⟩,
    ⟨some 17, none, .q (.ext (.t 14) 0), []⟩,
    ⟨some 18, none, .q (.ext (.t 14) 1), []⟩,
    ⟨some 4, none, .alc [.i .i64 0, .i .u64 0, .i .u64 0, .i .u64 0, .i .u64 0, .nil, .i .i64 0, .i .i64 0, .nil, .nil, .nil], []⟩,
    ⟨none, none, .sto 11 (.t 4) (.t 17), []⟩,
    ⟨some 5, none, .q (.mov (.t 18)), []⟩])
  (.sq (.sq (.rg [⟨some 19, none, .q (.mov (.t 5)), []⟩,
    ⟨some 20, none, .q (.bin .neq (.t 19) (.k (.i .i64 0))), []⟩])
  (.cd (.t 20)
   (.sq (.rg [⟨some 21, none, .q (.bld [.i .i64 0, .i .u64 0, .i .u64 0, .i .u64 0, .i .u64 0, .nil, .i .i64 0, .i .i64 0, .nil, .nil, .nil, .nil, .nil, .nil, .bo false] []), []⟩,
      ⟨some 22, none, .q (.mov (.t 5)), []⟩,
      ⟨none, none, .sto 15 (.t 2) (.t 21), []⟩,
      ⟨some 3, none, .q (.mov (.t 22)), []⟩])
    (.rt))
   (.sk)))
  (.sq (.rg [⟨some 23, none, .mkm, []⟩,
    ⟨some 24, none, .q (.bld [.i .i64 0, .nm] [(1, 1, (.t 23))]), []⟩,
    ⟨some 25, none, .box (.t 24), []⟩,
    ⟨some 6, none, .q (.mov (.t 25)), []⟩])
  (.sq (.rg [⟨some 26, none, .q (.mov (.t 6)), []⟩,
    ⟨some 27, none, .q (.adr 0 (.t 4)), []⟩,
    ⟨some 28, none, .ld 8 true (.t 27), []⟩,
    ⟨some 29, none, .nc 20 [(.t 26), (.t 28), (.k (.i .i64 0))], []⟩,
    ⟨some 7, none, .alc [.nil, .nil, .bo false], []⟩,
    ⟨none, none, .sto 3 (.t 7) (.t 29), []⟩])
  (.sq (.rg [⟨some 31, none, .q (.adr 0 (.t 7)), []⟩,
    ⟨some 33, none, .q (.adr 8 (.t 4)), []⟩,
    ⟨some 37, none, .q (.adr 8 (.t 4)), []⟩,
    ⟨some 41, none, .q (.adr 2 (.t 7)), []⟩,
    ⟨some 30, none, .ld 11 true (.t 4), []⟩,
    ⟨some 32, none, .ld 1 false (.t 31), []⟩,
    ⟨some 34, none, .ld 1 false (.t 33), []⟩,
    ⟨some 35, none, .q (.len (.t 34)), []⟩,
    ⟨some 38, none, .ld 1 false (.t 37), []⟩,
    ⟨some 39, none, .q (.len (.t 38)), []⟩,
    ⟨some 42, none, .ld 1 false (.t 41), []⟩,
    ⟨some 36, none, .mks 1 24 [.nil] (.t 35) (.t 35), []⟩,
    ⟨some 40, none, .mks 1 1 [.bo false] (.t 39) (.t 39), []⟩,
    ⟨some 43, none, .q (.bld [.i .i64 0, .i .u64 0, .i .u64 0, .i .u64 0, .i .u64 0, .nil, .i .i64 0, .i .i64 0, .nil, .nil, .nil, .nil, .nil, .nil, .bo false] [(0, 11, (.t 30)), (11, 1, (.t 32)), (12, 1, (.t 36)), (13, 1, (.t 40)), (14, 1, (.t 42))]), []⟩,
    ⟨some 8, none, .alc [.i .i64 0, .i .u64 0, .i .u64 0, .i .u64 0, .i .u64 0, .nil, .i .i64 0, .i .i64 0, .nil, .nil, .nil, .nil, .nil, .nil, .bo false], []⟩,
    ⟨none, none, .sto 15 (.t 8) (.t 43), []⟩])
  (.sq (.rg [⟨some 44, none, .q (.adr 11 (.t 8)), []⟩,
    ⟨some 45, none, .ld 1 false (.t 44), []⟩,
    ⟨some 46, none, .nc 21 [(.t 45)], []⟩])
  (.sq (.sq (.rg [⟨some 47, none, .q (.adr 1 (.t 7)), []⟩,
    ⟨some 48, none, .ld 1 false (.t 47), []⟩,
    ⟨some 49, none, .q (.len (.t 48)), []⟩,
    ⟨some 50, none, .q (.mov (.k (.i .i64 0))), []⟩])
  (.bk 0 (.lp b10_0)))
  (.sq (.sq (.rg [⟨some 59, none, .q (.mov (.t 6)), []⟩,
    ⟨some 60, none, .q (.nck (.t 59)), []⟩,
    ⟨some 61, none, .q (.adr 1 (.t 60)), []⟩,
    ⟨some 62, none, .ld 1 false (.t 61), []⟩,
    ⟨some 63, none, .rng (.t 62), []⟩])
  (.bk 2 (.lp b10_1)))
  (.sq (.sq (.rg [⟨some 83, none, .q (.adr 12 (.t 8)), []⟩,
    ⟨some 84, none, .ld 1 false (.t 83), []⟩,
    ⟨some 85, none, .q (.len (.t 84)), []⟩,
    ⟨some 86, none, .q (.mov (.k (.i .i64 0))), []⟩])
  (.bk 4 (.lp b10_2)))
  (.sq (.rg [⟨some 93, none, .ld 15 true (.t 8), []⟩,
    ⟨none, none, .sto 15 (.t 2) (.t 93), []⟩,
    ⟨some 3, none, .q (.mov (.k (.i .i64 0))), []⟩])
  (.rt)))))))))))
def fn10 : Fn := { n := 94, np := 1, res := [.c 2 15 true, .t 3], body := c10 }
theorem e10 : F 10 = some fn10 := by kernel_rfl

def b11_0 : C :=
  .sq (.sq (.rg [⟨some 91, none, .q (.mov (.t 6)), []⟩,
    ⟨some 92, none, .q (.adr 5 (.t 1)), []⟩,
    ⟨some 93, none, .ld 1 false (.t 92), []⟩,
    ⟨some 94, none, .q (.len (.t 93)), []⟩,
    ⟨some 95, none, .q (.bin .lss (.t 91) (.t 94)), []⟩,
    ⟨some 96, none, .q (.mov (.t 95)), []⟩,
    ⟨some 97, some (96, true), .q (.mov (.t 5)), []⟩,
    ⟨some 98, none, .q (.pick (.t 96) (.t 97) (.k (.bo false))), []⟩])
  (.cd (.t 98)
   (.sk)
   (.ex 1)))
  (.sq (.bk 2 (.rg [⟨some 101, none, .q (.adr 5 (.t 1)), []⟩,
    ⟨some 102, none, .ld 1 false (.t 101), []⟩,
    ⟨some 103, none, .q (.mov (.t 6)), []⟩,
    ⟨some 104, none, .q (.ixp 8 (.t 102) (.t 103)), []⟩,
    ⟨some 105, none, .ld 8 true (.t 104), []⟩,
    ⟨some 106, none, .pc 11 [(.t 105)], []⟩,
    ⟨some 5, none, .q (.mov (.t 106)), []⟩]))
  (.rg [⟨some 99, none, .q (.mov (.t 6)), []⟩,
    ⟨some 100, none, .q (.bin .add (.t 99) (.k (.i .i64 1))), []⟩,
    ⟨some 6, none, .q (.mov (.t 100)), []⟩]))
def c11 : C :=
  .sq (.rg [⟨some 1, none, .box (.t 0), []⟩,
    ⟨some 2, none, .q (.mov (.k (.bo false))), []⟩])
  (.sq (.rg [⟨some 7, none, .q (.adr 1 (.t 1)), []⟩,
    ⟨some 8, none, .ld 4 true (.t 7), []⟩,
    ⟨some 9, none, .q (.bld [.i .u64 0, .i .u64 0, .i .u64 0, .i .u64 0] []), []⟩,
    ⟨some 10, none, .q (.eqp false true [.i .u64, .i .u64, .i .u64, .i .u64] (.t 8) (.t 9)), []⟩,
    ⟨some 3, none, .q (.mov (.t 10)), []⟩])
  (.sq (.rg [⟨some 11, none, .q (.adr 6 (.t 1)), []⟩,
    ⟨some 12, none, .ld 1 false (.t 11), []⟩,
    ⟨some 13, none, .q (.bin .eql (.t 12) (.k (.i .i64 0))), []⟩,
    ⟨some 14, none, .q (.mov (.t 13)), []⟩,
    ⟨some 15, some (14, true), .q (.adr 7 (.t 1)), []⟩,
    ⟨some 16, some (14, true), .ld 1 false (.t 15), []⟩,
    ⟨some 17, some (14, true), .q (.bin .eql (.t 16) (.k (.i .i64 0))), []⟩,
    ⟨some 18, none, .q (.pick (.t 14) (.t 17) (.k (.bo false))), []⟩,
    ⟨some 4, none, .q (.mov (.t 18)), []⟩])
  (.sq (.rg [⟨some 5, none, .q (.mov (.k (.bo false))), []⟩])
  (.sq (.sq (.rg [⟨some 19, none, .q (.adr 0 (.t 1)), []⟩,
    ⟨some 20, none, .ld 1 false (.t 19), []⟩])
  (.bk 0 (.sq (.rg [⟨some 22, none, .q (.bin .eql (.t 20) (.k (.i .i64 0))), []⟩,
    ⟨some 21, none, .q (.mov (.t 22)), []⟩])
  (.cd (.t 21)
   (.rg [⟨some 23, none, .q (.mov (.t 3)), []⟩,
      ⟨some 24, none, .q (.mov (.t 23)), []⟩,
      ⟨some 25, some (24, true), .q (.mov (.t 4)), []⟩,
      ⟨some 26, none, .q (.pick (.t 24) (.t 25) (.k (.bo false))), []⟩,
      ⟨some 27, none, .q (.mov (.t 26)), []⟩,
      ⟨some 28, some (27, true), .q (.adr 5 (.t 1)), []⟩,
      ⟨some 29, some (27, true), .ld 1 false (.t 28), []⟩,
      ⟨some 30, some (27, true), .q (.len (.t 29)), []⟩,
      ⟨some 31, some (27, true), .q (.bin .eql (.t 30) (.k (.i .i64 0))), []⟩,
      ⟨some 32, none, .q (.pick (.t 27) (.t 31) (.k (.bo false))), []⟩,
      ⟨some 5, none, .q (.mov (.t 32)), []⟩])
   (.sq (.rg [⟨some 34, none, .q (.bin .eql (.t 20) (.k (.i .i64 1))), []⟩,
      ⟨some 33, none, .q (.mov (.t 34)), []⟩])
    (.cd (.t 33)
     (.rg [⟨some 35, none, .q (.mov (.t 4)), []⟩,
        ⟨some 36, none, .q (.mov (.t 35)), []⟩,
        ⟨some 37, some (36, true), .q (.adr 5 (.t 1)), []⟩,
        ⟨some 38, some (36, true), .ld 1 false (.t 37), []⟩,
        ⟨some 39, some (36, true), .q (.len (.t 38)), []⟩,
        ⟨some 40, some (36, true), .q (.bin .eql (.t 39) (.k (.i .i64 0))), []⟩,
        ⟨some 41, none, .q (.pick (.t 36) (.t 40) (.k (.bo false))), []⟩,
        ⟨some 5, none, .q (.mov (.t 41)), []⟩])
     (.sq (.sq (.rg [⟨some 43, none, .q (.bin .eql (.t 20) (.k (.i .i64 2))), []⟩,
        ⟨some 42, none, .q (.mov (.t 43)), []⟩])
      (.cd (.t 42)
       (.sk)
       (.rg [⟨some 44, none, .q (.bin .eql (.t 20) (.k (.i .i64 3))), []⟩,
          ⟨some 42, none, .q (.mov (.t 44)), []⟩])))
      (.cd (.t 42)
       (.rg [⟨some 45, none, .q (.mov (.t 3)), []⟩,
          ⟨some 46, none, .q (.mov (.t 45)), []⟩,
          ⟨some 47, some (46, true), .q (.mov (.t 4)), []⟩,
          ⟨some 48, none, .q (.pick (.t 46) (.t 47) (.k (.bo false))), []⟩,
          ⟨some 49, none, .q (.mov (.t 48)), []⟩,
          ⟨some 50, some (49, true), .q (.adr 5 (.t 1)), []⟩,
          ⟨some 51, some (49, true), .ld 1 false (.t 50), []⟩,
          ⟨some 52, some (49, true), .q (.len (.t 51)), []⟩,
          ⟨some 53, some (49, true), .q (.bin .gtr (.t 52) (.k (.i .i64 1))), []⟩,
          ⟨some 54, none, .q (.pick (.t 49) (.t 53) (.k (.bo false))), []⟩,
          ⟨some 5, none, .q (.mov (.t 54)), []⟩])
       (.sq (.rg [⟨some 56, none, .q (.bin .eql (.t 20) (.k (.i .i64 4))), []⟩,
          ⟨some 55, none, .q (.mov (.t 56)), []⟩])
        (.cd (.t 55)
         (.rg [⟨some 57, none, .q (.mov (.t 3)), []⟩,
            ⟨some 58, none, .q (.mov (.t 57)), []⟩,
            ⟨some 59, some (58, true), .q (.adr 5 (.t 1)), []⟩,
            ⟨some 60, some (58, true), .ld 1 false (.t 59), []⟩,
            ⟨some 61, some (58, true), .q (.len (.t 60)), []⟩,
            ⟨some 62, some (58, true), .q (.bin .eql (.t 61) (.k (.i .i64 1))), []⟩,
            ⟨some 63, none, .q (.pick (.t 58) (.t 62) (.k (.bo false))), []⟩,
            ⟨some 64, none, .q (.mov (.t 63)), []⟩,
            ⟨some 65, some (64, true), .q (.adr 6 (.t 1)), []⟩,
            ⟨some 66, some (64, true), .ld 1 false (.t 65), []⟩,
            ⟨some 67, some (64, true), .q (.bin .geq (.t 66) (.k (.i .i64 0))), []⟩,
            ⟨some 68, none, .q (.pick (.t 64) (.t 67) (.k (.bo false))), []⟩,
            ⟨some 69, none, .q (.mov (.t 68)), []⟩,
            ⟨some 70, some (69, true), .q (.adr 6 (.t 1)), []⟩,
            ⟨some 71, some (69, true), .ld 1 false (.t 70), []⟩,
            ⟨some 72, some (69, true), .q (.bin .leq (.t 71) (.k (.i .i64 2147483647))), []⟩,
            ⟨some 73, none, .q (.pick (.t 69) (.t 72) (.k (.bo false))), []⟩,
            ⟨some 74, none, .q (.mov (.t 73)), []⟩,
            ⟨some 75, some (74, true), .q (.adr 7 (.t 1)), []⟩,
            ⟨some 76, some (74, true), .ld 1 false (.t 75), []⟩,
            ⟨some 77, some (74, true), .q (.bin .leq (.t 76) (.k (.i .i64 2147483647))), []⟩,
            ⟨some 78, none, .q (.pick (.t 74) (.t 77) (.k (.bo false))), []⟩,
            ⟨some 79, none, .q (.mov (.t 78)), []⟩,
            ⟨some 80, some (79, true), .q (.adr 7 (.t 1)), []⟩,
            ⟨some 81, some (79, true), .ld 1 false (.t 80), []⟩,
            ⟨some 82, some (79, true), .q (.bin .eql (.t 81) (.k (.i .i64 (-1)))), []⟩,
            ⟨some 83, some (79, true), .q (.mov (.t 82)), []⟩,
            ⟨some 84, some (83, false), .q (.adr 7 (.t 1)), []⟩,
            ⟨some 85, some (83, false), .ld 1 false (.t 84), []⟩,
            ⟨some 86, some (83, false), .q (.adr 6 (.t 1)), []⟩,
            ⟨some 87, some (83, false), .ld 1 false (.t 86), []⟩,
            ⟨some 88, some (83, false), .q (.bin .geq (.t 85) (.t 87)), []⟩,
            ⟨some 89, some (79, true), .q (.pick (.t 83) (.k (.bo true)) (.t 88)), []⟩,
            ⟨some 90, none, .q (.pick (.t 79) (.t 89) (.k (.bo false))), []⟩,
            ⟨some 5, none, .q (.mov (.t 90)), []⟩])
         (.sk)))))))))))
  (.sq (.sq (.rg [⟨some 6, none, .q (.mov (.k (.i .i64 0))), []⟩])
  (.bk 1 (.lp b11_0)))
  (.sq (.rg [⟨some 107, none, .q (.mov (.t 5)), []⟩,
    ⟨some 2, none, .q (.mov (.t 107)), []⟩])
  (.rt)))))))
def fn11 : Fn := { n := 108, np := 1, res := [.t 2], body := c11 }
theorem e11 : F 11 = some fn11 := by kernel_rfl

def c19 : C :=
  .sq (.rg [⟨some 1, none, .box (.t 0), []⟩,
    ⟨some 2, none, .alc [.i .i64 0, .i .u64 0, .i .u64 0, .i .u64 0, .i .u64 0, .nil, .i .i64 0, .i .i64 0, .nil, .nil, .nil], []⟩,
    ⟨some 3, none, .q (.mov (.k (.i .i64 0))), []⟩])
  (.sq (.rg [⟨some 8, none, .ld 8 true (.t 1), []⟩,
    ⟨some 9, none, .pc 28 [(.t 8)], []⟩,
    ⟨some 7, none, .q (.mov (.t 9)), []⟩,
    ⟨some 10, none, .q (.ext (.t 7) 0), []⟩,
    ⟨some 11, none, .q (.ext (.t 7) 1), []⟩,
    ⟨some 4, none, .alc [.i .i64 0, .i .u64 0, .i .u64 0, .i .u64 0, .i .u64 0, .nil, .i .i64 0, .i .i64 0], []⟩,
    ⟨none, none, .sto 8 (.t 4) (.t 10), []⟩,
    ⟨some 5, none, .q (.mov (.t 11)), []⟩])
  (.sq (.sq (.rg [⟨some 12, none, .q (.mov (.t 5)), []⟩,
    ⟨some 13, none, .q (.bin .neq (.t 12) (.k (.i .i64 0))), []⟩])
  (.cd (.t 13)
   (.sq (.rg [⟨some 14, none, .q (.bld [.i .i64 0, .i .u64 0, .i .u64 0, .i .u64 0, .i .u64 0, .nil, .i .i64 0, .i .i64 0, .nil, .nil, .nil] []), []⟩,
      ⟨some 15, none, .q (.mov (.t 5)), []⟩,
      ⟨none, none, .sto 11 (.t 2) (.t 14), []⟩,
      ⟨some 3, none, .q (.mov (.t 15)), []⟩])
    (.rt))
   (.sk)))
  (.sq (.rg [⟨some 16, none, .ld 8 true (.t 4), []⟩,
    ⟨some 17, none, .mks 4 32 [.i .u64 0, .i .u64 0, .i .u64 0, .i .u64 0] (.k (.i .i64 1)) (.k (.i .i64 1)), []⟩,
    ⟨some 18, none, .mks 1 24 [.nil] (.k (.i .i64 1)) (.k (.i .i64 1)), []⟩,
    ⟨some 19, none, .q (.bld [.i .i64 0, .i .u64 0, .i .u64 0, .i .u64 0, .i .u64 0, .nil, .i .i64 0, .i .i64 0, .nil, .nil, .nil] [(0, 8, (.t 16)), (8, 1, (.t 17)), (10, 1, (.t 18))]), []⟩,
    ⟨some 20, none, .box (.t 19), []⟩,
    ⟨some 6, none, .q (.mov (.t 20)), []⟩])
  (.sq (.rg [⟨some 21, none, .q (.mov (.t 6)), []⟩,
    ⟨some 22, none, .ld 8 true (.t 4), []⟩,
    ⟨some 23, none, .nc 29 [(.t 21), (.t 22), (.k (.nil))], []⟩])
  (.sq (.sq (.rg [⟨some 24, none, .q (.mov (.t 6)), []⟩,
    ⟨some 25, none, .q (.nck (.t 24)), []⟩,
    ⟨some 26, none, .q (.adr 8 (.t 25)), []⟩,
    ⟨some 27, none, .ld 1 false (.t 26), []⟩,
    ⟨some 28, none, .q (.len (.t 27)), []⟩,
    ⟨some 29, none, .q (.bin .gtr (.t 28) (.k (.i .i64 41))), []⟩,
    ⟨some 30, none, .q (.mov (.t 29)), []⟩,
    ⟨some 31, some (30, false), .q (.mov (.t 6)), []⟩,
    ⟨some 32, some (30, false), .q (.nck (.t 31)), []⟩,
    ⟨some 33, some (30, false), .q (.adr 10 (.t 32)), []⟩,
    ⟨some 34, some (30, false), .ld 1 false (.t 33), []⟩,
    ⟨some 35, some (30, false), .pc 30 [(.t 34), (.k (.fn 31 []))], []⟩,
    ⟨some 36, none, .q (.pick (.t 30) (.k (.bo true)) (.t 35)), []⟩])
  (.cd (.t 36)
   (.sq (.rg [⟨some 37, none, .q (.bld [.i .i64 0, .i .u64 0, .i .u64 0, .i .u64 0, .i .u64 0, .nil, .i .i64 0, .i .i64 0, .nil, .nil, .nil] []), []⟩,
      ⟨none, none, .sto 11 (.t 2) (.t 37), []⟩,
      ⟨some 3, none, .q (.mov (.k (.i .i64 3))), []⟩])
    (.rt))
   (.sk)))
  (.sq (.rg [⟨some 38, none, .q (.mov (.t 6)), []⟩,
    ⟨some 39, none, .q (.nck (.t 38)), []⟩,
    ⟨some 40, none, .ld 11 true (.t 39), []⟩,
    ⟨none, none, .sto 11 (.t 2) (.t 40), []⟩,
    ⟨some 3, none, .q (.mov (.k (.i .i64 0))), []⟩])
  (.rt)))))))
def fn19 : Fn := { n := 41, np := 1, res := [.c 2 11 true, .t 3], body := c19 }
theorem e19 : F 19 = some fn19 := by kernel_rfl

def c20 : C :=
  .sq (.rg [⟨some 4, none, .box (.t 1), []⟩,
    ⟨some 6, none, .alc [.nil, .nil, .bo false], []⟩])
  (.sq (.sq (.rg [⟨some 7, none, .q (.adr 0 (.t 4)), []⟩,
    ⟨some 8, none, .ld 1 false (.t 7), []⟩])
  (.bk 0 (.sq (.rg [⟨some 10, none, .q (.bin .eql (.t 8) (.k (.i .i64 1))), []⟩,
    ⟨some 9, none, .q (.mov (.t 10)), []⟩])
  (.cd (.t 9)
   (.sq (.sq (.rg [⟨some 11, none, .q (.adr 1 (.t 4)), []⟩,
      ⟨some 12, none, .ld 4 true (.t 11), []⟩,
      ⟨some 13, none, .pc 32 [(.t 12)], []⟩])
    (.cd (.t 13)
     (.sq (.rg [⟨some 14, none, .q (.bld [.nil, .nil, .bo false] []), []⟩,
        ⟨none, none, .sto 3 (.t 6) (.t 14), []⟩])
      (.rt))
     (.sk)))
    (.sq (.rg [⟨some 15, none, .q (.mov (.t 0)), []⟩,
      ⟨some 16, none, .q (.nck (.t 15)), []⟩,
      ⟨some 17, none, .q (.adr 0 (.t 16)), []⟩,
      ⟨some 18, none, .ld 1 false (.t 17), []⟩,
      ⟨some 19, none, .q (.bin .add (.t 18) (.k (.i .i64 1))), []⟩,
      ⟨some 20, none, .q (.nck (.t 15)), []⟩,
      ⟨some 21, none, .q (.adr 0 (.t 20)), []⟩,
      ⟨none, none, .sto 1 (.t 21) (.t 19), []⟩])
    (.sq (.rg [⟨some 22, none, .q (.mov (.t 0)), []⟩,
      ⟨some 23, none, .q (.nck (.t 22)), []⟩,
      ⟨some 24, none, .q (.adr 0 (.t 23)), []⟩,
      ⟨some 27, none, .q (.mov (.t 0)), []⟩,
      ⟨some 28, none, .q (.nck (.t 27)), []⟩,
      ⟨some 29, none, .q (.adr 0 (.t 28)), []⟩,
      ⟨some 25, none, .ld 1 false (.t 24), []⟩,
      ⟨some 30, none, .ld 1 false (.t 29), []⟩,
      ⟨some 26, none, .bsl 1 1 [.i .i64 0] [(0, (.t 25))], []⟩,
      ⟨some 31, none, .bsl 1 1 [.i .i64 0] [(0, (.t 30))], []⟩,
      ⟨some 32, none, .q (.bld [.nil, .nil, .bo false] [(0, 1, (.t 26)), (1, 1, (.t 31))]), []⟩,
      ⟨none, none, .sto 3 (.t 6) (.t 32), []⟩])
    (.rt))))
   (.sq (.rg [⟨some 34, none, .q (.bin .eql (.t 8) (.k (.i .i64 2))), []⟩,
      ⟨some 33, none, .q (.mov (.t 34)), []⟩])
    (.cd (.t 33)
     (.sq (.rg [⟨some 35, none, .q (.mov (.t 0)), []⟩,
        ⟨some 36, none, .q (.adr 5 (.t 4)), []⟩,
        ⟨some 37, none, .ld 1 false (.t 36), []⟩,
        ⟨some 38, none, .q (.mov (.t 2)), []⟩,
        ⟨some 39, none, .nc 33 [(.t 35), (.t 37), (.t 38)], []⟩,
        ⟨none, none, .sto 3 (.t 6) (.t 39), []⟩])
      (.rt))
     (.sq (.rg [⟨some 41, none, .q (.bin .eql (.t 8) (.k (.i .i64 3))), []⟩,
        ⟨some 40, none, .q (.mov (.t 41)), []⟩])
      (.cd (.t 40)
       (.sq (.rg [⟨some 42, none, .q (.mov (.t 0)), []⟩,
          ⟨some 43, none, .q (.adr 5 (.t 4)), []⟩,
          ⟨some 44, none, .ld 1 false (.t 43), []⟩,
          ⟨some 45, none, .q (.mov (.t 2)), []⟩,
          ⟨some 46, none, .nc 34 [(.t 42), (.t 44), (.t 45)], []⟩,
          ⟨none, none, .sto 3 (.t 6) (.t 46), []⟩])
        (.rt))
       (.sq (.rg [⟨some 48, none, .q (.bin .eql (.t 8) (.k (.i .i64 4))), []⟩,
          ⟨some 47, none, .q (.mov (.t 48)), []⟩])
        (.cd (.t 47)
         (.sq (.rg [⟨some 49, none, .q (.mov (.t 0)), []⟩,
            ⟨some 50, none, .ld 8 true (.t 4), []⟩,
            ⟨some 51, none, .q (.mov (.t 2)), []⟩,
            ⟨some 52, none, .nc 35 [(.t 49), (.t 50), (.t 51)], []⟩,
            ⟨none, none, .sto 3 (.t 6) (.t 52), []⟩])
          (.rt))
         (.sk)))))))))))
  (.sq (.rg [⟨some 53, none, .q (.bld [.nil, .nil, .bo false] [(2, 1, (.k (.bo true)))]), []⟩,
    ⟨none, none, .sto 3 (.t 6) (.t 53), []⟩])
  (.rt)))
def fn20 : Fn := { n := 54, np := 3, res := [.c 6 3 true], body := c20 }
theorem e20 : F 20 = some fn20 := by kernel_rfl

def c23 : C :=
  .sq (.rg [⟨some 2, none, .box (.t 0), []⟩,
    ⟨some 3, none, .box (.t 1), []⟩,
    ⟨some 4, none, .q (.mov (.k (.i .i64 0))), []⟩])
  (.sq (.rg [⟨some 6, none, .q (.adr 0 (.t 2)), []⟩,
    ⟨some 8, none, .q (.adr 0 (.t 3)), []⟩,
    ⟨some 11, none, .q (.adr 1 (.t 2)), []⟩,
    ⟨some 13, none, .q (.adr 1 (.t 3)), []⟩,
    ⟨some 7, none, .ld 1 false (.t 6), []⟩,
    ⟨some 9, none, .ld 1 false (.t 8), []⟩,
    ⟨some 12, none, .ld 1 false (.t 11), []⟩,
    ⟨some 14, none, .ld 1 false (.t 13), []⟩,
    ⟨some 10, none, .pc 40 [(.t 7), (.t 9)], []⟩,
    ⟨some 15, none, .pc 40 [(.t 12), (.t 14)], []⟩,
    ⟨some 16, none, .bsl 1 2 [.i .i64 0] [(0, (.t 10)), (1, (.t 15))], []⟩,
    ⟨some 17, none, .pc 39 [(.t 16)], []⟩,
    ⟨some 5, none, .q (.mov (.t 17)), []⟩])
  (.sq (.sq (.rg [⟨some 18, none, .q (.mov (.t 5)), []⟩,
    ⟨some 19, none, .q (.bin .eql (.t 18) (.k (.i .i64 0))), []⟩,
    ⟨some 20, none, .q (.mov (.t 19)), []⟩,
    ⟨some 21, some (20, true), .q (.adr 2 (.t 2)), []⟩,
    ⟨some 22, some (20, true), .ld 1 false (.t 21), []⟩,
    ⟨some 23, some (20, true), .q (.adr 2 (.t 3)), []⟩,
    ⟨some 24, some (20, true), .ld 1 false (.t 23), []⟩,
    ⟨some 25, some (20, true), .q (.eqb true (.t 22) (.t 24)), []⟩,
    ⟨some 26, none, .q (.pick (.t 20) (.t 25) (.k (.bo false))), []⟩])
  (.cd (.t 26)
   (.sq (.rg [⟨some 5, none, .q (.mov (.k (.i .i64 1))), []⟩])
    (.sq (.rg [⟨some 27, none, .q (.adr 2 (.t 3)), []⟩,
      ⟨some 28, none, .ld 1 false (.t 27), []⟩])
    (.cd (.t 28)
     (.rg [⟨some 5, none, .q (.mov (.k (.i .i64 (-1)))), []⟩])
     (.sk))))
   (.sk)))
  (.sq (.rg [⟨some 29, none, .q (.mov (.t 5)), []⟩,
    ⟨some 4, none, .q (.mov (.t 29)), []⟩])
  (.rt))))
def fn23 : Fn := { n := 30, np := 2, res := [.t 4], body := c23 }
theorem e23 : F 23 = some fn23 := by kernel_rfl

def c28 : C :=
  .sq (.rg [⟨some 1, none, .box (.t 0), []⟩,
    ⟨some 2, none, .alc [.i .i64 0, .i .u64 0, .i .u64 0, .i .u64 0, .i .u64 0, .nil, .i .i64 0, .i .i64 0], []⟩,
    ⟨some 3, none, .q (.mov (.k (.i .i64 0))), []⟩])
  (.sq (.sq (.rg [⟨some 4, none, .ld 8 true (.t 1), []⟩,
    ⟨some 5, none, .pc 43 [(.t 4)], []⟩,
    ⟨some 6, none, .q (.un .not (.t 5)), []⟩])
  (.cd (.t 6)
   (.sq (.rg [⟨some 7, none, .q (.bld [.i .i64 0, .i .u64 0, .i .u64 0, .i .u64 0, .i .u64 0, .nil, .i .i64 0, .i .i64 0] []), []⟩,
      ⟨none, none, .sto 8 (.t 2) (.t 7), []⟩,
      ⟨some 3, none, .q (.mov (.k (.i .i64 1))), []⟩])
    (.rt))
   (.sk)))
  (.sq (.rg [⟨some 8, none, .ld 8 true (.t 1), []⟩,
    ⟨some 9, none, .pc 44 [(.t 8)], []⟩,
    ⟨none, none, .sto 8 (.t 2) (.t 9), []⟩,
    ⟨some 3, none, .q (.mov (.k (.i .i64 0))), []⟩])
  (.rt)))
def fn28 : Fn := { n := 10, np := 1, res := [.c 2 8 true, .t 3], body := c28 }
theorem e28 : F 28 = some fn28 := by kernel_rfl

def b29_0 : C :=
  .sq (.rg [⟨some 70, none, .q (.bin .lss (.t 69) (.t 68)), []⟩])
  (.sq (.cd (.t 70)
   (.sk)
   (.ex 0))
  (.sq (.bk 1 (.sq (.rg [⟨some 71, none, .q (.ixp 8 (.t 67) (.t 69)), []⟩,
    ⟨some 72, none, .ld 8 true (.t 71), []⟩,
    ⟨some 9, none, .alc [.i .i64 0, .i .u64 0, .i .u64 0, .i .u64 0, .i .u64 0, .nil, .i .i64 0, .i .i64 0], []⟩,
    ⟨none, none, .sto 8 (.t 9) (.t 72), []⟩])
  (.rg [⟨some 73, none, .q (.mov (.t 0)), []⟩,
    ⟨some 74, none, .ld 8 true (.t 9), []⟩,
    ⟨some 75, none, .q (.mov (.t 2)), []⟩,
    ⟨some 76, none, .nc 29 [(.t 73), (.t 74), (.t 75)], []⟩])))
  (.rg [⟨some 77, none, .q (.bin .add (.t 69) (.k (.i .i64 1))), []⟩,
    ⟨some 69, none, .q (.mov (.t 77)), []⟩])))
def c29 : C :=
  .sq (.rg [⟨some 4, none, .box (.t 1), []⟩])
  (.sq (.sq (.rg [⟨some 10, none, .q (.adr 0 (.t 4)), []⟩,
    ⟨some 11, none, .ld 1 false (.t 10), []⟩,
    ⟨some 12, none, .q (.bin .eql (.t 11) (.k (.i .i64 1))), []⟩,
    ⟨some 13, none, .q (.mov (.t 12)), []⟩,
    ⟨some 14, some (13, true), .q (.adr 1 (.t 4)), []⟩,
    ⟨some 15, some (13, true), .ld 4 true (.t 14), []⟩,
    ⟨some 16, some (13, true), .pc 32 [(.t 15)], []⟩,
    ⟨some 17, some (13, true), .q (.un .not (.t 16)), []⟩,
    ⟨some 18, none, .q (.pick (.t 13) (.t 17) (.k (.bo false))), []⟩])
  (.cd (.t 18)
   (.sq (.rg [⟨some 19, none, .q (.mov (.t 0)), []⟩,
      ⟨some 20, none, .q (.mov (.t 0)), []⟩,
      ⟨some 21, none, .q (.nck (.t 20)), []⟩,
      ⟨some 22, none, .q (.adr 8 (.t 21)), []⟩,
      ⟨some 24, none, .q (.adr 1 (.t 4)), []⟩,
      ⟨some 23, none, .ld 1 false (.t 22), []⟩,
      ⟨some 25, none, .ld 4 true (.t 24), []⟩,
      ⟨some 26, none, .bsl 4 1 [.i .u64 0, .i .u64 0, .i .u64 0, .i .u64 0] [(0, (.t 25))], []⟩,
      ⟨some 27, none, .app 4 32 (.t 23) (.t 26), []⟩,
      ⟨some 28, none, .q (.nck (.t 19)), []⟩,
      ⟨some 29, none, .q (.adr 8 (.t 28)), []⟩,
      ⟨none, none, .sto 1 (.t 29) (.t 27), []⟩])
    (.rg [⟨some 30, none, .q (.mov (.t 0)), []⟩,
      ⟨some 31, none, .q (.mov (.t 0)), []⟩,
      ⟨some 32, none, .q (.nck (.t 31)), []⟩,
      ⟨some 33, none, .q (.adr 10 (.t 32)), []⟩,
      ⟨some 35, none, .q (.mov (.t 2)), []⟩,
      ⟨some 34, none, .ld 1 false (.t 33), []⟩,
      ⟨some 36, none, .nc 45 [(.t 35)], [.ld 1 false (.t 33)]⟩,
      ⟨some 37, none, .bsl 1 1 [.nil] [(0, (.t 36))], []⟩,
      ⟨some 38, none, .app 1 24 (.t 34) (.t 37), []⟩,
      ⟨some 39, none, .q (.nck (.t 30)), []⟩,
      ⟨some 40, none, .q (.adr 10 (.t 39)), []⟩,
      ⟨none, none, .sto 1 (.t 40) (.t 38), []⟩]))
   (.sk)))
  (.sq (.sq (.rg [⟨some 42, none, .ld 8 true (.t 4), []⟩,
    ⟨some 43, none, .pc 46 [(.t 42)], []⟩,
    ⟨some 41, none, .q (.mov (.t 43)), []⟩,
    ⟨some 44, none, .q (.ext (.t 41) 0), []⟩,
    ⟨some 45, none, .q (.ext (.t 41) 1), []⟩,
    ⟨some 6, none, .alc [.i .i64 0, .i .i64 0], []⟩,
    ⟨none, none, .sto 2 (.t 6) (.t 44), []⟩,
    ⟨some 7, none, .q (.mov (.t 45)), []⟩])
  (.sq (.rg [⟨some 46, none, .q (.mov (.t 7)), []⟩])
  (.cd (.t 46)
   (.sq (.rg [⟨some 47, none, .q (.mov (.t 2)), []⟩,
      ⟨some 49, none, .q (.mov (.t 0)), []⟩,
      ⟨some 50, none, .q (.nck (.t 49)), []⟩,
      ⟨some 51, none, .q (.adr 9 (.t 50)), []⟩,
      ⟨some 52, none, .ld 1 false (.t 51), []⟩,
      ⟨some 53, none, .q (.len (.t 52)), []⟩,
      ⟨some 54, none, .q (.lit 1 1 [.i .i64 0] [(0, (.t 53))]), []⟩,
      ⟨some 48, none, .nc 45 [(.t 47)], [.ld 1 false (.t 51)]⟩,
      ⟨some 55, none, .app 1 8 (.t 48) (.t 54), []⟩,
      ⟨some 2, none, .q (.mov (.t 55)), []⟩])
    (.rg [⟨some 56, none, .q (.mov (.t 0)), []⟩,
      ⟨some 57, none, .q (.mov (.t 0)), []⟩,
      ⟨some 58, none, .q (.nck (.t 57)), []⟩,
      ⟨some 59, none, .q (.adr 9 (.t 58)), []⟩,
      ⟨some 60, none, .ld 1 false (.t 59), []⟩,
      ⟨some 61, none, .ld 2 true (.t 6), []⟩,
      ⟨some 62, none, .bsl 2 1 [.i .i64 0, .i .i64 0] [(0, (.t 61))], []⟩,
      ⟨some 63, none, .app 2 16 (.t 60) (.t 62), []⟩,
      ⟨some 64, none, .q (.nck (.t 56)), []⟩,
      ⟨some 65, none, .q (.adr 9 (.t 64)), []⟩,
      ⟨none, none, .sto 1 (.t 65) (.t 63), []⟩]))
   (.sk))))
  (.sq (.rg [⟨some 66, none, .q (.adr 5 (.t 4)), []⟩,
    ⟨some 67, none, .ld 1 false (.t 66), []⟩,
    ⟨some 68, none, .q (.len (.t 67)), []⟩,
    ⟨some 69, none, .q (.mov (.k (.i .i64 0))), []⟩])
  (.bk 0 (.lp b29_0)))))
def fn29 : Fn := { n := 78, np := 3, res := [], body := c29 }
theorem e29 : F 29 = some fn29 := by kernel_rfl

def c30 : C :=
  .sq (.rg [⟨some 4, none, .q (.mov (.k (.bo false))), []⟩])
  (.sq (.rg [⟨some 5, none, .q (.mov (.t 0)), []⟩,
    ⟨some 6, none, .q (.mov (.t 1)), []⟩,
    ⟨some 7, none, .pc 47 [(.t 5), (.t 6)], []⟩,
    ⟨some 8, none, .q (.bin .geq (.t 7) (.k (.i .i64 0))), []⟩,
    ⟨some 4, none, .q (.mov (.t 8)), []⟩])
  (.rt))
def fn30 : Fn := { n := 9, np := 2, res := [.t 4], body := c30 }
theorem e30 : F 30 = some fn30 := by kernel_rfl

def c31 : C :=
  .sq (.rg [⟨some 2, none, .q (.mov (.k (.bo false))), []⟩])
  (.sq (.rg [⟨some 3, none, .q (.mov (.t 0)), []⟩,
    ⟨some 4, none, .q (.len (.t 3)), []⟩,
    ⟨some 5, none, .q (.bin .gtr (.t 4) (.k (.i .i64 4))), []⟩,
    ⟨some 2, none, .q (.mov (.t 5)), []⟩])
  (.rt))
def fn31 : Fn := { n := 6, np := 1, res := [.t 2], body := c31 }
theorem e31 : F 31 = some fn31 := by kernel_rfl

def c32 : C :=
  .sq (.rg [⟨some 1, none, .box (.t 0), []⟩,
    ⟨some 2, none, .q (.mov (.k (.bo false))), []⟩])
  (.sq (.rg [⟨some 3, none, .ld 4 true (.t 1), []⟩,
    ⟨some 4, none, .q (.bld [.i .u64 0, .i .u64 0, .i .u64 0, .i .u64 0] []), []⟩,
    ⟨some 5, none, .q (.eqp false true [.i .u64, .i .u64, .i .u64, .i .u64] (.t 3) (.t 4)), []⟩,
    ⟨some 2, none, .q (.mov (.t 5)), []⟩])
  (.rt))
def fn32 : Fn := { n := 6, np := 1, res := [.t 2], body := c32 }
theorem e32 : F 32 = some fn32 := by kernel_rfl

def b33_0 : C :=
  .sq (.rg [⟨some 15, none, .q (.bin .lss (.t 14) (.t 13)), []⟩])
  (.sq (.cd (.t 15)
   (.sk)
   (.ex 0))
  (.sq (.bk 1 (.sq (.rg [⟨some 16, none, .q (.ixp 8 (.t 12) (.t 14)), []⟩,
    ⟨some 17, none, .ld 8 true (.t 16), []⟩,
    ⟨some 9, none, .alc [.i .i64 0, .i .u64 0, .i .u64 0, .i .u64 0, .i .u64 0, .nil, .i .i64 0, .i .i64 0], []⟩,
    ⟨none, none, .sto 8 (.t 9) (.t 17), []⟩])
  (.sq (.rg [⟨some 18, none, .q (.mov (.t 0)), []⟩,
    ⟨some 19, none, .ld 8 true (.t 9), []⟩,
    ⟨some 20, none, .q (.mov (.t 2)), []⟩,
    ⟨some 21, none, .nc 20 [(.t 18), (.t 19), (.t 20)], []⟩,
    ⟨some 10, none, .alc [.nil, .nil, .bo false], []⟩,
    ⟨none, none, .sto 3 (.t 10) (.t 21), []⟩])
  (.sq (.rg [⟨some 22, none, .q (.mov (.t 0)), []⟩,
    ⟨some 23, none, .q (.adr 1 (.t 7)), []⟩,
    ⟨some 24, none, .ld 1 false (.t 23), []⟩,
    ⟨some 25, none, .q (.adr 0 (.t 10)), []⟩,
    ⟨some 26, none, .ld 1 false (.t 25), []⟩,
    ⟨some 27, none, .q (.mov (.t 2)), []⟩,
    ⟨some 28, none, .nc 48 [(.t 22), (.t 24), (.t 26), (.t 27), (.k (.bo false))], []⟩])
  (.sq (.sq (.rg [⟨some 29, none, .q (.adr 2 (.t 7)), []⟩,
    ⟨some 30, none, .ld 1 false (.t 29), []⟩])
  (.cd (.t 30)
   (.rg [⟨some 31, none, .q (.adr 0 (.t 7)), []⟩,
      ⟨some 32, none, .ld 1 false (.t 31), []⟩,
      ⟨some 33, none, .q (.adr 0 (.t 10)), []⟩,
      ⟨some 34, none, .ld 1 false (.t 33), []⟩,
      ⟨some 35, none, .bsl 1 2 [.nil] [(0, (.t 32)), (1, (.t 34))], []⟩,
      ⟨some 36, none, .nc 49 [(.t 35)], []⟩,
      ⟨some 37, none, .q (.adr 0 (.t 7)), []⟩,
      ⟨none, none, .sto 1 (.t 37) (.t 36), []⟩])
   (.sk)))
  (.sq (.sq (.rg [⟨some 38, none, .q (.adr 2 (.t 10)), []⟩,
    ⟨some 39, none, .ld 1 false (.t 38), []⟩])
  (.cd (.t 39)
   (.rg [⟨some 40, none, .q (.adr 1 (.t 7)), []⟩,
      ⟨some 41, none, .ld 1 false (.t 40), []⟩,
      ⟨some 42, none, .q (.adr 1 (.t 10)), []⟩,
      ⟨some 43, none, .ld 1 false (.t 42), []⟩,
      ⟨some 44, none, .bsl 1 2 [.nil] [(0, (.t 41)), (1, (.t 43))], []⟩,
      ⟨some 45, none, .nc 49 [(.t 44)], []⟩,
      ⟨some 46, none, .q (.adr 1 (.t 7)), []⟩,
      ⟨none, none, .sto 1 (.t 46) (.t 45), []⟩])
   (.rg [⟨some 47, none, .q (.adr 1 (.t 10)), []⟩,
      ⟨some 48, none, .ld 1 false (.t 47), []⟩,
      ⟨some 49, none, .q (.adr 1 (.t 7)), []⟩,
      ⟨none, none, .sto 1 (.t 49) (.t 48), []⟩])))
  (.rg [⟨some 50, none, .q (.adr 2 (.t 7)), []⟩,
    ⟨some 51, none, .ld 1 false (.t 50), []⟩,
    ⟨some 52, none, .q (.mov (.t 51)), []⟩,
    ⟨some 53, some (52, true), .q (.adr 2 (.t 10)), []⟩,
    ⟨some 54, some (52, true), .ld 1 false (.t 53), []⟩,
    ⟨some 55, none, .q (.pick (.t 52) (.t 54) (.k (.bo false))), []⟩,
    ⟨some 56, none, .q (.adr 2 (.t 7)), []⟩,
    ⟨none, none, .sto 1 (.t 56) (.t 55), []⟩])))))))
  (.rg [⟨some 57, none, .q (.bin .add (.t 14) (.k (.i .i64 1))), []⟩,
    ⟨some 14, none, .q (.mov (.t 57)), []⟩])))
def c33 : C :=
  .sq (.rg [⟨some 6, none, .alc [.nil, .nil, .bo false], []⟩])
  (.sq (.rg [⟨some 11, none, .q (.bld [.nil, .nil, .bo false] [(2, 1, (.k (.bo true)))]), []⟩,
    ⟨some 7, none, .alc [.nil, .nil, .bo false], []⟩,
    ⟨none, none, .sto 3 (.t 7) (.t 11), []⟩])
  (.sq (.sq (.rg [⟨some 12, none, .q (.mov (.t 1)), []⟩,
    ⟨some 13, none, .q (.len (.t 12)), []⟩,
    ⟨some 14, none, .q (.mov (.k (.i .i64 0))), []⟩])
  (.bk 0 (.lp b33_0)))
  (.sq (.rg [⟨some 58, none, .ld 3 true (.t 7), []⟩,
    ⟨none, none, .sto 3 (.t 6) (.t 58), []⟩])
  (.rt))))
def fn33 : Fn := { n := 59, np := 3, res := [.c 6 3 true], body := c33 }
theorem e33 : F 33 = some fn33 := by kernel_rfl

def b34_0 : C :=
  .sq (.rg [⟨some 14, none, .q (.bin .lss (.t 13) (.t 12)), []⟩])
  (.sq (.cd (.t 14)
   (.sk)
   (.ex 0))
  (.sq (.bk 1 (.sq (.rg [⟨some 15, none, .q (.ixp 8 (.t 11) (.t 13)), []⟩,
    ⟨some 16, none, .ld 8 true (.t 15), []⟩,
    ⟨some 9, none, .alc [.i .i64 0, .i .u64 0, .i .u64 0, .i .u64 0, .i .u64 0, .nil, .i .i64 0, .i .i64 0], []⟩,
    ⟨none, none, .sto 8 (.t 9) (.t 16), []⟩])
  (.sq (.rg [⟨some 17, none, .q (.mov (.t 0)), []⟩,
    ⟨some 18, none, .ld 8 true (.t 9), []⟩,
    ⟨some 19, none, .q (.mov (.t 2)), []⟩,
    ⟨some 20, none, .nc 20 [(.t 17), (.t 18), (.t 19)], []⟩,
    ⟨some 10, none, .alc [.nil, .nil, .bo false], []⟩,
    ⟨none, none, .sto 3 (.t 10) (.t 20), []⟩])
  (.sq (.rg [⟨some 21, none, .q (.adr 0 (.t 7)), []⟩,
    ⟨some 22, none, .ld 1 false (.t 21), []⟩,
    ⟨some 23, none, .q (.adr 0 (.t 10)), []⟩,
    ⟨some 24, none, .ld 1 false (.t 23), []⟩,
    ⟨some 25, none, .bsl 1 2 [.nil] [(0, (.t 22)), (1, (.t 24))], []⟩,
    ⟨some 26, none, .nc 49 [(.t 25)], []⟩,
    ⟨some 27, none, .q (.adr 0 (.t 7)), []⟩,
    ⟨none, none, .sto 1 (.t 27) (.t 26), []⟩])
  (.sq (.rg [⟨some 28, none, .q (.adr 1 (.t 7)), []⟩,
    ⟨some 29, none, .ld 1 false (.t 28), []⟩,
    ⟨some 30, none, .q (.adr 1 (.t 10)), []⟩,
    ⟨some 31, none, .ld 1 false (.t 30), []⟩,
    ⟨some 32, none, .bsl 1 2 [.nil] [(0, (.t 29)), (1, (.t 31))], []⟩,
    ⟨some 33, none, .nc 49 [(.t 32)], []⟩,
    ⟨some 34, none, .q (.adr 1 (.t 7)), []⟩,
    ⟨none, none, .sto 1 (.t 34) (.t 33), []⟩])
  (.rg [⟨some 35, none, .q (.adr 2 (.t 7)), []⟩,
    ⟨some 36, none, .ld 1 false (.t 35), []⟩,
    ⟨some 37, none, .q (.mov (.t 36)), []⟩,
    ⟨some 38, some (37, false), .q (.adr 2 (.t 10)), []⟩,
    ⟨some 39, some (37, false), .ld 1 false (.t 38), []⟩,
    ⟨some 40, none, .q (.pick (.t 37) (.k (.bo true)) (.t 39)), []⟩,
    ⟨some 41, none, .q (.adr 2 (.t 7)), []⟩,
    ⟨none, none, .sto 1 (.t 41) (.t 40), []⟩]))))))
  (.rg [⟨some 42, none, .q (.bin .add (.t 13) (.k (.i .i64 1))), []⟩,
    ⟨some 13, none, .q (.mov (.t 42)), []⟩])))
def c34 : C :=
  .sq (.rg [⟨some 6, none, .alc [.nil, .nil, .bo false], []⟩])
  (.sq (.rg [⟨some 7, none, .alc [.nil, .nil, .bo false], []⟩])
  (.sq (.sq (.rg [⟨some 11, none, .q (.mov (.t 1)), []⟩,
    ⟨some 12, none, .q (.len (.t 11)), []⟩,
    ⟨some 13, none, .q (.mov (.k (.i .i64 0))), []⟩])
  (.bk 0 (.lp b34_0)))
  (.sq (.rg [⟨some 43, none, .ld 3 true (.t 7), []⟩,
    ⟨none, none, .sto 3 (.t 6) (.t 43), []⟩])
  (.rt))))
def fn34 : Fn := { n := 44, np := 3, res := [.c 6 3 true], body := c34 }
theorem e34 : F 34 = some fn34 := by kernel_rfl

def c35 : C :=
  .sq (.rg [⟨some 4, none, .box (.t 1), []⟩,
    ⟨some 6, none, .alc [.nil, .nil, .bo false], []⟩])
  (.sq (.rg [⟨some 12, none, .ld 8 true (.t 4), []⟩,
    ⟨some 13, none, .pc 46 [(.t 12)], []⟩,
    ⟨some 11, none, .q (.mov (.t 13)), []⟩,
    ⟨some 14, none, .q (.ext (.t 11) 0), []⟩,
    ⟨some 15, none, .q (.ext (.t 11) 1), []⟩,
    ⟨some 7, none, .alc [.i .i64 0, .i .i64 0], []⟩,
    ⟨none, none, .sto 2 (.t 7) (.t 14), []⟩,
    ⟨some 8, none, .q (.mov (.t 15)), []⟩])
  (.sq (.rg [⟨some 16, none, .q (.mov (.t 2)), []⟩,
    ⟨some 9, none, .q (.mov (.t 16)), []⟩])
  (.sq (.sq (.rg [⟨some 17, none, .q (.mov (.t 8)), []⟩])
  (.cd (.t 17)
   (.rg [⟨some 18, none, .q (.mov (.t 9)), []⟩,
      ⟨some 19, none, .q (.bin .add (.t 18) (.k (.i .i64 1))), []⟩,
      ⟨some 9, none, .q (.mov (.t 19)), []⟩])
   (.sk)))
  (.sq (.rg [⟨some 20, none, .q (.mov (.t 0)), []⟩,
    ⟨some 21, none, .q (.adr 5 (.t 4)), []⟩,
    ⟨some 22, none, .ld 1 false (.t 21), []⟩,
    ⟨some 23, none, .q (.ixp 8 (.t 22) (.k (.i .i64 0))), []⟩,
    ⟨some 24, none, .ld 8 true (.t 23), []⟩,
    ⟨some 25, none, .q (.mov (.t 9)), []⟩,
    ⟨some 26, none, .nc 20 [(.t 20), (.t 24), (.t 25)], []⟩,
    ⟨some 10, none, .alc [.nil, .nil, .bo false], []⟩,
    ⟨none, none, .sto 3 (.t 10) (.t 26), []⟩])
  (.sq (.sq (.rg [⟨some 27, none, .q (.adr 7 (.t 4)), []⟩,
    ⟨some 28, none, .ld 1 false (.t 27), []⟩,
    ⟨some 29, none, .q (.bin .neq (.t 28) (.k (.i .i64 1))), []⟩])
  (.cd (.t 29)
   (.rg [⟨some 30, none, .q (.mov (.t 0)), []⟩,
      ⟨some 31, none, .q (.adr 1 (.t 10)), []⟩,
      ⟨some 32, none, .ld 1 false (.t 31), []⟩,
      ⟨some 33, none, .q (.adr 0 (.t 10)), []⟩,
      ⟨some 34, none, .ld 1 false (.t 33), []⟩,
      ⟨some 35, none, .q (.mov (.t 2)), []⟩,
      ⟨some 36, none, .q (.mov (.t 8)), []⟩,
      ⟨some 37, none, .nc 48 [(.t 30), (.t 32), (.t 34), (.t 35), (.t 36)], []⟩])
   (.sk)))
  (.sq (.rg [⟨some 38, none, .ld 8 true (.t 4), []⟩,
    ⟨some 39, none, .pc 50 [(.t 38)], []⟩,
    ⟨some 40, none, .q (.adr 2 (.t 10)), []⟩,
    ⟨none, none, .sto 1 (.t 40) (.t 39), []⟩])
  (.sq (.rg [⟨some 41, none, .ld 3 true (.t 10), []⟩,
    ⟨none, none, .sto 3 (.t 6) (.t 41), []⟩])
  (.rt))))))))
def fn35 : Fn := { n := 42, np := 3, res := [.c 6 3 true], body := c35 }
theorem e35 : F 35 = some fn35 := by kernel_rfl

def b39_0 : C :=
  .sq (.rg [⟨some 9, none, .q (.bin .lss (.t 8) (.t 7)), []⟩])
  (.sq (.cd (.t 9)
   (.sk)
   (.ex 0))
  (.sq (.bk 1 (.sq (.rg [⟨some 10, none, .q (.ixp 1 (.t 6) (.t 8)), []⟩,
    ⟨some 11, none, .ld 1 false (.t 10), []⟩,
    ⟨some 5, none, .q (.mov (.t 11)), []⟩])
  (.sq (.rg [⟨some 12, none, .q (.mov (.t 5)), []⟩,
    ⟨some 13, none, .q (.mov (.t 3)), []⟩,
    ⟨some 14, none, .q (.bin .neq (.t 12) (.t 13)), []⟩])
  (.cd (.t 14)
   (.sq (.rg [⟨some 15, none, .q (.mov (.t 5)), []⟩,
      ⟨some 2, none, .q (.mov (.t 15)), []⟩])
    (.rt))
   (.sk)))))
  (.rg [⟨some 16, none, .q (.bin .add (.t 8) (.k (.i .i64 1))), []⟩,
    ⟨some 8, none, .q (.mov (.t 16)), []⟩])))
def c39 : C :=
  .sq (.rg [⟨some 2, none, .q (.mov (.k (.i .i64 0))), []⟩])
  (.sq (.rg [⟨some 3, none, .q (.mov (.k (.i .i64 0))), []⟩])
  (.sq (.sq (.rg [⟨some 6, none, .q (.mov (.t 0)), []⟩,
    ⟨some 7, none, .q (.len (.t 6)), []⟩,
    ⟨some 8, none, .q (.mov (.k (.i .i64 0))), []⟩])
  (.bk 0 (.lp b39_0)))
  (.sq (.rg [⟨some 17, none, .q (.mov (.t 3)), []⟩,
    ⟨some 2, none, .q (.mov (.t 17)), []⟩])
  (.rt))))
def fn39 : Fn := { n := 18, np := 1, res := [.t 2], body := c39 }
theorem e39 : F 39 = some fn39 := by kernel_rfl

def c40 : C :=
  .sq (.rg [⟨some 4, none, .q (.mov (.k (.i .i64 0))), []⟩])
  (.sq (.rg [⟨some 7, none, .q (.mov (.t 0)), []⟩,
    ⟨some 8, none, .pc 70 [(.t 7)], []⟩,
    ⟨some 5, none, .q (.mov (.t 8)), []⟩])
  (.sq (.rg [⟨some 9, none, .q (.mov (.t 1)), []⟩,
    ⟨some 10, none, .pc 70 [(.t 9)], []⟩,
    ⟨some 6, none, .q (.mov (.t 10)), []⟩])
  (.sq (.sq (.rg [⟨some 11, none, .q (.mov (.t 5)), []⟩])
  (.cd (.t 11)
   (.sq (.sq (.rg [⟨some 12, none, .q (.mov (.t 6)), []⟩])
    (.cd (.t 12)
     (.sq (.rg [⟨some 4, none, .q (.mov (.k (.i .i64 0))), []⟩])
      (.rt))
     (.sk)))
    (.sq (.rg [⟨some 4, none, .q (.mov (.k (.i .i64 (-1)))), []⟩])
    (.rt)))
   (.sk)))
  (.sq (.sq (.rg [⟨some 13, none, .q (.mov (.t 6)), []⟩])
  (.cd (.t 13)
   (.sq (.rg [⟨some 4, none, .q (.mov (.k (.i .i64 1))), []⟩])
    (.rt))
   (.sk)))
  (.sq (.sq (.rg [⟨some 14, none, .q (.mov (.t 0)), []⟩,
    ⟨some 15, none, .q (.mov (.t 1)), []⟩,
    ⟨some 16, none, .q (.bin .lss (.t 14) (.t 15)), []⟩])
  (.cd (.t 16)
   (.sq (.rg [⟨some 4, none, .q (.mov (.k (.i .i64 (-1)))), []⟩])
    (.rt))
   (.sk)))
  (.sq (.sq (.rg [⟨some 17, none, .q (.mov (.t 0)), []⟩,
    ⟨some 18, none, .q (.mov (.t 1)), []⟩,
    ⟨some 19, none, .q (.bin .gtr (.t 17) (.t 18)), []⟩])
  (.cd (.t 19)
   (.sq (.rg [⟨some 4, none, .q (.mov (.k (.i .i64 1))), []⟩])
    (.rt))
   (.sk)))
  (.sq (.rg [⟨some 4, none, .q (.mov (.k (.i .i64 0))), []⟩])
  (.rt))))))))
def fn40 : Fn := { n := 20, np := 2, res := [.t 4], body := c40 }
theorem e40 : F 40 = some fn40 := by kernel_rfl

def c43 : C :=
  .sq (.rg [⟨some 1, none, .box (.t 0), []⟩,
    ⟨some 2, none, .q (.mov (.k (.bo false))), []⟩])
  (.sq (.rg [⟨some 3, none, .ld 8 true (.t 1), []⟩,
    ⟨some 4, none, .pc 71 [(.t 3)], []⟩,
    ⟨some 5, none, .q (.mov (.t 4)), []⟩,
    ⟨some 6, some (5, true), .q (.adr 5 (.t 1)), []⟩,
    ⟨some 7, some (5, true), .ld 1 false (.t 6), []⟩,
    ⟨some 8, some (5, true), .pc 72 [(.t 7), (.k (.fn 73 []))], []⟩,
    ⟨some 9, some (5, true), .q (.un .not (.t 8)), []⟩,
    ⟨some 10, none, .q (.pick (.t 5) (.t 9) (.k (.bo false))), []⟩,
    ⟨some 2, none, .q (.mov (.t 10)), []⟩])
  (.rt))
def fn43 : Fn := { n := 11, np := 1, res := [.t 2], body := c43 }
theorem e43 : F 43 = some fn43 := by kernel_rfl

def b44_0 : C :=
  .sq (.rg [⟨some 13, none, .q (.bin .lss (.t 12) (.t 11)), []⟩])
  (.sq (.cd (.t 13)
   (.sk)
   (.ex 0))
  (.sq (.bk 1 (.sq (.rg [⟨some 14, none, .q (.ixp 8 (.t 10) (.t 12)), []⟩,
    ⟨some 15, none, .ld 8 true (.t 14), []⟩,
    ⟨some 5, none, .alc [.i .i64 0, .i .u64 0, .i .u64 0, .i .u64 0, .i .u64 0, .nil, .i .i64 0, .i .i64 0], []⟩,
    ⟨none, none, .sto 8 (.t 5) (.t 15), []⟩])
  (.rg [⟨some 16, none, .q (.mov (.t 3)), []⟩,
    ⟨some 17, none, .ld 8 true (.t 5), []⟩,
    ⟨some 18, none, .pc 44 [(.t 17)], []⟩,
    ⟨some 19, none, .bsl 8 1 [.i .i64 0, .i .u64 0, .i .u64 0, .i .u64 0, .i .u64 0, .nil, .i .i64 0, .i .i64 0] [(0, (.t 18))], []⟩,
    ⟨some 20, none, .app 8 80 (.t 16) (.t 19), []⟩,
    ⟨some 3, none, .q (.mov (.t 20)), []⟩])))
  (.rg [⟨some 21, none, .q (.bin .add (.t 12) (.k (.i .i64 1))), []⟩,
    ⟨some 12, none, .q (.mov (.t 21)), []⟩])))
def c44 : C :=
  .sq (.rg [⟨some 1, none, .box (.t 0), []⟩,
    ⟨some 2, none, .alc [.i .i64 0, .i .u64 0, .i .u64 0, .i .u64 0, .i .u64 0, .nil, .i .i64 0, .i .i64 0], []⟩])
  (.sq (.sq (.rg [⟨some 6, none, .ld 8 true (.t 1), []⟩,
    ⟨some 7, none, .pc 74 [(.t 6)], []⟩])
  (.cd (.t 7)
   (.sq (.rg [⟨some 8, none, .q (.bld [.i .i64 0, .i .u64 0, .i .u64 0, .i .u64 0, .i .u64 0, .nil, .i .i64 0, .i .i64 0] [(0, 1, (.k (.i .i64 1)))]), []⟩,
      ⟨none, none, .sto 8 (.t 2) (.t 8), []⟩])
    (.rt))
   (.sk)))
  (.sq (.rg [⟨some 3, none, .q (.mov (.k (.nil))), []⟩])
  (.sq (.sq (.rg [⟨some 9, none, .q (.adr 5 (.t 1)), []⟩,
    ⟨some 10, none, .ld 1 false (.t 9), []⟩,
    ⟨some 11, none, .q (.len (.t 10)), []⟩,
    ⟨some 12, none, .q (.mov (.k (.i .i64 0))), []⟩])
  (.bk 0 (.lp b44_0)))
  (.sq (.sq (.rg [⟨some 22, none, .q (.adr 0 (.t 1)), []⟩,
    ⟨some 23, none, .ld 1 false (.t 22), []⟩])
  (.bk 2 (.sq (.sq (.rg [⟨some 25, none, .q (.bin .eql (.t 23) (.k (.i .i64 2))), []⟩,
    ⟨some 24, none, .q (.mov (.t 25)), []⟩])
  (.cd (.t 24)
   (.sk)
   (.rg [⟨some 26, none, .q (.bin .eql (.t 23) (.k (.i .i64 3))), []⟩,
      ⟨some 24, none, .q (.mov (.t 26)), []⟩])))
  (.cd (.t 24)
   (.sq (.rg [⟨some 27, none, .q (.adr 0 (.t 1)), []⟩,
      ⟨some 29, none, .q (.adr 0 (.t 1)), []⟩,
      ⟨some 31, none, .q (.mov (.t 3)), []⟩,
      ⟨some 28, none, .ld 1 false (.t 27), []⟩,
      ⟨some 30, none, .ld 1 false (.t 29), []⟩,
      ⟨some 32, none, .nc 76 [(.t 30), (.k (.nil)), (.t 31)], [.ld 1 false (.t 27)]⟩,
      ⟨some 33, none, .nc 75 [(.t 28), (.t 32)], []⟩,
      ⟨none, none, .sto 8 (.t 2) (.t 33), []⟩])
    (.rt))
   (.sq (.rg [⟨some 35, none, .q (.bin .eql (.t 23) (.k (.i .i64 4))), []⟩,
      ⟨some 34, none, .q (.mov (.t 35)), []⟩])
    (.cd (.t 34)
     (.sq (.rg [⟨some 36, none, .q (.mov (.t 3)), []⟩,
        ⟨some 37, none, .q (.ixp 8 (.t 36) (.k (.i .i64 0))), []⟩,
        ⟨some 39, none, .q (.adr 6 (.t 1)), []⟩,
        ⟨some 41, none, .q (.adr 7 (.t 1)), []⟩,
        ⟨some 38, none, .ld 8 true (.t 37), []⟩,
        ⟨some 40, none, .ld 1 false (.t 39), []⟩,
        ⟨some 42, none, .ld 1 false (.t 41), []⟩,
        ⟨some 43, none, .pc 77 [(.t 38), (.t 40), (.t 42)], []⟩,
        ⟨none, none, .sto 8 (.t 2) (.t 43), []⟩])
      (.rt))
     (.sk)))))))
  (.sq (.rg [⟨some 44, none, .ld 8 true (.t 1), []⟩,
    ⟨none, none, .sto 8 (.t 2) (.t 44), []⟩])
  (.rt))))))
def fn44 : Fn := { n := 45, np := 1, res := [.c 2 8 true], body := c44 }
theorem e44 : F 44 = some fn44 := by kernel_rfl

def c45 : C :=
  .sq (.rg [⟨some 2, none, .q (.mov (.k (.nil))), []⟩])
  (.sq (.sq (.rg [⟨some 3, none, .q (.mov (.t 0)), []⟩,
    ⟨some 4, none, .isz false (.t 3), []⟩])
  (.cd (.t 4)
   (.sq (.rg [⟨some 2, none, .q (.mov (.k (.nil))), []⟩])
    (.rt))
   (.sk)))
  (.sq (.rg [⟨some 5, none, .bsl 1 0 [.i .i64 0] [], []⟩,
    ⟨some 6, none, .q (.mov (.t 0)), []⟩,
    ⟨some 7, none, .app 1 8 (.t 5) (.t 6), []⟩,
    ⟨some 2, none, .q (.mov (.t 7)), []⟩])
  (.rt)))
def fn45 : Fn := { n := 8, np := 1, res := [.t 2], body := c45 }
theorem e45 : F 45 = some fn45 := by kernel_rfl

def c46 : C :=
  .sq (.rg [⟨some 1, none, .box (.t 0), []⟩,
    ⟨some 2, none, .alc [.i .i64 0, .i .i64 0], []⟩,
    ⟨some 3, none, .q (.mov (.k (.bo false))), []⟩])
  (.sq (.rg [⟨some 5, none, .q (.adr 6 (.t 1)), []⟩,
    ⟨some 6, none, .ld 1 false (.t 5), []⟩,
    ⟨some 7, none, .q (.mx true (.k (.i .i64 1)) (.t 6)), []⟩,
    ⟨some 8, none, .q (.adr 7 (.t 1)), []⟩,
    ⟨some 9, none, .ld 1 false (.t 8), []⟩,
    ⟨some 10, none, .q (.bld [.i .i64 0, .i .i64 0] [(0, 1, (.t 7)), (1, 1, (.t 9))]), []⟩,
    ⟨some 4, none, .alc [.i .i64 0, .i .i64 0], []⟩,
    ⟨none, none, .sto 2 (.t 4) (.t 10), []⟩])
  (.sq (.rg [⟨some 12, none, .q (.adr 0 (.t 1)), []⟩,
    ⟨some 11, none, .ld 2 true (.t 4), []⟩,
    ⟨some 13, none, .ld 1 false (.t 12), []⟩,
    ⟨some 14, none, .q (.bin .eql (.t 13) (.k (.i .i64 4))), []⟩,
    ⟨some 15, none, .q (.mov (.t 14)), []⟩,
    ⟨some 16, some (15, true), .q (.adr 1 (.t 4)), []⟩,
    ⟨some 17, some (15, true), .ld 1 false (.t 16), []⟩,
    ⟨some 18, some (15, true), .q (.bin .gtr (.t 17) (.k (.i .i64 1))), []⟩,
    ⟨some 19, some (15, true), .q (.mov (.t 18)), []⟩,
    ⟨some 20, some (19, false), .q (.adr 1 (.t 4)), []⟩,
    ⟨some 21, some (19, false), .ld 1 false (.t 20), []⟩,
    ⟨some 22, some (19, false), .q (.bin .eql (.t 21) (.k (.i .i64 (-1)))), []⟩,
    ⟨some 23, some (19, false), .q (.mov (.t 22)), []⟩,
    ⟨some 24, some (23, true), .q (.adr 0 (.t 4)), []⟩,
    ⟨some 25, some (23, true), .ld 1 false (.t 24), []⟩,
    ⟨some 26, some (23, true), .q (.bin .gtr (.t 25) (.k (.i .i64 1))), []⟩,
    ⟨some 27, some (19, false), .q (.pick (.t 23) (.t 26) (.k (.bo false))), []⟩,
    ⟨some 28, some (15, true), .q (.pick (.t 19) (.k (.bo true)) (.t 27)), []⟩,
    ⟨some 29, none, .q (.pick (.t 15) (.t 28) (.k (.bo false))), []⟩,
    ⟨none, none, .sto 2 (.t 2) (.t 11), [.ld 1 false (.t 24)]⟩,
    ⟨some 3, none, .q (.mov (.t 29)), []⟩])
  (.rt)))
def fn46 : Fn := { n := 30, np := 1, res := [.c 2 2 true, .t 3], body := c46 }
theorem e46 : F 46 = some fn46 := by kernel_rfl

def b47_0 : C :=
  .sq (.rg [⟨some 9, none, .q (.bin .lss (.t 8) (.t 7)), []⟩])
  (.sq (.cd (.t 9)
   (.sk)
   (.ex 0))
  (.sq (.bk 1 (.sq (.rg [⟨some 10, none, .q (.mov (.t 8)), []⟩,
    ⟨some 5, none, .q (.mov (.t 10)), []⟩])
  (.sq (.rg [⟨some 11, none, .q (.mov (.t 1)), []⟩,
    ⟨some 12, none, .q (.mov (.t 0)), []⟩,
    ⟨some 13, none, .q (.mov (.t 5)), []⟩,
    ⟨some 14, none, .q (.ixp 1 (.t 12) (.t 13)), []⟩,
    ⟨some 15, none, .ld 1 false (.t 14), []⟩,
    ⟨some 16, none, .pv (.t 11) [(.t 15)], []⟩])
  (.cd (.t 16)
   (.sq (.rg [⟨some 17, none, .q (.mov (.t 5)), []⟩,
      ⟨some 4, none, .q (.mov (.t 17)), []⟩])
    (.rt))
   (.sk)))))
  (.rg [⟨some 18, none, .q (.bin .add (.t 8) (.k (.i .i64 1))), []⟩,
    ⟨some 8, none, .q (.mov (.t 18)), []⟩])))
def c47 : C :=
  .sq (.rg [⟨some 4, none, .q (.mov (.k (.i .i64 0))), []⟩])
  (.sq (.sq (.rg [⟨some 6, none, .q (.mov (.t 0)), []⟩,
    ⟨some 7, none, .q (.len (.t 6)), []⟩,
    ⟨some 8, none, .q (.mov (.k (.i .i64 0))), []⟩])
  (.bk 0 (.lp b47_0)))
  (.sq (.rg [⟨some 4, none, .q (.mov (.k (.i .i64 (-1)))), []⟩])
  (.rt)))
def fn47 : Fn := { n := 19, np := 2, res := [.t 4], body := c47 }
theorem e47 : F 47 = some fn47 := by kernel_rfl

def b48_0 : C :=
  .sq (.rg [⟨some 23, none, .q (.bin .lss (.t 22) (.t 21)), []⟩])
  (.sq (.cd (.t 23)
   (.sk)
   (.ex 2))
  (.sq (.bk 3 (.sq (.rg [⟨some 24, none, .q (.ixp 1 (.t 20) (.t 22)), []⟩,
    ⟨some 25, none, .ld 1 false (.t 24), []⟩,
    ⟨some 13, none, .q (.mov (.t 25)), []⟩])
  (.rg [⟨some 26, none, .q (.mov (.t 0)), []⟩,
    ⟨some 27, none, .q (.nck (.t 26)), []⟩,
    ⟨some 28, none, .q (.adr 1 (.t 27)), []⟩,
    ⟨some 30, none, .q (.mov (.t 11)), []⟩,
    ⟨some 31, none, .q (.mov (.t 13)), []⟩,
    ⟨some 32, none, .q (.mov (.t 3)), []⟩,
    ⟨some 33, none, .q (.mov (.t 4)), []⟩,
    ⟨some 34, none, .q (.bld [.i .i64 0, .i .i64 0, .bo false] [(0, 1, (.t 31)), (1, 1, (.t 32)), (2, 1, (.t 33))]), []⟩,
    ⟨some 35, none, .q (.bld [.i .i64 0, .i .i64 0, .i .i64 0, .bo false] [(0, 1, (.t 30)), (1, 3, (.t 34))]), []⟩,
    ⟨some 29, none, .ld 1 false (.t 28), []⟩,
    ⟨some 36, none, .lkp true [.i .i64, .i .i64, .i .i64, .b] (.i .i64 0) false (.t 29) (.t 35), []⟩,
    ⟨some 37, none, .q (.bin .add (.t 36) (.k (.i .i64 1))), []⟩,
    ⟨some 38, none, .men true [.i .i64, .i .i64, .i .i64, .b] (.i .i64 0) (.t 29) (.t 35), [.lkp true [.i .i64, .i .i64, .i .i64, .b] (.i .i64 0) false (.t 29) (.t 35)]⟩,
    ⟨some 39, none, .q (.ext (.t 38) 1), []⟩,
    ⟨none, none, .est (.t 29) (.t 39) (.t 37), []⟩])))
  (.rg [⟨some 40, none, .q (.bin .add (.t 22) (.k (.i .i64 1))), []⟩,
    ⟨some 22, none, .q (.mov (.t 40)), []⟩])))
def b48_1 : C :=
  .sq (.rg [⟨some 17, none, .q (.bin .lss (.t 16) (.t 15)), []⟩])
  (.sq (.cd (.t 17)
   (.sk)
   (.ex 0))
  (.sq (.bk 1 (.sq (.rg [⟨some 18, none, .q (.ixp 1 (.t 14) (.t 16)), []⟩,
    ⟨some 19, none, .ld 1 false (.t 18), []⟩,
    ⟨some 11, none, .q (.mov (.t 19)), []⟩])
  (.sq (.rg [⟨some 20, none, .q (.mov (.t 2)), []⟩,
    ⟨some 21, none, .q (.len (.t 20)), []⟩,
    ⟨some 22, none, .q (.mov (.k (.i .i64 0))), []⟩])
  (.bk 2 (.lp b48_0)))))
  (.rg [⟨some 41, none, .q (.bin .add (.t 16) (.k (.i .i64 1))), []⟩,
    ⟨some 16, none, .q (.mov (.t 41)), []⟩])))
def c48 : C :=
  .sq (.rg [⟨some 14, none, .q (.mov (.t 1)), []⟩,
    ⟨some 15, none, .q (.len (.t 14)), []⟩,
    ⟨some 16, none, .q (.mov (.k (.i .i64 0))), []⟩])
  (.bk 0 (.lp b48_1))
def fn48 : Fn := { n := 42, np := 5, res := [], body := c48 }
theorem e48 : F 48 = some fn48 := by kernel_rfl

def b49_0 : C :=
  .sq (.rg [⟨some 12, none, .q (.bin .lss (.t 11) (.t 10)), []⟩])
  (.sq (.cd (.t 12)
   (.sk)
   (.ex 0))
  (.sq (.bk 1 (.sq (.rg [⟨some 13, none, .q (.ixp 1 (.t 9) (.t 11)), []⟩,
    ⟨some 14, none, .ld 1 false (.t 13), []⟩,
    ⟨some 5, none, .q (.mov (.t 14)), []⟩])
  (.sq (.rg [⟨some 15, none, .q (.mov (.t 3)), []⟩,
    ⟨some 16, none, .q (.mov (.t 5)), []⟩,
    ⟨some 17, none, .q (.len (.t 16)), []⟩,
    ⟨some 18, none, .q (.bin .add (.t 15) (.t 17)), []⟩,
    ⟨some 3, none, .q (.mov (.t 18)), []⟩])
  (.sq (.rg [⟨some 19, none, .q (.mov (.t 3)), []⟩,
    ⟨some 20, none, .q (.bin .lss (.t 19) (.k (.i .i64 0))), []⟩])
  (.cd (.t 20)
   (.rg [⟨some 21, none, .bad, []⟩,
      ⟨none, none, .bad, []⟩])
   (.sk))))))
  (.rg [⟨some 22, none, .q (.bin .add (.t 11) (.k (.i .i64 1))), []⟩,
    ⟨some 11, none, .q (.mov (.t 22)), []⟩])))
def b49_1 : C :=
  .sq (.rg [⟨some 28, none, .q (.bin .lss (.t 27) (.t 26)), []⟩])
  (.sq (.cd (.t 28)
   (.sk)
   (.ex 2))
  (.sq (.bk 3 (.sq (.rg [⟨some 29, none, .q (.ixp 1 (.t 25) (.t 27)), []⟩,
    ⟨some 30, none, .ld 1 false (.t 29), []⟩,
    ⟨some 8, none, .q (.mov (.t 30)), []⟩])
  (.rg [⟨some 31, none, .q (.mov (.t 6)), []⟩,
    ⟨some 32, none, .q (.mov (.t 8)), []⟩,
    ⟨some 33, none, .app 1 8 (.t 31) (.t 32), []⟩,
    ⟨some 6, none, .q (.mov (.t 33)), []⟩])))
  (.rg [⟨some 34, none, .q (.bin .add (.t 27) (.k (.i .i64 1))), []⟩,
    ⟨some 27, none, .q (.mov (.t 34)), []⟩])))
def c49 : C :=
  .sq (.rg [⟨some 2, none, .q (.mov (.k (.nil))), []⟩])
  (.sq (.rg [⟨some 3, none, .q (.mov (.k (.i .i64 0))), []⟩])
  (.sq (.sq (.rg [⟨some 9, none, .q (.mov (.t 0)), []⟩,
    ⟨some 10, none, .q (.len (.t 9)), []⟩,
    ⟨some 11, none, .q (.mov (.k (.i .i64 0))), []⟩])
  (.bk 0 (.lp b49_0)))
  (.sq (.rg [⟨some 23, none, .q (.mov (.t 3)), []⟩,
    ⟨some 24, none, .nc 78 [(.k (.nil)), (.t 23)], []⟩,
    ⟨some 6, none, .q (.mov (.t 24)), []⟩])
  (.sq (.sq (.rg [⟨some 25, none, .q (.mov (.t 0)), []⟩,
    ⟨some 26, none, .q (.len (.t 25)), []⟩,
    ⟨some 27, none, .q (.mov (.k (.i .i64 0))), []⟩])
  (.bk 2 (.lp b49_1)))
  (.sq (.rg [⟨some 35, none, .q (.mov (.t 6)), []⟩,
    ⟨some 2, none, .q (.mov (.t 35)), []⟩])
  (.rt))))))
def fn49 : Fn := { n := 36, np := 1, res := [.t 2], body := c49 }
theorem e49 : F 49 = some fn49 := by kernel_rfl

def c50 : C :=
  .sq (.rg [⟨some 1, none, .box (.t 0), []⟩,
    ⟨some 2, none, .q (.mov (.k (.bo false))), []⟩])
  (.sq (.rg [⟨some 3, none, .ld 8 true (.t 1), []⟩,
    ⟨some 4, none, .pc 43 [(.t 3)], []⟩,
    ⟨some 5, none, .q (.mov (.t 4)), []⟩,
    ⟨some 6, some (5, true), .ld 8 true (.t 1), []⟩,
    ⟨some 7, some (5, true), .pc 79 [(.t 6)], []⟩,
    ⟨some 8, none, .q (.pick (.t 5) (.t 7) (.k (.bo false))), []⟩,
    ⟨some 2, none, .q (.mov (.t 8)), []⟩])
  (.rt))
def fn50 : Fn := { n := 9, np := 1, res := [.t 2], body := c50 }
theorem e50 : F 50 = some fn50 := by kernel_rfl

def c70 : C :=
  .sq (.rg [⟨some 2, none, .q (.mov (.k (.bo false))), []⟩])
  (.sq (.rg [⟨some 3, none, .q (.mov (.t 0)), []⟩,
    ⟨some 4, none, .q (.mov (.t 0)), []⟩,
    ⟨some 5, none, .q (.bin .neq (.t 3) (.t 4)), []⟩,
    ⟨some 2, none, .q (.mov (.t 5)), []⟩])
  (.rt))
def fn70 : Fn := { n := 6, np := 1, res := [.t 2], body := c70 }
theorem e70 : F 70 = some fn70 := by kernel_rfl

def c71 : C :=
  .sq (.rg [⟨some 1, none, .box (.t 0), []⟩,
    ⟨some 2, none, .q (.mov (.k (.bo false))), []⟩])
  (.sq (.rg [⟨some 4, none, .q (.adr 6 (.t 1)), []⟩,
    ⟨some 5, none, .ld 1 false (.t 4), []⟩,
    ⟨some 6, none, .q (.bin .eql (.t 5) (.k (.i .i64 0))), []⟩,
    ⟨some 7, none, .q (.mov (.t 6)), []⟩,
    ⟨some 8, some (7, true), .q (.adr 7 (.t 1)), []⟩,
    ⟨some 9, some (7, true), .ld 1 false (.t 8), []⟩,
    ⟨some 10, some (7, true), .q (.bin .eql (.t 9) (.k (.i .i64 0))), []⟩,
    ⟨some 11, none, .q (.pick (.t 7) (.t 10) (.k (.bo false))), []⟩,
    ⟨some 3, none, .q (.mov (.t 11)), []⟩])
  (.sq (.sq (.rg [⟨some 12, none, .q (.adr 0 (.t 1)), []⟩,
    ⟨some 13, none, .ld 1 false (.t 12), []⟩])
  (.bk 0 (.sq (.rg [⟨some 15, none, .q (.bin .eql (.t 13) (.k (.i .i64 0))), []⟩,
    ⟨some 14, none, .q (.mov (.t 15)), []⟩])
  (.cd (.t 14)
   (.sq (.rg [⟨some 16, none, .q (.mov (.t 3)), []⟩,
      ⟨some 17, none, .q (.mov (.t 16)), []⟩,
      ⟨some 18, some (17, true), .q (.adr 1 (.t 1)), []⟩,
      ⟨some 19, some (17, true), .ld 4 true (.t 18), []⟩,
      ⟨some 20, some (17, true), .pc 32 [(.t 19)], []⟩,
      ⟨some 21, none, .q (.pick (.t 17) (.t 20) (.k (.bo false))), []⟩,
      ⟨some 22, none, .q (.mov (.t 21)), []⟩,
      ⟨some 23, some (22, true), .q (.adr 5 (.t 1)), []⟩,
      ⟨some 24, some (22, true), .ld 1 false (.t 23), []⟩,
      ⟨some 25, some (22, true), .q (.len (.t 24)), []⟩,
      ⟨some 26, some (22, true), .q (.bin .eql (.t 25) (.k (.i .i64 0))), []⟩,
      ⟨some 27, none, .q (.pick (.t 22) (.t 26) (.k (.bo false))), []⟩,
      ⟨some 2, none, .q (.mov (.t 27)), []⟩])
    (.rt))
   (.sq (.rg [⟨some 29, none, .q (.bin .eql (.t 13) (.k (.i .i64 1))), []⟩,
      ⟨some 28, none, .q (.mov (.t 29)), []⟩])
    (.cd (.t 28)
     (.sq (.rg [⟨some 30, none, .q (.mov (.t 3)), []⟩,
        ⟨some 31, none, .q (.mov (.t 30)), []⟩,
        ⟨some 32, some (31, true), .q (.adr 5 (.t 1)), []⟩,
        ⟨some 33, some (31, true), .ld 1 false (.t 32), []⟩,
        ⟨some 34, some (31, true), .q (.len (.t 33)), []⟩,
        ⟨some 35, some (31, true), .q (.bin .eql (.t 34) (.k (.i .i64 0))), []⟩,
        ⟨some 36, none, .q (.pick (.t 31) (.t 35) (.k (.bo false))), []⟩,
        ⟨some 2, none, .q (.mov (.t 36)), []⟩])
      (.rt))
     (.sq (.sq (.rg [⟨some 38, none, .q (.bin .eql (.t 13) (.k (.i .i64 2))), []⟩,
        ⟨some 37, none, .q (.mov (.t 38)), []⟩])
      (.cd (.t 37)
       (.sk)
       (.rg [⟨some 39, none, .q (.bin .eql (.t 13) (.k (.i .i64 3))), []⟩,
          ⟨some 37, none, .q (.mov (.t 39)), []⟩])))
      (.cd (.t 37)
       (.sq (.rg [⟨some 40, none, .q (.mov (.t 3)), []⟩,
          ⟨some 41, none, .q (.mov (.t 40)), []⟩,
          ⟨some 42, some (41, true), .q (.adr 1 (.t 1)), []⟩,
          ⟨some 43, some (41, true), .ld 4 true (.t 42), []⟩,
          ⟨some 44, some (41, true), .pc 32 [(.t 43)], []⟩,
          ⟨some 45, none, .q (.pick (.t 41) (.t 44) (.k (.bo false))), []⟩,
          ⟨some 46, none, .q (.mov (.t 45)), []⟩,
          ⟨some 47, some (46, true), .q (.adr 5 (.t 1)), []⟩,
          ⟨some 48, some (46, true), .ld 1 false (.t 47), []⟩,
          ⟨some 49, some (46, true), .q (.len (.t 48)), []⟩,
          ⟨some 50, some (46, true), .q (.bin .geq (.t 49) (.k (.i .i64 2))), []⟩,
          ⟨some 51, none, .q (.pick (.t 46) (.t 50) (.k (.bo false))), []⟩,
          ⟨some 2, none, .q (.mov (.t 51)), []⟩])
        (.rt))
       (.sq (.rg [⟨some 53, none, .q (.bin .eql (.t 13) (.k (.i .i64 4))), []⟩,
          ⟨some 52, none, .q (.mov (.t 53)), []⟩])
        (.cd (.t 52)
         (.sq (.rg [⟨some 54, none, .q (.adr 1 (.t 1)), []⟩,
            ⟨some 55, none, .ld 4 true (.t 54), []⟩,
            ⟨some 56, none, .pc 32 [(.t 55)], []⟩,
            ⟨some 57, none, .q (.mov (.t 56)), []⟩,
            ⟨some 58, some (57, true), .q (.adr 5 (.t 1)), []⟩,
            ⟨some 59, some (57, true), .ld 1 false (.t 58), []⟩,
            ⟨some 60, some (57, true), .q (.len (.t 59)), []⟩,
            ⟨some 61, some (57, true), .q (.bin .eql (.t 60) (.k (.i .i64 1))), []⟩,
            ⟨some 62, none, .q (.pick (.t 57) (.t 61) (.k (.bo false))), []⟩,
            ⟨some 63, none, .q (.mov (.t 62)), []⟩,
            ⟨some 64, some (63, true), .q (.adr 6 (.t 1)), []⟩,
            ⟨some 65, some (63, true), .ld 1 false (.t 64), []⟩,
            ⟨some 66, some (63, true), .q (.bin .geq (.t 65) (.k (.i .i64 0))), []⟩,
            ⟨some 67, none, .q (.pick (.t 63) (.t 66) (.k (.bo false))), []⟩,
            ⟨some 68, none, .q (.mov (.t 67)), []⟩,
            ⟨some 69, some (68, true), .q (.adr 6 (.t 1)), []⟩,
            ⟨some 70, some (68, true), .ld 1 false (.t 69), []⟩,
            ⟨some 71, some (68, true), .q (.bin .leq (.t 70) (.k (.i .i64 2147483647))), []⟩,
            ⟨some 72, none, .q (.pick (.t 68) (.t 71) (.k (.bo false))), []⟩,
            ⟨some 73, none, .q (.mov (.t 72)), []⟩,
            ⟨some 74, some (73, true), .q (.adr 7 (.t 1)), []⟩,
            ⟨some 75, some (73, true), .ld 1 false (.t 74), []⟩,
            ⟨some 76, some (73, true), .q (.bin .eql (.t 75) (.k (.i .i64 (-1)))), []⟩,
            ⟨some 77, some (73, true), .q (.mov (.t 76)), []⟩,
            ⟨some 78, some (77, false), .q (.adr 7 (.t 1)), []⟩,
            ⟨some 79, some (77, false), .ld 1 false (.t 78), []⟩,
            ⟨some 80, some (77, false), .q (.adr 6 (.t 1)), []⟩,
            ⟨some 81, some (77, false), .ld 1 false (.t 80), []⟩,
            ⟨some 82, some (77, false), .q (.bin .geq (.t 79) (.t 81)), []⟩,
            ⟨some 83, some (77, false), .q (.mov (.t 82)), []⟩,
            ⟨some 84, some (83, true), .q (.adr 7 (.t 1)), []⟩,
            ⟨some 85, some (83, true), .ld 1 false (.t 84), []⟩,
            ⟨some 86, some (83, true), .q (.bin .leq (.t 85) (.k (.i .i64 2147483647))), []⟩,
            ⟨some 87, some (77, false), .q (.pick (.t 83) (.t 86) (.k (.bo false))), []⟩,
            ⟨some 88, some (73, true), .q (.pick (.t 77) (.k (.bo true)) (.t 87)), []⟩,
            ⟨some 89, none, .q (.pick (.t 73) (.t 88) (.k (.bo false))), []⟩,
            ⟨some 2, none, .q (.mov (.t 89)), []⟩])
          (.rt))
         (.sk)))))))))))
  (.sq (.rg [⟨some 2, none, .q (.mov (.k (.bo false))), []⟩])
  (.rt))))
def fn71 : Fn := { n := 90, np := 1, res := [.t 2], body := c71 }
theorem e71 : F 71 = some fn71 := by kernel_rfl

def c72 : C :=
  .sq (.rg [⟨some 4, none, .q (.mov (.k (.bo false))), []⟩])
  (.sq (.rg [⟨some 5, none, .q (.mov (.t 0)), []⟩,
    ⟨some 6, none, .q (.mov (.t 1)), []⟩,
    ⟨some 7, none, .pc 88 [(.t 5), (.t 6)], []⟩,
    ⟨some 8, none, .q (.bin .geq (.t 7) (.k (.i .i64 0))), []⟩,
    ⟨some 4, none, .q (.mov (.t 8)), []⟩])
  (.rt))
def fn72 : Fn := { n := 9, np := 2, res := [.t 4], body := c72 }
theorem e72 : F 72 = some fn72 := by kernel_rfl

def c73 : C :=
  .sq (.rg [⟨some 1, none, .box (.t 0), []⟩,
    ⟨some 2, none, .q (.mov (.k (.bo false))), []⟩])
  (.sq (.rg [⟨some 3, none, .ld 8 true (.t 1), []⟩,
    ⟨some 4, none, .pc 43 [(.t 3)], []⟩,
    ⟨some 5, none, .q (.un .not (.t 4)), []⟩,
    ⟨some 2, none, .q (.mov (.t 5)), []⟩])
  (.rt))
def fn73 : Fn := { n := 6, np := 1, res := [.t 2], body := c73 }
theorem e73 : F 73 = some fn73 := by kernel_rfl

def c74 : C :=
  .sq (.rg [⟨some 1, none, .box (.t 0), []⟩,
    ⟨some 2, none, .q (.mov (.k (.bo false))), []⟩])
  (.sq (.sq (.rg [⟨some 3, none, .q (.adr 0 (.t 1)), []⟩,
    ⟨some 4, none, .ld 1 false (.t 3), []⟩])
  (.bk 0 (.sq (.rg [⟨some 6, none, .q (.bin .eql (.t 4) (.k (.i .i64 1))), []⟩,
    ⟨some 5, none, .q (.mov (.t 6)), []⟩])
  (.cd (.t 5)
   (.sq (.rg [⟨some 7, none, .q (.adr 1 (.t 1)), []⟩,
      ⟨some 8, none, .ld 4 true (.t 7), []⟩,
      ⟨some 9, none, .pc 32 [(.t 8)], []⟩,
      ⟨some 2, none, .q (.mov (.t 9)), []⟩])
    (.rt))
   (.sq (.rg [⟨some 11, none, .q (.bin .eql (.t 4) (.k (.i .i64 2))), []⟩,
      ⟨some 10, none, .q (.mov (.t 11)), []⟩])
    (.cd (.t 10)
     (.sq (.rg [⟨some 12, none, .q (.adr 5 (.t 1)), []⟩,
        ⟨some 13, none, .ld 1 false (.t 12), []⟩,
        ⟨some 14, none, .pc 72 [(.t 13), (.k (.fn 74 []))], []⟩,
        ⟨some 2, none, .q (.mov (.t 14)), []⟩])
      (.rt))
     (.sq (.rg [⟨some 16, none, .q (.bin .eql (.t 4) (.k (.i .i64 3))), []⟩,
        ⟨some 15, none, .q (.mov (.t 16)), []⟩])
      (.cd (.t 15)
       (.sq (.rg [⟨some 17, none, .q (.adr 5 (.t 1)), []⟩,
          ⟨some 18, none, .ld 1 false (.t 17), []⟩,
          ⟨some 19, none, .pc 72 [(.t 18), (.k (.fn 89 []))], []⟩,
          ⟨some 20, none, .q (.un .not (.t 19)), []⟩,
          ⟨some 2, none, .q (.mov (.t 20)), []⟩])
        (.rt))
       (.sq (.rg [⟨some 22, none, .q (.bin .eql (.t 4) (.k (.i .i64 4))), []⟩,
          ⟨some 21, none, .q (.mov (.t 22)), []⟩])
        (.cd (.t 21)
         (.sq (.rg [⟨some 23, none, .q (.adr 6 (.t 1)), []⟩,
            ⟨some 24, none, .ld 1 false (.t 23), []⟩,
            ⟨some 25, none, .q (.bin .gtr (.t 24) (.k (.i .i64 0))), []⟩,
            ⟨some 26, none, .q (.mov (.t 25)), []⟩,
            ⟨some 27, some (26, true), .q (.adr 5 (.t 1)), []⟩,
            ⟨some 28, some (26, true), .ld 1 false (.t 27), []⟩,
            ⟨some 29, some (26, true), .q (.ixp 8 (.t 28) (.k (.i .i64 0))), []⟩,
            ⟨some 30, some (26, true), .ld 8 true (.t 29), []⟩,
            ⟨some 31, some (26, true), .pc 74 [(.t 30)], []⟩,
            ⟨some 32, none, .q (.pick (.t 26) (.t 31) (.k (.bo false))), []⟩,
            ⟨some 2, none, .q (.mov (.t 32)), []⟩])
          (.rt))
         (.sk)))))))))))
  (.sq (.rg [⟨some 2, none, .q (.mov (.k (.bo false))), []⟩])
  (.rt)))
def fn74 : Fn := { n := 33, np := 1, res := [.t 2], body := c74 }
theorem e74 : F 74 = some fn74 := by kernel_rfl

def c75 : C :=
  .sq (.rg [⟨some 4, none, .alc [.i .i64 0, .i .u64 0, .i .u64 0, .i .u64 0, .i .u64 0, .nil, .i .i64 0, .i .i64 0], []⟩])
  (.sq (.sq (.rg [⟨some 5, none, .q (.mov (.t 1)), []⟩,
    ⟨some 6, none, .q (.len (.t 5)), []⟩])
  (.bk 0 (.sq (.rg [⟨some 8, none, .q (.bin .eql (.t 6) (.k (.i .i64 0))), []⟩,
    ⟨some 7, none, .q (.mov (.t 8)), []⟩])
  (.cd (.t 7)
   (.sq (.rg [⟨some 9, none, .q (.bld [.i .i64 0, .i .u64 0, .i .u64 0, .i .u64 0, .i .u64 0, .nil, .i .i64 0, .i .i64 0] []), []⟩,
      ⟨none, none, .sto 8 (.t 4) (.t 9), []⟩])
    (.rt))
   (.sq (.rg [⟨some 11, none, .q (.bin .eql (.t 6) (.k (.i .i64 1))), []⟩,
      ⟨some 10, none, .q (.mov (.t 11)), []⟩])
    (.cd (.t 10)
     (.sq (.rg [⟨some 12, none, .q (.mov (.t 1)), []⟩,
        ⟨some 13, none, .q (.ixp 8 (.t 12) (.k (.i .i64 0))), []⟩,
        ⟨some 14, none, .ld 8 true (.t 13), []⟩,
        ⟨none, none, .sto 8 (.t 4) (.t 14), []⟩])
      (.rt))
     (.sk)))))))
  (.sq (.rg [⟨some 15, none, .q (.mov (.t 0)), []⟩,
    ⟨some 16, none, .q (.mov (.t 1)), []⟩,
    ⟨some 17, none, .q (.bld [.i .i64 0, .i .u64 0, .i .u64 0, .i .u64 0, .i .u64 0, .nil, .i .i64 0, .i .i64 0] [(0, 1, (.t 15)), (5, 1, (.t 16))]), []⟩,
    ⟨none, none, .sto 8 (.t 4) (.t 17), []⟩])
  (.rt)))
def fn75 : Fn := { n := 18, np := 2, res := [.c 4 8 true], body := c75 }
theorem e75 : F 75 = some fn75 := by kernel_rfl

def b76_0 : C :=
  .sq (.rg [⟨some 12, none, .q (.bin .lss (.t 11) (.t 10)), []⟩])
  (.sq (.cd (.t 12)
   (.sk)
   (.ex 0))
  (.sq (.bk 1 (.sq (.rg [⟨some 13, none, .q (.ixp 8 (.t 9) (.t 11)), []⟩,
    ⟨some 14, none, .ld 8 true (.t 13), []⟩,
    ⟨some 8, none, .alc [.i .i64 0, .i .u64 0, .i .u64 0, .i .u64 0, .i .u64 0, .nil, .i .i64 0, .i .i64 0], []⟩,
    ⟨none, none, .sto 8 (.t 8) (.t 14), []⟩])
  (.bk 2 (.sq (.rg [⟨some 20, none, .q (.adr 0 (.t 8)), []⟩,
    ⟨some 21, none, .ld 1 false (.t 20), []⟩,
    ⟨some 22, none, .q (.mov (.t 0)), []⟩,
    ⟨some 23, none, .q (.bin .eql (.t 21) (.t 22)), []⟩,
    ⟨some 19, none, .q (.mov (.t 23)), []⟩])
  (.cd (.t 19)
   (.rg [⟨some 24, none, .q (.mov (.t 0)), []⟩,
      ⟨some 25, none, .q (.mov (.t 1)), []⟩,
      ⟨some 26, none, .q (.adr 5 (.t 8)), []⟩,
      ⟨some 27, none, .ld 1 false (.t 26), []⟩,
      ⟨some 28, none, .nc 76 [(.t 24), (.t 25), (.t 27)], []⟩,
      ⟨some 1, none, .q (.mov (.t 28)), []⟩])
   (.sq (.rg [⟨some 30, none, .q (.mov (.t 0)), []⟩,
      ⟨some 31, none, .q (.bin .eql (.t 30) (.k (.i .i64 2))), []⟩,
      ⟨some 32, none, .q (.mov (.t 31)), []⟩,
      ⟨some 33, some (32, true), .q (.adr 0 (.t 8)), []⟩,
      ⟨some 34, some (32, true), .ld 1 false (.t 33), []⟩,
      ⟨some 35, some (32, true), .q (.bin .eql (.t 34) (.k (.i .i64 0))), []⟩,
      ⟨some 36, none, .q (.pick (.t 32) (.t 35) (.k (.bo false))), []⟩,
      ⟨some 29, none, .q (.mov (.t 36)), []⟩])
    (.cd (.t 29)
     (.sk)
     (.sq (.rg [⟨some 38, none, .q (.mov (.t 0)), []⟩,
        ⟨some 39, none, .q (.bin .eql (.t 38) (.k (.i .i64 3))), []⟩,
        ⟨some 40, none, .q (.mov (.t 39)), []⟩,
        ⟨some 41, some (40, true), .ld 8 true (.t 8), []⟩,
        ⟨some 42, some (40, true), .pc 74 [(.t 41)], []⟩,
        ⟨some 43, some (40, true), .q (.mov (.t 42)), []⟩,
        ⟨some 44, some (43, false), .q (.mov (.t 1)), []⟩,
        ⟨some 45, some (43, false), .q (.mkf 90 [(.t 8)]), []⟩,
        ⟨some 46, some (43, false), .pc 72 [(.t 44), (.t 45)], []⟩,
        ⟨some 47, some (40, true), .q (.pick (.t 43) (.k (.bo true)) (.t 46)), []⟩,
        ⟨some 48, none, .q (.pick (.t 40) (.t 47) (.k (.bo false))), []⟩,
        ⟨some 37, none, .q (.mov (.t 48)), []⟩])
      (.cd (.t 37)
       (.sk)
       (.rg [⟨some 15, none, .q (.mov (.t 1)), []⟩,
          ⟨some 16, none, .ld 8 true (.t 8), []⟩,
          ⟨some 17, none, .bsl 8 1 [.i .i64 0, .i .u64 0, .i .u64 0, .i .u64 0, .i .u64 0, .nil, .i .i64 0, .i .i64 0] [(0, (.t 16))], []⟩,
          ⟨some 18, none, .app 8 80 (.t 15) (.t 17), []⟩,
          ⟨some 1, none, .q (.mov (.t 18)), []⟩]))))))))))
  (.rg [⟨some 49, none, .q (.bin .add (.t 11) (.k (.i .i64 1))), []⟩,
    ⟨some 11, none, .q (.mov (.t 49)), []⟩])))
def c76 : C :=
  .sq (.rg [⟨some 6, none, .q (.mov (.k (.nil))), []⟩])
  (.sq (.sq (.rg [⟨some 9, none, .q (.mov (.t 2)), []⟩,
    ⟨some 10, none, .q (.len (.t 9)), []⟩,
    ⟨some 11, none, .q (.mov (.k (.i .i64 0))), []⟩])
  (.bk 0 (.lp b76_0)))
  (.sq (.rg [⟨some 50, none, .q (.mov (.t 1)), []⟩,
    ⟨some 6, none, .q (.mov (.t 50)), []⟩])
  (.rt)))
def fn76 : Fn := { n := 51, np := 3, res := [.t 6], body := c76 }
theorem e76 : F 76 = some fn76 := by kernel_rfl

def c77 : C :=
  .sq (.rg [⟨some 3, none, .box (.t 0), []⟩,
    ⟨some 6, none, .alc [.i .i64 0, .i .u64 0, .i .u64 0, .i .u64 0, .i .u64 0, .nil, .i .i64 0, .i .i64 0], []⟩])
  (.sq (.bk 0 (.sq (.rg [⟨some 8, none, .q (.mov (.t 2)), []⟩,
    ⟨some 9, none, .q (.bin .eql (.t 8) (.k (.i .i64 0))), []⟩,
    ⟨some 10, none, .q (.mov (.t 9)), []⟩,
    ⟨some 11, some (10, false), .q (.adr 0 (.t 3)), []⟩,
    ⟨some 12, some (10, false), .ld 1 false (.t 11), []⟩,
    ⟨some 13, some (10, false), .q (.bin .eql (.t 12) (.k (.i .i64 0))), []⟩,
    ⟨some 14, none, .q (.pick (.t 10) (.k (.bo true)) (.t 13)), []⟩,
    ⟨some 15, none, .q (.mov (.t 14)), []⟩,
    ⟨some 16, some (15, false), .ld 8 true (.t 3), []⟩,
    ⟨some 17, some (15, false), .pc 74 [(.t 16)], []⟩,
    ⟨some 18, none, .q (.pick (.t 15) (.k (.bo true)) (.t 17)), []⟩,
    ⟨some 7, none, .q (.mov (.t 18)), []⟩])
  (.cd (.t 7)
   (.sq (.rg [⟨some 19, none, .q (.bld [.i .i64 0, .i .u64 0, .i .u64 0, .i .u64 0, .i .u64 0, .nil, .i .i64 0, .i .i64 0] []), []⟩,
      ⟨none, none, .sto 8 (.t 6) (.t 19), []⟩])
    (.rt))
   (.sq (.rg [⟨some 21, none, .q (.mov (.t 1)), []⟩,
      ⟨some 22, none, .q (.bin .eql (.t 21) (.k (.i .i64 1))), []⟩,
      ⟨some 23, none, .q (.mov (.t 22)), []⟩,
      ⟨some 24, some (23, true), .q (.mov (.t 2)), []⟩,
      ⟨some 25, some (23, true), .q (.bin .eql (.t 24) (.k (.i .i64 1))), []⟩,
      ⟨some 26, none, .q (.pick (.t 23) (.t 25) (.k (.bo false))), []⟩,
      ⟨some 20, none, .q (.mov (.t 26)), []⟩])
    (.cd (.t 20)
     (.sq (.rg [⟨some 27, none, .ld 8 true (.t 3), []⟩,
        ⟨none, none, .sto 8 (.t 6) (.t 27), []⟩])
      (.rt))
     (.sq (.rg [⟨some 29, none, .ld 8 true (.t 3), []⟩,
        ⟨some 30, none, .pc 79 [(.t 29)], []⟩,
        ⟨some 28, none, .q (.mov (.t 30)), []⟩])
      (.cd (.t 28)
       (.rg [⟨some 1, none, .q (.mov (.k (.i .i64 0))), []⟩])
       (.sk))))))))
  (.sq (.rg [⟨some 31, none, .ld 8 true (.t 3), []⟩,
    ⟨some 32, none, .bsl 8 1 [.i .i64 0, .i .u64 0, .i .u64 0, .i .u64 0, .i .u64 0, .nil, .i .i64 0, .i .i64 0] [(0, (.t 31))], []⟩,
    ⟨some 33, none, .q (.mov (.t 1)), []⟩,
    ⟨some 34, none, .q (.mov (.t 2)), []⟩,
    ⟨some 35, none, .q (.bld [.i .i64 0, .i .u64 0, .i .u64 0, .i .u64 0, .i .u64 0, .nil, .i .i64 0, .i .i64 0] [(0, 1, (.k (.i .i64 4))), (5, 1, (.t 32)), (6, 1, (.t 33)), (7, 1, (.t 34))]), []⟩,
    ⟨none, none, .sto 8 (.t 6) (.t 35), []⟩])
  (.rt)))
def fn77 : Fn := { n := 36, np := 3, res := [.c 6 8 true], body := c77 }
theorem e77 : F 77 = some fn77 := by kernel_rfl

def c78 : C :=
  .sq (.rg [⟨some 4, none, .q (.mov (.k (.nil))), []⟩])
  (.sq (.sq (.rg [⟨some 5, none, .q (.mov (.t 1)), []⟩,
    ⟨some 6, none, .q (.bin .lss (.t 5) (.k (.i .i64 0))), []⟩])
  (.cd (.t 6)
   (.rg [⟨some 7, none, .bad, []⟩,
      ⟨none, none, .bad, []⟩])
   (.sk)))
  (.sq (.sq (.rg [⟨some 8, none, .q (.mov (.t 1)), []⟩,
    ⟨some 9, none, .q (.mov (.t 0)), []⟩,
    ⟨some 10, none, .q (.cap (.t 9)), []⟩,
    ⟨some 11, none, .q (.mov (.t 0)), []⟩,
    ⟨some 12, none, .q (.len (.t 11)), []⟩,
    ⟨some 13, none, .q (.bin .sub (.t 10) (.t 12)), []⟩,
    ⟨some 14, none, .q (.bin .sub (.t 8) (.t 13)), []⟩,
    ⟨some 1, none, .q (.mov (.t 14)), []⟩])
  (.sq (.rg [⟨some 15, none, .q (.mov (.t 1)), []⟩,
    ⟨some 16, none, .q (.bin .gtr (.t 15) (.k (.i .i64 0))), []⟩])
  (.cd (.t 16)
   (.rg [⟨some 17, none, .q (.mov (.t 0)), []⟩,
      ⟨some 18, none, .q (.mov (.t 0)), []⟩,
      ⟨some 19, none, .q (.cap (.t 18)), []⟩,
      ⟨some 20, none, .q (.slc 1 (.t 17) none (some (.t 19)) none), []⟩,
      ⟨some 21, none, .q (.mov (.t 1)), []⟩,
      ⟨some 22, none, .apz 1 8 [.i .i64 0] (.t 20) (.t 21), []⟩,
      ⟨some 23, none, .q (.mov (.t 0)), []⟩,
      ⟨some 24, none, .q (.len (.t 23)), []⟩,
      ⟨some 25, none, .q (.slc 1 (.t 22) none (some (.t 24)) none), []⟩,
      ⟨some 0, none, .q (.mov (.t 25)), []⟩])
   (.sk))))
  (.sq (.rg [⟨some 26, none, .q (.mov (.t 0)), []⟩,
    ⟨some 4, none, .q (.mov (.t 26)), []⟩])
  (.rt))))
def fn78 : Fn := { n := 27, np := 2, res := [.t 4], body := c78 }
theorem e78 : F 78 = some fn78 := by kernel_rfl

def c79 : C :=
  .sq (.rg [⟨some 1, none, .box (.t 0), []⟩,
    ⟨some 2, none, .q (.mov (.k (.bo false))), []⟩])
  (.sq (.sq (.rg [⟨some 3, none, .q (.adr 0 (.t 1)), []⟩,
    ⟨some 4, none, .ld 1 false (.t 3), []⟩])
  (.bk 0 (.sq (.rg [⟨some 6, none, .q (.bin .eql (.t 4) (.k (.i .i64 1))), []⟩,
    ⟨some 5, none, .q (.mov (.t 6)), []⟩])
  (.cd (.t 5)
   (.sq (.rg [⟨some 2, none, .q (.mov (.k (.bo false))), []⟩])
    (.rt))
   (.sq (.rg [⟨some 8, none, .q (.bin .eql (.t 4) (.k (.i .i64 2))), []⟩,
      ⟨some 7, none, .q (.mov (.t 8)), []⟩])
    (.cd (.t 7)
     (.sq (.rg [⟨some 9, none, .q (.adr 5 (.t 1)), []⟩,
        ⟨some 10, none, .ld 1 false (.t 9), []⟩,
        ⟨some 11, none, .pc 72 [(.t 10), (.k (.fn 92 []))], []⟩,
        ⟨some 12, none, .q (.un .not (.t 11)), []⟩,
        ⟨some 2, none, .q (.mov (.t 12)), []⟩])
      (.rt))
     (.sq (.rg [⟨some 14, none, .q (.bin .eql (.t 4) (.k (.i .i64 3))), []⟩,
        ⟨some 13, none, .q (.mov (.t 14)), []⟩])
      (.cd (.t 13)
       (.sq (.rg [⟨some 15, none, .q (.adr 5 (.t 1)), []⟩,
          ⟨some 16, none, .ld 1 false (.t 15), []⟩,
          ⟨some 17, none, .pc 72 [(.t 16), (.k (.fn 79 []))], []⟩,
          ⟨some 2, none, .q (.mov (.t 17)), []⟩])
        (.rt))
       (.sq (.rg [⟨some 19, none, .q (.bin .eql (.t 4) (.k (.i .i64 4))), []⟩,
          ⟨some 18, none, .q (.mov (.t 19)), []⟩])
        (.cd (.t 18)
         (.sq (.rg [⟨some 20, none, .q (.adr 6 (.t 1)), []⟩,
            ⟨some 21, none, .ld 1 false (.t 20), []⟩,
            ⟨some 22, none, .q (.bin .eql (.t 21) (.k (.i .i64 0))), []⟩,
            ⟨some 23, none, .q (.mov (.t 22)), []⟩,
            ⟨some 24, some (23, false), .q (.adr 5 (.t 1)), []⟩,
            ⟨some 25, some (23, false), .ld 1 false (.t 24), []⟩,
            ⟨some 26, some (23, false), .q (.ixp 8 (.t 25) (.k (.i .i64 0))), []⟩,
            ⟨some 27, some (23, false), .ld 8 true (.t 26), []⟩,
            ⟨some 28, some (23, false), .pc 79 [(.t 27)], []⟩,
            ⟨some 29, none, .q (.pick (.t 23) (.k (.bo true)) (.t 28)), []⟩,
            ⟨some 2, none, .q (.mov (.t 29)), []⟩])
          (.rt))
         (.sk)))))))))))
  (.sq (.rg [⟨some 2, none, .q (.mov (.k (.bo true))), []⟩])
  (.rt)))
def fn79 : Fn := { n := 30, np := 1, res := [.t 2], body := c79 }
theorem e79 : F 79 = some fn79 := by kernel_rfl

def b88_0 : C :=
  .sq (.rg [⟨some 9, none, .q (.bin .lss (.t 8) (.t 7)), []⟩])
  (.sq (.cd (.t 9)
   (.sk)
   (.ex 0))
  (.sq (.bk 1 (.sq (.rg [⟨some 10, none, .q (.mov (.t 8)), []⟩,
    ⟨some 5, none, .q (.mov (.t 10)), []⟩])
  (.sq (.rg [⟨some 11, none, .q (.mov (.t 1)), []⟩,
    ⟨some 12, none, .q (.mov (.t 0)), []⟩,
    ⟨some 13, none, .q (.mov (.t 5)), []⟩,
    ⟨some 14, none, .q (.ixp 8 (.t 12) (.t 13)), []⟩,
    ⟨some 15, none, .ld 8 true (.t 14), []⟩,
    ⟨some 16, none, .pv (.t 11) [(.t 15)], []⟩])
  (.cd (.t 16)
   (.sq (.rg [⟨some 17, none, .q (.mov (.t 5)), []⟩,
      ⟨some 4, none, .q (.mov (.t 17)), []⟩])
    (.rt))
   (.sk)))))
  (.rg [⟨some 18, none, .q (.bin .add (.t 8) (.k (.i .i64 1))), []⟩,
    ⟨some 8, none, .q (.mov (.t 18)), []⟩])))
def c88 : C :=
  .sq (.rg [⟨some 4, none, .q (.mov (.k (.i .i64 0))), []⟩])
  (.sq (.sq (.rg [⟨some 6, none, .q (.mov (.t 0)), []⟩,
    ⟨some 7, none, .q (.len (.t 6)), []⟩,
    ⟨some 8, none, .q (.mov (.k (.i .i64 0))), []⟩])
  (.bk 0 (.lp b88_0)))
  (.sq (.rg [⟨some 4, none, .q (.mov (.k (.i .i64 (-1)))), []⟩])
  (.rt)))
def fn88 : Fn := { n := 19, np := 2, res := [.t 4], body := c88 }
theorem e88 : F 88 = some fn88 := by kernel_rfl

def c89 : C :=
  .sq (.rg [⟨some 1, none, .box (.t 0), []⟩,
    ⟨some 2, none, .q (.mov (.k (.bo false))), []⟩])
  (.sq (.rg [⟨some 3, none, .ld 8 true (.t 1), []⟩,
    ⟨some 4, none, .pc 74 [(.t 3)], []⟩,
    ⟨some 5, none, .q (.un .not (.t 4)), []⟩,
    ⟨some 2, none, .q (.mov (.t 5)), []⟩])
  (.rt))
def fn89 : Fn := { n := 6, np := 1, res := [.t 2], body := c89 }
theorem e89 : F 89 = some fn89 := by kernel_rfl

def c90 : C :=
  .sq (.rg [⟨some 2, none, .box (.t 0), []⟩,
    ⟨some 3, none, .q (.mov (.k (.bo false))), []⟩])
  (.sq (.rg [⟨some 4, none, .ld 8 true (.t 1), []⟩,
    ⟨some 5, none, .ld 8 true (.t 2), []⟩,
    ⟨some 6, none, .pc 91 [(.t 4), (.t 5)], []⟩,
    ⟨some 3, none, .q (.mov (.t 6)), []⟩])
  (.rt))
def fn90 : Fn := { n := 7, np := 2, res := [.t 3], body := c90 }
theorem e90 : F 90 = some fn90 := by kernel_rfl

def c91 : C :=
  .sq (.rg [⟨some 2, none, .box (.t 0), []⟩,
    ⟨some 3, none, .box (.t 1), []⟩,
    ⟨some 4, none, .q (.mov (.k (.bo false))), []⟩])
  (.sq (.rg [⟨some 5, none, .q (.adr 0 (.t 2)), []⟩,
    ⟨some 6, none, .ld 1 false (.t 5), []⟩,
    ⟨some 7, none, .q (.adr 0 (.t 3)), []⟩,
    ⟨some 8, none, .ld 1 false (.t 7), []⟩,
    ⟨some 9, none, .q (.bin .eql (.t 6) (.t 8)), []⟩,
    ⟨some 10, none, .q (.mov (.t 9)), []⟩,
    ⟨some 11, some (10, true), .q (.adr 1 (.t 2)), []⟩,
    ⟨some 12, some (10, true), .ld 4 true (.t 11), []⟩,
    ⟨some 13, some (10, true), .q (.adr 1 (.t 3)), []⟩,
    ⟨some 14, some (10, true), .ld 4 true (.t 13), []⟩,
    ⟨some 15, some (10, true), .q (.eqp false true [.i .u64, .i .u64, .i .u64, .i .u64] (.t 12) (.t 14)), []⟩,
    ⟨some 16, none, .q (.pick (.t 10) (.t 15) (.k (.bo false))), []⟩,
    ⟨some 17, none, .q (.mov (.t 16)), []⟩,
    ⟨some 18, some (17, true), .q (.adr 6 (.t 2)), []⟩,
    ⟨some 19, some (17, true), .ld 1 false (.t 18), []⟩,
    ⟨some 20, some (17, true), .q (.adr 6 (.t 3)), []⟩,
    ⟨some 21, some (17, true), .ld 1 false (.t 20), []⟩,
    ⟨some 22, some (17, true), .q (.bin .eql (.t 19) (.t 21)), []⟩,
    ⟨some 23, none, .q (.pick (.t 17) (.t 22) (.k (.bo false))), []⟩,
    ⟨some 24, none, .q (.mov (.t 23)), []⟩,
    ⟨some 25, some (24, true), .q (.adr 7 (.t 2)), []⟩,
    ⟨some 26, some (24, true), .ld 1 false (.t 25), []⟩,
    ⟨some 27, some (24, true), .q (.adr 7 (.t 3)), []⟩,
    ⟨some 28, some (24, true), .ld 1 false (.t 27), []⟩,
    ⟨some 29, some (24, true), .q (.bin .eql (.t 26) (.t 28)), []⟩,
    ⟨some 30, none, .q (.pick (.t 24) (.t 29) (.k (.bo false))), []⟩,
    ⟨some 31, none, .q (.mov (.t 30)), []⟩,
    ⟨some 32, some (31, true), .q (.adr 5 (.t 2)), []⟩,
    ⟨some 33, some (31, true), .ld 1 false (.t 32), []⟩,
    ⟨some 34, some (31, true), .q (.adr 5 (.t 3)), []⟩,
    ⟨some 35, some (31, true), .ld 1 false (.t 34), []⟩,
    ⟨some 36, some (31, true), .pc 95 [(.t 33), (.t 35), (.k (.fn 91 []))], []⟩,
    ⟨some 37, none, .q (.pick (.t 31) (.t 36) (.k (.bo false))), []⟩,
    ⟨some 4, none, .q (.mov (.t 37)), []⟩])
  (.rt))
def fn91 : Fn := { n := 38, np := 2, res := [.t 4], body := c91 }
theorem e91 : F 91 = some fn91 := by kernel_rfl

def c92 : C :=
  .sq (.rg [⟨some 1, none, .box (.t 0), []⟩,
    ⟨some 2, none, .q (.mov (.k (.bo false))), []⟩])
  (.sq (.rg [⟨some 3, none, .ld 8 true (.t 1), []⟩,
    ⟨some 4, none, .pc 79 [(.t 3)], []⟩,
    ⟨some 5, none, .q (.un .not (.t 4)), []⟩,
    ⟨some 2, none, .q (.mov (.t 5)), []⟩])
  (.rt))
def fn92 : Fn := { n := 6, np := 1, res := [.t 2], body := c92 }
theorem e92 : F 92 = some fn92 := by kernel_rfl

def b95_0 : C :=
  .sq (.rg [⟨some 18, none, .q (.bin .lss (.t 17) (.t 16)), []⟩])
  (.sq (.cd (.t 18)
   (.sk)
   (.ex 0))
  (.sq (.bk 1 (.sq (.rg [⟨some 19, none, .q (.mov (.t 17)), []⟩,
    ⟨some 20, none, .q (.ixp 8 (.t 15) (.t 17)), []⟩,
    ⟨some 21, none, .ld 8 true (.t 20), []⟩,
    ⟨some 8, none, .alc [.i .i64 0, .i .u64 0, .i .u64 0, .i .u64 0, .i .u64 0, .nil, .i .i64 0, .i .i64 0], []⟩,
    ⟨some 7, none, .q (.mov (.t 19)), []⟩,
    ⟨none, none, .sto 8 (.t 8) (.t 21), []⟩])
  (.sq (.rg [⟨some 22, none, .q (.mov (.t 1)), []⟩,
    ⟨some 23, none, .q (.mov (.t 7)), []⟩,
    ⟨some 24, none, .q (.ixp 8 (.t 22) (.t 23)), []⟩,
    ⟨some 25, none, .ld 8 true (.t 24), []⟩,
    ⟨some 9, none, .alc [.i .i64 0, .i .u64 0, .i .u64 0, .i .u64 0, .i .u64 0, .nil, .i .i64 0, .i .i64 0], []⟩,
    ⟨none, none, .sto 8 (.t 9) (.t 25), []⟩])
  (.sq (.rg [⟨some 26, none, .q (.mov (.t 2)), []⟩,
    ⟨some 27, none, .ld 8 true (.t 8), []⟩,
    ⟨some 28, none, .ld 8 true (.t 9), []⟩,
    ⟨some 29, none, .pv (.t 26) [(.t 27), (.t 28)], []⟩,
    ⟨some 30, none, .q (.un .not (.t 29)), []⟩])
  (.cd (.t 30)
   (.sq (.rg [⟨some 6, none, .q (.mov (.k (.bo false))), []⟩])
    (.rt))
   (.sk))))))
  (.rg [⟨some 31, none, .q (.bin .add (.t 17) (.k (.i .i64 1))), []⟩,
    ⟨some 17, none, .q (.mov (.t 31)), []⟩])))
def c95 : C :=
  .sq (.rg [⟨some 6, none, .q (.mov (.k (.bo false))), []⟩])
  (.sq (.sq (.rg [⟨some 10, none, .q (.mov (.t 0)), []⟩,
    ⟨some 11, none, .q (.len (.t 10)), []⟩,
    ⟨some 12, none, .q (.mov (.t 1)), []⟩,
    ⟨some 13, none, .q (.len (.t 12)), []⟩,
    ⟨some 14, none, .q (.bin .neq (.t 11) (.t 13)), []⟩])
  (.cd (.t 14)
   (.sq (.rg [⟨some 6, none, .q (.mov (.k (.bo false))), []⟩])
    (.rt))
   (.sk)))
  (.sq (.sq (.rg [⟨some 15, none, .q (.mov (.t 0)), []⟩,
    ⟨some 16, none, .q (.len (.t 15)), []⟩,
    ⟨some 17, none, .q (.mov (.k (.i .i64 0))), []⟩])
  (.bk 0 (.lp b95_0)))
  (.sq (.rg [⟨some 6, none, .q (.mov (.k (.bo true))), []⟩])
  (.rt))))
def fn95 : Fn := { n := 32, np := 3, res := [.t 6], body := c95 }
theorem e95 : F 95 = some fn95 := by kernel_rfl

def b3_0 : C :=
  .sq (.sq (.rg [⟨some 29, none, .q (.mov (.t 6)), []⟩,
    ⟨some 30, none, .q (.adr 11 (.t 3)), []⟩,
    ⟨some 31, none, .ld 1 false (.t 30), []⟩,
    ⟨some 32, none, .q (.len (.t 31)), []⟩,
    ⟨some 33, none, .q (.bin .lss (.t 29) (.t 32)), []⟩])
  (.cd (.t 33)
   (.sk)
   (.ex 0)))
  (.sq (.bk 1 (.rg [⟨some 36, none, .q (.mov (.t 5)), []⟩,
    ⟨some 37, none, .q (.adr 11 (.t 3)), []⟩,
    ⟨some 38, none, .ld 1 false (.t 37), []⟩,
    ⟨some 39, none, .q (.mov (.t 6)), []⟩,
    ⟨some 40, none, .q (.ixp 1 (.t 38) (.t 39)), []⟩,
    ⟨some 41, none, .ld 1 false (.t 40), []⟩,
    ⟨some 42, none, .q (.ixp 1 (.t 36) (.t 41)), []⟩,
    ⟨none, none, .sto 1 (.t 42) (.k (.bo true)), []⟩]))
  (.rg [⟨some 34, none, .q (.mov (.t 6)), []⟩,
    ⟨some 35, none, .q (.bin .add (.t 34) (.k (.i .i64 1))), []⟩,
    ⟨some 6, none, .q (.mov (.t 35)), []⟩]))
def b3_1 : C :=
  .sq (.sq (.rg [⟨some 50, none, .q (.mov (.t 8)), []⟩,
    ⟨some 51, none, .q (.adr 12 (.t 3)), []⟩,
    ⟨some 52, none, .ld 1 false (.t 51), []⟩,
    ⟨some 53, none, .q (.mov (.t 7)), []⟩,
    ⟨some 54, none, .q (.ixp 1 (.t 52) (.t 53)), []⟩,
    ⟨some 55, none, .ld 1 false (.t 54), []⟩,
    ⟨some 56, none, .q (.len (.t 55)), []⟩,
    ⟨some 57, none, .q (.bin .lss (.t 50) (.t 56)), []⟩])
  (.cd (.t 57)
   (.sk)
   (.ex 4)))
  (.sq (.bk 5 (.rg [⟨some 60, none, .q (.mov (.t 5)), []⟩,
    ⟨some 61, none, .q (.adr 12 (.t 3)), []⟩,
    ⟨some 62, none, .ld 1 false (.t 61), []⟩,
    ⟨some 63, none, .q (.mov (.t 7)), []⟩,
    ⟨some 64, none, .q (.ixp 1 (.t 62) (.t 63)), []⟩,
    ⟨some 65, none, .ld 1 false (.t 64), []⟩,
    ⟨some 66, none, .q (.mov (.t 8)), []⟩,
    ⟨some 67, none, .q (.ixp 3 (.t 65) (.t 66)), []⟩,
    ⟨some 68, none, .q (.adr 0 (.t 67)), []⟩,
    ⟨some 69, none, .ld 1 false (.t 68), []⟩,
    ⟨some 70, none, .q (.ixp 1 (.t 60) (.t 69)), []⟩,
    ⟨none, none, .sto 1 (.t 70) (.k (.bo true)), []⟩]))
  (.rg [⟨some 58, none, .q (.mov (.t 8)), []⟩,
    ⟨some 59, none, .q (.bin .add (.t 58) (.k (.i .i64 1))), []⟩,
    ⟨some 8, none, .q (.mov (.t 59)), []⟩]))
def b3_2 : C :=
  .sq (.sq (.rg [⟨some 43, none, .q (.mov (.t 7)), []⟩,
    ⟨some 44, none, .q (.adr 12 (.t 3)), []⟩,
    ⟨some 45, none, .ld 1 false (.t 44), []⟩,
    ⟨some 46, none, .q (.len (.t 45)), []⟩,
    ⟨some 47, none, .q (.bin .lss (.t 43) (.t 46)), []⟩])
  (.cd (.t 47)
   (.sk)
   (.ex 2)))
  (.sq (.bk 3 (.sq (.rg [⟨some 8, none, .q (.mov (.k (.i .i64 0))), []⟩])
  (.bk 4 (.lp b3_1))))
  (.rg [⟨some 48, none, .q (.mov (.t 7)), []⟩,
    ⟨some 49, none, .q (.bin .add (.t 48) (.k (.i .i64 1))), []⟩,
    ⟨some 7, none, .q (.mov (.t 49)), []⟩]))
def b3_3 : C :=
  .sq (.sq (.rg [⟨some 71, none, .q (.mov (.t 9)), []⟩,
    ⟨some 72, none, .q (.adr 12 (.t 3)), []⟩,
    ⟨some 73, none, .ld 1 false (.t 72), []⟩,
    ⟨some 74, none, .q (.len (.t 73)), []⟩,
    ⟨some 75, none, .q (.bin .lss (.t 71) (.t 74)), []⟩])
  (.cd (.t 75)
   (.sk)
   (.ex 6)))
  (.sq (.bk 7 (.sq (.rg [⟨some 78, none, .q (.mov (.t 5)), []⟩,
    ⟨some 79, none, .q (.mov (.t 9)), []⟩,
    ⟨some 80, none, .q (.ixp 1 (.t 78) (.t 79)), []⟩,
    ⟨some 81, none, .ld 1 false (.t 80), []⟩,
    ⟨some 82, none, .q (.un .not (.t 81)), []⟩,
    ⟨some 83, none, .q (.mov (.t 82)), []⟩,
    ⟨some 84, some (83, false), .q (.adr 13 (.t 3)), []⟩,
    ⟨some 85, some (83, false), .ld 1 false (.t 84), []⟩,
    ⟨some 86, some (83, false), .q (.mov (.t 9)), []⟩,
    ⟨some 87, some (83, false), .q (.ixp 1 (.t 85) (.t 86)), []⟩,
    ⟨some 88, some (83, false), .ld 1 false (.t 87), []⟩,
    ⟨some 89, some (83, false), .q (.un .not (.t 88)), []⟩,
    ⟨some 90, some (83, false), .q (.mov (.t 89)), []⟩,
    ⟨some 91, some (90, true), .q (.adr 12 (.t 3)), []⟩,
    ⟨some 92, some (90, true), .ld 1 false (.t 91), []⟩,
    ⟨some 93, some (90, true), .q (.mov (.t 9)), []⟩,
    ⟨some 94, some (90, true), .q (.ixp 1 (.t 92) (.t 93)), []⟩,
    ⟨some 95, some (90, true), .ld 1 false (.t 94), []⟩,
    ⟨some 96, some (90, true), .q (.len (.t 95)), []⟩,
    ⟨some 97, some (90, true), .q (.bin .eql (.t 96) (.k (.i .i64 0))), []⟩,
    ⟨some 98, some (83, false), .q (.pick (.t 90) (.t 97) (.k (.bo false))), []⟩,
    ⟨some 99, none, .q (.pick (.t 83) (.k (.bo true)) (.t 98)), []⟩])
  (.cd (.t 99)
   (.sq (.rg [⟨some 2, none, .q (.mov (.k (.bo false))), []⟩])
    (.rt))
   (.sk))))
  (.rg [⟨some 76, none, .q (.mov (.t 9)), []⟩,
    ⟨some 77, none, .q (.bin .add (.t 76) (.k (.i .i64 1))), []⟩,
    ⟨some 9, none, .q (.mov (.t 77)), []⟩]))
def c3 : C :=
  .sq (.rg [⟨some 1, none, .box (.t 0), []⟩,
    ⟨some 2, none, .q (.mov (.k (.bo false))), []⟩])
  (.sq (.sq (.rg [⟨some 10, none, .pc 8 [], []⟩,
    ⟨some 11, none, .q (.un .not (.t 10)), []⟩,
    ⟨some 12, none, .q (.mov (.t 11)), []⟩,
    ⟨some 13, some (12, false), .ld 8 true (.t 1), []⟩,
    ⟨some 14, some (12, false), .pc 9 [(.t 13), (.k (.i .i64 100))], []⟩,
    ⟨some 15, some (12, false), .q (.bin .gtr (.t 14) (.k (.i .i64 100))), []⟩,
    ⟨some 16, none, .q (.pick (.t 12) (.k (.bo true)) (.t 15)), []⟩])
  (.cd (.t 16)
   (.sq (.rg [⟨some 17, none, .pc 8 [], []⟩,
      ⟨some 2, none, .q (.mov (.t 17)), []⟩])
    (.rt))
   (.sk)))
  (.sq (.rg [⟨some 19, none, .ld 8 true (.t 1), []⟩,
    ⟨some 20, none, .pc 10 [(.t 19)], []⟩,
    ⟨some 18, none, .q (.mov (.t 20)), []⟩,
    ⟨some 21, none, .q (.ext (.t 18) 0), []⟩,
    ⟨some 22, none, .q (.ext (.t 18) 1), []⟩,
    ⟨some 3, none, .alc [.i .i64 0, .i .u64 0, .i .u64 0, .i .u64 0, .i .u64 0, .nil, .i .i64 0, .i .i64 0, .nil, .nil, .nil, .nil, .nil, .nil, .bo false], []⟩,
    ⟨none, none, .sto 15 (.t 3) (.t 21), []⟩,
    ⟨some 4, none, .q (.mov (.t 22)), []⟩])
  (.sq (.sq (.rg [⟨some 23, none, .q (.mov (.t 4)), []⟩,
    ⟨some 24, none, .q (.bin .neq (.t 23) (.k (.i .i64 0))), []⟩])
  (.cd (.t 24)
   (.sq (.rg [⟨some 2, none, .q (.mov (.k (.bo true))), []⟩])
    (.rt))
   (.sk)))
  (.sq (.rg [⟨some 25, none, .q (.adr 12 (.t 3)), []⟩,
    ⟨some 26, none, .ld 1 false (.t 25), []⟩,
    ⟨some 27, none, .q (.len (.t 26)), []⟩,
    ⟨some 28, none, .mks 1 1 [.bo false] (.t 27) (.t 27), []⟩,
    ⟨some 5, none, .q (.mov (.t 28)), []⟩])
  (.sq (.sq (.rg [⟨some 6, none, .q (.mov (.k (.i .i64 0))), []⟩])
  (.bk 0 (.lp b3_0)))
  (.sq (.sq (.rg [⟨some 7, none, .q (.mov (.k (.i .i64 0))), []⟩])
  (.bk 2 (.lp b3_2)))
  (.sq (.sq (.rg [⟨some 9, none, .q (.mov (.k (.i .i64 1))), []⟩])
  (.bk 6 (.lp b3_3)))
  (.sq (.rg [⟨some 2, none, .q (.mov (.k (.bo true))), []⟩])
  (.rt)))))))))
def fn3 : Fn := { n := 100, np := 1, res := [.t 2], body := c3 }
theorem e3 : F 3 = some fn3 := by kernel_rfl

end Go.Proofs.Ytcnmcbkmfmcdjaa
