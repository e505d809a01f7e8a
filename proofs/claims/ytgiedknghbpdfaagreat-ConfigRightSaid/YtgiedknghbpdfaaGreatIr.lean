import Derived.Test.YtgiedknghbpdfaaGreatBs

/-
  The small machine's form of this seat's functions.
-/
namespace Go.Proofs.YtgiedknghbpdfaaGreat
set_option linter.all false
def imL:List (Nat × Nat × Nat):=[(28,(5,3)),(28,(7,2)),(28,(20,1)),(49,(5,2)),(50,(8,4)),(50,(10,4)),(50,(12,3)),(68,(3,6)),(68,(6,1)),(68,(11,3)),(72,(5,3)),(72,(6,6)),(72,(8,5)),(72,(10,5)),(73,(5,3)),(73,(6,5)),(73,(7,5)),(74,(5,6)),(74,(7,7)),(82,(12,5)),(82,(12,6)),(87,(9,1)),(121,(6,4)),(17,(8,1)),(38,(1,1)),(38,(2,1)),(68,(6,7))]
def im (f r i:Nat):Bool:=imL.contains (f,r,i)
noncomputable def F:En:=enOf Tryz.prog im bsL Bas
def b27_0:C :=
 .sq (.sq (.rg [⟨some 7,none,.q (.mov (.t 6)),[]⟩,
  ⟨some 8,none,.q (.adr 5 (.t 2)),[]⟩,
  ⟨some 9,none,.ld 1 false (.t 8),[]⟩,
  ⟨some 10,none,.q (.len (.t 9)),[]⟩,
  ⟨some 11,none,.q (.bin .lss (.t 7) (.t 10)),[]⟩,
  ⟨some 12,none,.q (.mov (.t 11)),[]⟩,
  ⟨some 13,some (12,true),.q (.mov (.t 5)),[]⟩,
  ⟨some 14,some (12,true),.q (.mov (.t 1)),[]⟩,
  ⟨some 15,some (12,true),.q (.bin .leq (.t 13) (.t 14)),[]⟩,
  ⟨some 16,none,.q (.pick (.t 12) (.t 15) (.k (.bo false))),[]⟩])
 (.cd (.t 16)
  (.sk)
  (.ex 0)))
 (.sq (.bk 1 (.rg [⟨some 19,none,.q (.mov (.t 5)),[]⟩,
  ⟨some 20,none,.q (.adr 5 (.t 2)),[]⟩,
  ⟨some 21,none,.ld 1 false (.t 20),[]⟩,
  ⟨some 22,none,.q (.mov (.t 6)),[]⟩,
  ⟨some 23,none,.q (.ixp 8 (.t 21) (.t 22)),[]⟩,
  ⟨some 24,none,.ld 8 true (.t 23),[]⟩,
  ⟨some 25,none,.q (.mov (.t 1)),[]⟩,
  ⟨some 26,none,.q (.mov (.t 5)),[]⟩,
  ⟨some 27,none,.q (.bin .sub (.t 25) (.t 26)),[]⟩,
  ⟨some 28,none,.pc 27 [(.t 24),(.t 27)],[]⟩,
  ⟨some 29,none,.q (.bin .add (.t 19) (.t 28)),[]⟩,
  ⟨some 5,none,.q (.mov (.t 29)),[]⟩]))
 (.rg [⟨some 17,none,.q (.mov (.t 6)),[]⟩,
  ⟨some 18,none,.q (.bin .add (.t 17) (.k (.i .i64 1))),[]⟩,
  ⟨some 6,none,.q (.mov (.t 18)),[]⟩]))
def c27:C :=
 .sq (.rg [⟨some 2,none,.box (.t 0),[]⟩,
  ⟨some 4,none,.q (.mov (.k (.i .i64 0))),[]⟩])
 (.sq (.rg [⟨some 5,none,.q (.mov (.k (.i .i64 1))),[]⟩])
 (.sq (.sq (.rg [⟨some 6,none,.q (.mov (.k (.i .i64 0))),[]⟩])
 (.bk 0 (.lp b27_0)))
 (.sq (.rg [⟨some 30,none,.q (.mov (.t 5)),[]⟩,
  ⟨some 4,none,.q (.mov (.t 30)),[]⟩])
 (.rt))))
def fn27:Fn:={ n:=31,np:=2,res:=[.t 4],body:=c27 }
theorem e27:F 27=some fn27:=by kernel_rfl
def b28_0:C :=
 .sq (.rg [⟨some 51,none,.q (.bin .lss (.t 50) (.t 49)),[]⟩])
 (.sq (.cd (.t 51)
  (.sk)
  (.ex 0))
 (.sq (.bk 1 (.sq (.rg [⟨some 52,none,.q (.ixp 1 (.t 48) (.t 50)),[]⟩,
  ⟨some 53,none,.ld 1 false (.t 52),[]⟩,
  ⟨some 10,none,.q (.mov (.t 53)),[]⟩])
 (.rg [⟨some 54,none,.q (.adr 13 (.t 8)),[]⟩,
  ⟨some 55,none,.ld 1 false (.t 54),[]⟩,
  ⟨some 56,none,.q (.mov (.t 10)),[]⟩,
  ⟨some 57,none,.q (.ixp 1 (.t 55) (.t 56)),[]⟩,
  ⟨none,none,.sto 1 (.t 57) (.k (.bo true)),[]⟩])))
 (.rg [⟨some 58,none,.q (.bin .add (.t 50) (.k (.i .i64 1))),[]⟩,
  ⟨some 50,none,.q (.mov (.t 58)),[]⟩])))
def b28_1:C :=
 .sq (.rg [⟨some 64,none,.nxt (.t 63),[]⟩,
  ⟨some 65,none,.q (.ext (.t 64) 0),[]⟩])
 (.sq (.cd (.t 65)
  (.sk)
  (.ex 2))
 (.bk 3 (.sq (.rg [⟨some 66,none,.ent (.t 63),[]⟩,
  ⟨some 67,none,.q (.ext (.t 66) 0),[]⟩,
  ⟨some 11,none,.alc [.i .i64 0,.i .i64 0,.i .i64 0,.bo false],[]⟩,
  ⟨none,none,.sto 4 (.t 11) (.t 67),[]⟩])
 (.rg [⟨some 68,none,.q (.adr 12 (.t 8)),[]⟩,
  ⟨some 70,none,.q (.adr 0 (.t 11)),[]⟩,
  ⟨some 72,none,.q (.adr 12 (.t 8)),[]⟩,
  ⟨some 74,none,.q (.adr 0 (.t 11)),[]⟩,
  ⟨some 78,none,.q (.adr 1 (.t 11)),[]⟩,
  ⟨some 69,none,.ld 1 false (.t 68),[]⟩,
  ⟨some 71,none,.ld 1 false (.t 70),[]⟩,
  ⟨some 73,none,.ld 1 false (.t 72),[]⟩,
  ⟨some 75,none,.ld 1 false (.t 74),[]⟩,
  ⟨some 76,none,.q (.ixp 1 (.t 73) (.t 75)),[]⟩,
  ⟨some 77,none,.ld 1 false (.t 76),[]⟩,
  ⟨some 79,none,.ld 3 true (.t 78),[]⟩,
  ⟨some 80,none,.bsl 3 1 [.i .i64 0,.i .i64 0,.bo false] [(0,(.t 79))],[]⟩,
  ⟨some 81,none,.app 3 24 (.t 77) (.t 80),[.ld 1 false (.t 68),.ld 1 false (.t 70)]⟩,
  ⟨some 82,none,.q (.ixp 1 (.t 69) (.t 71)),[]⟩,
  ⟨none,none,.sto 1 (.t 82) (.t 81),[]⟩]))))
def b28_2:C :=
 .sq (.rg [⟨some 87,none,.q (.bin .lss (.t 86) (.t 85)),[]⟩])
 (.sq (.cd (.t 87)
  (.sk)
  (.ex 4))
 (.sq (.bk 5 (.sq (.rg [⟨some 88,none,.q (.ixp 1 (.t 84) (.t 86)),[]⟩,
  ⟨some 89,none,.ld 1 false (.t 88),[]⟩,
  ⟨some 13,none,.q (.mov (.t 89)),[]⟩])
 (.rg [⟨some 90,none,.q (.mov (.t 13)),[]⟩,
  ⟨some 91,none,.nc 52 [(.t 90),(.k (.fn 53 []))],[]⟩])))
 (.rg [⟨some 92,none,.q (.bin .add (.t 86) (.k (.i .i64 1))),[]⟩,
  ⟨some 86,none,.q (.mov (.t 92)),[]⟩])))
def c28:C :=
 .sq (.rg [⟨some 1,none,.box (.t 0),[]⟩,
  ⟨some 2,none,.alc [.i .i64 0,.i .u64 0,.i .u64 0,.i .u64 0,.i .u64 0,.nil,.i .i64 0,.i .i64 0,.nil,.nil,.nil,.nil,.nil,.nil,.bo false],[]⟩,
  ⟨some 3,none,.q (.mov (.k (.i .i64 0))),[]⟩])
 (.sq (.rg [⟨some 15,none,.ld 8 true (.t 1),[]⟩,
  ⟨some 16,none,.pc 49 [(.t 15)],[]⟩,
  ⟨some 14,none,.q (.mov (.t 16)),[]⟩,
  ⟨some 17,none,.q (.ext (.t 14) 0),[]⟩,
  ⟨some 18,none,.q (.ext (.t 14) 1),[]⟩,
  ⟨some 4,none,.alc [.i .i64 0,.i .u64 0,.i .u64 0,.i .u64 0,.i .u64 0,.nil,.i .i64 0,.i .i64 0,.nil,.nil,.nil],[]⟩,
  ⟨none,none,.sto 11 (.t 4) (.t 17),[]⟩,
  ⟨some 5,none,.q (.mov (.t 18)),[]⟩])
 (.sq (.sq (.rg [⟨some 19,none,.q (.mov (.t 5)),[]⟩,
  ⟨some 20,none,.q (.bin .neq (.t 19) (.k (.i .i64 0))),[]⟩])
 (.cd (.t 20)
  (.sq (.rg [⟨some 21,none,.q (.bld [.i .i64 0,.i .u64 0,.i .u64 0,.i .u64 0,.i .u64 0,.nil,.i .i64 0,.i .i64 0,.nil,.nil,.nil,.nil,.nil,.nil,.bo false] []),[]⟩,
    ⟨some 22,none,.q (.mov (.t 5)),[]⟩,
    ⟨none,none,.sto 15 (.t 2) (.t 21),[]⟩,
    ⟨some 3,none,.q (.mov (.t 22)),[]⟩])
   (.rt))
  (.sk)))
 (.sq (.rg [⟨some 23,none,.mkm,[]⟩,
  ⟨some 24,none,.q (.bld [.i .i64 0,.nm] [(1,1,(.t 23))]),[]⟩,
  ⟨some 25,none,.box (.t 24),[]⟩,
  ⟨some 6,none,.q (.mov (.t 25)),[]⟩])
 (.sq (.rg [⟨some 26,none,.q (.mov (.t 6)),[]⟩,
  ⟨some 27,none,.q (.adr 0 (.t 4)),[]⟩,
  ⟨some 28,none,.ld 8 true (.t 27),[]⟩,
  ⟨some 29,none,.nc 50 [(.t 26),(.t 28),(.k (.i .i64 0))],[]⟩,
  ⟨some 7,none,.alc [.nil,.nil,.bo false],[]⟩,
  ⟨none,none,.sto 3 (.t 7) (.t 29),[]⟩])
 (.sq (.rg [⟨some 31,none,.q (.adr 0 (.t 7)),[]⟩,
  ⟨some 33,none,.q (.adr 8 (.t 4)),[]⟩,
  ⟨some 37,none,.q (.adr 8 (.t 4)),[]⟩,
  ⟨some 41,none,.q (.adr 2 (.t 7)),[]⟩,
  ⟨some 30,none,.ld 11 true (.t 4),[]⟩,
  ⟨some 32,none,.ld 1 false (.t 31),[]⟩,
  ⟨some 34,none,.ld 1 false (.t 33),[]⟩,
  ⟨some 35,none,.q (.len (.t 34)),[]⟩,
  ⟨some 38,none,.ld 1 false (.t 37),[]⟩,
  ⟨some 39,none,.q (.len (.t 38)),[]⟩,
  ⟨some 42,none,.ld 1 false (.t 41),[]⟩,
  ⟨some 36,none,.mks 1 24 [.nil] (.t 35) (.t 35),[]⟩,
  ⟨some 40,none,.mks 1 1 [.bo false] (.t 39) (.t 39),[]⟩,
  ⟨some 43,none,.q (.bld [.i .i64 0,.i .u64 0,.i .u64 0,.i .u64 0,.i .u64 0,.nil,.i .i64 0,.i .i64 0,.nil,.nil,.nil,.nil,.nil,.nil,.bo false] [(0,11,(.t 30)),(11,1,(.t 32)),(12,1,(.t 36)),(13,1,(.t 40)),(14,1,(.t 42))]),[]⟩,
  ⟨some 8,none,.alc [.i .i64 0,.i .u64 0,.i .u64 0,.i .u64 0,.i .u64 0,.nil,.i .i64 0,.i .i64 0,.nil,.nil,.nil,.nil,.nil,.nil,.bo false],[]⟩,
  ⟨none,none,.sto 15 (.t 8) (.t 43),[]⟩])
 (.sq (.rg [⟨some 44,none,.q (.adr 11 (.t 8)),[]⟩,
  ⟨some 45,none,.ld 1 false (.t 44),[]⟩,
  ⟨some 46,none,.nc 51 [(.t 45)],[]⟩])
 (.sq (.sq (.rg [⟨some 47,none,.q (.adr 1 (.t 7)),[]⟩,
  ⟨some 48,none,.ld 1 false (.t 47),[]⟩,
  ⟨some 49,none,.q (.len (.t 48)),[]⟩,
  ⟨some 50,none,.q (.mov (.k (.i .i64 0))),[]⟩])
 (.bk 0 (.lp b28_0)))
 (.sq (.sq (.rg [⟨some 59,none,.q (.mov (.t 6)),[]⟩,
  ⟨some 60,none,.q (.nck (.t 59)),[]⟩,
  ⟨some 61,none,.q (.adr 1 (.t 60)),[]⟩,
  ⟨some 62,none,.ld 1 false (.t 61),[]⟩,
  ⟨some 63,none,.rng (.t 62),[]⟩])
 (.bk 2 (.lp b28_1)))
 (.sq (.sq (.rg [⟨some 83,none,.q (.adr 12 (.t 8)),[]⟩,
  ⟨some 84,none,.ld 1 false (.t 83),[]⟩,
  ⟨some 85,none,.q (.len (.t 84)),[]⟩,
  ⟨some 86,none,.q (.mov (.k (.i .i64 0))),[]⟩])
 (.bk 4 (.lp b28_2)))
 (.sq (.rg [⟨some 93,none,.ld 15 true (.t 8),[]⟩,
  ⟨none,none,.sto 15 (.t 2) (.t 93),[]⟩,
  ⟨some 3,none,.q (.mov (.k (.i .i64 0))),[]⟩])
 (.rt)))))))))))
def fn28:Fn:={ n:=94,np:=1,res:=[.c 2 15 true,.t 3],body:=c28 }
theorem e28:F 28=some fn28:=by kernel_rfl
def c49:C :=
 .sq (.rg [⟨some 1,none,.box (.t 0),[]⟩,
  ⟨some 2,none,.alc [.i .i64 0,.i .u64 0,.i .u64 0,.i .u64 0,.i .u64 0,.nil,.i .i64 0,.i .i64 0,.nil,.nil,.nil],[]⟩,
  ⟨some 3,none,.q (.mov (.k (.i .i64 0))),[]⟩])
 (.sq (.rg [⟨some 8,none,.ld 8 true (.t 1),[]⟩,
  ⟨some 9,none,.pc 67 [(.t 8)],[]⟩,
  ⟨some 7,none,.q (.mov (.t 9)),[]⟩,
  ⟨some 10,none,.q (.ext (.t 7) 0),[]⟩,
  ⟨some 11,none,.q (.ext (.t 7) 1),[]⟩,
  ⟨some 4,none,.alc [.i .i64 0,.i .u64 0,.i .u64 0,.i .u64 0,.i .u64 0,.nil,.i .i64 0,.i .i64 0],[]⟩,
  ⟨none,none,.sto 8 (.t 4) (.t 10),[]⟩,
  ⟨some 5,none,.q (.mov (.t 11)),[]⟩])
 (.sq (.sq (.rg [⟨some 12,none,.q (.mov (.t 5)),[]⟩,
  ⟨some 13,none,.q (.bin .neq (.t 12) (.k (.i .i64 0))),[]⟩])
 (.cd (.t 13)
  (.sq (.rg [⟨some 14,none,.q (.bld [.i .i64 0,.i .u64 0,.i .u64 0,.i .u64 0,.i .u64 0,.nil,.i .i64 0,.i .i64 0,.nil,.nil,.nil] []),[]⟩,
    ⟨some 15,none,.q (.mov (.t 5)),[]⟩,
    ⟨none,none,.sto 11 (.t 2) (.t 14),[]⟩,
    ⟨some 3,none,.q (.mov (.t 15)),[]⟩])
   (.rt))
  (.sk)))
 (.sq (.rg [⟨some 16,none,.ld 8 true (.t 4),[]⟩,
  ⟨some 17,none,.mks 4 32 [.i .u64 0,.i .u64 0,.i .u64 0,.i .u64 0] (.k (.i .i64 1)) (.k (.i .i64 1)),[]⟩,
  ⟨some 18,none,.mks 1 24 [.nil] (.k (.i .i64 1)) (.k (.i .i64 1)),[]⟩,
  ⟨some 19,none,.q (.bld [.i .i64 0,.i .u64 0,.i .u64 0,.i .u64 0,.i .u64 0,.nil,.i .i64 0,.i .i64 0,.nil,.nil,.nil] [(0,8,(.t 16)),(8,1,(.t 17)),(10,1,(.t 18))]),[]⟩,
  ⟨some 20,none,.box (.t 19),[]⟩,
  ⟨some 6,none,.q (.mov (.t 20)),[]⟩])
 (.sq (.rg [⟨some 21,none,.q (.mov (.t 6)),[]⟩,
  ⟨some 22,none,.ld 8 true (.t 4),[]⟩,
  ⟨some 23,none,.nc 68 [(.t 21),(.t 22),(.k (.nil))],[]⟩])
 (.sq (.sq (.rg [⟨some 24,none,.q (.mov (.t 6)),[]⟩,
  ⟨some 25,none,.q (.nck (.t 24)),[]⟩,
  ⟨some 26,none,.q (.adr 8 (.t 25)),[]⟩,
  ⟨some 27,none,.ld 1 false (.t 26),[]⟩,
  ⟨some 28,none,.q (.len (.t 27)),[]⟩,
  ⟨some 29,none,.q (.bin .gtr (.t 28) (.k (.i .i64 41))),[]⟩,
  ⟨some 30,none,.q (.mov (.t 29)),[]⟩,
  ⟨some 31,some (30,false),.q (.mov (.t 6)),[]⟩,
  ⟨some 32,some (30,false),.q (.nck (.t 31)),[]⟩,
  ⟨some 33,some (30,false),.q (.adr 10 (.t 32)),[]⟩,
  ⟨some 34,some (30,false),.ld 1 false (.t 33),[]⟩,
  ⟨some 35,some (30,false),.pc 69 [(.t 34),(.k (.fn 70 []))],[]⟩,
  ⟨some 36,none,.q (.pick (.t 30) (.k (.bo true)) (.t 35)),[]⟩])
 (.cd (.t 36)
  (.sq (.rg [⟨some 37,none,.q (.bld [.i .i64 0,.i .u64 0,.i .u64 0,.i .u64 0,.i .u64 0,.nil,.i .i64 0,.i .i64 0,.nil,.nil,.nil] []),[]⟩,
    ⟨none,none,.sto 11 (.t 2) (.t 37),[]⟩,
    ⟨some 3,none,.q (.mov (.k (.i .i64 3))),[]⟩])
   (.rt))
  (.sk)))
 (.sq (.rg [⟨some 38,none,.q (.mov (.t 6)),[]⟩,
  ⟨some 39,none,.q (.nck (.t 38)),[]⟩,
  ⟨some 40,none,.ld 11 true (.t 39),[]⟩,
  ⟨none,none,.sto 11 (.t 2) (.t 40),[]⟩,
  ⟨some 3,none,.q (.mov (.k (.i .i64 0))),[]⟩])
 (.rt)))))))
def fn49:Fn:={ n:=41,np:=1,res:=[.c 2 11 true,.t 3],body:=c49 }
theorem e49:F 49=some fn49:=by kernel_rfl
def c50:C :=
 .sq (.rg [⟨some 4,none,.box (.t 1),[]⟩,
  ⟨some 6,none,.alc [.nil,.nil,.bo false],[]⟩])
 (.sq (.sq (.rg [⟨some 7,none,.q (.adr 0 (.t 4)),[]⟩,
  ⟨some 8,none,.ld 1 false (.t 7),[]⟩])
 (.bk 0 (.sq (.rg [⟨some 10,none,.q (.bin .eql (.t 8) (.k (.i .i64 1))),[]⟩,
  ⟨some 9,none,.q (.mov (.t 10)),[]⟩])
 (.cd (.t 9)
  (.sq (.sq (.rg [⟨some 11,none,.q (.adr 1 (.t 4)),[]⟩,
    ⟨some 12,none,.ld 4 true (.t 11),[]⟩,
    ⟨some 13,none,.pc 71 [(.t 12)],[]⟩])
   (.cd (.t 13)
    (.sq (.rg [⟨some 14,none,.q (.bld [.nil,.nil,.bo false] []),[]⟩,
      ⟨none,none,.sto 3 (.t 6) (.t 14),[]⟩])
     (.rt))
    (.sk)))
   (.sq (.rg [⟨some 15,none,.q (.mov (.t 0)),[]⟩,
    ⟨some 16,none,.q (.nck (.t 15)),[]⟩,
    ⟨some 17,none,.q (.adr 0 (.t 16)),[]⟩,
    ⟨some 18,none,.ld 1 false (.t 17),[]⟩,
    ⟨some 19,none,.q (.bin .add (.t 18) (.k (.i .i64 1))),[]⟩,
    ⟨some 20,none,.q (.nck (.t 15)),[]⟩,
    ⟨some 21,none,.q (.adr 0 (.t 20)),[]⟩,
    ⟨none,none,.sto 1 (.t 21) (.t 19),[]⟩])
   (.sq (.rg [⟨some 22,none,.q (.mov (.t 0)),[]⟩,
    ⟨some 23,none,.q (.nck (.t 22)),[]⟩,
    ⟨some 24,none,.q (.adr 0 (.t 23)),[]⟩,
    ⟨some 27,none,.q (.mov (.t 0)),[]⟩,
    ⟨some 28,none,.q (.nck (.t 27)),[]⟩,
    ⟨some 29,none,.q (.adr 0 (.t 28)),[]⟩,
    ⟨some 25,none,.ld 1 false (.t 24),[]⟩,
    ⟨some 30,none,.ld 1 false (.t 29),[]⟩,
    ⟨some 26,none,.bsl 1 1 [.i .i64 0] [(0,(.t 25))],[]⟩,
    ⟨some 31,none,.bsl 1 1 [.i .i64 0] [(0,(.t 30))],[]⟩,
    ⟨some 32,none,.q (.bld [.nil,.nil,.bo false] [(0,1,(.t 26)),(1,1,(.t 31))]),[]⟩,
    ⟨none,none,.sto 3 (.t 6) (.t 32),[]⟩])
   (.rt))))
  (.sq (.rg [⟨some 34,none,.q (.bin .eql (.t 8) (.k (.i .i64 2))),[]⟩,
    ⟨some 33,none,.q (.mov (.t 34)),[]⟩])
   (.cd (.t 33)
    (.sq (.rg [⟨some 35,none,.q (.mov (.t 0)),[]⟩,
      ⟨some 36,none,.q (.adr 5 (.t 4)),[]⟩,
      ⟨some 37,none,.ld 1 false (.t 36),[]⟩,
      ⟨some 38,none,.q (.mov (.t 2)),[]⟩,
      ⟨some 39,none,.nc 72 [(.t 35),(.t 37),(.t 38)],[]⟩,
      ⟨none,none,.sto 3 (.t 6) (.t 39),[]⟩])
     (.rt))
    (.sq (.rg [⟨some 41,none,.q (.bin .eql (.t 8) (.k (.i .i64 3))),[]⟩,
      ⟨some 40,none,.q (.mov (.t 41)),[]⟩])
     (.cd (.t 40)
      (.sq (.rg [⟨some 42,none,.q (.mov (.t 0)),[]⟩,
        ⟨some 43,none,.q (.adr 5 (.t 4)),[]⟩,
        ⟨some 44,none,.ld 1 false (.t 43),[]⟩,
        ⟨some 45,none,.q (.mov (.t 2)),[]⟩,
        ⟨some 46,none,.nc 73 [(.t 42),(.t 44),(.t 45)],[]⟩,
        ⟨none,none,.sto 3 (.t 6) (.t 46),[]⟩])
       (.rt))
      (.sq (.rg [⟨some 48,none,.q (.bin .eql (.t 8) (.k (.i .i64 4))),[]⟩,
        ⟨some 47,none,.q (.mov (.t 48)),[]⟩])
       (.cd (.t 47)
        (.sq (.rg [⟨some 49,none,.q (.mov (.t 0)),[]⟩,
          ⟨some 50,none,.ld 8 true (.t 4),[]⟩,
          ⟨some 51,none,.q (.mov (.t 2)),[]⟩,
          ⟨some 52,none,.nc 74 [(.t 49),(.t 50),(.t 51)],[]⟩,
          ⟨none,none,.sto 3 (.t 6) (.t 52),[]⟩])
         (.rt))
        (.sk)))))))))))
 (.sq (.rg [⟨some 53,none,.q (.bld [.nil,.nil,.bo false] [(2,1,(.k (.bo true)))]),[]⟩,
  ⟨none,none,.sto 3 (.t 6) (.t 53),[]⟩])
 (.rt)))
def fn50:Fn:={ n:=54,np:=3,res:=[.c 6 3 true],body:=c50 }
theorem e50:F 50=some fn50:=by kernel_rfl
def c53:C :=
 .sq (.rg [⟨some 2,none,.box (.t 0),[]⟩,
  ⟨some 3,none,.box (.t 1),[]⟩,
  ⟨some 4,none,.q (.mov (.k (.i .i64 0))),[]⟩])
 (.sq (.rg [⟨some 6,none,.q (.adr 0 (.t 2)),[]⟩,
  ⟨some 8,none,.q (.adr 0 (.t 3)),[]⟩,
  ⟨some 11,none,.q (.adr 1 (.t 2)),[]⟩,
  ⟨some 13,none,.q (.adr 1 (.t 3)),[]⟩,
  ⟨some 7,none,.ld 1 false (.t 6),[]⟩,
  ⟨some 9,none,.ld 1 false (.t 8),[]⟩,
  ⟨some 12,none,.ld 1 false (.t 11),[]⟩,
  ⟨some 14,none,.ld 1 false (.t 13),[]⟩,
  ⟨some 10,none,.pc 34 [(.t 7),(.t 9)],[]⟩,
  ⟨some 15,none,.pc 34 [(.t 12),(.t 14)],[]⟩,
  ⟨some 16,none,.bsl 1 2 [.i .i64 0] [(0,(.t 10)),(1,(.t 15))],[]⟩,
  ⟨some 17,none,.pc 33 [(.t 16)],[]⟩,
  ⟨some 5,none,.q (.mov (.t 17)),[]⟩])
 (.sq (.sq (.rg [⟨some 18,none,.q (.mov (.t 5)),[]⟩,
  ⟨some 19,none,.q (.bin .eql (.t 18) (.k (.i .i64 0))),[]⟩,
  ⟨some 20,none,.q (.mov (.t 19)),[]⟩,
  ⟨some 21,some (20,true),.q (.adr 2 (.t 2)),[]⟩,
  ⟨some 22,some (20,true),.ld 1 false (.t 21),[]⟩,
  ⟨some 23,some (20,true),.q (.adr 2 (.t 3)),[]⟩,
  ⟨some 24,some (20,true),.ld 1 false (.t 23),[]⟩,
  ⟨some 25,some (20,true),.q (.eqb true (.t 22) (.t 24)),[]⟩,
  ⟨some 26,none,.q (.pick (.t 20) (.t 25) (.k (.bo false))),[]⟩])
 (.cd (.t 26)
  (.sq (.rg [⟨some 5,none,.q (.mov (.k (.i .i64 1))),[]⟩])
   (.sq (.rg [⟨some 27,none,.q (.adr 2 (.t 3)),[]⟩,
    ⟨some 28,none,.ld 1 false (.t 27),[]⟩])
   (.cd (.t 28)
    (.rg [⟨some 5,none,.q (.mov (.k (.i .i64 (-1)))),[]⟩])
    (.sk))))
  (.sk)))
 (.sq (.rg [⟨some 29,none,.q (.mov (.t 5)),[]⟩,
  ⟨some 4,none,.q (.mov (.t 29)),[]⟩])
 (.rt))))
def fn53:Fn:={ n:=30,np:=2,res:=[.t 4],body:=c53 }
theorem e53:F 53=some fn53:=by kernel_rfl
def c67:C :=
 .sq (.rg [⟨some 1,none,.box (.t 0),[]⟩,
  ⟨some 2,none,.alc [.i .i64 0,.i .u64 0,.i .u64 0,.i .u64 0,.i .u64 0,.nil,.i .i64 0,.i .i64 0],[]⟩,
  ⟨some 3,none,.q (.mov (.k (.i .i64 0))),[]⟩])
 (.sq (.sq (.rg [⟨some 4,none,.ld 8 true (.t 1),[]⟩,
  ⟨some 5,none,.pc 81 [(.t 4)],[]⟩,
  ⟨some 6,none,.q (.un .not (.t 5)),[]⟩])
 (.cd (.t 6)
  (.sq (.rg [⟨some 7,none,.q (.bld [.i .i64 0,.i .u64 0,.i .u64 0,.i .u64 0,.i .u64 0,.nil,.i .i64 0,.i .i64 0] []),[]⟩,
    ⟨none,none,.sto 8 (.t 2) (.t 7),[]⟩,
    ⟨some 3,none,.q (.mov (.k (.i .i64 1))),[]⟩])
   (.rt))
  (.sk)))
 (.sq (.rg [⟨some 8,none,.ld 8 true (.t 1),[]⟩,
  ⟨some 9,none,.pc 82 [(.t 8)],[]⟩,
  ⟨none,none,.sto 8 (.t 2) (.t 9),[]⟩,
  ⟨some 3,none,.q (.mov (.k (.i .i64 0))),[]⟩])
 (.rt)))
def fn67:Fn:={ n:=10,np:=1,res:=[.c 2 8 true,.t 3],body:=c67 }
theorem e67:F 67=some fn67:=by kernel_rfl
def b68_0:C :=
 .sq (.rg [⟨some 70,none,.q (.bin .lss (.t 69) (.t 68)),[]⟩])
 (.sq (.cd (.t 70)
  (.sk)
  (.ex 0))
 (.sq (.bk 1 (.sq (.rg [⟨some 71,none,.q (.ixp 8 (.t 67) (.t 69)),[]⟩,
  ⟨some 72,none,.ld 8 true (.t 71),[]⟩,
  ⟨some 9,none,.alc [.i .i64 0,.i .u64 0,.i .u64 0,.i .u64 0,.i .u64 0,.nil,.i .i64 0,.i .i64 0],[]⟩,
  ⟨none,none,.sto 8 (.t 9) (.t 72),[]⟩])
 (.rg [⟨some 73,none,.q (.mov (.t 0)),[]⟩,
  ⟨some 74,none,.ld 8 true (.t 9),[]⟩,
  ⟨some 75,none,.q (.mov (.t 2)),[]⟩,
  ⟨some 76,none,.nc 68 [(.t 73),(.t 74),(.t 75)],[]⟩])))
 (.rg [⟨some 77,none,.q (.bin .add (.t 69) (.k (.i .i64 1))),[]⟩,
  ⟨some 69,none,.q (.mov (.t 77)),[]⟩])))
def c68:C :=
 .sq (.rg [⟨some 4,none,.box (.t 1),[]⟩])
 (.sq (.sq (.rg [⟨some 10,none,.q (.adr 0 (.t 4)),[]⟩,
  ⟨some 11,none,.ld 1 false (.t 10),[]⟩,
  ⟨some 12,none,.q (.bin .eql (.t 11) (.k (.i .i64 1))),[]⟩,
  ⟨some 13,none,.q (.mov (.t 12)),[]⟩,
  ⟨some 14,some (13,true),.q (.adr 1 (.t 4)),[]⟩,
  ⟨some 15,some (13,true),.ld 4 true (.t 14),[]⟩,
  ⟨some 16,some (13,true),.pc 71 [(.t 15)],[]⟩,
  ⟨some 17,some (13,true),.q (.un .not (.t 16)),[]⟩,
  ⟨some 18,none,.q (.pick (.t 13) (.t 17) (.k (.bo false))),[]⟩])
 (.cd (.t 18)
  (.sq (.rg [⟨some 19,none,.q (.mov (.t 0)),[]⟩,
    ⟨some 20,none,.q (.mov (.t 0)),[]⟩,
    ⟨some 21,none,.q (.nck (.t 20)),[]⟩,
    ⟨some 22,none,.q (.adr 8 (.t 21)),[]⟩,
    ⟨some 24,none,.q (.adr 1 (.t 4)),[]⟩,
    ⟨some 23,none,.ld 1 false (.t 22),[]⟩,
    ⟨some 25,none,.ld 4 true (.t 24),[]⟩,
    ⟨some 26,none,.bsl 4 1 [.i .u64 0,.i .u64 0,.i .u64 0,.i .u64 0] [(0,(.t 25))],[]⟩,
    ⟨some 27,none,.app 4 32 (.t 23) (.t 26),[]⟩,
    ⟨some 28,none,.q (.nck (.t 19)),[]⟩,
    ⟨some 29,none,.q (.adr 8 (.t 28)),[]⟩,
    ⟨none,none,.sto 1 (.t 29) (.t 27),[]⟩])
   (.rg [⟨some 30,none,.q (.mov (.t 0)),[]⟩,
    ⟨some 31,none,.q (.mov (.t 0)),[]⟩,
    ⟨some 32,none,.q (.nck (.t 31)),[]⟩,
    ⟨some 33,none,.q (.adr 10 (.t 32)),[]⟩,
    ⟨some 35,none,.q (.mov (.t 2)),[]⟩,
    ⟨some 34,none,.ld 1 false (.t 33),[]⟩,
    ⟨some 36,none,.nc 83 [(.t 35)],[.ld 1 false (.t 33)]⟩,
    ⟨some 37,none,.bsl 1 1 [.nil] [(0,(.t 36))],[]⟩,
    ⟨some 38,none,.app 1 24 (.t 34) (.t 37),[]⟩,
    ⟨some 39,none,.q (.nck (.t 30)),[]⟩,
    ⟨some 40,none,.q (.adr 10 (.t 39)),[]⟩,
    ⟨none,none,.sto 1 (.t 40) (.t 38),[]⟩]))
  (.sk)))
 (.sq (.sq (.rg [⟨some 42,none,.ld 8 true (.t 4),[]⟩,
  ⟨some 43,none,.pc 84 [(.t 42)],[]⟩,
  ⟨some 41,none,.q (.mov (.t 43)),[]⟩,
  ⟨some 44,none,.q (.ext (.t 41) 0),[]⟩,
  ⟨some 45,none,.q (.ext (.t 41) 1),[]⟩,
  ⟨some 6,none,.alc [.i .i64 0,.i .i64 0],[]⟩,
  ⟨none,none,.sto 2 (.t 6) (.t 44),[]⟩,
  ⟨some 7,none,.q (.mov (.t 45)),[]⟩])
 (.sq (.rg [⟨some 46,none,.q (.mov (.t 7)),[]⟩])
 (.cd (.t 46)
  (.sq (.rg [⟨some 47,none,.q (.mov (.t 2)),[]⟩,
    ⟨some 49,none,.q (.mov (.t 0)),[]⟩,
    ⟨some 50,none,.q (.nck (.t 49)),[]⟩,
    ⟨some 51,none,.q (.adr 9 (.t 50)),[]⟩,
    ⟨some 52,none,.ld 1 false (.t 51),[]⟩,
    ⟨some 53,none,.q (.len (.t 52)),[]⟩,
    ⟨some 54,none,.q (.lit 1 1 [.i .i64 0] [(0,(.t 53))]),[]⟩,
    ⟨some 48,none,.nc 83 [(.t 47)],[.ld 1 false (.t 51)]⟩,
    ⟨some 55,none,.app 1 8 (.t 48) (.t 54),[]⟩,
    ⟨some 2,none,.q (.mov (.t 55)),[]⟩])
   (.rg [⟨some 56,none,.q (.mov (.t 0)),[]⟩,
    ⟨some 57,none,.q (.mov (.t 0)),[]⟩,
    ⟨some 58,none,.q (.nck (.t 57)),[]⟩,
    ⟨some 59,none,.q (.adr 9 (.t 58)),[]⟩,
    ⟨some 60,none,.ld 1 false (.t 59),[]⟩,
    ⟨some 61,none,.ld 2 true (.t 6),[]⟩,
    ⟨some 62,none,.bsl 2 1 [.i .i64 0,.i .i64 0] [(0,(.t 61))],[]⟩,
    ⟨some 63,none,.app 2 16 (.t 60) (.t 62),[]⟩,
    ⟨some 64,none,.q (.nck (.t 56)),[]⟩,
    ⟨some 65,none,.q (.adr 9 (.t 64)),[]⟩,
    ⟨none,none,.sto 1 (.t 65) (.t 63),[]⟩]))
  (.sk))))
 (.sq (.rg [⟨some 66,none,.q (.adr 5 (.t 4)),[]⟩,
  ⟨some 67,none,.ld 1 false (.t 66),[]⟩,
  ⟨some 68,none,.q (.len (.t 67)),[]⟩,
  ⟨some 69,none,.q (.mov (.k (.i .i64 0))),[]⟩])
 (.bk 0 (.lp b68_0)))))
def fn68:Fn:={ n:=78,np:=3,res:=[],body:=c68 }
theorem e68:F 68=some fn68:=by kernel_rfl
def c69:C :=
 .sq (.rg [⟨some 4,none,.q (.mov (.k (.bo false))),[]⟩])
 (.sq (.rg [⟨some 5,none,.q (.mov (.t 0)),[]⟩,
  ⟨some 6,none,.q (.mov (.t 1)),[]⟩,
  ⟨some 7,none,.pc 85 [(.t 5),(.t 6)],[]⟩,
  ⟨some 8,none,.q (.bin .geq (.t 7) (.k (.i .i64 0))),[]⟩,
  ⟨some 4,none,.q (.mov (.t 8)),[]⟩])
 (.rt))
def fn69:Fn:={ n:=9,np:=2,res:=[.t 4],body:=c69 }
theorem e69:F 69=some fn69:=by kernel_rfl
def c70:C :=
 .sq (.rg [⟨some 2,none,.q (.mov (.k (.bo false))),[]⟩])
 (.sq (.rg [⟨some 3,none,.q (.mov (.t 0)),[]⟩,
  ⟨some 4,none,.q (.len (.t 3)),[]⟩,
  ⟨some 5,none,.q (.bin .gtr (.t 4) (.k (.i .i64 4))),[]⟩,
  ⟨some 2,none,.q (.mov (.t 5)),[]⟩])
 (.rt))
def fn70:Fn:={ n:=6,np:=1,res:=[.t 2],body:=c70 }
theorem e70:F 70=some fn70:=by kernel_rfl
def c71:C :=
 .sq (.rg [⟨some 1,none,.box (.t 0),[]⟩,
  ⟨some 2,none,.q (.mov (.k (.bo false))),[]⟩])
 (.sq (.rg [⟨some 3,none,.ld 4 true (.t 1),[]⟩,
  ⟨some 4,none,.q (.bld [.i .u64 0,.i .u64 0,.i .u64 0,.i .u64 0] []),[]⟩,
  ⟨some 5,none,.q (.eqp false true [.i .u64,.i .u64,.i .u64,.i .u64] (.t 3) (.t 4)),[]⟩,
  ⟨some 2,none,.q (.mov (.t 5)),[]⟩])
 (.rt))
def fn71:Fn:={ n:=6,np:=1,res:=[.t 2],body:=c71 }
theorem e71:F 71=some fn71:=by kernel_rfl
def b72_0:C :=
 .sq (.rg [⟨some 15,none,.q (.bin .lss (.t 14) (.t 13)),[]⟩])
 (.sq (.cd (.t 15)
  (.sk)
  (.ex 0))
 (.sq (.bk 1 (.sq (.rg [⟨some 16,none,.q (.ixp 8 (.t 12) (.t 14)),[]⟩,
  ⟨some 17,none,.ld 8 true (.t 16),[]⟩,
  ⟨some 9,none,.alc [.i .i64 0,.i .u64 0,.i .u64 0,.i .u64 0,.i .u64 0,.nil,.i .i64 0,.i .i64 0],[]⟩,
  ⟨none,none,.sto 8 (.t 9) (.t 17),[]⟩])
 (.sq (.rg [⟨some 18,none,.q (.mov (.t 0)),[]⟩,
  ⟨some 19,none,.ld 8 true (.t 9),[]⟩,
  ⟨some 20,none,.q (.mov (.t 2)),[]⟩,
  ⟨some 21,none,.nc 50 [(.t 18),(.t 19),(.t 20)],[]⟩,
  ⟨some 10,none,.alc [.nil,.nil,.bo false],[]⟩,
  ⟨none,none,.sto 3 (.t 10) (.t 21),[]⟩])
 (.sq (.rg [⟨some 22,none,.q (.mov (.t 0)),[]⟩,
  ⟨some 23,none,.q (.adr 1 (.t 7)),[]⟩,
  ⟨some 24,none,.ld 1 false (.t 23),[]⟩,
  ⟨some 25,none,.q (.adr 0 (.t 10)),[]⟩,
  ⟨some 26,none,.ld 1 false (.t 25),[]⟩,
  ⟨some 27,none,.q (.mov (.t 2)),[]⟩,
  ⟨some 28,none,.nc 86 [(.t 22),(.t 24),(.t 26),(.t 27),(.k (.bo false))],[]⟩])
 (.sq (.sq (.rg [⟨some 29,none,.q (.adr 2 (.t 7)),[]⟩,
  ⟨some 30,none,.ld 1 false (.t 29),[]⟩])
 (.cd (.t 30)
  (.rg [⟨some 31,none,.q (.adr 0 (.t 7)),[]⟩,
    ⟨some 32,none,.ld 1 false (.t 31),[]⟩,
    ⟨some 33,none,.q (.adr 0 (.t 10)),[]⟩,
    ⟨some 34,none,.ld 1 false (.t 33),[]⟩,
    ⟨some 35,none,.bsl 1 2 [.nil] [(0,(.t 32)),(1,(.t 34))],[]⟩,
    ⟨some 36,none,.nc 87 [(.t 35)],[]⟩,
    ⟨some 37,none,.q (.adr 0 (.t 7)),[]⟩,
    ⟨none,none,.sto 1 (.t 37) (.t 36),[]⟩])
  (.sk)))
 (.sq (.sq (.rg [⟨some 38,none,.q (.adr 2 (.t 10)),[]⟩,
  ⟨some 39,none,.ld 1 false (.t 38),[]⟩])
 (.cd (.t 39)
  (.rg [⟨some 40,none,.q (.adr 1 (.t 7)),[]⟩,
    ⟨some 41,none,.ld 1 false (.t 40),[]⟩,
    ⟨some 42,none,.q (.adr 1 (.t 10)),[]⟩,
    ⟨some 43,none,.ld 1 false (.t 42),[]⟩,
    ⟨some 44,none,.bsl 1 2 [.nil] [(0,(.t 41)),(1,(.t 43))],[]⟩,
    ⟨some 45,none,.nc 87 [(.t 44)],[]⟩,
    ⟨some 46,none,.q (.adr 1 (.t 7)),[]⟩,
    ⟨none,none,.sto 1 (.t 46) (.t 45),[]⟩])
  (.rg [⟨some 47,none,.q (.adr 1 (.t 10)),[]⟩,
    ⟨some 48,none,.ld 1 false (.t 47),[]⟩,
    ⟨some 49,none,.q (.adr 1 (.t 7)),[]⟩,
    ⟨none,none,.sto 1 (.t 49) (.t 48),[]⟩])))
 (.rg [⟨some 50,none,.q (.adr 2 (.t 7)),[]⟩,
  ⟨some 51,none,.ld 1 false (.t 50),[]⟩,
  ⟨some 52,none,.q (.mov (.t 51)),[]⟩,
  ⟨some 53,some (52,true),.q (.adr 2 (.t 10)),[]⟩,
  ⟨some 54,some (52,true),.ld 1 false (.t 53),[]⟩,
  ⟨some 55,none,.q (.pick (.t 52) (.t 54) (.k (.bo false))),[]⟩,
  ⟨some 56,none,.q (.adr 2 (.t 7)),[]⟩,
  ⟨none,none,.sto 1 (.t 56) (.t 55),[]⟩])))))))
 (.rg [⟨some 57,none,.q (.bin .add (.t 14) (.k (.i .i64 1))),[]⟩,
  ⟨some 14,none,.q (.mov (.t 57)),[]⟩])))
def c72:C :=
 .sq (.rg [⟨some 6,none,.alc [.nil,.nil,.bo false],[]⟩])
 (.sq (.rg [⟨some 11,none,.q (.bld [.nil,.nil,.bo false] [(2,1,(.k (.bo true)))]),[]⟩,
  ⟨some 7,none,.alc [.nil,.nil,.bo false],[]⟩,
  ⟨none,none,.sto 3 (.t 7) (.t 11),[]⟩])
 (.sq (.sq (.rg [⟨some 12,none,.q (.mov (.t 1)),[]⟩,
  ⟨some 13,none,.q (.len (.t 12)),[]⟩,
  ⟨some 14,none,.q (.mov (.k (.i .i64 0))),[]⟩])
 (.bk 0 (.lp b72_0)))
 (.sq (.rg [⟨some 58,none,.ld 3 true (.t 7),[]⟩,
  ⟨none,none,.sto 3 (.t 6) (.t 58),[]⟩])
 (.rt))))
def fn72:Fn:={ n:=59,np:=3,res:=[.c 6 3 true],body:=c72 }
theorem e72:F 72=some fn72:=by kernel_rfl
def b73_0:C :=
 .sq (.rg [⟨some 14,none,.q (.bin .lss (.t 13) (.t 12)),[]⟩])
 (.sq (.cd (.t 14)
  (.sk)
  (.ex 0))
 (.sq (.bk 1 (.sq (.rg [⟨some 15,none,.q (.ixp 8 (.t 11) (.t 13)),[]⟩,
  ⟨some 16,none,.ld 8 true (.t 15),[]⟩,
  ⟨some 9,none,.alc [.i .i64 0,.i .u64 0,.i .u64 0,.i .u64 0,.i .u64 0,.nil,.i .i64 0,.i .i64 0],[]⟩,
  ⟨none,none,.sto 8 (.t 9) (.t 16),[]⟩])
 (.sq (.rg [⟨some 17,none,.q (.mov (.t 0)),[]⟩,
  ⟨some 18,none,.ld 8 true (.t 9),[]⟩,
  ⟨some 19,none,.q (.mov (.t 2)),[]⟩,
  ⟨some 20,none,.nc 50 [(.t 17),(.t 18),(.t 19)],[]⟩,
  ⟨some 10,none,.alc [.nil,.nil,.bo false],[]⟩,
  ⟨none,none,.sto 3 (.t 10) (.t 20),[]⟩])
 (.sq (.rg [⟨some 21,none,.q (.adr 0 (.t 7)),[]⟩,
  ⟨some 22,none,.ld 1 false (.t 21),[]⟩,
  ⟨some 23,none,.q (.adr 0 (.t 10)),[]⟩,
  ⟨some 24,none,.ld 1 false (.t 23),[]⟩,
  ⟨some 25,none,.bsl 1 2 [.nil] [(0,(.t 22)),(1,(.t 24))],[]⟩,
  ⟨some 26,none,.nc 87 [(.t 25)],[]⟩,
  ⟨some 27,none,.q (.adr 0 (.t 7)),[]⟩,
  ⟨none,none,.sto 1 (.t 27) (.t 26),[]⟩])
 (.sq (.rg [⟨some 28,none,.q (.adr 1 (.t 7)),[]⟩,
  ⟨some 29,none,.ld 1 false (.t 28),[]⟩,
  ⟨some 30,none,.q (.adr 1 (.t 10)),[]⟩,
  ⟨some 31,none,.ld 1 false (.t 30),[]⟩,
  ⟨some 32,none,.bsl 1 2 [.nil] [(0,(.t 29)),(1,(.t 31))],[]⟩,
  ⟨some 33,none,.nc 87 [(.t 32)],[]⟩,
  ⟨some 34,none,.q (.adr 1 (.t 7)),[]⟩,
  ⟨none,none,.sto 1 (.t 34) (.t 33),[]⟩])
 (.rg [⟨some 35,none,.q (.adr 2 (.t 7)),[]⟩,
  ⟨some 36,none,.ld 1 false (.t 35),[]⟩,
  ⟨some 37,none,.q (.mov (.t 36)),[]⟩,
  ⟨some 38,some (37,false),.q (.adr 2 (.t 10)),[]⟩,
  ⟨some 39,some (37,false),.ld 1 false (.t 38),[]⟩,
  ⟨some 40,none,.q (.pick (.t 37) (.k (.bo true)) (.t 39)),[]⟩,
  ⟨some 41,none,.q (.adr 2 (.t 7)),[]⟩,
  ⟨none,none,.sto 1 (.t 41) (.t 40),[]⟩]))))))
 (.rg [⟨some 42,none,.q (.bin .add (.t 13) (.k (.i .i64 1))),[]⟩,
  ⟨some 13,none,.q (.mov (.t 42)),[]⟩])))
def c73:C :=
 .sq (.rg [⟨some 6,none,.alc [.nil,.nil,.bo false],[]⟩])
 (.sq (.rg [⟨some 7,none,.alc [.nil,.nil,.bo false],[]⟩])
 (.sq (.sq (.rg [⟨some 11,none,.q (.mov (.t 1)),[]⟩,
  ⟨some 12,none,.q (.len (.t 11)),[]⟩,
  ⟨some 13,none,.q (.mov (.k (.i .i64 0))),[]⟩])
 (.bk 0 (.lp b73_0)))
 (.sq (.rg [⟨some 43,none,.ld 3 true (.t 7),[]⟩,
  ⟨none,none,.sto 3 (.t 6) (.t 43),[]⟩])
 (.rt))))
def fn73:Fn:={ n:=44,np:=3,res:=[.c 6 3 true],body:=c73 }
theorem e73:F 73=some fn73:=by kernel_rfl
def c74:C :=
 .sq (.rg [⟨some 4,none,.box (.t 1),[]⟩,
  ⟨some 6,none,.alc [.nil,.nil,.bo false],[]⟩])
 (.sq (.rg [⟨some 12,none,.ld 8 true (.t 4),[]⟩,
  ⟨some 13,none,.pc 84 [(.t 12)],[]⟩,
  ⟨some 11,none,.q (.mov (.t 13)),[]⟩,
  ⟨some 14,none,.q (.ext (.t 11) 0),[]⟩,
  ⟨some 15,none,.q (.ext (.t 11) 1),[]⟩,
  ⟨some 7,none,.alc [.i .i64 0,.i .i64 0],[]⟩,
  ⟨none,none,.sto 2 (.t 7) (.t 14),[]⟩,
  ⟨some 8,none,.q (.mov (.t 15)),[]⟩])
 (.sq (.rg [⟨some 16,none,.q (.mov (.t 2)),[]⟩,
  ⟨some 9,none,.q (.mov (.t 16)),[]⟩])
 (.sq (.sq (.rg [⟨some 17,none,.q (.mov (.t 8)),[]⟩])
 (.cd (.t 17)
  (.rg [⟨some 18,none,.q (.mov (.t 9)),[]⟩,
    ⟨some 19,none,.q (.bin .add (.t 18) (.k (.i .i64 1))),[]⟩,
    ⟨some 9,none,.q (.mov (.t 19)),[]⟩])
  (.sk)))
 (.sq (.rg [⟨some 20,none,.q (.mov (.t 0)),[]⟩,
  ⟨some 21,none,.q (.adr 5 (.t 4)),[]⟩,
  ⟨some 22,none,.ld 1 false (.t 21),[]⟩,
  ⟨some 23,none,.q (.ixp 8 (.t 22) (.k (.i .i64 0))),[]⟩,
  ⟨some 24,none,.ld 8 true (.t 23),[]⟩,
  ⟨some 25,none,.q (.mov (.t 9)),[]⟩,
  ⟨some 26,none,.nc 50 [(.t 20),(.t 24),(.t 25)],[]⟩,
  ⟨some 10,none,.alc [.nil,.nil,.bo false],[]⟩,
  ⟨none,none,.sto 3 (.t 10) (.t 26),[]⟩])
 (.sq (.sq (.rg [⟨some 27,none,.q (.adr 7 (.t 4)),[]⟩,
  ⟨some 28,none,.ld 1 false (.t 27),[]⟩,
  ⟨some 29,none,.q (.bin .neq (.t 28) (.k (.i .i64 1))),[]⟩])
 (.cd (.t 29)
  (.rg [⟨some 30,none,.q (.mov (.t 0)),[]⟩,
    ⟨some 31,none,.q (.adr 1 (.t 10)),[]⟩,
    ⟨some 32,none,.ld 1 false (.t 31),[]⟩,
    ⟨some 33,none,.q (.adr 0 (.t 10)),[]⟩,
    ⟨some 34,none,.ld 1 false (.t 33),[]⟩,
    ⟨some 35,none,.q (.mov (.t 2)),[]⟩,
    ⟨some 36,none,.q (.mov (.t 8)),[]⟩,
    ⟨some 37,none,.nc 86 [(.t 30),(.t 32),(.t 34),(.t 35),(.t 36)],[]⟩])
  (.sk)))
 (.sq (.rg [⟨some 38,none,.ld 8 true (.t 4),[]⟩,
  ⟨some 39,none,.pc 88 [(.t 38)],[]⟩,
  ⟨some 40,none,.q (.adr 2 (.t 10)),[]⟩,
  ⟨none,none,.sto 1 (.t 40) (.t 39),[]⟩])
 (.sq (.rg [⟨some 41,none,.ld 3 true (.t 10),[]⟩,
  ⟨none,none,.sto 3 (.t 6) (.t 41),[]⟩])
 (.rt))))))))
def fn74:Fn:={ n:=42,np:=3,res:=[.c 6 3 true],body:=c74 }
theorem e74:F 74=some fn74:=by kernel_rfl
def b33_0:C :=
 .sq (.rg [⟨some 9,none,.q (.bin .lss (.t 8) (.t 7)),[]⟩])
 (.sq (.cd (.t 9)
  (.sk)
  (.ex 0))
 (.sq (.bk 1 (.sq (.rg [⟨some 10,none,.q (.ixp 1 (.t 6) (.t 8)),[]⟩,
  ⟨some 11,none,.ld 1 false (.t 10),[]⟩,
  ⟨some 5,none,.q (.mov (.t 11)),[]⟩])
 (.sq (.rg [⟨some 12,none,.q (.mov (.t 5)),[]⟩,
  ⟨some 13,none,.q (.mov (.t 3)),[]⟩,
  ⟨some 14,none,.q (.bin .neq (.t 12) (.t 13)),[]⟩])
 (.cd (.t 14)
  (.sq (.rg [⟨some 15,none,.q (.mov (.t 5)),[]⟩,
    ⟨some 2,none,.q (.mov (.t 15)),[]⟩])
   (.rt))
  (.sk)))))
 (.rg [⟨some 16,none,.q (.bin .add (.t 8) (.k (.i .i64 1))),[]⟩,
  ⟨some 8,none,.q (.mov (.t 16)),[]⟩])))
def c33:C :=
 .sq (.rg [⟨some 2,none,.q (.mov (.k (.i .i64 0))),[]⟩])
 (.sq (.rg [⟨some 3,none,.q (.mov (.k (.i .i64 0))),[]⟩])
 (.sq (.sq (.rg [⟨some 6,none,.q (.mov (.t 0)),[]⟩,
  ⟨some 7,none,.q (.len (.t 6)),[]⟩,
  ⟨some 8,none,.q (.mov (.k (.i .i64 0))),[]⟩])
 (.bk 0 (.lp b33_0)))
 (.sq (.rg [⟨some 17,none,.q (.mov (.t 3)),[]⟩,
  ⟨some 2,none,.q (.mov (.t 17)),[]⟩])
 (.rt))))
def fn33:Fn:={ n:=18,np:=1,res:=[.t 2],body:=c33 }
theorem e33:F 33=some fn33:=by kernel_rfl
def c34:C :=
 .sq (.rg [⟨some 4,none,.q (.mov (.k (.i .i64 0))),[]⟩])
 (.sq (.rg [⟨some 7,none,.q (.mov (.t 0)),[]⟩,
  ⟨some 8,none,.pc 55 [(.t 7)],[]⟩,
  ⟨some 5,none,.q (.mov (.t 8)),[]⟩])
 (.sq (.rg [⟨some 9,none,.q (.mov (.t 1)),[]⟩,
  ⟨some 10,none,.pc 55 [(.t 9)],[]⟩,
  ⟨some 6,none,.q (.mov (.t 10)),[]⟩])
 (.sq (.sq (.rg [⟨some 11,none,.q (.mov (.t 5)),[]⟩])
 (.cd (.t 11)
  (.sq (.sq (.rg [⟨some 12,none,.q (.mov (.t 6)),[]⟩])
   (.cd (.t 12)
    (.sq (.rg [⟨some 4,none,.q (.mov (.k (.i .i64 0))),[]⟩])
     (.rt))
    (.sk)))
   (.sq (.rg [⟨some 4,none,.q (.mov (.k (.i .i64 (-1)))),[]⟩])
   (.rt)))
  (.sk)))
 (.sq (.sq (.rg [⟨some 13,none,.q (.mov (.t 6)),[]⟩])
 (.cd (.t 13)
  (.sq (.rg [⟨some 4,none,.q (.mov (.k (.i .i64 1))),[]⟩])
   (.rt))
  (.sk)))
 (.sq (.sq (.rg [⟨some 14,none,.q (.mov (.t 0)),[]⟩,
  ⟨some 15,none,.q (.mov (.t 1)),[]⟩,
  ⟨some 16,none,.q (.bin .lss (.t 14) (.t 15)),[]⟩])
 (.cd (.t 16)
  (.sq (.rg [⟨some 4,none,.q (.mov (.k (.i .i64 (-1)))),[]⟩])
   (.rt))
  (.sk)))
 (.sq (.sq (.rg [⟨some 17,none,.q (.mov (.t 0)),[]⟩,
  ⟨some 18,none,.q (.mov (.t 1)),[]⟩,
  ⟨some 19,none,.q (.bin .gtr (.t 17) (.t 18)),[]⟩])
 (.cd (.t 19)
  (.sq (.rg [⟨some 4,none,.q (.mov (.k (.i .i64 1))),[]⟩])
   (.rt))
  (.sk)))
 (.sq (.rg [⟨some 4,none,.q (.mov (.k (.i .i64 0))),[]⟩])
 (.rt))))))))
def fn34:Fn:={ n:=20,np:=2,res:=[.t 4],body:=c34 }
theorem e34:F 34=some fn34:=by kernel_rfl
def c81:C :=
 .sq (.rg [⟨some 1,none,.box (.t 0),[]⟩,
  ⟨some 2,none,.q (.mov (.k (.bo false))),[]⟩])
 (.sq (.rg [⟨some 3,none,.ld 8 true (.t 1),[]⟩,
  ⟨some 4,none,.pc 116 [(.t 3)],[]⟩,
  ⟨some 5,none,.q (.mov (.t 4)),[]⟩,
  ⟨some 6,some (5,true),.q (.adr 5 (.t 1)),[]⟩,
  ⟨some 7,some (5,true),.ld 1 false (.t 6),[]⟩,
  ⟨some 8,some (5,true),.pc 117 [(.t 7),(.k (.fn 118 []))],[]⟩,
  ⟨some 9,some (5,true),.q (.un .not (.t 8)),[]⟩,
  ⟨some 10,none,.q (.pick (.t 5) (.t 9) (.k (.bo false))),[]⟩,
  ⟨some 2,none,.q (.mov (.t 10)),[]⟩])
 (.rt))
def fn81:Fn:={ n:=11,np:=1,res:=[.t 2],body:=c81 }
theorem e81:F 81=some fn81:=by kernel_rfl
def b82_0:C :=
 .sq (.rg [⟨some 13,none,.q (.bin .lss (.t 12) (.t 11)),[]⟩])
 (.sq (.cd (.t 13)
  (.sk)
  (.ex 0))
 (.sq (.bk 1 (.sq (.rg [⟨some 14,none,.q (.ixp 8 (.t 10) (.t 12)),[]⟩,
  ⟨some 15,none,.ld 8 true (.t 14),[]⟩,
  ⟨some 5,none,.alc [.i .i64 0,.i .u64 0,.i .u64 0,.i .u64 0,.i .u64 0,.nil,.i .i64 0,.i .i64 0],[]⟩,
  ⟨none,none,.sto 8 (.t 5) (.t 15),[]⟩])
 (.rg [⟨some 16,none,.q (.mov (.t 3)),[]⟩,
  ⟨some 17,none,.ld 8 true (.t 5),[]⟩,
  ⟨some 18,none,.pc 82 [(.t 17)],[]⟩,
  ⟨some 19,none,.bsl 8 1 [.i .i64 0,.i .u64 0,.i .u64 0,.i .u64 0,.i .u64 0,.nil,.i .i64 0,.i .i64 0] [(0,(.t 18))],[]⟩,
  ⟨some 20,none,.app 8 80 (.t 16) (.t 19),[]⟩,
  ⟨some 3,none,.q (.mov (.t 20)),[]⟩])))
 (.rg [⟨some 21,none,.q (.bin .add (.t 12) (.k (.i .i64 1))),[]⟩,
  ⟨some 12,none,.q (.mov (.t 21)),[]⟩])))
def c82:C :=
 .sq (.rg [⟨some 1,none,.box (.t 0),[]⟩,
  ⟨some 2,none,.alc [.i .i64 0,.i .u64 0,.i .u64 0,.i .u64 0,.i .u64 0,.nil,.i .i64 0,.i .i64 0],[]⟩])
 (.sq (.sq (.rg [⟨some 6,none,.ld 8 true (.t 1),[]⟩,
  ⟨some 7,none,.pc 119 [(.t 6)],[]⟩])
 (.cd (.t 7)
  (.sq (.rg [⟨some 8,none,.q (.bld [.i .i64 0,.i .u64 0,.i .u64 0,.i .u64 0,.i .u64 0,.nil,.i .i64 0,.i .i64 0] [(0,1,(.k (.i .i64 1)))]),[]⟩,
    ⟨none,none,.sto 8 (.t 2) (.t 8),[]⟩])
   (.rt))
  (.sk)))
 (.sq (.rg [⟨some 3,none,.q (.mov (.k (.nil))),[]⟩])
 (.sq (.sq (.rg [⟨some 9,none,.q (.adr 5 (.t 1)),[]⟩,
  ⟨some 10,none,.ld 1 false (.t 9),[]⟩,
  ⟨some 11,none,.q (.len (.t 10)),[]⟩,
  ⟨some 12,none,.q (.mov (.k (.i .i64 0))),[]⟩])
 (.bk 0 (.lp b82_0)))
 (.sq (.sq (.rg [⟨some 22,none,.q (.adr 0 (.t 1)),[]⟩,
  ⟨some 23,none,.ld 1 false (.t 22),[]⟩])
 (.bk 2 (.sq (.sq (.rg [⟨some 25,none,.q (.bin .eql (.t 23) (.k (.i .i64 2))),[]⟩,
  ⟨some 24,none,.q (.mov (.t 25)),[]⟩])
 (.cd (.t 24)
  (.sk)
  (.rg [⟨some 26,none,.q (.bin .eql (.t 23) (.k (.i .i64 3))),[]⟩,
    ⟨some 24,none,.q (.mov (.t 26)),[]⟩])))
 (.cd (.t 24)
  (.sq (.rg [⟨some 27,none,.q (.adr 0 (.t 1)),[]⟩,
    ⟨some 29,none,.q (.adr 0 (.t 1)),[]⟩,
    ⟨some 31,none,.q (.mov (.t 3)),[]⟩,
    ⟨some 28,none,.ld 1 false (.t 27),[]⟩,
    ⟨some 30,none,.ld 1 false (.t 29),[]⟩,
    ⟨some 32,none,.nc 121 [(.t 30),(.k (.nil)),(.t 31)],[.ld 1 false (.t 27)]⟩,
    ⟨some 33,none,.nc 120 [(.t 28),(.t 32)],[]⟩,
    ⟨none,none,.sto 8 (.t 2) (.t 33),[]⟩])
   (.rt))
  (.sq (.rg [⟨some 35,none,.q (.bin .eql (.t 23) (.k (.i .i64 4))),[]⟩,
    ⟨some 34,none,.q (.mov (.t 35)),[]⟩])
   (.cd (.t 34)
    (.sq (.rg [⟨some 36,none,.q (.mov (.t 3)),[]⟩,
      ⟨some 37,none,.q (.ixp 8 (.t 36) (.k (.i .i64 0))),[]⟩,
      ⟨some 39,none,.q (.adr 6 (.t 1)),[]⟩,
      ⟨some 41,none,.q (.adr 7 (.t 1)),[]⟩,
      ⟨some 38,none,.ld 8 true (.t 37),[]⟩,
      ⟨some 40,none,.ld 1 false (.t 39),[]⟩,
      ⟨some 42,none,.ld 1 false (.t 41),[]⟩,
      ⟨some 43,none,.pc 122 [(.t 38),(.t 40),(.t 42)],[]⟩,
      ⟨none,none,.sto 8 (.t 2) (.t 43),[]⟩])
     (.rt))
    (.sk)))))))
 (.sq (.rg [⟨some 44,none,.ld 8 true (.t 1),[]⟩,
  ⟨none,none,.sto 8 (.t 2) (.t 44),[]⟩])
 (.rt))))))
def fn82:Fn:={ n:=45,np:=1,res:=[.c 2 8 true],body:=c82 }
theorem e82:F 82=some fn82:=by kernel_rfl
def c83:C :=
 .sq (.rg [⟨some 2,none,.q (.mov (.k (.nil))),[]⟩])
 (.sq (.sq (.rg [⟨some 3,none,.q (.mov (.t 0)),[]⟩,
  ⟨some 4,none,.isz false (.t 3),[]⟩])
 (.cd (.t 4)
  (.sq (.rg [⟨some 2,none,.q (.mov (.k (.nil))),[]⟩])
   (.rt))
  (.sk)))
 (.sq (.rg [⟨some 5,none,.bsl 1 0 [.i .i64 0] [],[]⟩,
  ⟨some 6,none,.q (.mov (.t 0)),[]⟩,
  ⟨some 7,none,.app 1 8 (.t 5) (.t 6),[]⟩,
  ⟨some 2,none,.q (.mov (.t 7)),[]⟩])
 (.rt)))
def fn83:Fn:={ n:=8,np:=1,res:=[.t 2],body:=c83 }
theorem e83:F 83=some fn83:=by kernel_rfl
def c84:C :=
 .sq (.rg [⟨some 1,none,.box (.t 0),[]⟩,
  ⟨some 2,none,.alc [.i .i64 0,.i .i64 0],[]⟩,
  ⟨some 3,none,.q (.mov (.k (.bo false))),[]⟩])
 (.sq (.rg [⟨some 5,none,.q (.adr 6 (.t 1)),[]⟩,
  ⟨some 6,none,.ld 1 false (.t 5),[]⟩,
  ⟨some 7,none,.q (.mx true (.k (.i .i64 1)) (.t 6)),[]⟩,
  ⟨some 8,none,.q (.adr 7 (.t 1)),[]⟩,
  ⟨some 9,none,.ld 1 false (.t 8),[]⟩,
  ⟨some 10,none,.q (.bld [.i .i64 0,.i .i64 0] [(0,1,(.t 7)),(1,1,(.t 9))]),[]⟩,
  ⟨some 4,none,.alc [.i .i64 0,.i .i64 0],[]⟩,
  ⟨none,none,.sto 2 (.t 4) (.t 10),[]⟩])
 (.sq (.rg [⟨some 12,none,.q (.adr 0 (.t 1)),[]⟩,
  ⟨some 11,none,.ld 2 true (.t 4),[]⟩,
  ⟨some 13,none,.ld 1 false (.t 12),[]⟩,
  ⟨some 14,none,.q (.bin .eql (.t 13) (.k (.i .i64 4))),[]⟩,
  ⟨some 15,none,.q (.mov (.t 14)),[]⟩,
  ⟨some 16,some (15,true),.q (.adr 1 (.t 4)),[]⟩,
  ⟨some 17,some (15,true),.ld 1 false (.t 16),[]⟩,
  ⟨some 18,some (15,true),.q (.bin .gtr (.t 17) (.k (.i .i64 1))),[]⟩,
  ⟨some 19,some (15,true),.q (.mov (.t 18)),[]⟩,
  ⟨some 20,some (19,false),.q (.adr 1 (.t 4)),[]⟩,
  ⟨some 21,some (19,false),.ld 1 false (.t 20),[]⟩,
  ⟨some 22,some (19,false),.q (.bin .eql (.t 21) (.k (.i .i64 (-1)))),[]⟩,
  ⟨some 23,some (19,false),.q (.mov (.t 22)),[]⟩,
  ⟨some 24,some (23,true),.q (.adr 0 (.t 4)),[]⟩,
  ⟨some 25,some (23,true),.ld 1 false (.t 24),[]⟩,
  ⟨some 26,some (23,true),.q (.bin .gtr (.t 25) (.k (.i .i64 1))),[]⟩,
  ⟨some 27,some (19,false),.q (.pick (.t 23) (.t 26) (.k (.bo false))),[]⟩,
  ⟨some 28,some (15,true),.q (.pick (.t 19) (.k (.bo true)) (.t 27)),[]⟩,
  ⟨some 29,none,.q (.pick (.t 15) (.t 28) (.k (.bo false))),[]⟩,
  ⟨none,none,.sto 2 (.t 2) (.t 11),[.ld 1 false (.t 24)]⟩,
  ⟨some 3,none,.q (.mov (.t 29)),[]⟩])
 (.rt)))
def fn84:Fn:={ n:=30,np:=1,res:=[.c 2 2 true,.t 3],body:=c84 }
theorem e84:F 84=some fn84:=by kernel_rfl
def b85_0:C :=
 .sq (.rg [⟨some 9,none,.q (.bin .lss (.t 8) (.t 7)),[]⟩])
 (.sq (.cd (.t 9)
  (.sk)
  (.ex 0))
 (.sq (.bk 1 (.sq (.rg [⟨some 10,none,.q (.mov (.t 8)),[]⟩,
  ⟨some 5,none,.q (.mov (.t 10)),[]⟩])
 (.sq (.rg [⟨some 11,none,.q (.mov (.t 1)),[]⟩,
  ⟨some 12,none,.q (.mov (.t 0)),[]⟩,
  ⟨some 13,none,.q (.mov (.t 5)),[]⟩,
  ⟨some 14,none,.q (.ixp 1 (.t 12) (.t 13)),[]⟩,
  ⟨some 15,none,.ld 1 false (.t 14),[]⟩,
  ⟨some 16,none,.pv (.t 11) [(.t 15)],[]⟩])
 (.cd (.t 16)
  (.sq (.rg [⟨some 17,none,.q (.mov (.t 5)),[]⟩,
    ⟨some 4,none,.q (.mov (.t 17)),[]⟩])
   (.rt))
  (.sk)))))
 (.rg [⟨some 18,none,.q (.bin .add (.t 8) (.k (.i .i64 1))),[]⟩,
  ⟨some 8,none,.q (.mov (.t 18)),[]⟩])))
def c85:C :=
 .sq (.rg [⟨some 4,none,.q (.mov (.k (.i .i64 0))),[]⟩])
 (.sq (.sq (.rg [⟨some 6,none,.q (.mov (.t 0)),[]⟩,
  ⟨some 7,none,.q (.len (.t 6)),[]⟩,
  ⟨some 8,none,.q (.mov (.k (.i .i64 0))),[]⟩])
 (.bk 0 (.lp b85_0)))
 (.sq (.rg [⟨some 4,none,.q (.mov (.k (.i .i64 (-1)))),[]⟩])
 (.rt)))
def fn85:Fn:={ n:=19,np:=2,res:=[.t 4],body:=c85 }
theorem e85:F 85=some fn85:=by kernel_rfl
def b86_0:C :=
 .sq (.rg [⟨some 23,none,.q (.bin .lss (.t 22) (.t 21)),[]⟩])
 (.sq (.cd (.t 23)
  (.sk)
  (.ex 2))
 (.sq (.bk 3 (.sq (.rg [⟨some 24,none,.q (.ixp 1 (.t 20) (.t 22)),[]⟩,
  ⟨some 25,none,.ld 1 false (.t 24),[]⟩,
  ⟨some 13,none,.q (.mov (.t 25)),[]⟩])
 (.rg [⟨some 26,none,.q (.mov (.t 0)),[]⟩,
  ⟨some 27,none,.q (.nck (.t 26)),[]⟩,
  ⟨some 28,none,.q (.adr 1 (.t 27)),[]⟩,
  ⟨some 30,none,.q (.mov (.t 11)),[]⟩,
  ⟨some 31,none,.q (.mov (.t 13)),[]⟩,
  ⟨some 32,none,.q (.mov (.t 3)),[]⟩,
  ⟨some 33,none,.q (.mov (.t 4)),[]⟩,
  ⟨some 34,none,.q (.bld [.i .i64 0,.i .i64 0,.bo false] [(0,1,(.t 31)),(1,1,(.t 32)),(2,1,(.t 33))]),[]⟩,
  ⟨some 35,none,.q (.bld [.i .i64 0,.i .i64 0,.i .i64 0,.bo false] [(0,1,(.t 30)),(1,3,(.t 34))]),[]⟩,
  ⟨some 29,none,.ld 1 false (.t 28),[]⟩,
  ⟨some 36,none,.lkp true [.i .i64,.i .i64,.i .i64,.b] (.i .i64 0) false (.t 29) (.t 35),[]⟩,
  ⟨some 37,none,.q (.bin .add (.t 36) (.k (.i .i64 1))),[]⟩,
  ⟨some 38,none,.men true [.i .i64,.i .i64,.i .i64,.b] (.i .i64 0) (.t 29) (.t 35),[.lkp true [.i .i64,.i .i64,.i .i64,.b] (.i .i64 0) false (.t 29) (.t 35)]⟩,
  ⟨some 39,none,.q (.ext (.t 38) 1),[]⟩,
  ⟨none,none,.est (.t 29) (.t 39) (.t 37),[]⟩])))
 (.rg [⟨some 40,none,.q (.bin .add (.t 22) (.k (.i .i64 1))),[]⟩,
  ⟨some 22,none,.q (.mov (.t 40)),[]⟩])))
def b86_1:C :=
 .sq (.rg [⟨some 17,none,.q (.bin .lss (.t 16) (.t 15)),[]⟩])
 (.sq (.cd (.t 17)
  (.sk)
  (.ex 0))
 (.sq (.bk 1 (.sq (.rg [⟨some 18,none,.q (.ixp 1 (.t 14) (.t 16)),[]⟩,
  ⟨some 19,none,.ld 1 false (.t 18),[]⟩,
  ⟨some 11,none,.q (.mov (.t 19)),[]⟩])
 (.sq (.rg [⟨some 20,none,.q (.mov (.t 2)),[]⟩,
  ⟨some 21,none,.q (.len (.t 20)),[]⟩,
  ⟨some 22,none,.q (.mov (.k (.i .i64 0))),[]⟩])
 (.bk 2 (.lp b86_0)))))
 (.rg [⟨some 41,none,.q (.bin .add (.t 16) (.k (.i .i64 1))),[]⟩,
  ⟨some 16,none,.q (.mov (.t 41)),[]⟩])))
def c86:C :=
 .sq (.rg [⟨some 14,none,.q (.mov (.t 1)),[]⟩,
  ⟨some 15,none,.q (.len (.t 14)),[]⟩,
  ⟨some 16,none,.q (.mov (.k (.i .i64 0))),[]⟩])
 (.bk 0 (.lp b86_1))
def fn86:Fn:={ n:=42,np:=5,res:=[],body:=c86 }
theorem e86:F 86=some fn86:=by kernel_rfl
def b87_0:C :=
 .sq (.rg [⟨some 12,none,.q (.bin .lss (.t 11) (.t 10)),[]⟩])
 (.sq (.cd (.t 12)
  (.sk)
  (.ex 0))
 (.sq (.bk 1 (.sq (.rg [⟨some 13,none,.q (.ixp 1 (.t 9) (.t 11)),[]⟩,
  ⟨some 14,none,.ld 1 false (.t 13),[]⟩,
  ⟨some 5,none,.q (.mov (.t 14)),[]⟩])
 (.sq (.rg [⟨some 15,none,.q (.mov (.t 3)),[]⟩,
  ⟨some 16,none,.q (.mov (.t 5)),[]⟩,
  ⟨some 17,none,.q (.len (.t 16)),[]⟩,
  ⟨some 18,none,.q (.bin .add (.t 15) (.t 17)),[]⟩,
  ⟨some 3,none,.q (.mov (.t 18)),[]⟩])
 (.sq (.rg [⟨some 19,none,.q (.mov (.t 3)),[]⟩,
  ⟨some 20,none,.q (.bin .lss (.t 19) (.k (.i .i64 0))),[]⟩])
 (.cd (.t 20)
  (.rg [⟨some 21,none,.bad,[]⟩,
    ⟨none,none,.bad,[]⟩])
  (.sk))))))
 (.rg [⟨some 22,none,.q (.bin .add (.t 11) (.k (.i .i64 1))),[]⟩,
  ⟨some 11,none,.q (.mov (.t 22)),[]⟩])))
def b87_1:C :=
 .sq (.rg [⟨some 28,none,.q (.bin .lss (.t 27) (.t 26)),[]⟩])
 (.sq (.cd (.t 28)
  (.sk)
  (.ex 2))
 (.sq (.bk 3 (.sq (.rg [⟨some 29,none,.q (.ixp 1 (.t 25) (.t 27)),[]⟩,
  ⟨some 30,none,.ld 1 false (.t 29),[]⟩,
  ⟨some 8,none,.q (.mov (.t 30)),[]⟩])
 (.rg [⟨some 31,none,.q (.mov (.t 6)),[]⟩,
  ⟨some 32,none,.q (.mov (.t 8)),[]⟩,
  ⟨some 33,none,.app 1 8 (.t 31) (.t 32),[]⟩,
  ⟨some 6,none,.q (.mov (.t 33)),[]⟩])))
 (.rg [⟨some 34,none,.q (.bin .add (.t 27) (.k (.i .i64 1))),[]⟩,
  ⟨some 27,none,.q (.mov (.t 34)),[]⟩])))
def c87:C :=
 .sq (.rg [⟨some 2,none,.q (.mov (.k (.nil))),[]⟩])
 (.sq (.rg [⟨some 3,none,.q (.mov (.k (.i .i64 0))),[]⟩])
 (.sq (.sq (.rg [⟨some 9,none,.q (.mov (.t 0)),[]⟩,
  ⟨some 10,none,.q (.len (.t 9)),[]⟩,
  ⟨some 11,none,.q (.mov (.k (.i .i64 0))),[]⟩])
 (.bk 0 (.lp b87_0)))
 (.sq (.rg [⟨some 23,none,.q (.mov (.t 3)),[]⟩,
  ⟨some 24,none,.nc 123 [(.k (.nil)),(.t 23)],[]⟩,
  ⟨some 6,none,.q (.mov (.t 24)),[]⟩])
 (.sq (.sq (.rg [⟨some 25,none,.q (.mov (.t 0)),[]⟩,
  ⟨some 26,none,.q (.len (.t 25)),[]⟩,
  ⟨some 27,none,.q (.mov (.k (.i .i64 0))),[]⟩])
 (.bk 2 (.lp b87_1)))
 (.sq (.rg [⟨some 35,none,.q (.mov (.t 6)),[]⟩,
  ⟨some 2,none,.q (.mov (.t 35)),[]⟩])
 (.rt))))))
def fn87:Fn:={ n:=36,np:=1,res:=[.t 2],body:=c87 }
theorem e87:F 87=some fn87:=by kernel_rfl
def c88:C :=
 .sq (.rg [⟨some 1,none,.box (.t 0),[]⟩,
  ⟨some 2,none,.q (.mov (.k (.bo false))),[]⟩])
 (.sq (.rg [⟨some 3,none,.ld 8 true (.t 1),[]⟩,
  ⟨some 4,none,.pc 81 [(.t 3)],[]⟩,
  ⟨some 5,none,.q (.mov (.t 4)),[]⟩,
  ⟨some 6,some (5,true),.ld 8 true (.t 1),[]⟩,
  ⟨some 7,some (5,true),.pc 124 [(.t 6)],[]⟩,
  ⟨some 8,none,.q (.pick (.t 5) (.t 7) (.k (.bo false))),[]⟩,
  ⟨some 2,none,.q (.mov (.t 8)),[]⟩])
 (.rt))
def fn88:Fn:={ n:=9,np:=1,res:=[.t 2],body:=c88 }
theorem e88:F 88=some fn88:=by kernel_rfl
def c55:C :=
 .sq (.rg [⟨some 2,none,.q (.mov (.k (.bo false))),[]⟩])
 (.sq (.rg [⟨some 3,none,.q (.mov (.t 0)),[]⟩,
  ⟨some 4,none,.q (.mov (.t 0)),[]⟩,
  ⟨some 5,none,.q (.bin .neq (.t 3) (.t 4)),[]⟩,
  ⟨some 2,none,.q (.mov (.t 5)),[]⟩])
 (.rt))
def fn55:Fn:={ n:=6,np:=1,res:=[.t 2],body:=c55 }
theorem e55:F 55=some fn55:=by kernel_rfl
def c116:C :=
 .sq (.rg [⟨some 1,none,.box (.t 0),[]⟩,
  ⟨some 2,none,.q (.mov (.k (.bo false))),[]⟩])
 (.sq (.rg [⟨some 4,none,.q (.adr 6 (.t 1)),[]⟩,
  ⟨some 5,none,.ld 1 false (.t 4),[]⟩,
  ⟨some 6,none,.q (.bin .eql (.t 5) (.k (.i .i64 0))),[]⟩,
  ⟨some 7,none,.q (.mov (.t 6)),[]⟩,
  ⟨some 8,some (7,true),.q (.adr 7 (.t 1)),[]⟩,
  ⟨some 9,some (7,true),.ld 1 false (.t 8),[]⟩,
  ⟨some 10,some (7,true),.q (.bin .eql (.t 9) (.k (.i .i64 0))),[]⟩,
  ⟨some 11,none,.q (.pick (.t 7) (.t 10) (.k (.bo false))),[]⟩,
  ⟨some 3,none,.q (.mov (.t 11)),[]⟩])
 (.sq (.sq (.rg [⟨some 12,none,.q (.adr 0 (.t 1)),[]⟩,
  ⟨some 13,none,.ld 1 false (.t 12),[]⟩])
 (.bk 0 (.sq (.rg [⟨some 15,none,.q (.bin .eql (.t 13) (.k (.i .i64 0))),[]⟩,
  ⟨some 14,none,.q (.mov (.t 15)),[]⟩])
 (.cd (.t 14)
  (.sq (.rg [⟨some 16,none,.q (.mov (.t 3)),[]⟩,
    ⟨some 17,none,.q (.mov (.t 16)),[]⟩,
    ⟨some 18,some (17,true),.q (.adr 1 (.t 1)),[]⟩,
    ⟨some 19,some (17,true),.ld 4 true (.t 18),[]⟩,
    ⟨some 20,some (17,true),.pc 71 [(.t 19)],[]⟩,
    ⟨some 21,none,.q (.pick (.t 17) (.t 20) (.k (.bo false))),[]⟩,
    ⟨some 22,none,.q (.mov (.t 21)),[]⟩,
    ⟨some 23,some (22,true),.q (.adr 5 (.t 1)),[]⟩,
    ⟨some 24,some (22,true),.ld 1 false (.t 23),[]⟩,
    ⟨some 25,some (22,true),.q (.len (.t 24)),[]⟩,
    ⟨some 26,some (22,true),.q (.bin .eql (.t 25) (.k (.i .i64 0))),[]⟩,
    ⟨some 27,none,.q (.pick (.t 22) (.t 26) (.k (.bo false))),[]⟩,
    ⟨some 2,none,.q (.mov (.t 27)),[]⟩])
   (.rt))
  (.sq (.rg [⟨some 29,none,.q (.bin .eql (.t 13) (.k (.i .i64 1))),[]⟩,
    ⟨some 28,none,.q (.mov (.t 29)),[]⟩])
   (.cd (.t 28)
    (.sq (.rg [⟨some 30,none,.q (.mov (.t 3)),[]⟩,
      ⟨some 31,none,.q (.mov (.t 30)),[]⟩,
      ⟨some 32,some (31,true),.q (.adr 5 (.t 1)),[]⟩,
      ⟨some 33,some (31,true),.ld 1 false (.t 32),[]⟩,
      ⟨some 34,some (31,true),.q (.len (.t 33)),[]⟩,
      ⟨some 35,some (31,true),.q (.bin .eql (.t 34) (.k (.i .i64 0))),[]⟩,
      ⟨some 36,none,.q (.pick (.t 31) (.t 35) (.k (.bo false))),[]⟩,
      ⟨some 2,none,.q (.mov (.t 36)),[]⟩])
     (.rt))
    (.sq (.sq (.rg [⟨some 38,none,.q (.bin .eql (.t 13) (.k (.i .i64 2))),[]⟩,
      ⟨some 37,none,.q (.mov (.t 38)),[]⟩])
     (.cd (.t 37)
      (.sk)
      (.rg [⟨some 39,none,.q (.bin .eql (.t 13) (.k (.i .i64 3))),[]⟩,
        ⟨some 37,none,.q (.mov (.t 39)),[]⟩])))
     (.cd (.t 37)
      (.sq (.rg [⟨some 40,none,.q (.mov (.t 3)),[]⟩,
        ⟨some 41,none,.q (.mov (.t 40)),[]⟩,
        ⟨some 42,some (41,true),.q (.adr 1 (.t 1)),[]⟩,
        ⟨some 43,some (41,true),.ld 4 true (.t 42),[]⟩,
        ⟨some 44,some (41,true),.pc 71 [(.t 43)],[]⟩,
        ⟨some 45,none,.q (.pick (.t 41) (.t 44) (.k (.bo false))),[]⟩,
        ⟨some 46,none,.q (.mov (.t 45)),[]⟩,
        ⟨some 47,some (46,true),.q (.adr 5 (.t 1)),[]⟩,
        ⟨some 48,some (46,true),.ld 1 false (.t 47),[]⟩,
        ⟨some 49,some (46,true),.q (.len (.t 48)),[]⟩,
        ⟨some 50,some (46,true),.q (.bin .geq (.t 49) (.k (.i .i64 2))),[]⟩,
        ⟨some 51,none,.q (.pick (.t 46) (.t 50) (.k (.bo false))),[]⟩,
        ⟨some 2,none,.q (.mov (.t 51)),[]⟩])
       (.rt))
      (.sq (.rg [⟨some 53,none,.q (.bin .eql (.t 13) (.k (.i .i64 4))),[]⟩,
        ⟨some 52,none,.q (.mov (.t 53)),[]⟩])
       (.cd (.t 52)
        (.sq (.rg [⟨some 54,none,.q (.adr 1 (.t 1)),[]⟩,
          ⟨some 55,none,.ld 4 true (.t 54),[]⟩,
          ⟨some 56,none,.pc 71 [(.t 55)],[]⟩,
          ⟨some 57,none,.q (.mov (.t 56)),[]⟩,
          ⟨some 58,some (57,true),.q (.adr 5 (.t 1)),[]⟩,
          ⟨some 59,some (57,true),.ld 1 false (.t 58),[]⟩,
          ⟨some 60,some (57,true),.q (.len (.t 59)),[]⟩,
          ⟨some 61,some (57,true),.q (.bin .eql (.t 60) (.k (.i .i64 1))),[]⟩,
          ⟨some 62,none,.q (.pick (.t 57) (.t 61) (.k (.bo false))),[]⟩,
          ⟨some 63,none,.q (.mov (.t 62)),[]⟩,
          ⟨some 64,some (63,true),.q (.adr 6 (.t 1)),[]⟩,
          ⟨some 65,some (63,true),.ld 1 false (.t 64),[]⟩,
          ⟨some 66,some (63,true),.q (.bin .geq (.t 65) (.k (.i .i64 0))),[]⟩,
          ⟨some 67,none,.q (.pick (.t 63) (.t 66) (.k (.bo false))),[]⟩,
          ⟨some 68,none,.q (.mov (.t 67)),[]⟩,
          ⟨some 69,some (68,true),.q (.adr 6 (.t 1)),[]⟩,
          ⟨some 70,some (68,true),.ld 1 false (.t 69),[]⟩,
          ⟨some 71,some (68,true),.q (.bin .leq (.t 70) (.k (.i .i64 2147483647))),[]⟩,
          ⟨some 72,none,.q (.pick (.t 68) (.t 71) (.k (.bo false))),[]⟩,
          ⟨some 73,none,.q (.mov (.t 72)),[]⟩,
          ⟨some 74,some (73,true),.q (.adr 7 (.t 1)),[]⟩,
          ⟨some 75,some (73,true),.ld 1 false (.t 74),[]⟩,
          ⟨some 76,some (73,true),.q (.bin .eql (.t 75) (.k (.i .i64 (-1)))),[]⟩,
          ⟨some 77,some (73,true),.q (.mov (.t 76)),[]⟩,
          ⟨some 78,some (77,false),.q (.adr 7 (.t 1)),[]⟩,
          ⟨some 79,some (77,false),.ld 1 false (.t 78),[]⟩,
          ⟨some 80,some (77,false),.q (.adr 6 (.t 1)),[]⟩,
          ⟨some 81,some (77,false),.ld 1 false (.t 80),[]⟩,
          ⟨some 82,some (77,false),.q (.bin .geq (.t 79) (.t 81)),[]⟩,
          ⟨some 83,some (77,false),.q (.mov (.t 82)),[]⟩,
          ⟨some 84,some (83,true),.q (.adr 7 (.t 1)),[]⟩,
          ⟨some 85,some (83,true),.ld 1 false (.t 84),[]⟩,
          ⟨some 86,some (83,true),.q (.bin .leq (.t 85) (.k (.i .i64 2147483647))),[]⟩,
          ⟨some 87,some (77,false),.q (.pick (.t 83) (.t 86) (.k (.bo false))),[]⟩,
          ⟨some 88,some (73,true),.q (.pick (.t 77) (.k (.bo true)) (.t 87)),[]⟩,
          ⟨some 89,none,.q (.pick (.t 73) (.t 88) (.k (.bo false))),[]⟩,
          ⟨some 2,none,.q (.mov (.t 89)),[]⟩])
         (.rt))
        (.sk)))))))))))
 (.sq (.rg [⟨some 2,none,.q (.mov (.k (.bo false))),[]⟩])
 (.rt))))
def fn116:Fn:={ n:=90,np:=1,res:=[.t 2],body:=c116 }
theorem e116:F 116=some fn116:=by kernel_rfl
def c117:C :=
 .sq (.rg [⟨some 4,none,.q (.mov (.k (.bo false))),[]⟩])
 (.sq (.rg [⟨some 5,none,.q (.mov (.t 0)),[]⟩,
  ⟨some 6,none,.q (.mov (.t 1)),[]⟩,
  ⟨some 7,none,.pc 136 [(.t 5),(.t 6)],[]⟩,
  ⟨some 8,none,.q (.bin .geq (.t 7) (.k (.i .i64 0))),[]⟩,
  ⟨some 4,none,.q (.mov (.t 8)),[]⟩])
 (.rt))
def fn117:Fn:={ n:=9,np:=2,res:=[.t 4],body:=c117 }
theorem e117:F 117=some fn117:=by kernel_rfl
def c118:C :=
 .sq (.rg [⟨some 1,none,.box (.t 0),[]⟩,
  ⟨some 2,none,.q (.mov (.k (.bo false))),[]⟩])
 (.sq (.rg [⟨some 3,none,.ld 8 true (.t 1),[]⟩,
  ⟨some 4,none,.pc 81 [(.t 3)],[]⟩,
  ⟨some 5,none,.q (.un .not (.t 4)),[]⟩,
  ⟨some 2,none,.q (.mov (.t 5)),[]⟩])
 (.rt))
def fn118:Fn:={ n:=6,np:=1,res:=[.t 2],body:=c118 }
theorem e118:F 118=some fn118:=by kernel_rfl
def c119:C :=
 .sq (.rg [⟨some 1,none,.box (.t 0),[]⟩,
  ⟨some 2,none,.q (.mov (.k (.bo false))),[]⟩])
 (.sq (.sq (.rg [⟨some 3,none,.q (.adr 0 (.t 1)),[]⟩,
  ⟨some 4,none,.ld 1 false (.t 3),[]⟩])
 (.bk 0 (.sq (.rg [⟨some 6,none,.q (.bin .eql (.t 4) (.k (.i .i64 1))),[]⟩,
  ⟨some 5,none,.q (.mov (.t 6)),[]⟩])
 (.cd (.t 5)
  (.sq (.rg [⟨some 7,none,.q (.adr 1 (.t 1)),[]⟩,
    ⟨some 8,none,.ld 4 true (.t 7),[]⟩,
    ⟨some 9,none,.pc 71 [(.t 8)],[]⟩,
    ⟨some 2,none,.q (.mov (.t 9)),[]⟩])
   (.rt))
  (.sq (.rg [⟨some 11,none,.q (.bin .eql (.t 4) (.k (.i .i64 2))),[]⟩,
    ⟨some 10,none,.q (.mov (.t 11)),[]⟩])
   (.cd (.t 10)
    (.sq (.rg [⟨some 12,none,.q (.adr 5 (.t 1)),[]⟩,
      ⟨some 13,none,.ld 1 false (.t 12),[]⟩,
      ⟨some 14,none,.pc 117 [(.t 13),(.k (.fn 119 []))],[]⟩,
      ⟨some 2,none,.q (.mov (.t 14)),[]⟩])
     (.rt))
    (.sq (.rg [⟨some 16,none,.q (.bin .eql (.t 4) (.k (.i .i64 3))),[]⟩,
      ⟨some 15,none,.q (.mov (.t 16)),[]⟩])
     (.cd (.t 15)
      (.sq (.rg [⟨some 17,none,.q (.adr 5 (.t 1)),[]⟩,
        ⟨some 18,none,.ld 1 false (.t 17),[]⟩,
        ⟨some 19,none,.pc 117 [(.t 18),(.k (.fn 137 []))],[]⟩,
        ⟨some 20,none,.q (.un .not (.t 19)),[]⟩,
        ⟨some 2,none,.q (.mov (.t 20)),[]⟩])
       (.rt))
      (.sq (.rg [⟨some 22,none,.q (.bin .eql (.t 4) (.k (.i .i64 4))),[]⟩,
        ⟨some 21,none,.q (.mov (.t 22)),[]⟩])
       (.cd (.t 21)
        (.sq (.rg [⟨some 23,none,.q (.adr 6 (.t 1)),[]⟩,
          ⟨some 24,none,.ld 1 false (.t 23),[]⟩,
          ⟨some 25,none,.q (.bin .gtr (.t 24) (.k (.i .i64 0))),[]⟩,
          ⟨some 26,none,.q (.mov (.t 25)),[]⟩,
          ⟨some 27,some (26,true),.q (.adr 5 (.t 1)),[]⟩,
          ⟨some 28,some (26,true),.ld 1 false (.t 27),[]⟩,
          ⟨some 29,some (26,true),.q (.ixp 8 (.t 28) (.k (.i .i64 0))),[]⟩,
          ⟨some 30,some (26,true),.ld 8 true (.t 29),[]⟩,
          ⟨some 31,some (26,true),.pc 119 [(.t 30)],[]⟩,
          ⟨some 32,none,.q (.pick (.t 26) (.t 31) (.k (.bo false))),[]⟩,
          ⟨some 2,none,.q (.mov (.t 32)),[]⟩])
         (.rt))
        (.sk)))))))))))
 (.sq (.rg [⟨some 2,none,.q (.mov (.k (.bo false))),[]⟩])
 (.rt)))
def fn119:Fn:={ n:=33,np:=1,res:=[.t 2],body:=c119 }
theorem e119:F 119=some fn119:=by kernel_rfl
def c120:C :=
 .sq (.rg [⟨some 4,none,.alc [.i .i64 0,.i .u64 0,.i .u64 0,.i .u64 0,.i .u64 0,.nil,.i .i64 0,.i .i64 0],[]⟩])
 (.sq (.sq (.rg [⟨some 5,none,.q (.mov (.t 1)),[]⟩,
  ⟨some 6,none,.q (.len (.t 5)),[]⟩])
 (.bk 0 (.sq (.rg [⟨some 8,none,.q (.bin .eql (.t 6) (.k (.i .i64 0))),[]⟩,
  ⟨some 7,none,.q (.mov (.t 8)),[]⟩])
 (.cd (.t 7)
  (.sq (.rg [⟨some 9,none,.q (.bld [.i .i64 0,.i .u64 0,.i .u64 0,.i .u64 0,.i .u64 0,.nil,.i .i64 0,.i .i64 0] []),[]⟩,
    ⟨none,none,.sto 8 (.t 4) (.t 9),[]⟩])
   (.rt))
  (.sq (.rg [⟨some 11,none,.q (.bin .eql (.t 6) (.k (.i .i64 1))),[]⟩,
    ⟨some 10,none,.q (.mov (.t 11)),[]⟩])
   (.cd (.t 10)
    (.sq (.rg [⟨some 12,none,.q (.mov (.t 1)),[]⟩,
      ⟨some 13,none,.q (.ixp 8 (.t 12) (.k (.i .i64 0))),[]⟩,
      ⟨some 14,none,.ld 8 true (.t 13),[]⟩,
      ⟨none,none,.sto 8 (.t 4) (.t 14),[]⟩])
     (.rt))
    (.sk)))))))
 (.sq (.rg [⟨some 15,none,.q (.mov (.t 0)),[]⟩,
  ⟨some 16,none,.q (.mov (.t 1)),[]⟩,
  ⟨some 17,none,.q (.bld [.i .i64 0,.i .u64 0,.i .u64 0,.i .u64 0,.i .u64 0,.nil,.i .i64 0,.i .i64 0] [(0,1,(.t 15)),(5,1,(.t 16))]),[]⟩,
  ⟨none,none,.sto 8 (.t 4) (.t 17),[]⟩])
 (.rt)))
def fn120:Fn:={ n:=18,np:=2,res:=[.c 4 8 true],body:=c120 }
theorem e120:F 120=some fn120:=by kernel_rfl
def b121_0:C :=
 .sq (.rg [⟨some 12,none,.q (.bin .lss (.t 11) (.t 10)),[]⟩])
 (.sq (.cd (.t 12)
  (.sk)
  (.ex 0))
 (.sq (.bk 1 (.sq (.rg [⟨some 13,none,.q (.ixp 8 (.t 9) (.t 11)),[]⟩,
  ⟨some 14,none,.ld 8 true (.t 13),[]⟩,
  ⟨some 8,none,.alc [.i .i64 0,.i .u64 0,.i .u64 0,.i .u64 0,.i .u64 0,.nil,.i .i64 0,.i .i64 0],[]⟩,
  ⟨none,none,.sto 8 (.t 8) (.t 14),[]⟩])
 (.bk 2 (.sq (.rg [⟨some 20,none,.q (.adr 0 (.t 8)),[]⟩,
  ⟨some 21,none,.ld 1 false (.t 20),[]⟩,
  ⟨some 22,none,.q (.mov (.t 0)),[]⟩,
  ⟨some 23,none,.q (.bin .eql (.t 21) (.t 22)),[]⟩,
  ⟨some 19,none,.q (.mov (.t 23)),[]⟩])
 (.cd (.t 19)
  (.rg [⟨some 24,none,.q (.mov (.t 0)),[]⟩,
    ⟨some 25,none,.q (.mov (.t 1)),[]⟩,
    ⟨some 26,none,.q (.adr 5 (.t 8)),[]⟩,
    ⟨some 27,none,.ld 1 false (.t 26),[]⟩,
    ⟨some 28,none,.nc 121 [(.t 24),(.t 25),(.t 27)],[]⟩,
    ⟨some 1,none,.q (.mov (.t 28)),[]⟩])
  (.sq (.rg [⟨some 30,none,.q (.mov (.t 0)),[]⟩,
    ⟨some 31,none,.q (.bin .eql (.t 30) (.k (.i .i64 2))),[]⟩,
    ⟨some 32,none,.q (.mov (.t 31)),[]⟩,
    ⟨some 33,some (32,true),.q (.adr 0 (.t 8)),[]⟩,
    ⟨some 34,some (32,true),.ld 1 false (.t 33),[]⟩,
    ⟨some 35,some (32,true),.q (.bin .eql (.t 34) (.k (.i .i64 0))),[]⟩,
    ⟨some 36,none,.q (.pick (.t 32) (.t 35) (.k (.bo false))),[]⟩,
    ⟨some 29,none,.q (.mov (.t 36)),[]⟩])
   (.cd (.t 29)
    (.sk)
    (.sq (.rg [⟨some 38,none,.q (.mov (.t 0)),[]⟩,
      ⟨some 39,none,.q (.bin .eql (.t 38) (.k (.i .i64 3))),[]⟩,
      ⟨some 40,none,.q (.mov (.t 39)),[]⟩,
      ⟨some 41,some (40,true),.ld 8 true (.t 8),[]⟩,
      ⟨some 42,some (40,true),.pc 119 [(.t 41)],[]⟩,
      ⟨some 43,some (40,true),.q (.mov (.t 42)),[]⟩,
      ⟨some 44,some (43,false),.q (.mov (.t 1)),[]⟩,
      ⟨some 45,some (43,false),.q (.mkf 138 [(.t 8)]),[]⟩,
      ⟨some 46,some (43,false),.pc 117 [(.t 44),(.t 45)],[]⟩,
      ⟨some 47,some (40,true),.q (.pick (.t 43) (.k (.bo true)) (.t 46)),[]⟩,
      ⟨some 48,none,.q (.pick (.t 40) (.t 47) (.k (.bo false))),[]⟩,
      ⟨some 37,none,.q (.mov (.t 48)),[]⟩])
     (.cd (.t 37)
      (.sk)
      (.rg [⟨some 15,none,.q (.mov (.t 1)),[]⟩,
        ⟨some 16,none,.ld 8 true (.t 8),[]⟩,
        ⟨some 17,none,.bsl 8 1 [.i .i64 0,.i .u64 0,.i .u64 0,.i .u64 0,.i .u64 0,.nil,.i .i64 0,.i .i64 0] [(0,(.t 16))],[]⟩,
        ⟨some 18,none,.app 8 80 (.t 15) (.t 17),[]⟩,
        ⟨some 1,none,.q (.mov (.t 18)),[]⟩]))))))))))
 (.rg [⟨some 49,none,.q (.bin .add (.t 11) (.k (.i .i64 1))),[]⟩,
  ⟨some 11,none,.q (.mov (.t 49)),[]⟩])))
def c121:C :=
 .sq (.rg [⟨some 6,none,.q (.mov (.k (.nil))),[]⟩])
 (.sq (.sq (.rg [⟨some 9,none,.q (.mov (.t 2)),[]⟩,
  ⟨some 10,none,.q (.len (.t 9)),[]⟩,
  ⟨some 11,none,.q (.mov (.k (.i .i64 0))),[]⟩])
 (.bk 0 (.lp b121_0)))
 (.sq (.rg [⟨some 50,none,.q (.mov (.t 1)),[]⟩,
  ⟨some 6,none,.q (.mov (.t 50)),[]⟩])
 (.rt)))
def fn121:Fn:={ n:=51,np:=3,res:=[.t 6],body:=c121 }
theorem e121:F 121=some fn121:=by kernel_rfl
def c122:C :=
 .sq (.rg [⟨some 3,none,.box (.t 0),[]⟩,
  ⟨some 6,none,.alc [.i .i64 0,.i .u64 0,.i .u64 0,.i .u64 0,.i .u64 0,.nil,.i .i64 0,.i .i64 0],[]⟩])
 (.sq (.bk 0 (.sq (.rg [⟨some 8,none,.q (.mov (.t 2)),[]⟩,
  ⟨some 9,none,.q (.bin .eql (.t 8) (.k (.i .i64 0))),[]⟩,
  ⟨some 10,none,.q (.mov (.t 9)),[]⟩,
  ⟨some 11,some (10,false),.q (.adr 0 (.t 3)),[]⟩,
  ⟨some 12,some (10,false),.ld 1 false (.t 11),[]⟩,
  ⟨some 13,some (10,false),.q (.bin .eql (.t 12) (.k (.i .i64 0))),[]⟩,
  ⟨some 14,none,.q (.pick (.t 10) (.k (.bo true)) (.t 13)),[]⟩,
  ⟨some 15,none,.q (.mov (.t 14)),[]⟩,
  ⟨some 16,some (15,false),.ld 8 true (.t 3),[]⟩,
  ⟨some 17,some (15,false),.pc 119 [(.t 16)],[]⟩,
  ⟨some 18,none,.q (.pick (.t 15) (.k (.bo true)) (.t 17)),[]⟩,
  ⟨some 7,none,.q (.mov (.t 18)),[]⟩])
 (.cd (.t 7)
  (.sq (.rg [⟨some 19,none,.q (.bld [.i .i64 0,.i .u64 0,.i .u64 0,.i .u64 0,.i .u64 0,.nil,.i .i64 0,.i .i64 0] []),[]⟩,
    ⟨none,none,.sto 8 (.t 6) (.t 19),[]⟩])
   (.rt))
  (.sq (.rg [⟨some 21,none,.q (.mov (.t 1)),[]⟩,
    ⟨some 22,none,.q (.bin .eql (.t 21) (.k (.i .i64 1))),[]⟩,
    ⟨some 23,none,.q (.mov (.t 22)),[]⟩,
    ⟨some 24,some (23,true),.q (.mov (.t 2)),[]⟩,
    ⟨some 25,some (23,true),.q (.bin .eql (.t 24) (.k (.i .i64 1))),[]⟩,
    ⟨some 26,none,.q (.pick (.t 23) (.t 25) (.k (.bo false))),[]⟩,
    ⟨some 20,none,.q (.mov (.t 26)),[]⟩])
   (.cd (.t 20)
    (.sq (.rg [⟨some 27,none,.ld 8 true (.t 3),[]⟩,
      ⟨none,none,.sto 8 (.t 6) (.t 27),[]⟩])
     (.rt))
    (.sq (.rg [⟨some 29,none,.ld 8 true (.t 3),[]⟩,
      ⟨some 30,none,.pc 124 [(.t 29)],[]⟩,
      ⟨some 28,none,.q (.mov (.t 30)),[]⟩])
     (.cd (.t 28)
      (.rg [⟨some 1,none,.q (.mov (.k (.i .i64 0))),[]⟩])
      (.sk))))))))
 (.sq (.rg [⟨some 31,none,.ld 8 true (.t 3),[]⟩,
  ⟨some 32,none,.bsl 8 1 [.i .i64 0,.i .u64 0,.i .u64 0,.i .u64 0,.i .u64 0,.nil,.i .i64 0,.i .i64 0] [(0,(.t 31))],[]⟩,
  ⟨some 33,none,.q (.mov (.t 1)),[]⟩,
  ⟨some 34,none,.q (.mov (.t 2)),[]⟩,
  ⟨some 35,none,.q (.bld [.i .i64 0,.i .u64 0,.i .u64 0,.i .u64 0,.i .u64 0,.nil,.i .i64 0,.i .i64 0] [(0,1,(.k (.i .i64 4))),(5,1,(.t 32)),(6,1,(.t 33)),(7,1,(.t 34))]),[]⟩,
  ⟨none,none,.sto 8 (.t 6) (.t 35),[]⟩])
 (.rt)))
def fn122:Fn:={ n:=36,np:=3,res:=[.c 6 8 true],body:=c122 }
theorem e122:F 122=some fn122:=by kernel_rfl
def c123:C :=
 .sq (.rg [⟨some 4,none,.q (.mov (.k (.nil))),[]⟩])
 (.sq (.sq (.rg [⟨some 5,none,.q (.mov (.t 1)),[]⟩,
  ⟨some 6,none,.q (.bin .lss (.t 5) (.k (.i .i64 0))),[]⟩])
 (.cd (.t 6)
  (.rg [⟨some 7,none,.bad,[]⟩,
    ⟨none,none,.bad,[]⟩])
  (.sk)))
 (.sq (.sq (.rg [⟨some 8,none,.q (.mov (.t 1)),[]⟩,
  ⟨some 9,none,.q (.mov (.t 0)),[]⟩,
  ⟨some 10,none,.q (.cap (.t 9)),[]⟩,
  ⟨some 11,none,.q (.mov (.t 0)),[]⟩,
  ⟨some 12,none,.q (.len (.t 11)),[]⟩,
  ⟨some 13,none,.q (.bin .sub (.t 10) (.t 12)),[]⟩,
  ⟨some 14,none,.q (.bin .sub (.t 8) (.t 13)),[]⟩,
  ⟨some 1,none,.q (.mov (.t 14)),[]⟩])
 (.sq (.rg [⟨some 15,none,.q (.mov (.t 1)),[]⟩,
  ⟨some 16,none,.q (.bin .gtr (.t 15) (.k (.i .i64 0))),[]⟩])
 (.cd (.t 16)
  (.rg [⟨some 17,none,.q (.mov (.t 0)),[]⟩,
    ⟨some 18,none,.q (.mov (.t 0)),[]⟩,
    ⟨some 19,none,.q (.cap (.t 18)),[]⟩,
    ⟨some 20,none,.q (.slc 1 (.t 17) none (some (.t 19)) none),[]⟩,
    ⟨some 21,none,.q (.mov (.t 1)),[]⟩,
    ⟨some 22,none,.apz 1 8 [.i .i64 0] (.t 20) (.t 21),[]⟩,
    ⟨some 23,none,.q (.mov (.t 0)),[]⟩,
    ⟨some 24,none,.q (.len (.t 23)),[]⟩,
    ⟨some 25,none,.q (.slc 1 (.t 22) none (some (.t 24)) none),[]⟩,
    ⟨some 0,none,.q (.mov (.t 25)),[]⟩])
  (.sk))))
 (.sq (.rg [⟨some 26,none,.q (.mov (.t 0)),[]⟩,
  ⟨some 4,none,.q (.mov (.t 26)),[]⟩])
 (.rt))))
def fn123:Fn:={ n:=27,np:=2,res:=[.t 4],body:=c123 }
theorem e123:F 123=some fn123:=by kernel_rfl
def c124:C :=
 .sq (.rg [⟨some 1,none,.box (.t 0),[]⟩,
  ⟨some 2,none,.q (.mov (.k (.bo false))),[]⟩])
 (.sq (.sq (.rg [⟨some 3,none,.q (.adr 0 (.t 1)),[]⟩,
  ⟨some 4,none,.ld 1 false (.t 3),[]⟩])
 (.bk 0 (.sq (.rg [⟨some 6,none,.q (.bin .eql (.t 4) (.k (.i .i64 1))),[]⟩,
  ⟨some 5,none,.q (.mov (.t 6)),[]⟩])
 (.cd (.t 5)
  (.sq (.rg [⟨some 2,none,.q (.mov (.k (.bo false))),[]⟩])
   (.rt))
  (.sq (.rg [⟨some 8,none,.q (.bin .eql (.t 4) (.k (.i .i64 2))),[]⟩,
    ⟨some 7,none,.q (.mov (.t 8)),[]⟩])
   (.cd (.t 7)
    (.sq (.rg [⟨some 9,none,.q (.adr 5 (.t 1)),[]⟩,
      ⟨some 10,none,.ld 1 false (.t 9),[]⟩,
      ⟨some 11,none,.pc 117 [(.t 10),(.k (.fn 140 []))],[]⟩,
      ⟨some 12,none,.q (.un .not (.t 11)),[]⟩,
      ⟨some 2,none,.q (.mov (.t 12)),[]⟩])
     (.rt))
    (.sq (.rg [⟨some 14,none,.q (.bin .eql (.t 4) (.k (.i .i64 3))),[]⟩,
      ⟨some 13,none,.q (.mov (.t 14)),[]⟩])
     (.cd (.t 13)
      (.sq (.rg [⟨some 15,none,.q (.adr 5 (.t 1)),[]⟩,
        ⟨some 16,none,.ld 1 false (.t 15),[]⟩,
        ⟨some 17,none,.pc 117 [(.t 16),(.k (.fn 124 []))],[]⟩,
        ⟨some 2,none,.q (.mov (.t 17)),[]⟩])
       (.rt))
      (.sq (.rg [⟨some 19,none,.q (.bin .eql (.t 4) (.k (.i .i64 4))),[]⟩,
        ⟨some 18,none,.q (.mov (.t 19)),[]⟩])
       (.cd (.t 18)
        (.sq (.rg [⟨some 20,none,.q (.adr 6 (.t 1)),[]⟩,
          ⟨some 21,none,.ld 1 false (.t 20),[]⟩,
          ⟨some 22,none,.q (.bin .eql (.t 21) (.k (.i .i64 0))),[]⟩,
          ⟨some 23,none,.q (.mov (.t 22)),[]⟩,
          ⟨some 24,some (23,false),.q (.adr 5 (.t 1)),[]⟩,
          ⟨some 25,some (23,false),.ld 1 false (.t 24),[]⟩,
          ⟨some 26,some (23,false),.q (.ixp 8 (.t 25) (.k (.i .i64 0))),[]⟩,
          ⟨some 27,some (23,false),.ld 8 true (.t 26),[]⟩,
          ⟨some 28,some (23,false),.pc 124 [(.t 27)],[]⟩,
          ⟨some 29,none,.q (.pick (.t 23) (.k (.bo true)) (.t 28)),[]⟩,
          ⟨some 2,none,.q (.mov (.t 29)),[]⟩])
         (.rt))
        (.sk)))))))))))
 (.sq (.rg [⟨some 2,none,.q (.mov (.k (.bo true))),[]⟩])
 (.rt)))
def fn124:Fn:={ n:=30,np:=1,res:=[.t 2],body:=c124 }
theorem e124:F 124=some fn124:=by kernel_rfl
def b136_0:C :=
 .sq (.rg [⟨some 9,none,.q (.bin .lss (.t 8) (.t 7)),[]⟩])
 (.sq (.cd (.t 9)
  (.sk)
  (.ex 0))
 (.sq (.bk 1 (.sq (.rg [⟨some 10,none,.q (.mov (.t 8)),[]⟩,
  ⟨some 5,none,.q (.mov (.t 10)),[]⟩])
 (.sq (.rg [⟨some 11,none,.q (.mov (.t 1)),[]⟩,
  ⟨some 12,none,.q (.mov (.t 0)),[]⟩,
  ⟨some 13,none,.q (.mov (.t 5)),[]⟩,
  ⟨some 14,none,.q (.ixp 8 (.t 12) (.t 13)),[]⟩,
  ⟨some 15,none,.ld 8 true (.t 14),[]⟩,
  ⟨some 16,none,.pv (.t 11) [(.t 15)],[]⟩])
 (.cd (.t 16)
  (.sq (.rg [⟨some 17,none,.q (.mov (.t 5)),[]⟩,
    ⟨some 4,none,.q (.mov (.t 17)),[]⟩])
   (.rt))
  (.sk)))))
 (.rg [⟨some 18,none,.q (.bin .add (.t 8) (.k (.i .i64 1))),[]⟩,
  ⟨some 8,none,.q (.mov (.t 18)),[]⟩])))
def c136:C :=
 .sq (.rg [⟨some 4,none,.q (.mov (.k (.i .i64 0))),[]⟩])
 (.sq (.sq (.rg [⟨some 6,none,.q (.mov (.t 0)),[]⟩,
  ⟨some 7,none,.q (.len (.t 6)),[]⟩,
  ⟨some 8,none,.q (.mov (.k (.i .i64 0))),[]⟩])
 (.bk 0 (.lp b136_0)))
 (.sq (.rg [⟨some 4,none,.q (.mov (.k (.i .i64 (-1)))),[]⟩])
 (.rt)))
def fn136:Fn:={ n:=19,np:=2,res:=[.t 4],body:=c136 }
theorem e136:F 136=some fn136:=by kernel_rfl
def c137:C :=
 .sq (.rg [⟨some 1,none,.box (.t 0),[]⟩,
  ⟨some 2,none,.q (.mov (.k (.bo false))),[]⟩])
 (.sq (.rg [⟨some 3,none,.ld 8 true (.t 1),[]⟩,
  ⟨some 4,none,.pc 119 [(.t 3)],[]⟩,
  ⟨some 5,none,.q (.un .not (.t 4)),[]⟩,
  ⟨some 2,none,.q (.mov (.t 5)),[]⟩])
 (.rt))
def fn137:Fn:={ n:=6,np:=1,res:=[.t 2],body:=c137 }
theorem e137:F 137=some fn137:=by kernel_rfl
def c138:C :=
 .sq (.rg [⟨some 2,none,.box (.t 0),[]⟩,
  ⟨some 3,none,.q (.mov (.k (.bo false))),[]⟩])
 (.sq (.rg [⟨some 4,none,.ld 8 true (.t 1),[]⟩,
  ⟨some 5,none,.ld 8 true (.t 2),[]⟩,
  ⟨some 6,none,.pc 139 [(.t 4),(.t 5)],[]⟩,
  ⟨some 3,none,.q (.mov (.t 6)),[]⟩])
 (.rt))
def fn138:Fn:={ n:=7,np:=2,res:=[.t 3],body:=c138 }
theorem e138:F 138=some fn138:=by kernel_rfl
def c139:C :=
 .sq (.rg [⟨some 2,none,.box (.t 0),[]⟩,
  ⟨some 3,none,.box (.t 1),[]⟩,
  ⟨some 4,none,.q (.mov (.k (.bo false))),[]⟩])
 (.sq (.rg [⟨some 5,none,.q (.adr 0 (.t 2)),[]⟩,
  ⟨some 6,none,.ld 1 false (.t 5),[]⟩,
  ⟨some 7,none,.q (.adr 0 (.t 3)),[]⟩,
  ⟨some 8,none,.ld 1 false (.t 7),[]⟩,
  ⟨some 9,none,.q (.bin .eql (.t 6) (.t 8)),[]⟩,
  ⟨some 10,none,.q (.mov (.t 9)),[]⟩,
  ⟨some 11,some (10,true),.q (.adr 1 (.t 2)),[]⟩,
  ⟨some 12,some (10,true),.ld 4 true (.t 11),[]⟩,
  ⟨some 13,some (10,true),.q (.adr 1 (.t 3)),[]⟩,
  ⟨some 14,some (10,true),.ld 4 true (.t 13),[]⟩,
  ⟨some 15,some (10,true),.q (.eqp false true [.i .u64,.i .u64,.i .u64,.i .u64] (.t 12) (.t 14)),[]⟩,
  ⟨some 16,none,.q (.pick (.t 10) (.t 15) (.k (.bo false))),[]⟩,
  ⟨some 17,none,.q (.mov (.t 16)),[]⟩,
  ⟨some 18,some (17,true),.q (.adr 6 (.t 2)),[]⟩,
  ⟨some 19,some (17,true),.ld 1 false (.t 18),[]⟩,
  ⟨some 20,some (17,true),.q (.adr 6 (.t 3)),[]⟩,
  ⟨some 21,some (17,true),.ld 1 false (.t 20),[]⟩,
  ⟨some 22,some (17,true),.q (.bin .eql (.t 19) (.t 21)),[]⟩,
  ⟨some 23,none,.q (.pick (.t 17) (.t 22) (.k (.bo false))),[]⟩,
  ⟨some 24,none,.q (.mov (.t 23)),[]⟩,
  ⟨some 25,some (24,true),.q (.adr 7 (.t 2)),[]⟩,
  ⟨some 26,some (24,true),.ld 1 false (.t 25),[]⟩,
  ⟨some 27,some (24,true),.q (.adr 7 (.t 3)),[]⟩,
  ⟨some 28,some (24,true),.ld 1 false (.t 27),[]⟩,
  ⟨some 29,some (24,true),.q (.bin .eql (.t 26) (.t 28)),[]⟩,
  ⟨some 30,none,.q (.pick (.t 24) (.t 29) (.k (.bo false))),[]⟩,
  ⟨some 31,none,.q (.mov (.t 30)),[]⟩,
  ⟨some 32,some (31,true),.q (.adr 5 (.t 2)),[]⟩,
  ⟨some 33,some (31,true),.ld 1 false (.t 32),[]⟩,
  ⟨some 34,some (31,true),.q (.adr 5 (.t 3)),[]⟩,
  ⟨some 35,some (31,true),.ld 1 false (.t 34),[]⟩,
  ⟨some 36,some (31,true),.pc 144 [(.t 33),(.t 35),(.k (.fn 139 []))],[]⟩,
  ⟨some 37,none,.q (.pick (.t 31) (.t 36) (.k (.bo false))),[]⟩,
  ⟨some 4,none,.q (.mov (.t 37)),[]⟩])
 (.rt))
def fn139:Fn:={ n:=38,np:=2,res:=[.t 4],body:=c139 }
theorem e139:F 139=some fn139:=by kernel_rfl
def c140:C :=
 .sq (.rg [⟨some 1,none,.box (.t 0),[]⟩,
  ⟨some 2,none,.q (.mov (.k (.bo false))),[]⟩])
 (.sq (.rg [⟨some 3,none,.ld 8 true (.t 1),[]⟩,
  ⟨some 4,none,.pc 124 [(.t 3)],[]⟩,
  ⟨some 5,none,.q (.un .not (.t 4)),[]⟩,
  ⟨some 2,none,.q (.mov (.t 5)),[]⟩])
 (.rt))
def fn140:Fn:={ n:=6,np:=1,res:=[.t 2],body:=c140 }
theorem e140:F 140=some fn140:=by kernel_rfl
def b144_0:C :=
 .sq (.rg [⟨some 18,none,.q (.bin .lss (.t 17) (.t 16)),[]⟩])
 (.sq (.cd (.t 18)
  (.sk)
  (.ex 0))
 (.sq (.bk 1 (.sq (.rg [⟨some 19,none,.q (.mov (.t 17)),[]⟩,
  ⟨some 20,none,.q (.ixp 8 (.t 15) (.t 17)),[]⟩,
  ⟨some 21,none,.ld 8 true (.t 20),[]⟩,
  ⟨some 8,none,.alc [.i .i64 0,.i .u64 0,.i .u64 0,.i .u64 0,.i .u64 0,.nil,.i .i64 0,.i .i64 0],[]⟩,
  ⟨some 7,none,.q (.mov (.t 19)),[]⟩,
  ⟨none,none,.sto 8 (.t 8) (.t 21),[]⟩])
 (.sq (.rg [⟨some 22,none,.q (.mov (.t 1)),[]⟩,
  ⟨some 23,none,.q (.mov (.t 7)),[]⟩,
  ⟨some 24,none,.q (.ixp 8 (.t 22) (.t 23)),[]⟩,
  ⟨some 25,none,.ld 8 true (.t 24),[]⟩,
  ⟨some 9,none,.alc [.i .i64 0,.i .u64 0,.i .u64 0,.i .u64 0,.i .u64 0,.nil,.i .i64 0,.i .i64 0],[]⟩,
  ⟨none,none,.sto 8 (.t 9) (.t 25),[]⟩])
 (.sq (.rg [⟨some 26,none,.q (.mov (.t 2)),[]⟩,
  ⟨some 27,none,.ld 8 true (.t 8),[]⟩,
  ⟨some 28,none,.ld 8 true (.t 9),[]⟩,
  ⟨some 29,none,.pv (.t 26) [(.t 27),(.t 28)],[]⟩,
  ⟨some 30,none,.q (.un .not (.t 29)),[]⟩])
 (.cd (.t 30)
  (.sq (.rg [⟨some 6,none,.q (.mov (.k (.bo false))),[]⟩])
   (.rt))
  (.sk))))))
 (.rg [⟨some 31,none,.q (.bin .add (.t 17) (.k (.i .i64 1))),[]⟩,
  ⟨some 17,none,.q (.mov (.t 31)),[]⟩])))
def c144:C :=
 .sq (.rg [⟨some 6,none,.q (.mov (.k (.bo false))),[]⟩])
 (.sq (.sq (.rg [⟨some 10,none,.q (.mov (.t 0)),[]⟩,
  ⟨some 11,none,.q (.len (.t 10)),[]⟩,
  ⟨some 12,none,.q (.mov (.t 1)),[]⟩,
  ⟨some 13,none,.q (.len (.t 12)),[]⟩,
  ⟨some 14,none,.q (.bin .neq (.t 11) (.t 13)),[]⟩])
 (.cd (.t 14)
  (.sq (.rg [⟨some 6,none,.q (.mov (.k (.bo false))),[]⟩])
   (.rt))
  (.sk)))
 (.sq (.sq (.rg [⟨some 15,none,.q (.mov (.t 0)),[]⟩,
  ⟨some 16,none,.q (.len (.t 15)),[]⟩,
  ⟨some 17,none,.q (.mov (.k (.i .i64 0))),[]⟩])
 (.bk 0 (.lp b144_0)))
 (.sq (.rg [⟨some 6,none,.q (.mov (.k (.bo true))),[]⟩])
 (.rt))))
def fn144:Fn:={ n:=32,np:=3,res:=[.t 6],body:=c144 }
theorem e144:F 144=some fn144:=by kernel_rfl
def c3:C :=
 .sq (.rg [⟨some 3,none,.box (.t 0),[]⟩,
  ⟨some 4,none,.box (.t 1),[]⟩,
  ⟨some 6,none,.q (.mov (.k (.bo false))),[]⟩])
 (.sq (.sq (.rg [⟨some 10,none,.pc 8 [],[]⟩,
  ⟨some 11,none,.q (.un .not (.t 10)),[]⟩])
 (.cd (.t 11)
  (.sq (.rg [⟨some 6,none,.q (.mov (.k (.bo false))),[]⟩])
   (.rt))
  (.sk)))
 (.sq (.rg [⟨some 13,none,.ld 8 true (.t 3),[]⟩,
  ⟨some 14,none,.pc 9 [(.t 13)],[]⟩,
  ⟨some 12,none,.q (.mov (.t 14)),[]⟩,
  ⟨some 15,none,.q (.ext (.t 12) 0),[]⟩,
  ⟨some 16,none,.q (.ext (.t 12) 1),[]⟩,
  ⟨some 7,none,.alc [.i .i64 0,.i .u64 0,.i .u64 0,.i .u64 0,.i .u64 0,.nil,.i .i64 0,.i .i64 0,.nil,.nil,.nil,.nil,.nil,.nil,.bo false],[]⟩,
  ⟨none,none,.sto 15 (.t 7) (.t 15),[]⟩,
  ⟨some 8,none,.q (.mov (.t 16)),[]⟩])
 (.sq (.sq (.rg [⟨some 17,none,.q (.mov (.t 8)),[]⟩,
  ⟨some 18,none,.q (.un .not (.t 17)),[]⟩])
 (.cd (.t 18)
  (.sq (.rg [⟨some 6,none,.q (.mov (.k (.bo true))),[]⟩])
   (.rt))
  (.sk)))
 (.sq (.rg [⟨some 19,none,.ld 15 true (.t 7),[]⟩,
  ⟨some 20,none,.ld 5 true (.t 4),[]⟩,
  ⟨some 21,none,.q (.mov (.t 2)),[]⟩,
  ⟨some 22,none,.pc 10 [(.t 19),(.t 20),(.t 21)],[]⟩,
  ⟨none,none,.sto 5 (.t 4) (.t 22),[]⟩])
 (.sq (.rg [⟨some 23,none,.ld 15 true (.t 7),[]⟩,
  ⟨some 24,none,.ld 5 true (.t 4),[]⟩,
  ⟨some 25,none,.pc 11 [(.t 23),(.t 24)],[]⟩,
  ⟨some 9,none,.q (.mov (.t 25)),[]⟩])
 (.sq (.rg [⟨some 26,none,.ld 15 true (.t 7),[]⟩,
  ⟨some 27,none,.ld 5 true (.t 4),[]⟩,
  ⟨some 28,none,.pc 12 [(.t 26),(.t 27)],[]⟩,
  ⟨some 29,none,.q (.mov (.t 9)),[]⟩,
  ⟨some 30,none,.q (.eqb false (.t 28) (.t 29)),[]⟩,
  ⟨some 31,none,.q (.mov (.t 30)),[]⟩,
  ⟨some 32,some (31,true),.ld 15 true (.t 7),[]⟩,
  ⟨some 33,some (31,true),.ld 5 true (.t 4),[]⟩,
  ⟨some 34,some (31,true),.pc 13 [(.t 32),(.t 33)],[]⟩,
  ⟨some 35,some (31,true),.q (.mov (.t 9)),[]⟩,
  ⟨some 36,some (31,true),.q (.mov (.t 35)),[]⟩,
  ⟨some 37,some (36,true),.ld 15 true (.t 7),[]⟩,
  ⟨some 38,some (36,true),.ld 5 true (.t 4),[]⟩,
  ⟨some 39,some (36,true),.pc 14 [(.t 37),(.t 38)],[]⟩,
  ⟨some 40,some (31,true),.q (.pick (.t 36) (.t 39) (.k (.bo false))),[]⟩,
  ⟨some 41,some (31,true),.q (.eqb false (.t 34) (.t 40)),[]⟩,
  ⟨some 42,none,.q (.pick (.t 31) (.t 41) (.k (.bo false))),[]⟩,
  ⟨some 6,none,.q (.mov (.t 42)),[]⟩])
 (.rt)))))))
def fn3:Fn:={ n:=43,np:=3,res:=[.t 6],body:=c3 }
theorem e3:F 3=some fn3:=by kernel_rfl
def c4:C :=
 .sq (.rg [⟨some 3,none,.box (.t 0),[]⟩,
  ⟨some 4,none,.box (.t 1),[]⟩,
  ⟨some 5,none,.box (.t 2),[]⟩,
  ⟨some 6,none,.q (.mov (.k (.bo false))),[]⟩])
 (.sq (.rg [⟨some 10,none,.ld 5 true (.t 3),[]⟩,
  ⟨some 11,none,.ld 5 true (.t 4),[]⟩,
  ⟨some 13,none,.ld 5 true (.t 4),[]⟩,
  ⟨some 14,none,.ld 5 true (.t 5),[]⟩,
  ⟨some 16,none,.ld 5 true (.t 3),[]⟩,
  ⟨some 17,none,.ld 5 true (.t 5),[]⟩,
  ⟨some 12,none,.pc 15 [(.t 10),(.t 11)],[]⟩,
  ⟨some 15,none,.pc 15 [(.t 13),(.t 14)],[]⟩,
  ⟨some 18,none,.pc 15 [(.t 16),(.t 17)],[]⟩,
  ⟨some 7,none,.q (.mov (.t 12)),[]⟩,
  ⟨some 8,none,.q (.mov (.t 15)),[]⟩,
  ⟨some 9,none,.q (.mov (.t 18)),[]⟩])
 (.sq (.rg [⟨some 19,none,.pc 8 [],[]⟩,
  ⟨some 20,none,.q (.mov (.t 19)),[]⟩,
  ⟨some 21,some (20,true),.q (.mov (.t 7)),[]⟩,
  ⟨some 22,some (20,true),.ld 5 true (.t 3),[]⟩,
  ⟨some 23,some (20,true),.ld 5 true (.t 4),[]⟩,
  ⟨some 24,some (20,true),.pc 16 [(.t 22),(.t 23)],[]⟩,
  ⟨some 25,some (20,true),.q (.bin .eql (.t 21) (.t 24)),[]⟩,
  ⟨some 26,none,.q (.pick (.t 20) (.t 25) (.k (.bo false))),[]⟩,
  ⟨some 27,none,.q (.mov (.t 26)),[]⟩,
  ⟨some 28,some (27,true),.ld 5 true (.t 4),[]⟩,
  ⟨some 29,some (27,true),.ld 5 true (.t 3),[]⟩,
  ⟨some 30,some (27,true),.pc 15 [(.t 28),(.t 29)],[]⟩,
  ⟨some 31,some (27,true),.q (.mov (.t 7)),[]⟩,
  ⟨some 32,some (27,true),.q (.un .neg (.t 31)),[]⟩,
  ⟨some 33,some (27,true),.q (.bin .eql (.t 30) (.t 32)),[]⟩,
  ⟨some 34,none,.q (.pick (.t 27) (.t 33) (.k (.bo false))),[]⟩,
  ⟨some 35,none,.q (.mov (.t 34)),[]⟩,
  ⟨some 36,some (35,true),.q (.mov (.t 7)),[]⟩,
  ⟨some 37,some (35,true),.q (.bin .eql (.t 36) (.k (.i .i64 0))),[]⟩,
  ⟨some 38,some (35,true),.ld 5 true (.t 3),[]⟩,
  ⟨some 39,some (35,true),.ld 5 true (.t 4),[]⟩,
  ⟨some 40,some (35,true),.q (.eqp false true [.i .i64,.i .i64,.i .i64,.i .i64,.i .i64] (.t 38) (.t 39)),[]⟩,
  ⟨some 41,some (35,true),.q (.eqb false (.t 37) (.t 40)),[]⟩,
  ⟨some 42,none,.q (.pick (.t 35) (.t 41) (.k (.bo false))),[]⟩,
  ⟨some 43,none,.q (.mov (.t 42)),[]⟩,
  ⟨some 44,some (43,true),.q (.mov (.t 7)),[]⟩,
  ⟨some 45,some (43,true),.q (.bin .gtr (.t 44) (.k (.i .i64 0))),[]⟩,
  ⟨some 46,some (43,true),.q (.mov (.t 45)),[]⟩,
  ⟨some 47,some (46,false),.q (.mov (.t 8)),[]⟩,
  ⟨some 48,some (46,false),.q (.bin .gtr (.t 47) (.k (.i .i64 0))),[]⟩,
  ⟨some 49,some (43,true),.q (.pick (.t 46) (.k (.bo true)) (.t 48)),[]⟩,
  ⟨some 50,some (43,true),.q (.mov (.t 49)),[]⟩,
  ⟨some 51,some (50,false),.q (.mov (.t 9)),[]⟩,
  ⟨some 52,some (50,false),.q (.bin .leq (.t 51) (.k (.i .i64 0))),[]⟩,
  ⟨some 53,some (43,true),.q (.pick (.t 50) (.k (.bo true)) (.t 52)),[]⟩,
  ⟨some 54,none,.q (.pick (.t 43) (.t 53) (.k (.bo false))),[]⟩,
  ⟨some 6,none,.q (.mov (.t 54)),[]⟩])
 (.rt)))
def fn4:Fn:={ n:=55,np:=3,res:=[.t 6],body:=c4 }
theorem e4:F 4=some fn4:=by kernel_rfl
def c8:C :=
 .sq (.rg [⟨some 0,none,.q (.mov (.k (.bo false))),[]⟩])
 (.sq (.rg [⟨some 5,none,.q (.bld [.i .u64 0,.i .u64 0,.i .u64 0,.i .u64 0] [(0,1,(.k (.i .u64 2)))]),[]⟩,
  ⟨some 6,none,.q (.bld [.i .i64 0,.i .u64 0,.i .u64 0,.i .u64 0,.i .u64 0,.nil,.i .i64 0,.i .i64 0] [(0,1,(.k (.i .i64 1))),(1,4,(.t 5))]),[]⟩,
  ⟨some 7,none,.pc 9 [(.t 6)],[]⟩,
  ⟨some 4,none,.q (.mov (.t 7)),[]⟩,
  ⟨some 8,none,.q (.ext (.t 4) 0),[]⟩,
  ⟨some 9,none,.q (.ext (.t 4) 1),[]⟩,
  ⟨some 1,none,.alc [.i .i64 0,.i .u64 0,.i .u64 0,.i .u64 0,.i .u64 0,.nil,.i .i64 0,.i .i64 0,.nil,.nil,.nil,.nil,.nil,.nil,.bo false],[]⟩,
  ⟨none,none,.sto 15 (.t 1) (.t 8),[]⟩,
  ⟨some 2,none,.q (.mov (.t 9)),[]⟩])
 (.sq (.sq (.rg [⟨some 10,none,.q (.mov (.t 2)),[]⟩,
  ⟨some 11,none,.q (.un .not (.t 10)),[]⟩,
  ⟨some 12,none,.q (.mov (.t 11)),[]⟩,
  ⟨some 13,some (12,false),.q (.adr 11 (.t 1)),[]⟩,
  ⟨some 14,some (12,false),.ld 1 false (.t 13),[]⟩,
  ⟨some 15,some (12,false),.q (.len (.t 14)),[]⟩,
  ⟨some 16,some (12,false),.q (.bin .neq (.t 15) (.k (.i .i64 1))),[]⟩,
  ⟨some 17,none,.q (.pick (.t 12) (.k (.bo true)) (.t 16)),[]⟩])
 (.cd (.t 17)
  (.sq (.rg [⟨some 0,none,.q (.mov (.k (.bo false))),[]⟩])
   (.rt))
  (.sk)))
 (.sq (.rg [⟨some 18,none,.ld 15 true (.t 1),[]⟩,
  ⟨some 19,none,.pc 17 [(.t 18),(.k (.i .u8 1))],[]⟩,
  ⟨some 3,none,.q (.mov (.t 19)),[]⟩])
 (.sq (.rg [⟨some 20,none,.q (.mov (.t 3)),[]⟩,
  ⟨some 21,none,.q (.len (.t 20)),[]⟩,
  ⟨some 22,none,.q (.bin .eql (.t 21) (.k (.i .i64 1))),[]⟩,
  ⟨some 23,none,.q (.mov (.t 22)),[]⟩,
  ⟨some 25,some (23,true),.q (.mov (.t 3)),[]⟩,
  ⟨some 26,some (23,true),.q (.ixp 5 (.t 25) (.k (.i .i64 0))),[]⟩,
  ⟨some 24,some (23,true),.ld 15 true (.t 1),[]⟩,
  ⟨some 27,some (23,true),.ld 5 true (.t 26),[]⟩,
  ⟨some 28,some (23,true),.pc 12 [(.t 24),(.t 27)],[]⟩,
  ⟨some 29,none,.q (.pick (.t 23) (.t 28) (.k (.bo false))),[]⟩,
  ⟨some 30,none,.q (.mov (.t 29)),[]⟩,
  ⟨some 32,some (30,true),.q (.mov (.t 3)),[]⟩,
  ⟨some 33,some (30,true),.q (.ixp 5 (.t 32) (.k (.i .i64 0))),[]⟩,
  ⟨some 31,some (30,true),.ld 15 true (.t 1),[]⟩,
  ⟨some 34,some (30,true),.ld 5 true (.t 33),[]⟩,
  ⟨some 35,some (30,true),.pc 13 [(.t 31),(.t 34)],[]⟩,
  ⟨some 36,none,.q (.pick (.t 30) (.t 35) (.k (.bo false))),[]⟩,
  ⟨some 0,none,.q (.mov (.t 36)),[]⟩])
 (.rt)))))
def fn8:Fn:={ n:=37,np:=0,res:=[.t 0],body:=c8 }
theorem e8:F 8=some fn8:=by kernel_rfl
def c9:C :=
 .sq (.rg [⟨some 1,none,.box (.t 0),[]⟩,
  ⟨some 2,none,.alc [.i .i64 0,.i .u64 0,.i .u64 0,.i .u64 0,.i .u64 0,.nil,.i .i64 0,.i .i64 0,.nil,.nil,.nil,.nil,.nil,.nil,.bo false],[]⟩,
  ⟨some 3,none,.q (.mov (.k (.bo false))),[]⟩])
 (.sq (.sq (.rg [⟨some 6,none,.ld 8 true (.t 1),[]⟩,
  ⟨some 7,none,.pc 27 [(.t 6),(.k (.i .i64 80))],[]⟩,
  ⟨some 8,none,.q (.bin .gtr (.t 7) (.k (.i .i64 80))),[]⟩])
 (.cd (.t 8)
  (.sq (.rg [⟨some 9,none,.q (.bld [.i .i64 0,.i .u64 0,.i .u64 0,.i .u64 0,.i .u64 0,.nil,.i .i64 0,.i .i64 0,.nil,.nil,.nil,.nil,.nil,.nil,.bo false] []),[]⟩,
    ⟨none,none,.sto 15 (.t 2) (.t 9),[]⟩,
    ⟨some 3,none,.q (.mov (.k (.bo false))),[]⟩])
   (.rt))
  (.sk)))
 (.sq (.rg [⟨some 11,none,.ld 8 true (.t 1),[]⟩,
  ⟨some 12,none,.pc 28 [(.t 11)],[]⟩,
  ⟨some 10,none,.q (.mov (.t 12)),[]⟩,
  ⟨some 13,none,.q (.ext (.t 10) 0),[]⟩,
  ⟨some 14,none,.q (.ext (.t 10) 1),[]⟩,
  ⟨some 4,none,.alc [.i .i64 0,.i .u64 0,.i .u64 0,.i .u64 0,.i .u64 0,.nil,.i .i64 0,.i .i64 0,.nil,.nil,.nil,.nil,.nil,.nil,.bo false],[]⟩,
  ⟨none,none,.sto 15 (.t 4) (.t 13),[]⟩,
  ⟨some 5,none,.q (.mov (.t 14)),[]⟩])
 (.sq (.rg [⟨some 15,none,.ld 15 true (.t 4),[]⟩,
  ⟨some 16,none,.q (.mov (.t 5)),[]⟩,
  ⟨some 17,none,.q (.bin .eql (.t 16) (.k (.i .i64 0))),[]⟩,
  ⟨none,none,.sto 15 (.t 2) (.t 15),[]⟩,
  ⟨some 3,none,.q (.mov (.t 17)),[]⟩])
 (.rt))))
def fn9:Fn:={ n:=18,np:=1,res:=[.c 2 15 true,.t 3],body:=c9 }
theorem e9:F 9=some fn9:=by kernel_rfl
def b10_0:C :=
 .sq (.sq (.rg [⟨some 33,none,.q (.mov (.t 8)),[]⟩,
  ⟨some 34,none,.q (.adr 0 (.t 3)),[]⟩,
  ⟨some 35,none,.q (.adr 10 (.t 34)),[]⟩,
  ⟨some 36,none,.ld 1 false (.t 35),[]⟩,
  ⟨some 37,none,.q (.adr 0 (.t 7)),[]⟩,
  ⟨some 38,none,.ld 1 false (.t 37),[]⟩,
  ⟨some 39,none,.q (.ixp 1 (.t 36) (.t 38)),[]⟩,
  ⟨some 40,none,.ld 1 false (.t 39),[]⟩,
  ⟨some 41,none,.q (.len (.t 40)),[]⟩,
  ⟨some 42,none,.q (.bin .lss (.t 33) (.t 41)),[]⟩,
  ⟨some 43,none,.q (.mov (.t 42)),[]⟩,
  ⟨some 44,some (43,true),.q (.mov (.t 8)),[]⟩,
  ⟨some 45,some (43,true),.q (.bin .lss (.t 44) (.k (.i .i64 4))),[]⟩,
  ⟨some 46,none,.q (.pick (.t 43) (.t 45) (.k (.bo false))),[]⟩])
 (.cd (.t 46)
  (.sk)
  (.ex 0)))
 (.sq (.bk 1 (.sq (.rg [⟨some 49,none,.q (.adr 0 (.t 3)),[]⟩,
  ⟨some 50,none,.q (.adr 9 (.t 49)),[]⟩,
  ⟨some 52,none,.q (.adr 0 (.t 3)),[]⟩,
  ⟨some 53,none,.q (.adr 10 (.t 52)),[]⟩,
  ⟨some 55,none,.q (.adr 0 (.t 7)),[]⟩,
  ⟨some 59,none,.q (.mov (.t 8)),[]⟩,
  ⟨some 51,none,.ld 1 false (.t 50),[]⟩,
  ⟨some 54,none,.ld 1 false (.t 53),[]⟩,
  ⟨some 56,none,.ld 1 false (.t 55),[]⟩,
  ⟨some 57,none,.q (.ixp 1 (.t 54) (.t 56)),[]⟩,
  ⟨some 58,none,.ld 1 false (.t 57),[]⟩,
  ⟨some 60,none,.q (.ixp 1 (.t 58) (.t 59)),[]⟩,
  ⟨some 61,none,.ld 1 false (.t 60),[]⟩,
  ⟨some 62,none,.q (.ixp 2 (.t 51) (.t 61)),[]⟩,
  ⟨some 63,none,.ld 2 true (.t 62),[]⟩,
  ⟨some 9,none,.alc [.i .i64 0,.i .i64 0],[]⟩,
  ⟨none,none,.sto 2 (.t 9) (.t 63),[]⟩])
 (.rg [⟨some 64,none,.q (.mov (.t 8)),[]⟩,
  ⟨some 65,none,.q (.mov (.t 8)),[]⟩,
  ⟨some 66,none,.q (.adr 1 (.t 4)),[]⟩,
  ⟨some 67,none,.q (.ixq 4 1 (.t 66) (.t 65)),[]⟩,
  ⟨some 70,none,.q (.adr 0 (.t 9)),[]⟩,
  ⟨some 72,none,.q (.adr 1 (.t 9)),[]⟩,
  ⟨some 79,none,.q (.adr 1 (.t 7)),[]⟩,
  ⟨some 68,none,.ld 1 false (.t 67),[]⟩,
  ⟨some 69,none,.q (.cv .u64 (.t 68)),[]⟩,
  ⟨some 71,none,.ld 1 false (.t 70),[]⟩,
  ⟨some 73,none,.ld 1 false (.t 72),[]⟩,
  ⟨some 74,none,.q (.mx true (.t 71) (.t 73)),[]⟩,
  ⟨some 75,none,.q (.cv .u64 (.t 74)),[]⟩,
  ⟨some 76,none,.q (.bin .rem (.t 69) (.t 75)),[]⟩,
  ⟨some 77,none,.q (.cv .i64 (.t 76)),[]⟩,
  ⟨some 78,none,.q (.bin .add (.k (.i .i64 1)) (.t 77)),[]⟩,
  ⟨some 80,none,.q (.ixq 4 1 (.t 79) (.t 64)),[]⟩,
  ⟨none,none,.sto 1 (.t 80) (.t 78),[]⟩])))
 (.rg [⟨some 47,none,.q (.mov (.t 8)),[]⟩,
  ⟨some 48,none,.q (.bin .add (.t 47) (.k (.i .i64 1))),[]⟩,
  ⟨some 8,none,.q (.mov (.t 48)),[]⟩]))
def c10:C :=
 .sq (.rg [⟨some 3,none,.box (.t 0),[]⟩,
  ⟨some 4,none,.box (.t 1),[]⟩,
  ⟨some 6,none,.alc [.i .i64 0,.i .i64 0,.i .i64 0,.i .i64 0,.i .i64 0],[]⟩])
 (.sq (.sq (.rg [⟨some 10,none,.q (.mov (.t 2)),[]⟩,
  ⟨some 11,none,.q (.un .not (.t 10)),[]⟩,
  ⟨some 12,none,.q (.mov (.t 11)),[]⟩,
  ⟨some 13,some (12,false),.q (.adr 0 (.t 3)),[]⟩,
  ⟨some 14,some (12,false),.q (.adr 10 (.t 13)),[]⟩,
  ⟨some 15,some (12,false),.ld 1 false (.t 14),[]⟩,
  ⟨some 16,some (12,false),.q (.len (.t 15)),[]⟩,
  ⟨some 17,some (12,false),.q (.bin .lss (.t 16) (.k (.i .i64 2))),[]⟩,
  ⟨some 18,none,.q (.pick (.t 12) (.k (.bo true)) (.t 17)),[]⟩])
 (.cd (.t 18)
  (.sq (.rg [⟨some 19,none,.ld 5 true (.t 4),[]⟩,
    ⟨none,none,.sto 5 (.t 6) (.t 19),[]⟩])
   (.rt))
  (.sk)))
 (.sq (.rg [⟨some 20,none,.q (.adr 0 (.t 4)),[]⟩,
  ⟨some 21,none,.ld 1 false (.t 20),[]⟩,
  ⟨some 22,none,.q (.cv .u64 (.t 21)),[]⟩,
  ⟨some 23,none,.q (.adr 0 (.t 3)),[]⟩,
  ⟨some 24,none,.q (.adr 10 (.t 23)),[]⟩,
  ⟨some 25,none,.ld 1 false (.t 24),[]⟩,
  ⟨some 26,none,.q (.len (.t 25)),[]⟩,
  ⟨some 27,none,.q (.bin .sub (.t 26) (.k (.i .i64 1))),[]⟩,
  ⟨some 28,none,.q (.cv .u64 (.t 27)),[]⟩,
  ⟨some 29,none,.q (.bin .rem (.t 22) (.t 28)),[]⟩,
  ⟨some 30,none,.q (.cv .i64 (.t 29)),[]⟩,
  ⟨some 31,none,.q (.bin .add (.k (.i .i64 1)) (.t 30)),[]⟩,
  ⟨some 32,none,.q (.bld [.i .i64 0,.i .i64 0,.i .i64 0,.i .i64 0,.i .i64 0] [(0,1,(.t 31))]),[]⟩,
  ⟨some 7,none,.alc [.i .i64 0,.i .i64 0,.i .i64 0,.i .i64 0,.i .i64 0],[]⟩,
  ⟨none,none,.sto 5 (.t 7) (.t 32),[]⟩])
 (.sq (.sq (.rg [⟨some 8,none,.q (.mov (.k (.i .i64 0))),[]⟩])
 (.bk 0 (.lp b10_0)))
 (.sq (.rg [⟨some 81,none,.ld 5 true (.t 7),[]⟩,
  ⟨none,none,.sto 5 (.t 6) (.t 81),[]⟩])
 (.rt)))))
def fn10:Fn:={ n:=82,np:=3,res:=[.c 6 5 true],body:=c10 }
theorem e10:F 10=some fn10:=by kernel_rfl
def b11_0:C :=
 .sq (.sq (.rg [⟨some 27,none,.q (.mov (.t 6)),[]⟩,
  ⟨some 28,none,.q (.bin .lss (.t 27) (.k (.i .i64 4))),[]⟩])
 (.cd (.t 28)
  (.sk)
  (.ex 0)))
 (.sq (.bk 1 (.sq (.rg [⟨some 31,none,.q (.mov (.t 6)),[]⟩,
  ⟨some 32,none,.q (.mov (.t 5)),[]⟩,
  ⟨some 33,none,.q (.bin .geq (.t 31) (.t 32)),[]⟩,
  ⟨some 34,none,.q (.mov (.t 33)),[]⟩,
  ⟨some 35,some (34,true),.q (.mov (.t 6)),[]⟩,
  ⟨some 36,some (34,true),.q (.adr 1 (.t 3)),[]⟩,
  ⟨some 37,some (34,true),.q (.ixq 4 1 (.t 36) (.t 35)),[]⟩,
  ⟨some 38,some (34,true),.ld 1 false (.t 37),[]⟩,
  ⟨some 39,some (34,true),.q (.bin .neq (.t 38) (.k (.i .i64 0))),[]⟩,
  ⟨some 40,none,.q (.pick (.t 34) (.t 39) (.k (.bo false))),[]⟩,
  ⟨some 41,none,.q (.mov (.t 40)),[]⟩,
  ⟨some 42,some (41,false),.q (.mov (.t 6)),[]⟩,
  ⟨some 43,some (41,false),.q (.mov (.t 5)),[]⟩,
  ⟨some 44,some (41,false),.q (.bin .lss (.t 42) (.t 43)),[]⟩,
  ⟨some 45,some (41,false),.q (.mov (.t 44)),[]⟩,
  ⟨some 46,some (45,true),.q (.mov (.t 6)),[]⟩,
  ⟨some 47,some (45,true),.q (.adr 1 (.t 3)),[]⟩,
  ⟨some 48,some (45,true),.q (.ixq 4 1 (.t 47) (.t 46)),[]⟩,
  ⟨some 49,some (45,true),.ld 1 false (.t 48),[]⟩,
  ⟨some 50,some (45,true),.q (.bin .lss (.t 49) (.k (.i .i64 1))),[]⟩,
  ⟨some 51,some (45,true),.q (.mov (.t 50)),[]⟩,
  ⟨some 52,some (51,false),.q (.mov (.t 6)),[]⟩,
  ⟨some 53,some (51,false),.q (.adr 1 (.t 3)),[]⟩,
  ⟨some 54,some (51,false),.q (.ixq 4 1 (.t 53) (.t 52)),[]⟩,
  ⟨some 56,some (51,false),.q (.adr 0 (.t 2)),[]⟩,
  ⟨some 57,some (51,false),.q (.adr 9 (.t 56)),[]⟩,
  ⟨some 59,some (51,false),.q (.adr 0 (.t 2)),[]⟩,
  ⟨some 60,some (51,false),.q (.adr 10 (.t 59)),[]⟩,
  ⟨some 62,some (51,false),.q (.adr 0 (.t 3)),[]⟩,
  ⟨some 66,some (51,false),.q (.mov (.t 6)),[]⟩,
  ⟨some 55,some (51,false),.ld 1 false (.t 54),[]⟩,
  ⟨some 58,some (51,false),.ld 1 false (.t 57),[]⟩,
  ⟨some 61,some (51,false),.ld 1 false (.t 60),[]⟩,
  ⟨some 63,some (51,false),.ld 1 false (.t 62),[]⟩,
  ⟨some 64,some (51,false),.q (.ixp 1 (.t 61) (.t 63)),[]⟩,
  ⟨some 65,some (51,false),.ld 1 false (.t 64),[]⟩,
  ⟨some 67,some (51,false),.q (.ixp 1 (.t 65) (.t 66)),[]⟩,
  ⟨some 68,some (51,false),.ld 1 false (.t 67),[]⟩,
  ⟨some 69,some (51,false),.q (.ixp 2 (.t 58) (.t 68)),[]⟩,
  ⟨some 70,some (51,false),.ld 2 true (.t 69),[]⟩,
  ⟨some 71,some (51,false),.pc 29 [(.t 70)],[]⟩,
  ⟨some 72,some (51,false),.q (.bin .gtr (.t 55) (.t 71)),[]⟩,
  ⟨some 73,some (45,true),.q (.pick (.t 51) (.k (.bo true)) (.t 72)),[]⟩,
  ⟨some 74,some (41,false),.q (.pick (.t 45) (.t 73) (.k (.bo false))),[]⟩,
  ⟨some 75,none,.q (.pick (.t 41) (.k (.bo true)) (.t 74)),[]⟩])
 (.cd (.t 75)
  (.sq (.rg [⟨some 4,none,.q (.mov (.k (.bo false))),[]⟩])
   (.rt))
  (.sk))))
 (.rg [⟨some 29,none,.q (.mov (.t 6)),[]⟩,
  ⟨some 30,none,.q (.bin .add (.t 29) (.k (.i .i64 1))),[]⟩,
  ⟨some 6,none,.q (.mov (.t 30)),[]⟩]))
def c11:C :=
 .sq (.rg [⟨some 2,none,.box (.t 0),[]⟩,
  ⟨some 3,none,.box (.t 1),[]⟩,
  ⟨some 4,none,.q (.mov (.k (.bo false))),[]⟩])
 (.sq (.sq (.rg [⟨some 7,none,.q (.adr 0 (.t 3)),[]⟩,
  ⟨some 8,none,.ld 1 false (.t 7),[]⟩,
  ⟨some 9,none,.q (.bin .lss (.t 8) (.k (.i .i64 1))),[]⟩,
  ⟨some 10,none,.q (.mov (.t 9)),[]⟩,
  ⟨some 11,some (10,false),.q (.adr 0 (.t 3)),[]⟩,
  ⟨some 12,some (10,false),.ld 1 false (.t 11),[]⟩,
  ⟨some 13,some (10,false),.q (.adr 0 (.t 2)),[]⟩,
  ⟨some 14,some (10,false),.q (.adr 10 (.t 13)),[]⟩,
  ⟨some 15,some (10,false),.ld 1 false (.t 14),[]⟩,
  ⟨some 16,some (10,false),.q (.len (.t 15)),[]⟩,
  ⟨some 17,some (10,false),.q (.bin .geq (.t 12) (.t 16)),[]⟩,
  ⟨some 18,none,.q (.pick (.t 10) (.k (.bo true)) (.t 17)),[]⟩])
 (.cd (.t 18)
  (.sq (.rg [⟨some 4,none,.q (.mov (.k (.bo false))),[]⟩])
   (.rt))
  (.sk)))
 (.sq (.rg [⟨some 19,none,.q (.adr 0 (.t 2)),[]⟩,
  ⟨some 20,none,.q (.adr 10 (.t 19)),[]⟩,
  ⟨some 21,none,.ld 1 false (.t 20),[]⟩,
  ⟨some 22,none,.q (.adr 0 (.t 3)),[]⟩,
  ⟨some 23,none,.ld 1 false (.t 22),[]⟩,
  ⟨some 24,none,.q (.ixp 1 (.t 21) (.t 23)),[]⟩,
  ⟨some 25,none,.ld 1 false (.t 24),[]⟩,
  ⟨some 26,none,.q (.len (.t 25)),[]⟩,
  ⟨some 5,none,.q (.mov (.t 26)),[]⟩])
 (.sq (.sq (.rg [⟨some 6,none,.q (.mov (.k (.i .i64 0))),[]⟩])
 (.bk 0 (.lp b11_0)))
 (.sq (.rg [⟨some 4,none,.q (.mov (.k (.bo true))),[]⟩])
 (.rt)))))
def fn11:Fn:={ n:=76,np:=2,res:=[.t 4],body:=c11 }
theorem e11:F 11=some fn11:=by kernel_rfl
def b12_0:C :=
 .sq (.rg [⟨some 27,none,.q (.bin .lss (.t 26) (.k (.i .i64 4))),[]⟩])
 (.sq (.cd (.t 27)
  (.sk)
  (.ex 0))
 (.sq (.bk 1 (.sq (.rg [⟨some 28,none,.q (.mov (.t 26)),[]⟩,
  ⟨some 29,none,.q (.ixa 4 1 false (.t 25) (.t 26)),[]⟩,
  ⟨some 6,none,.q (.mov (.t 28)),[]⟩,
  ⟨some 7,none,.q (.mov (.t 29)),[]⟩])
 (.sq (.rg [⟨some 30,none,.q (.mov (.t 6)),[]⟩,
  ⟨some 31,none,.q (.mov (.t 5)),[]⟩,
  ⟨some 32,none,.q (.len (.t 31)),[]⟩,
  ⟨some 33,none,.q (.bin .lss (.t 30) (.t 32)),[]⟩,
  ⟨some 34,none,.q (.mov (.t 33)),[]⟩,
  ⟨some 35,some (34,true),.q (.mov (.t 5)),[]⟩,
  ⟨some 36,some (34,true),.q (.mov (.t 6)),[]⟩,
  ⟨some 37,some (34,true),.q (.ixp 2 (.t 35) (.t 36)),[]⟩,
  ⟨some 38,some (34,true),.ld 2 true (.t 37),[]⟩,
  ⟨some 39,some (34,true),.q (.mov (.t 7)),[]⟩,
  ⟨some 40,some (34,true),.pc 31 [(.t 38),(.t 39)],[]⟩,
  ⟨some 41,some (34,true),.q (.un .not (.t 40)),[]⟩,
  ⟨some 42,none,.q (.pick (.t 34) (.t 41) (.k (.bo false))),[]⟩,
  ⟨some 43,none,.q (.mov (.t 42)),[]⟩,
  ⟨some 44,some (43,false),.q (.mov (.t 6)),[]⟩,
  ⟨some 45,some (43,false),.q (.mov (.t 5)),[]⟩,
  ⟨some 46,some (43,false),.q (.len (.t 45)),[]⟩,
  ⟨some 47,some (43,false),.q (.bin .geq (.t 44) (.t 46)),[]⟩,
  ⟨some 48,some (43,false),.q (.mov (.t 47)),[]⟩,
  ⟨some 49,some (48,true),.q (.mov (.t 7)),[]⟩,
  ⟨some 50,some (48,true),.q (.bin .neq (.t 49) (.k (.i .i64 0))),[]⟩,
  ⟨some 51,some (43,false),.q (.pick (.t 48) (.t 50) (.k (.bo false))),[]⟩,
  ⟨some 52,none,.q (.pick (.t 43) (.k (.bo true)) (.t 51)),[]⟩])
 (.cd (.t 52)
  (.sq (.rg [⟨some 4,none,.q (.mov (.k (.bo false))),[]⟩])
   (.rt))
  (.sk)))))
 (.rg [⟨some 53,none,.q (.bin .add (.t 26) (.k (.i .i64 1))),[]⟩,
  ⟨some 26,none,.q (.mov (.t 53)),[]⟩])))
def c12:C :=
 .sq (.rg [⟨some 2,none,.box (.t 0),[]⟩,
  ⟨some 3,none,.box (.t 1),[]⟩,
  ⟨some 4,none,.q (.mov (.k (.bo false))),[]⟩])
 (.sq (.sq (.rg [⟨some 8,none,.q (.adr 0 (.t 3)),[]⟩,
  ⟨some 9,none,.ld 1 false (.t 8),[]⟩,
  ⟨some 10,none,.q (.bin .lss (.t 9) (.k (.i .i64 1))),[]⟩,
  ⟨some 11,none,.q (.mov (.t 10)),[]⟩,
  ⟨some 12,some (11,false),.q (.adr 0 (.t 3)),[]⟩,
  ⟨some 13,some (11,false),.ld 1 false (.t 12),[]⟩,
  ⟨some 14,some (11,false),.q (.adr 0 (.t 2)),[]⟩,
  ⟨some 15,some (11,false),.q (.adr 10 (.t 14)),[]⟩,
  ⟨some 16,some (11,false),.ld 1 false (.t 15),[]⟩,
  ⟨some 17,some (11,false),.q (.len (.t 16)),[]⟩,
  ⟨some 18,some (11,false),.q (.bin .geq (.t 13) (.t 17)),[]⟩,
  ⟨some 19,none,.q (.pick (.t 11) (.k (.bo true)) (.t 18)),[]⟩])
 (.cd (.t 19)
  (.sq (.rg [⟨some 4,none,.q (.mov (.k (.bo false))),[]⟩])
   (.rt))
  (.sk)))
 (.sq (.rg [⟨some 20,none,.ld 15 true (.t 2),[]⟩,
  ⟨some 21,none,.q (.adr 0 (.t 3)),[]⟩,
  ⟨some 22,none,.ld 1 false (.t 21),[]⟩,
  ⟨some 23,none,.pc 30 [(.t 20),(.t 22)],[]⟩,
  ⟨some 5,none,.q (.mov (.t 23)),[]⟩])
 (.sq (.sq (.rg [⟨some 24,none,.q (.adr 1 (.t 3)),[]⟩,
  ⟨some 25,none,.ld 4 true (.t 24),[]⟩,
  ⟨some 26,none,.q (.mov (.k (.i .i64 0))),[]⟩])
 (.bk 0 (.lp b12_0)))
 (.sq (.rg [⟨some 4,none,.q (.mov (.k (.bo true))),[]⟩])
 (.rt)))))
def fn12:Fn:={ n:=54,np:=2,res:=[.t 4],body:=c12 }
theorem e12:F 12=some fn12:=by kernel_rfl
def c13:C :=
 .sq (.rg [⟨some 2,none,.box (.t 0),[]⟩,
  ⟨some 3,none,.box (.t 1),[]⟩,
  ⟨some 4,none,.q (.mov (.k (.bo false))),[]⟩])
 (.sq (.rg [⟨some 5,none,.ld 15 true (.t 2),[]⟩,
  ⟨some 6,none,.ld 5 true (.t 3),[]⟩,
  ⟨some 7,none,.pc 12 [(.t 5),(.t 6)],[]⟩,
  ⟨some 8,none,.q (.mov (.t 7)),[]⟩,
  ⟨some 9,some (8,true),.q (.adr 13 (.t 2)),[]⟩,
  ⟨some 11,some (8,true),.q (.adr 0 (.t 3)),[]⟩,
  ⟨some 10,some (8,true),.ld 1 false (.t 9),[]⟩,
  ⟨some 12,some (8,true),.ld 1 false (.t 11),[]⟩,
  ⟨some 13,some (8,true),.q (.ixp 1 (.t 10) (.t 12)),[]⟩,
  ⟨some 14,some (8,true),.ld 1 false (.t 13),[]⟩,
  ⟨some 15,none,.q (.pick (.t 8) (.t 14) (.k (.bo false))),[]⟩,
  ⟨some 16,none,.q (.mov (.t 15)),[]⟩,
  ⟨some 18,some (16,true),.q (.adr 0 (.t 3)),[]⟩,
  ⟨some 21,some (16,true),.q (.adr 1 (.t 3)),[]⟩,
  ⟨some 22,some (16,true),.q (.sla 4 (.t 21) none none),[]⟩,
  ⟨some 17,some (16,true),.ld 15 true (.t 2),[]⟩,
  ⟨some 19,some (16,true),.ld 1 false (.t 18),[]⟩,
  ⟨some 20,some (16,true),.pc 30 [(.t 17),(.t 19)],[]⟩,
  ⟨some 23,some (16,true),.pc 32 [(.t 20),(.t 22)],[]⟩,
  ⟨some 24,none,.q (.pick (.t 16) (.t 23) (.k (.bo false))),[]⟩,
  ⟨some 4,none,.q (.mov (.t 24)),[]⟩])
 (.rt))
def fn13:Fn:={ n:=25,np:=2,res:=[.t 4],body:=c13 }
theorem e13:F 13=some fn13:=by kernel_rfl
def b14_0:C :=
 .sq (.sq (.rg [⟨some 6,none,.q (.mov (.t 5)),[]⟩,
  ⟨some 7,none,.q (.adr 0 (.t 2)),[]⟩,
  ⟨some 8,none,.q (.adr 10 (.t 7)),[]⟩,
  ⟨some 9,none,.ld 1 false (.t 8),[]⟩,
  ⟨some 10,none,.q (.adr 0 (.t 3)),[]⟩,
  ⟨some 11,none,.ld 1 false (.t 10),[]⟩,
  ⟨some 12,none,.q (.ixp 1 (.t 9) (.t 11)),[]⟩,
  ⟨some 13,none,.ld 1 false (.t 12),[]⟩,
  ⟨some 14,none,.q (.len (.t 13)),[]⟩,
  ⟨some 15,none,.q (.bin .lss (.t 6) (.t 14)),[]⟩])
 (.cd (.t 15)
  (.sk)
  (.ex 0)))
 (.sq (.bk 1 (.sq (.rg [⟨some 18,none,.q (.mov (.t 5)),[]⟩,
  ⟨some 19,none,.q (.adr 1 (.t 3)),[]⟩,
  ⟨some 20,none,.q (.ixq 4 1 (.t 19) (.t 18)),[]⟩,
  ⟨some 22,none,.q (.adr 0 (.t 2)),[]⟩,
  ⟨some 23,none,.q (.adr 9 (.t 22)),[]⟩,
  ⟨some 25,none,.q (.adr 0 (.t 2)),[]⟩,
  ⟨some 26,none,.q (.adr 10 (.t 25)),[]⟩,
  ⟨some 28,none,.q (.adr 0 (.t 3)),[]⟩,
  ⟨some 32,none,.q (.mov (.t 5)),[]⟩,
  ⟨some 21,none,.ld 1 false (.t 20),[]⟩,
  ⟨some 24,none,.ld 1 false (.t 23),[]⟩,
  ⟨some 27,none,.ld 1 false (.t 26),[]⟩,
  ⟨some 29,none,.ld 1 false (.t 28),[]⟩,
  ⟨some 30,none,.q (.ixp 1 (.t 27) (.t 29)),[]⟩,
  ⟨some 31,none,.ld 1 false (.t 30),[]⟩,
  ⟨some 33,none,.q (.ixp 1 (.t 31) (.t 32)),[]⟩,
  ⟨some 34,none,.ld 1 false (.t 33),[]⟩,
  ⟨some 35,none,.q (.ixp 2 (.t 24) (.t 34)),[]⟩,
  ⟨some 36,none,.q (.adr 0 (.t 35)),[]⟩,
  ⟨some 37,none,.ld 1 false (.t 36),[]⟩,
  ⟨some 38,none,.q (.bin .lss (.t 21) (.t 37)),[]⟩])
 (.cd (.t 38)
  (.sq (.rg [⟨some 4,none,.q (.mov (.k (.bo false))),[]⟩])
   (.rt))
  (.sk))))
 (.rg [⟨some 16,none,.q (.mov (.t 5)),[]⟩,
  ⟨some 17,none,.q (.bin .add (.t 16) (.k (.i .i64 1))),[]⟩,
  ⟨some 5,none,.q (.mov (.t 17)),[]⟩]))
def c14:C :=
 .sq (.rg [⟨some 2,none,.box (.t 0),[]⟩,
  ⟨some 3,none,.box (.t 1),[]⟩,
  ⟨some 4,none,.q (.mov (.k (.bo false))),[]⟩])
 (.sq (.sq (.rg [⟨some 5,none,.q (.mov (.k (.i .i64 0))),[]⟩])
 (.bk 0 (.lp b14_0)))
 (.sq (.rg [⟨some 39,none,.q (.adr 13 (.t 2)),[]⟩,
  ⟨some 40,none,.ld 1 false (.t 39),[]⟩,
  ⟨some 41,none,.q (.adr 0 (.t 3)),[]⟩,
  ⟨some 42,none,.ld 1 false (.t 41),[]⟩,
  ⟨some 43,none,.q (.ixp 1 (.t 40) (.t 42)),[]⟩,
  ⟨some 44,none,.ld 1 false (.t 43),[]⟩,
  ⟨some 4,none,.q (.mov (.t 44)),[]⟩])
 (.rt)))
def fn14:Fn:={ n:=45,np:=2,res:=[.t 4],body:=c14 }
theorem e14:F 14=some fn14:=by kernel_rfl
def c15:C :=
 .sq (.rg [⟨some 2,none,.box (.t 0),[]⟩,
  ⟨some 3,none,.box (.t 1),[]⟩,
  ⟨some 4,none,.q (.mov (.k (.i .i64 0))),[]⟩])
 (.sq (.rg [⟨some 5,none,.q (.adr 0 (.t 2)),[]⟩,
  ⟨some 7,none,.q (.adr 0 (.t 3)),[]⟩,
  ⟨some 10,none,.q (.adr 1 (.t 2)),[]⟩,
  ⟨some 11,none,.q (.sla 4 (.t 10) none none),[]⟩,
  ⟨some 12,none,.q (.adr 1 (.t 3)),[]⟩,
  ⟨some 13,none,.q (.sla 4 (.t 12) none none),[]⟩,
  ⟨some 6,none,.ld 1 false (.t 5),[]⟩,
  ⟨some 8,none,.ld 1 false (.t 7),[]⟩,
  ⟨some 9,none,.pc 34 [(.t 6),(.t 8)],[]⟩,
  ⟨some 14,none,.pc 35 [(.t 11),(.t 13)],[]⟩,
  ⟨some 15,none,.bsl 1 2 [.i .i64 0] [(0,(.t 9)),(1,(.t 14))],[]⟩,
  ⟨some 16,none,.pc 33 [(.t 15)],[]⟩,
  ⟨some 4,none,.q (.mov (.t 16)),[]⟩])
 (.rt))
def fn15:Fn:={ n:=17,np:=2,res:=[.t 4],body:=c15 }
theorem e15:F 15=some fn15:=by kernel_rfl
def b16_0:C :=
 .sq (.sq (.rg [⟨some 38,none,.q (.mov (.t 7)),[]⟩,
  ⟨some 39,none,.q (.bin .lss (.t 38) (.k (.i .i64 5))),[]⟩])
 (.cd (.t 39)
  (.sk)
  (.ex 0)))
 (.sq (.bk 1 (.sq (.sq (.rg [⟨some 42,none,.q (.mov (.t 7)),[]⟩,
  ⟨some 43,none,.q (.ixq 5 1 (.t 5) (.t 42)),[]⟩,
  ⟨some 45,none,.q (.mov (.t 7)),[]⟩,
  ⟨some 46,none,.q (.ixq 5 1 (.t 6) (.t 45)),[]⟩,
  ⟨some 44,none,.ld 1 false (.t 43),[]⟩,
  ⟨some 47,none,.ld 1 false (.t 46),[]⟩,
  ⟨some 48,none,.q (.bin .lss (.t 44) (.t 47)),[]⟩])
 (.cd (.t 48)
  (.sq (.rg [⟨some 4,none,.q (.mov (.k (.i .i64 (-1)))),[]⟩])
   (.rt))
  (.sk)))
 (.sq (.rg [⟨some 49,none,.q (.mov (.t 7)),[]⟩,
  ⟨some 50,none,.q (.ixq 5 1 (.t 5) (.t 49)),[]⟩,
  ⟨some 52,none,.q (.mov (.t 7)),[]⟩,
  ⟨some 53,none,.q (.ixq 5 1 (.t 6) (.t 52)),[]⟩,
  ⟨some 51,none,.ld 1 false (.t 50),[]⟩,
  ⟨some 54,none,.ld 1 false (.t 53),[]⟩,
  ⟨some 55,none,.q (.bin .gtr (.t 51) (.t 54)),[]⟩])
 (.cd (.t 55)
  (.sq (.rg [⟨some 4,none,.q (.mov (.k (.i .i64 1))),[]⟩])
   (.rt))
  (.sk)))))
 (.rg [⟨some 40,none,.q (.mov (.t 7)),[]⟩,
  ⟨some 41,none,.q (.bin .add (.t 40) (.k (.i .i64 1))),[]⟩,
  ⟨some 7,none,.q (.mov (.t 41)),[]⟩]))
def c16:C :=
 .sq (.rg [⟨some 2,none,.box (.t 0),[]⟩,
  ⟨some 3,none,.box (.t 1),[]⟩,
  ⟨some 4,none,.q (.mov (.k (.i .i64 0))),[]⟩])
 (.sq (.rg [⟨some 8,none,.q (.adr 0 (.t 2)),[]⟩,
  ⟨some 9,none,.ld 1 false (.t 8),[]⟩,
  ⟨some 10,none,.q (.adr 1 (.t 2)),[]⟩,
  ⟨some 11,none,.q (.ixq 4 1 (.t 10) (.k (.i .i64 0))),[]⟩,
  ⟨some 12,none,.ld 1 false (.t 11),[]⟩,
  ⟨some 13,none,.q (.adr 1 (.t 2)),[]⟩,
  ⟨some 14,none,.q (.ixq 4 1 (.t 13) (.k (.i .i64 1))),[]⟩,
  ⟨some 15,none,.ld 1 false (.t 14),[]⟩,
  ⟨some 16,none,.q (.adr 1 (.t 2)),[]⟩,
  ⟨some 17,none,.q (.ixq 4 1 (.t 16) (.k (.i .i64 2))),[]⟩,
  ⟨some 18,none,.ld 1 false (.t 17),[]⟩,
  ⟨some 19,none,.q (.adr 1 (.t 2)),[]⟩,
  ⟨some 20,none,.q (.ixq 4 1 (.t 19) (.k (.i .i64 3))),[]⟩,
  ⟨some 21,none,.ld 1 false (.t 20),[]⟩,
  ⟨some 22,none,.q (.bld [.i .i64 0,.i .i64 0,.i .i64 0,.i .i64 0,.i .i64 0] [(0,1,(.t 9)),(1,1,(.t 12)),(2,1,(.t 15)),(3,1,(.t 18)),(4,1,(.t 21))]),[]⟩,
  ⟨some 5,none,.alc [.i .i64 0,.i .i64 0,.i .i64 0,.i .i64 0,.i .i64 0],[]⟩,
  ⟨none,none,.sto 5 (.t 5) (.t 22),[]⟩])
 (.sq (.rg [⟨some 23,none,.q (.adr 0 (.t 3)),[]⟩,
  ⟨some 24,none,.ld 1 false (.t 23),[]⟩,
  ⟨some 25,none,.q (.adr 1 (.t 3)),[]⟩,
  ⟨some 26,none,.q (.ixq 4 1 (.t 25) (.k (.i .i64 0))),[]⟩,
  ⟨some 27,none,.ld 1 false (.t 26),[]⟩,
  ⟨some 28,none,.q (.adr 1 (.t 3)),[]⟩,
  ⟨some 29,none,.q (.ixq 4 1 (.t 28) (.k (.i .i64 1))),[]⟩,
  ⟨some 30,none,.ld 1 false (.t 29),[]⟩,
  ⟨some 31,none,.q (.adr 1 (.t 3)),[]⟩,
  ⟨some 32,none,.q (.ixq 4 1 (.t 31) (.k (.i .i64 2))),[]⟩,
  ⟨some 33,none,.ld 1 false (.t 32),[]⟩,
  ⟨some 34,none,.q (.adr 1 (.t 3)),[]⟩,
  ⟨some 35,none,.q (.ixq 4 1 (.t 34) (.k (.i .i64 3))),[]⟩,
  ⟨some 36,none,.ld 1 false (.t 35),[]⟩,
  ⟨some 37,none,.q (.bld [.i .i64 0,.i .i64 0,.i .i64 0,.i .i64 0,.i .i64 0] [(0,1,(.t 24)),(1,1,(.t 27)),(2,1,(.t 30)),(3,1,(.t 33)),(4,1,(.t 36))]),[]⟩,
  ⟨some 6,none,.alc [.i .i64 0,.i .i64 0,.i .i64 0,.i .i64 0,.i .i64 0],[]⟩,
  ⟨none,none,.sto 5 (.t 6) (.t 37),[]⟩])
 (.sq (.sq (.rg [⟨some 7,none,.q (.mov (.k (.i .i64 0))),[]⟩])
 (.bk 0 (.lp b16_0)))
 (.sq (.rg [⟨some 4,none,.q (.mov (.k (.i .i64 0))),[]⟩])
 (.rt)))))
def fn16:Fn:={ n:=56,np:=2,res:=[.t 4],body:=c16 }
theorem e16:F 16=some fn16:=by kernel_rfl
def b17_0:C :=
 .sq (.rg [⟨some 12,none,.q (.bin .lss (.t 11) (.t 10)),[]⟩])
 (.sq (.cd (.t 12)
  (.sk)
  (.ex 0))
 (.sq (.bk 1 (.sq (.rg [⟨some 13,none,.q (.ixp 1 (.t 9) (.t 11)),[]⟩,
  ⟨some 14,none,.ld 1 false (.t 13),[]⟩,
  ⟨some 7,none,.q (.mov (.t 14)),[]⟩])
 (.sq (.rg [⟨some 15,none,.q (.adr 0 (.t 2)),[]⟩,
  ⟨some 16,none,.q (.adr 8 (.t 15)),[]⟩,
  ⟨some 17,none,.ld 1 false (.t 16),[]⟩,
  ⟨some 18,none,.q (.mov (.t 7)),[]⟩,
  ⟨some 19,none,.q (.ixp 4 (.t 17) (.t 18)),[]⟩,
  ⟨some 20,none,.ld 4 true (.t 19),[]⟩,
  ⟨some 21,none,.q (.mov (.t 1)),[]⟩,
  ⟨some 22,none,.pc 36 [(.t 20),(.t 21)],[]⟩])
 (.cd (.t 22)
  (.rg [⟨some 23,none,.q (.mov (.t 5)),[]⟩,
    ⟨some 24,none,.ld 15 true (.t 2),[]⟩,
    ⟨some 25,none,.q (.mov (.t 7)),[]⟩,
    ⟨some 26,none,.pc 37 [(.t 24),(.t 25),(.k (.nil))],[]⟩,
    ⟨some 27,none,.bsl 5 1 [.i .i64 0,.i .i64 0,.i .i64 0,.i .i64 0,.i .i64 0] [(0,(.t 26))],[]⟩,
    ⟨some 28,none,.app 5 40 (.t 23) (.t 27),[]⟩,
    ⟨some 5,none,.q (.mov (.t 28)),[]⟩])
  (.sk)))))
 (.rg [⟨some 29,none,.q (.bin .add (.t 11) (.k (.i .i64 1))),[]⟩,
  ⟨some 11,none,.q (.mov (.t 29)),[]⟩])))
def c17:C :=
 .sq (.rg [⟨some 2,none,.box (.t 0),[]⟩,
  ⟨some 4,none,.q (.mov (.k (.nil))),[]⟩])
 (.sq (.rg [⟨some 5,none,.q (.mov (.k (.nil))),[]⟩])
 (.sq (.sq (.rg [⟨some 8,none,.q (.adr 11 (.t 2)),[]⟩,
  ⟨some 9,none,.ld 1 false (.t 8),[]⟩,
  ⟨some 10,none,.q (.len (.t 9)),[]⟩,
  ⟨some 11,none,.q (.mov (.k (.i .i64 0))),[]⟩])
 (.bk 0 (.lp b17_0)))
 (.sq (.rg [⟨some 30,none,.q (.mov (.t 5)),[]⟩,
  ⟨some 31,none,.nc 38 [(.t 30)],[]⟩,
  ⟨some 4,none,.q (.mov (.t 31)),[]⟩])
 (.rt))))
def fn17:Fn:={ n:=32,np:=2,res:=[.t 4],body:=c17 }
theorem e17:F 17=some fn17:=by kernel_rfl
def c29:C :=
 .sq (.rg [⟨some 1,none,.box (.t 0),[]⟩,
  ⟨some 2,none,.q (.mov (.k (.i .i64 0))),[]⟩])
 (.sq (.sq (.rg [⟨some 3,none,.q (.adr 1 (.t 1)),[]⟩,
  ⟨some 4,none,.ld 1 false (.t 3),[]⟩,
  ⟨some 5,none,.q (.bin .lss (.t 4) (.k (.i .i64 0))),[]⟩])
 (.cd (.t 5)
  (.sq (.rg [⟨some 6,none,.q (.adr 0 (.t 1)),[]⟩,
    ⟨some 7,none,.ld 1 false (.t 6),[]⟩,
    ⟨some 2,none,.q (.mov (.t 7)),[]⟩])
   (.rt))
  (.sk)))
 (.sq (.rg [⟨some 8,none,.q (.adr 1 (.t 1)),[]⟩,
  ⟨some 9,none,.ld 1 false (.t 8),[]⟩,
  ⟨some 2,none,.q (.mov (.t 9)),[]⟩])
 (.rt)))
def fn29:Fn:={ n:=10,np:=1,res:=[.t 2],body:=c29 }
theorem e29:F 29=some fn29:=by kernel_rfl
def b30_0:C :=
 .sq (.rg [⟨some 16,none,.q (.bin .lss (.t 15) (.t 14)),[]⟩])
 (.sq (.cd (.t 16)
  (.sk)
  (.ex 0))
 (.sq (.bk 1 (.sq (.rg [⟨some 17,none,.q (.ixp 1 (.t 13) (.t 15)),[]⟩,
  ⟨some 18,none,.ld 1 false (.t 17),[]⟩,
  ⟨some 7,none,.q (.mov (.t 18)),[]⟩])
 (.rg [⟨some 19,none,.q (.mov (.t 5)),[]⟩,
  ⟨some 20,none,.q (.adr 0 (.t 2)),[]⟩,
  ⟨some 21,none,.q (.adr 9 (.t 20)),[]⟩,
  ⟨some 22,none,.ld 1 false (.t 21),[]⟩,
  ⟨some 23,none,.q (.mov (.t 7)),[]⟩,
  ⟨some 24,none,.q (.ixp 2 (.t 22) (.t 23)),[]⟩,
  ⟨some 25,none,.ld 2 true (.t 24),[]⟩,
  ⟨some 26,none,.bsl 2 1 [.i .i64 0,.i .i64 0] [(0,(.t 25))],[]⟩,
  ⟨some 27,none,.app 2 16 (.t 19) (.t 26),[]⟩,
  ⟨some 5,none,.q (.mov (.t 27)),[]⟩])))
 (.rg [⟨some 28,none,.q (.bin .add (.t 15) (.k (.i .i64 1))),[]⟩,
  ⟨some 15,none,.q (.mov (.t 28)),[]⟩])))
def c30:C :=
 .sq (.rg [⟨some 2,none,.box (.t 0),[]⟩,
  ⟨some 4,none,.q (.mov (.k (.nil))),[]⟩])
 (.sq (.rg [⟨some 5,none,.q (.mov (.k (.nil))),[]⟩])
 (.sq (.sq (.rg [⟨some 8,none,.q (.adr 0 (.t 2)),[]⟩,
  ⟨some 9,none,.q (.adr 10 (.t 8)),[]⟩,
  ⟨some 10,none,.ld 1 false (.t 9),[]⟩,
  ⟨some 11,none,.q (.mov (.t 1)),[]⟩,
  ⟨some 12,none,.q (.ixp 1 (.t 10) (.t 11)),[]⟩,
  ⟨some 13,none,.ld 1 false (.t 12),[]⟩,
  ⟨some 14,none,.q (.len (.t 13)),[]⟩,
  ⟨some 15,none,.q (.mov (.k (.i .i64 0))),[]⟩])
 (.bk 0 (.lp b30_0)))
 (.sq (.rg [⟨some 29,none,.q (.mov (.t 5)),[]⟩,
  ⟨some 4,none,.q (.mov (.t 29)),[]⟩])
 (.rt))))
def fn30:Fn:={ n:=30,np:=2,res:=[.t 4],body:=c30 }
theorem e30:F 30=some fn30:=by kernel_rfl
def c31:C :=
 .sq (.rg [⟨some 2,none,.box (.t 0),[]⟩,
  ⟨some 4,none,.q (.mov (.k (.bo false))),[]⟩])
 (.sq (.sq (.rg [⟨some 5,none,.q (.adr 1 (.t 2)),[]⟩,
  ⟨some 6,none,.ld 1 false (.t 5),[]⟩,
  ⟨some 7,none,.q (.bin .eql (.t 6) (.k (.i .i64 (-1)))),[]⟩])
 (.cd (.t 7)
  (.sq (.rg [⟨some 8,none,.q (.mov (.t 1)),[]⟩,
    ⟨some 9,none,.q (.bin .geq (.t 8) (.k (.i .i64 1))),[]⟩,
    ⟨some 10,none,.q (.mov (.t 9)),[]⟩,
    ⟨some 11,some (10,true),.q (.mov (.t 1)),[]⟩,
    ⟨some 12,some (10,true),.q (.adr 0 (.t 2)),[]⟩,
    ⟨some 13,some (10,true),.ld 1 false (.t 12),[]⟩,
    ⟨some 14,some (10,true),.q (.bin .leq (.t 11) (.t 13)),[]⟩,
    ⟨some 15,none,.q (.pick (.t 10) (.t 14) (.k (.bo false))),[]⟩,
    ⟨some 4,none,.q (.mov (.t 15)),[]⟩])
   (.rt))
  (.sk)))
 (.sq (.rg [⟨some 16,none,.q (.mov (.t 1)),[]⟩,
  ⟨some 17,none,.q (.bin .geq (.t 16) (.k (.i .i64 1))),[]⟩,
  ⟨some 18,none,.q (.mov (.t 17)),[]⟩,
  ⟨some 19,some (18,true),.q (.mov (.t 1)),[]⟩,
  ⟨some 20,some (18,true),.q (.adr 1 (.t 2)),[]⟩,
  ⟨some 21,some (18,true),.ld 1 false (.t 20),[]⟩,
  ⟨some 22,some (18,true),.q (.bin .leq (.t 19) (.t 21)),[]⟩,
  ⟨some 23,none,.q (.pick (.t 18) (.t 22) (.k (.bo false))),[]⟩,
  ⟨some 4,none,.q (.mov (.t 23)),[]⟩])
 (.rt)))
def fn31:Fn:={ n:=24,np:=2,res:=[.t 4],body:=c31 }
theorem e31:F 31=some fn31:=by kernel_rfl
def b32_0:C :=
 .sq (.rg [⟨some 10,none,.q (.bin .lss (.t 9) (.t 8)),[]⟩])
 (.sq (.cd (.t 10)
  (.sk)
  (.ex 0))
 (.sq (.bk 1 (.sq (.rg [⟨some 11,none,.q (.mov (.t 9)),[]⟩,
  ⟨some 12,none,.q (.ixp 2 (.t 7) (.t 9)),[]⟩,
  ⟨some 13,none,.ld 2 true (.t 12),[]⟩,
  ⟨some 6,none,.alc [.i .i64 0,.i .i64 0],[]⟩,
  ⟨some 5,none,.q (.mov (.t 11)),[]⟩,
  ⟨none,none,.sto 2 (.t 6) (.t 13),[]⟩])
 (.sq (.rg [⟨some 15,none,.q (.mov (.t 1)),[]⟩,
  ⟨some 16,none,.q (.mov (.t 5)),[]⟩,
  ⟨some 17,none,.q (.ixp 1 (.t 15) (.t 16)),[]⟩,
  ⟨some 14,none,.ld 2 true (.t 6),[]⟩,
  ⟨some 18,none,.ld 1 false (.t 17),[]⟩,
  ⟨some 19,none,.pc 54 [(.t 14),(.t 18)],[]⟩,
  ⟨some 20,none,.q (.un .not (.t 19)),[]⟩])
 (.cd (.t 20)
  (.sq (.rg [⟨some 4,none,.q (.mov (.k (.bo false))),[]⟩])
   (.rt))
  (.sk)))))
 (.rg [⟨some 21,none,.q (.bin .add (.t 9) (.k (.i .i64 1))),[]⟩,
  ⟨some 9,none,.q (.mov (.t 21)),[]⟩])))
def c32:C :=
 .sq (.rg [⟨some 4,none,.q (.mov (.k (.bo false))),[]⟩])
 (.sq (.sq (.rg [⟨some 7,none,.q (.mov (.t 0)),[]⟩,
  ⟨some 8,none,.q (.len (.t 7)),[]⟩,
  ⟨some 9,none,.q (.mov (.k (.i .i64 0))),[]⟩])
 (.bk 0 (.lp b32_0)))
 (.sq (.rg [⟨some 4,none,.q (.mov (.k (.bo true))),[]⟩])
 (.rt)))
def fn32:Fn:={ n:=22,np:=2,res:=[.t 4],body:=c32 }
theorem e32:F 32=some fn32:=by kernel_rfl
def b35_0:C :=
 .sq (.rg [⟨some 12,none,.q (.bin .lss (.t 11) (.t 10)),[]⟩])
 (.sq (.cd (.t 12)
  (.sk)
  (.ex 0))
 (.sq (.bk 1 (.sq (.rg [⟨some 13,none,.q (.mov (.t 11)),[]⟩,
  ⟨some 14,none,.q (.ixp 1 (.t 9) (.t 11)),[]⟩,
  ⟨some 15,none,.ld 1 false (.t 14),[]⟩,
  ⟨some 5,none,.q (.mov (.t 13)),[]⟩,
  ⟨some 6,none,.q (.mov (.t 15)),[]⟩])
 (.sq (.sq (.rg [⟨some 16,none,.q (.mov (.t 5)),[]⟩,
  ⟨some 17,none,.q (.mov (.t 1)),[]⟩,
  ⟨some 18,none,.q (.len (.t 17)),[]⟩,
  ⟨some 19,none,.q (.bin .geq (.t 16) (.t 18)),[]⟩])
 (.cd (.t 19)
  (.sq (.rg [⟨some 4,none,.q (.mov (.k (.i .i64 1))),[]⟩])
   (.rt))
  (.sk)))
 (.sq (.rg [⟨some 20,none,.q (.mov (.t 1)),[]⟩,
  ⟨some 21,none,.q (.mov (.t 5)),[]⟩,
  ⟨some 22,none,.q (.ixp 1 (.t 20) (.t 21)),[]⟩,
  ⟨some 23,none,.ld 1 false (.t 22),[]⟩,
  ⟨some 7,none,.q (.mov (.t 23)),[]⟩])
 (.sq (.rg [⟨some 24,none,.q (.mov (.t 6)),[]⟩,
  ⟨some 25,none,.q (.mov (.t 7)),[]⟩,
  ⟨some 26,none,.pc 56 [(.t 24),(.t 25)],[]⟩,
  ⟨some 8,none,.q (.mov (.t 26)),[]⟩])
 (.sq (.rg [⟨some 27,none,.q (.mov (.t 8)),[]⟩,
  ⟨some 28,none,.q (.bin .neq (.t 27) (.k (.i .i64 0))),[]⟩])
 (.cd (.t 28)
  (.sq (.rg [⟨some 29,none,.q (.mov (.t 8)),[]⟩,
    ⟨some 4,none,.q (.mov (.t 29)),[]⟩])
   (.rt))
  (.sk))))))))
 (.rg [⟨some 30,none,.q (.bin .add (.t 11) (.k (.i .i64 1))),[]⟩,
  ⟨some 11,none,.q (.mov (.t 30)),[]⟩])))
def c35:C :=
 .sq (.rg [⟨some 4,none,.q (.mov (.k (.i .i64 0))),[]⟩])
 (.sq (.sq (.rg [⟨some 9,none,.q (.mov (.t 0)),[]⟩,
  ⟨some 10,none,.q (.len (.t 9)),[]⟩,
  ⟨some 11,none,.q (.mov (.k (.i .i64 0))),[]⟩])
 (.bk 0 (.lp b35_0)))
 (.sq (.sq (.rg [⟨some 31,none,.q (.mov (.t 0)),[]⟩,
  ⟨some 32,none,.q (.len (.t 31)),[]⟩,
  ⟨some 33,none,.q (.mov (.t 1)),[]⟩,
  ⟨some 34,none,.q (.len (.t 33)),[]⟩,
  ⟨some 35,none,.q (.bin .lss (.t 32) (.t 34)),[]⟩])
 (.cd (.t 35)
  (.sq (.rg [⟨some 4,none,.q (.mov (.k (.i .i64 (-1)))),[]⟩])
   (.rt))
  (.sk)))
 (.sq (.rg [⟨some 4,none,.q (.mov (.k (.i .i64 0))),[]⟩])
 (.rt))))
def fn35:Fn:={ n:=36,np:=2,res:=[.t 4],body:=c35 }
theorem e35:F 35=some fn35:=by kernel_rfl
def c36:C :=
 .sq (.rg [⟨some 2,none,.box (.t 0),[]⟩,
  ⟨some 4,none,.q (.mov (.k (.bo false))),[]⟩])
 (.sq (.rg [⟨some 5,none,.q (.mov (.t 1)),[]⟩,
  ⟨some 6,none,.q (.bin .shr (.t 5) (.k (.i .u64 6))),[]⟩,
  ⟨some 7,none,.q (.ixq 4 1 (.t 2) (.t 6)),[]⟩,
  ⟨some 8,none,.ld 1 false (.t 7),[]⟩,
  ⟨some 9,none,.q (.mov (.t 1)),[]⟩,
  ⟨some 10,none,.q (.bin .and (.t 9) (.k (.i .u8 63))),[]⟩,
  ⟨some 11,none,.q (.bin .shr (.t 8) (.t 10)),[]⟩,
  ⟨some 12,none,.q (.bin .and (.t 11) (.k (.i .u64 1))),[]⟩,
  ⟨some 13,none,.q (.bin .eql (.t 12) (.k (.i .u64 1))),[]⟩,
  ⟨some 4,none,.q (.mov (.t 13)),[]⟩])
 (.rt))
def fn36:Fn:={ n:=14,np:=2,res:=[.t 4],body:=c36 }
theorem e36:F 36=some fn36:=by kernel_rfl
def b37_0:C :=
 .sq (.rg [⟨some 19,none,.q (.bin .lss (.t 18) (.t 17)),[]⟩])
 (.sq (.cd (.t 19)
  (.sk)
  (.ex 0))
 (.sq (.bk 1 (.sq (.rg [⟨some 20,none,.q (.mov (.t 18)),[]⟩,
  ⟨some 8,none,.q (.mov (.t 20)),[]⟩])
 (.rg [⟨some 21,none,.q (.mov (.t 8)),[]⟩,
  ⟨some 22,none,.q (.adr 1 (.t 7)),[]⟩,
  ⟨some 23,none,.q (.ixq 4 1 (.t 22) (.t 21)),[]⟩,
  ⟨none,none,.sto 1 (.t 23) (.k (.i .i64 1)),[]⟩])))
 (.rg [⟨some 24,none,.q (.bin .add (.t 18) (.k (.i .i64 1))),[]⟩,
  ⟨some 18,none,.q (.mov (.t 24)),[]⟩])))
def c37:C :=
 .sq (.rg [⟨some 3,none,.box (.t 0),[]⟩,
  ⟨some 6,none,.alc [.i .i64 0,.i .i64 0,.i .i64 0,.i .i64 0,.i .i64 0],[]⟩])
 (.sq (.rg [⟨some 9,none,.q (.mov (.t 1)),[]⟩,
  ⟨some 10,none,.q (.bld [.i .i64 0,.i .i64 0,.i .i64 0,.i .i64 0,.i .i64 0] [(0,1,(.t 9))]),[]⟩,
  ⟨some 7,none,.alc [.i .i64 0,.i .i64 0,.i .i64 0,.i .i64 0,.i .i64 0],[]⟩,
  ⟨none,none,.sto 5 (.t 7) (.t 10),[]⟩])
 (.sq (.sq (.rg [⟨some 11,none,.q (.adr 0 (.t 3)),[]⟩,
  ⟨some 12,none,.q (.adr 10 (.t 11)),[]⟩,
  ⟨some 13,none,.ld 1 false (.t 12),[]⟩,
  ⟨some 14,none,.q (.mov (.t 1)),[]⟩,
  ⟨some 15,none,.q (.ixp 1 (.t 13) (.t 14)),[]⟩,
  ⟨some 16,none,.ld 1 false (.t 15),[]⟩,
  ⟨some 17,none,.q (.len (.t 16)),[]⟩,
  ⟨some 18,none,.q (.mov (.k (.i .i64 0))),[]⟩])
 (.bk 0 (.lp b37_0)))
 (.sq (.rg [⟨some 25,none,.q (.adr 1 (.t 7)),[]⟩,
  ⟨some 26,none,.q (.sla 4 (.t 25) none none),[]⟩,
  ⟨some 27,none,.q (.mov (.t 2)),[]⟩,
  ⟨some 28,none,.cpy 1 (.t 26) (.t 27),[]⟩])
 (.sq (.rg [⟨some 29,none,.ld 5 true (.t 7),[]⟩,
  ⟨none,none,.sto 5 (.t 6) (.t 29),[]⟩])
 (.rt)))))
def fn37:Fn:={ n:=30,np:=3,res:=[.c 6 5 true],body:=c37 }
theorem e37:F 37=some fn37:=by kernel_rfl
def c38:C :=
 .sq (.rg [⟨some 2,none,.q (.mov (.k (.nil))),[]⟩])
 (.sq (.rg [⟨some 3,none,.q (.mov (.t 0)),[]⟩,
  ⟨some 4,none,.nc 57 [(.t 3),(.k (.fn 15 []))],[]⟩])
 (.sq (.rg [⟨some 5,none,.q (.mov (.t 0)),[]⟩,
  ⟨some 6,none,.nc 58 [(.t 5)],[]⟩,
  ⟨some 2,none,.q (.mov (.t 6)),[]⟩])
 (.rt)))
def fn38:Fn:={ n:=7,np:=1,res:=[.t 2],body:=c38 }
theorem e38:F 38=some fn38:=by kernel_rfl
def c54:C :=
 .sq (.rg [⟨some 2,none,.box (.t 0),[]⟩,
  ⟨some 4,none,.q (.mov (.k (.bo false))),[]⟩])
 (.sq (.rg [⟨some 5,none,.q (.mov (.t 1)),[]⟩,
  ⟨some 6,none,.q (.adr 0 (.t 2)),[]⟩,
  ⟨some 7,none,.ld 1 false (.t 6),[]⟩,
  ⟨some 8,none,.q (.bin .geq (.t 5) (.t 7)),[]⟩,
  ⟨some 4,none,.q (.mov (.t 8)),[]⟩])
 (.rt))
def fn54:Fn:={ n:=9,np:=2,res:=[.t 4],body:=c54 }
theorem e54:F 54=some fn54:=by kernel_rfl
def c56:C :=
 .sq (.rg [⟨some 4,none,.q (.mov (.k (.i .i64 0))),[]⟩])
 (.sq (.rg [⟨some 7,none,.q (.mov (.t 0)),[]⟩,
  ⟨some 8,none,.pc 78 [(.t 7)],[]⟩,
  ⟨some 5,none,.q (.mov (.t 8)),[]⟩])
 (.sq (.rg [⟨some 9,none,.q (.mov (.t 1)),[]⟩,
  ⟨some 10,none,.pc 78 [(.t 9)],[]⟩,
  ⟨some 6,none,.q (.mov (.t 10)),[]⟩])
 (.sq (.sq (.rg [⟨some 11,none,.q (.mov (.t 5)),[]⟩])
 (.cd (.t 11)
  (.sq (.sq (.rg [⟨some 12,none,.q (.mov (.t 6)),[]⟩])
   (.cd (.t 12)
    (.sq (.rg [⟨some 4,none,.q (.mov (.k (.i .i64 0))),[]⟩])
     (.rt))
    (.sk)))
   (.sq (.rg [⟨some 4,none,.q (.mov (.k (.i .i64 (-1)))),[]⟩])
   (.rt)))
  (.sk)))
 (.sq (.sq (.rg [⟨some 13,none,.q (.mov (.t 6)),[]⟩])
 (.cd (.t 13)
  (.sq (.rg [⟨some 4,none,.q (.mov (.k (.i .i64 1))),[]⟩])
   (.rt))
  (.sk)))
 (.sq (.sq (.rg [⟨some 14,none,.q (.mov (.t 0)),[]⟩,
  ⟨some 15,none,.q (.mov (.t 1)),[]⟩,
  ⟨some 16,none,.q (.bin .lss (.t 14) (.t 15)),[]⟩])
 (.cd (.t 16)
  (.sq (.rg [⟨some 4,none,.q (.mov (.k (.i .i64 (-1)))),[]⟩])
   (.rt))
  (.sk)))
 (.sq (.sq (.rg [⟨some 17,none,.q (.mov (.t 0)),[]⟩,
  ⟨some 18,none,.q (.mov (.t 1)),[]⟩,
  ⟨some 19,none,.q (.bin .gtr (.t 17) (.t 18)),[]⟩])
 (.cd (.t 19)
  (.sq (.rg [⟨some 4,none,.q (.mov (.k (.i .i64 1))),[]⟩])
   (.rt))
  (.sk)))
 (.sq (.rg [⟨some 4,none,.q (.mov (.k (.i .i64 0))),[]⟩])
 (.rt))))))))
def fn56:Fn:={ n:=20,np:=2,res:=[.t 4],body:=c56 }
theorem e56:F 56=some fn56:=by kernel_rfl
def b58_0:C :=
 .sq (.sq (.rg [⟨some 29,none,.q (.mov (.t 5)),[]⟩,
  ⟨some 30,none,.q (.mov (.t 4)),[]⟩,
  ⟨some 31,none,.q (.len (.t 30)),[]⟩,
  ⟨some 32,none,.q (.bin .lss (.t 29) (.t 31)),[]⟩])
 (.cd (.t 32)
  (.sk)
  (.ex 2)))
 (.sq (.bk 3 (.sq (.rg [⟨some 35,none,.q (.mov (.t 4)),[]⟩,
  ⟨some 36,none,.q (.mov (.t 5)),[]⟩,
  ⟨some 37,none,.q (.ixp 5 (.t 35) (.t 36)),[]⟩,
  ⟨some 39,none,.q (.mov (.t 4)),[]⟩,
  ⟨some 40,none,.q (.mov (.t 5)),[]⟩,
  ⟨some 41,none,.q (.bin .sub (.t 40) (.k (.i .i64 1))),[]⟩,
  ⟨some 42,none,.q (.ixp 5 (.t 39) (.t 41)),[]⟩,
  ⟨some 38,none,.ld 5 true (.t 37),[]⟩,
  ⟨some 43,none,.ld 5 true (.t 42),[]⟩,
  ⟨some 44,none,.q (.eqp true true [.i .i64,.i .i64,.i .i64,.i .i64,.i .i64] (.t 38) (.t 43)),[]⟩])
 (.cd (.t 44)
  (.sq (.rg [⟨some 45,none,.q (.mov (.t 0)),[]⟩,
    ⟨some 46,none,.q (.mov (.t 3)),[]⟩,
    ⟨some 47,none,.q (.mov (.t 4)),[]⟩,
    ⟨some 48,none,.q (.mov (.t 5)),[]⟩,
    ⟨some 49,none,.q (.ixp 5 (.t 47) (.t 48)),[]⟩,
    ⟨some 50,none,.ld 5 true (.t 49),[]⟩,
    ⟨some 51,none,.q (.ixp 5 (.t 45) (.t 46)),[]⟩,
    ⟨none,none,.sto 5 (.t 51) (.t 50),[]⟩])
   (.rg [⟨some 52,none,.q (.mov (.t 3)),[]⟩,
    ⟨some 53,none,.q (.bin .add (.t 52) (.k (.i .i64 1))),[]⟩,
    ⟨some 3,none,.q (.mov (.t 53)),[]⟩]))
  (.sk))))
 (.rg [⟨some 33,none,.q (.mov (.t 5)),[]⟩,
  ⟨some 34,none,.q (.bin .add (.t 33) (.k (.i .i64 1))),[]⟩,
  ⟨some 5,none,.q (.mov (.t 34)),[]⟩]))
def b58_1:C :=
 .sq (.sq (.rg [⟨some 10,none,.q (.mov (.t 3)),[]⟩,
  ⟨some 11,none,.q (.mov (.t 0)),[]⟩,
  ⟨some 12,none,.q (.len (.t 11)),[]⟩,
  ⟨some 13,none,.q (.bin .lss (.t 10) (.t 12)),[]⟩])
 (.cd (.t 13)
  (.sk)
  (.ex 0)))
 (.sq (.bk 1 (.sq (.rg [⟨some 16,none,.q (.mov (.t 0)),[]⟩,
  ⟨some 17,none,.q (.mov (.t 3)),[]⟩,
  ⟨some 18,none,.q (.ixp 5 (.t 16) (.t 17)),[]⟩,
  ⟨some 20,none,.q (.mov (.t 0)),[]⟩,
  ⟨some 21,none,.q (.mov (.t 3)),[]⟩,
  ⟨some 22,none,.q (.bin .sub (.t 21) (.k (.i .i64 1))),[]⟩,
  ⟨some 23,none,.q (.ixp 5 (.t 20) (.t 22)),[]⟩,
  ⟨some 19,none,.ld 5 true (.t 18),[]⟩,
  ⟨some 24,none,.ld 5 true (.t 23),[]⟩,
  ⟨some 25,none,.q (.eqp false true [.i .i64,.i .i64,.i .i64,.i .i64,.i .i64] (.t 19) (.t 24)),[]⟩])
 (.cd (.t 25)
  (.sq (.rg [⟨some 26,none,.q (.mov (.t 0)),[]⟩,
    ⟨some 27,none,.q (.mov (.t 3)),[]⟩,
    ⟨some 28,none,.q (.slc 5 (.t 26) (some (.t 27)) none none),[]⟩,
    ⟨some 4,none,.q (.mov (.t 28)),[]⟩])
   (.sq (.sq (.rg [⟨some 5,none,.q (.mov (.k (.i .i64 1))),[]⟩])
   (.bk 2 (.lp b58_0)))
   (.sq (.rg [⟨some 54,none,.q (.mov (.t 0)),[]⟩,
    ⟨some 55,none,.q (.mov (.t 3)),[]⟩,
    ⟨some 56,none,.q (.slc 5 (.t 54) (some (.t 55)) none none),[]⟩,
    ⟨none,none,.clr [.i .i64 0,.i .i64 0,.i .i64 0,.i .i64 0,.i .i64 0] (.t 56),[]⟩])
   (.sq (.rg [⟨some 57,none,.q (.mov (.t 0)),[]⟩,
    ⟨some 58,none,.q (.mov (.t 3)),[]⟩,
    ⟨some 59,none,.q (.slc 5 (.t 57) none (some (.t 58)) none),[]⟩,
    ⟨some 2,none,.q (.mov (.t 59)),[]⟩])
   (.rt)))))
  (.sk))))
 (.rg [⟨some 14,none,.q (.mov (.t 3)),[]⟩,
  ⟨some 15,none,.q (.bin .add (.t 14) (.k (.i .i64 1))),[]⟩,
  ⟨some 3,none,.q (.mov (.t 15)),[]⟩]))
def c58:C :=
 .sq (.rg [⟨some 2,none,.q (.mov (.k (.nil))),[]⟩])
 (.sq (.sq (.rg [⟨some 6,none,.q (.mov (.t 0)),[]⟩,
  ⟨some 7,none,.q (.len (.t 6)),[]⟩,
  ⟨some 8,none,.q (.bin .lss (.t 7) (.k (.i .i64 2))),[]⟩])
 (.cd (.t 8)
  (.sq (.rg [⟨some 9,none,.q (.mov (.t 0)),[]⟩,
    ⟨some 2,none,.q (.mov (.t 9)),[]⟩])
   (.rt))
  (.sk)))
 (.sq (.sq (.rg [⟨some 3,none,.q (.mov (.k (.i .i64 1))),[]⟩])
 (.bk 0 (.lp b58_1)))
 (.sq (.rg [⟨some 60,none,.q (.mov (.t 0)),[]⟩,
  ⟨some 2,none,.q (.mov (.t 60)),[]⟩])
 (.rt))))
def fn58:Fn:={ n:=61,np:=1,res:=[.t 2],body:=c58 }
theorem e58:F 58=some fn58:=by kernel_rfl
def c59:C :=
 .sq (.rg [⟨some 2,none,.q (.mov (.k (.nil))),[]⟩])
 (.sq (.sq (.rg [⟨some 3,none,.q (.mov (.t 0)),[]⟩,
  ⟨some 4,none,.isz false (.t 3),[]⟩])
 (.cd (.t 4)
  (.sq (.rg [⟨some 2,none,.q (.mov (.k (.nil))),[]⟩])
   (.rt))
  (.sk)))
 (.sq (.rg [⟨some 5,none,.bsl 1 0 [.i .i64 0] [],[]⟩,
  ⟨some 6,none,.q (.mov (.t 0)),[]⟩,
  ⟨some 7,none,.app 1 8 (.t 5) (.t 6),[]⟩,
  ⟨some 2,none,.q (.mov (.t 7)),[]⟩])
 (.rt)))
def fn59:Fn:={ n:=8,np:=1,res:=[.t 2],body:=c59 }
theorem e59:F 59=some fn59:=by kernel_rfl
def c60:C :=
 .sq (.rg [⟨some 2,none,.box (.t 0),[]⟩,
  ⟨some 4,none,.q (.mov (.k (.i .i64 0))),[]⟩,
  ⟨some 5,none,.q (.mov (.k (.bo false))),[]⟩])
 (.sq (.bk 0 (.sq (.rg [⟨some 7,none,.q (.adr 1 (.t 2)),[]⟩,
  ⟨some 8,none,.ld 1 false (.t 7),[]⟩,
  ⟨some 9,none,.q (.bin .eql (.t 8) (.k (.i .i64 (-1)))),[]⟩,
  ⟨some 6,none,.q (.mov (.t 9)),[]⟩])
 (.cd (.t 6)
  (.sq (.rg [⟨some 10,none,.q (.mov (.t 1)),[]⟩,
    ⟨some 11,none,.q (.adr 0 (.t 2)),[]⟩,
    ⟨some 12,none,.ld 1 false (.t 11),[]⟩,
    ⟨some 13,none,.q (.bin .sub (.t 12) (.k (.i .i64 1))),[]⟩,
    ⟨some 14,none,.q (.mx false (.t 10) (.t 13)),[]⟩,
    ⟨some 15,none,.q (.bin .add (.t 14) (.k (.i .i64 1))),[]⟩,
    ⟨some 4,none,.q (.mov (.t 15)),[]⟩,
    ⟨some 5,none,.q (.mov (.k (.bo true))),[]⟩])
   (.rt))
  (.sq (.rg [⟨some 17,none,.q (.mov (.t 1)),[]⟩,
    ⟨some 18,none,.q (.adr 1 (.t 2)),[]⟩,
    ⟨some 19,none,.ld 1 false (.t 18),[]⟩,
    ⟨some 20,none,.q (.bin .geq (.t 17) (.t 19)),[]⟩,
    ⟨some 16,none,.q (.mov (.t 20)),[]⟩])
   (.cd (.t 16)
    (.sq (.rg [⟨some 4,none,.q (.mov (.k (.i .i64 0))),[]⟩,
      ⟨some 5,none,.q (.mov (.k (.bo false))),[]⟩])
     (.rt))
    (.sk))))))
 (.sq (.rg [⟨some 21,none,.q (.mov (.t 1)),[]⟩,
  ⟨some 22,none,.q (.bin .add (.t 21) (.k (.i .i64 1))),[]⟩,
  ⟨some 4,none,.q (.mov (.t 22)),[]⟩,
  ⟨some 5,none,.q (.mov (.k (.bo true))),[]⟩])
 (.rt)))
def fn60:Fn:={ n:=23,np:=2,res:=[.t 4,.t 5],body:=c60 }
theorem e60:F 60=some fn60:=by kernel_rfl
def c78:C :=
 .sq (.rg [⟨some 2,none,.q (.mov (.k (.bo false))),[]⟩])
 (.sq (.rg [⟨some 3,none,.q (.mov (.t 0)),[]⟩,
  ⟨some 4,none,.q (.mov (.t 0)),[]⟩,
  ⟨some 5,none,.q (.bin .neq (.t 3) (.t 4)),[]⟩,
  ⟨some 2,none,.q (.mov (.t 5)),[]⟩])
 (.rt))
def fn78:Fn:={ n:=6,np:=1,res:=[.t 2],body:=c78 }
theorem e78:F 78=some fn78:=by kernel_rfl
end Go.Proofs.YtgiedknghbpdfaaGreat
