import Derived.Test.YtocmjakchgcioaaGreatBs

namespace Go.Proofs.YtocmjakchgcioaaGreat
set_option linter.all false
def imL:List (Nat × Nat × Nat):=[(10,(1,2)),(10,(2,1)),(10,(2,2)),(11,(3,4)),(20,(6,4)),(20,(7,3)),(22,(1,1)),(22,(2,2)),(25,(1,2)),(41,(5,5)),(40,(8,1)),(67,(12,1)),(19,(5,3)),(19,(7,2)),(19,(20,1)),(66,(1,1)),(66,(2,1)),(102,(2,4)),(34,(5,2)),(35,(8,4)),(35,(10,4)),(35,(12,3)),(54,(3,6)),(54,(6,1)),(54,(11,3)),(58,(5,3)),(58,(6,6)),(58,(8,5)),(58,(10,5)),(59,(5,3)),(59,(6,5)),(59,(7,5)),(60,(5,6)),(60,(7,7)),(75,(12,5)),(75,(12,6)),(80,(9,1)),(117,(6,4)),(54,(6,7)),(20,(8,2)),(8,(2,9)),(8,(2,14))]
def im (f r i:Nat):Bool:=imL.contains (f,r,i)
noncomputable def F:En:=enOf Tryz.prog im bsL Bas
abbrev S1 (d:Nat) (q:Q):Stp:=⟨some d,none,.q q,[]⟩
abbrev S2 (d:Nat) (i:I):Stp:=⟨some d,none,i,[]⟩
abbrev S3 (i:I):Stp:=⟨none,none,i,[]⟩
abbrev S4 (d t:Nat) (p:Bool) (i:I):Stp:=⟨some d,some (t,p),i,[]⟩
abbrev S5 (d t:Nat) (p:Bool) (q:Q):Stp:=⟨some d,some (t,p),.q q,[]⟩
abbrev S6 (d x:Nat):Stp:=⟨some d,none,.ld 1 false (.t x),[]⟩
abbrev S7 (d x:Nat):Stp:=⟨some d,none,.q (.mov (.t x)),[]⟩
abbrev S8 (d a x:Nat):Stp:=⟨some d,none,.q (.adr a (.t x)),[]⟩
def b6_0:C :=
 .sq (.sq (.rg [S7 57 11,
  S7 58 10,
  S1 59 (.len (.t 58)),
  S1 60 (.bin .lss (.t 57) (.t 59))])
 (.cd (.t 60)
  (.sk)
  (.ex 2)))
 (.sq (.bk 3 (.sq (.rg [S7 63 8,
  S7 64 10,
  S7 65 11,
  S1 66 (.ixp 5 (.t 64) (.t 65)),
  S2 67 (.ld 5 true (.t 66)),
  S2 68 (.pc 14 [(.t 63),(.t 67)]),
  S1 69 (.un .not (.t 68))])
 (.cd (.t 69)
  (.rg [S7 70 8,
    S7 71 10,
    S7 72 11,
    S1 73 (.ixp 5 (.t 71) (.t 72)),
    S2 74 (.ld 5 true (.t 73)),
    S2 75 (.bsl 5 1 [.i .i64 0,.i .i64 0,.i .i64 0,.i .i64 0,.i .i64 0] [(0,(.t 74))]),
    S2 76 (.app 5 40 (.t 70) (.t 75)),
    S7 8 76])
  (.sk))))
 (.rg [S7 61 11,
  S1 62 (.bin .add (.t 61) (.k (.i .i64 1))),
  S7 11 62]))
def b6_1:C :=
 .sq (.sq (.rg [S7 39 9,
  S7 40 7,
  S1 41 (.len (.t 40)),
  S1 42 (.bin .lss (.t 39) (.t 41))])
 (.cd (.t 42)
  (.sk)
  (.ex 0)))
 (.sq (.bk 1 (.sq (.rg [S7 46 7,
  S7 47 9,
  S1 48 (.ixp 5 (.t 46) (.t 47)),
  S7 50 1,
  S7 51 1,
  S1 52 (.len (.t 51)),
  S1 53 (.bin .sub (.t 52) (.k (.i .i64 1))),
  S1 54 (.ixp 1 (.t 50) (.t 53)),
  S2 45 (.ld 15 true (.t 5)),
  S2 49 (.ld 5 true (.t 48)),
  S6 55 54,
  S2 56 (.pc 13 [(.t 45),(.t 49),(.t 55)]),
  S7 10 56])
 (.sq (.rg [S1 11 (.mov (.k (.i .i64 0)))])
 (.bk 2 (.lp b6_0)))))
 (.rg [S7 43 9,
  S1 44 (.bin .add (.t 43) (.k (.i .i64 1))),
  S7 9 44]))
def c6:C :=
 .sq (.rg [S2 2 (.box (.t 0)),
  S1 4 (.mov (.k (.bo false)))])
 (.sq (.sq (.rg [S2 12 (.pc 8 []),
  S1 13 (.un .not (.t 12)),
  S7 14 13,
  S5 15 14 false (.mov (.t 1)),
  S5 16 14 false (.len (.t 15)),
  S5 17 14 false (.bin .gtr (.t 16) (.k (.i .i64 40))),
  S1 18 (.pick (.t 14) (.k (.bo true)) (.t 17)),
  S7 19 18,
  S5 20 19 false (.mov (.t 1)),
  S5 21 19 false (.len (.t 20)),
  S5 22 19 false (.bin .lss (.t 21) (.k (.i .i64 2))),
  S1 23 (.pick (.t 19) (.k (.bo true)) (.t 22))])
 (.cd (.t 23)
  (.sq (.rg [S2 24 (.pc 8 []),
    S7 4 24])
   (.rt))
  (.sk)))
 (.sq (.rg [S2 26 (.ld 8 true (.t 2)),
  S2 27 (.pc 9 [(.t 26)]),
  S7 25 27,
  S1 28 (.ext (.t 25) 0),
  S1 29 (.ext (.t 25) 1),
  S2 5 (.alc [.i .i64 0,.i .u64 0,.i .u64 0,.i .u64 0,.i .u64 0,.nil,.i .i64 0,.i .i64 0,.nil,.nil,.nil,.nil,.nil,.nil,.bo false]),
  S3 (.sto 15 (.t 5) (.t 28)),
  S7 6 29])
 (.sq (.sq (.rg [S7 30 6,
  S1 31 (.un .not (.t 30))])
 (.cd (.t 31)
  (.sq (.rg [S1 4 (.mov (.k (.bo true)))])
   (.rt))
  (.sk)))
 (.sq (.rg [S7 33 1,
  S7 34 1,
  S1 35 (.len (.t 34)),
  S1 36 (.bin .sub (.t 35) (.k (.i .i64 1))),
  S1 37 (.slc 1 (.t 33) none (some (.t 36)) none),
  S2 32 (.ld 15 true (.t 5)),
  S2 38 (.pc 10 [(.t 32),(.t 37)]),
  S7 7 38])
 (.sq (.rg [S1 8 (.mov (.k (.nil)))])
 (.sq (.sq (.rg [S1 9 (.mov (.k (.i .i64 0)))])
 (.bk 0 (.lp b6_1)))
 (.sq (.rg [S2 77 (.ld 15 true (.t 5)),
  S7 78 1,
  S2 79 (.pc 10 [(.t 77),(.t 78)]),
  S7 80 8,
  S2 81 (.pc 15 [(.t 79),(.t 80)]),
  S7 4 81])
 (.rt))))))))
def fn6:Fn:={ n:=82,np:=2,res:=[.t 4],body:=c6 }
theorem e6:F 6=some fn6:=by kernel_rfl
def c8:C :=
 .sq (.rg [S1 0 (.mov (.k (.bo false)))])
 (.sq (.rg [S1 4 (.bld [.i .u64 0,.i .u64 0,.i .u64 0,.i .u64 0] [(0,1,(.k (.i .u64 2)))]),
  S1 5 (.bld [.i .i64 0,.i .u64 0,.i .u64 0,.i .u64 0,.i .u64 0,.nil,.i .i64 0,.i .i64 0] [(0,1,(.k (.i .i64 1))),(1,4,(.t 4))]),
  S2 6 (.pc 9 [(.t 5)]),
  S7 3 6,
  S1 7 (.ext (.t 3) 0),
  S1 8 (.ext (.t 3) 1),
  S2 1 (.alc [.i .i64 0,.i .u64 0,.i .u64 0,.i .u64 0,.i .u64 0,.nil,.i .i64 0,.i .i64 0,.nil,.nil,.nil,.nil,.nil,.nil,.bo false]),
  S3 (.sto 15 (.t 1) (.t 7)),
  S7 2 8])
 (.sq (.rg [S7 9 2,
  S7 10 9,
  S5 11 10 true (.adr 11 (.t 1)),
  S4 12 10 true (.ld 1 false (.t 11)),
  S5 13 10 true (.len (.t 12)),
  S5 14 10 true (.bin .eql (.t 13) (.k (.i .i64 1))),
  S1 15 (.pick (.t 10) (.t 14) (.k (.bo false))),
  S7 16 15,
  S4 17 16 true (.ld 15 true (.t 1)),
  S5 18 16 true (.lit 1 1 [.i .u8 0] [(0,(.k (.i .u8 1)))]),
  S4 19 16 true (.pc 11 [(.t 17),(.t 18)]),
  S1 20 (.pick (.t 16) (.t 19) (.k (.bo false))),
  S7 21 20,
  S4 22 21 true (.ld 15 true (.t 1)),
  S5 23 21 true (.lit 1 1 [.i .u8 0] [(0,(.k (.i .u8 1)))]),
  S4 24 21 true (.pc 10 [(.t 22),(.t 23)]),
  S5 25 21 true (.len (.t 24)),
  S5 26 21 true (.bin .eql (.t 25) (.k (.i .i64 1))),
  S1 27 (.pick (.t 21) (.t 26) (.k (.bo false))),
  S7 0 27])
 (.rt)))
def fn8:Fn:={ n:=28,np:=0,res:=[.t 0],body:=c8 }
theorem e8:F 8=some fn8:=by kernel_rfl
def c10:C :=
 .sq (.rg [S2 2 (.box (.t 0)),
  S1 4 (.mov (.k (.nil)))])
 (.sq (.rg [S2 6 (.ld 15 true (.t 2)),
  S7 7 1,
  S2 8 (.nc 20 [(.t 6),(.t 7),(.k (.fn 21 []))]),
  S7 5 8])
 (.sq (.rg [S7 9 5,
  S2 10 (.nc 23 [(.t 9)]),
  S2 11 (.nc 22 [(.t 10),(.k (.fn 24 []))]),
  S7 4 11])
 (.rt)))
def fn10:Fn:={ n:=12,np:=2,res:=[.t 4],body:=c10 }
theorem e10:F 10=some fn10:=by kernel_rfl
def c11:C :=
 .sq (.rg [S2 2 (.box (.t 0)),
  S1 4 (.mov (.k (.bo false)))])
 (.sq (.sq (.rg [S7 5 1,
  S1 6 (.len (.t 5)),
  S1 7 (.bin .eql (.t 6) (.k (.i .i64 0)))])
 (.cd (.t 7)
  (.sq (.rg [S8 8 14 2,
    S6 9 8,
    S7 4 9])
   (.rt))
  (.sk)))
 (.sq (.rg [S2 10 (.ld 15 true (.t 2)),
  S7 11 1,
  S2 12 (.pc 10 [(.t 10),(.t 11)]),
  S1 13 (.mkf 26 [(.t 2)]),
  S2 14 (.nc 25 [(.t 12),(.t 13)]),
  S7 4 14])
 (.rt)))
def fn11:Fn:={ n:=15,np:=2,res:=[.t 4],body:=c11 }
theorem e11:F 11=some fn11:=by kernel_rfl
def QiO:C :=
 .sq (.sq (.rg [S7 12 8,
  S8 13 12 3,
  S6 14 13,
  S8 15 0 4,
  S6 16 15,
  S1 17 (.ixp 1 (.t 14) (.t 16)),
  S6 18 17,
  S1 19 (.len (.t 18)),
  S1 20 (.bin .lss (.t 12) (.t 19))])
 (.cd (.t 20)
  (.sk)
  (.ex 0)))
 (.sq (.bk 1 (.sq (.rg [S8 23 12 3,
  S6 24 23,
  S8 25 0 4,
  S6 26 25,
  S1 27 (.ixp 1 (.t 24) (.t 26)),
  S6 28 27,
  S7 29 8,
  S1 30 (.ixp 3 (.t 28) (.t 29)),
  S2 31 (.ld 3 true (.t 30)),
  S2 9 (.alc [.i .i64 0,.i .i64 0,.bo false]),
  S3 (.sto 3 (.t 9) (.t 31))])
 (.sq (.rg [S2 33 (.ld 15 true (.t 3)),
  S2 34 (.ld 5 true (.t 4)),
  S2 35 (.ld 3 true (.t 9)),
  S2 36 (.pc 29 [(.t 33),(.t 34),(.t 35)]),
  S7 32 36,
  S1 37 (.ext (.t 32) 0),
  S1 38 (.ext (.t 32) 1),
  S2 10 (.alc [.i .i64 0,.i .i64 0,.i .i64 0,.i .i64 0,.i .i64 0]),
  S3 (.sto 5 (.t 10) (.t 37)),
  S7 11 38])
 (.sq (.rg [S7 39 11,
  S7 40 39,
  S5 41 40 true (.adr 0 (.t 3)),
  S5 42 40 true (.adr 8 (.t 41)),
  S4 43 40 true (.ld 1 false (.t 42)),
  S5 44 40 true (.adr 0 (.t 9)),
  S4 45 40 true (.ld 1 false (.t 44)),
  S5 46 40 true (.ixp 4 (.t 43) (.t 45)),
  S4 47 40 true (.ld 4 true (.t 46)),
  S5 48 40 true (.mov (.t 2)),
  S5 49 40 true (.cv .i64 (.t 48)),
  S4 50 40 true (.pc 30 [(.t 47),(.t 49)]),
  S1 51 (.pick (.t 40) (.t 50) (.k (.bo false))),
  S7 52 51,
  S5 53 52 true (.mov (.t 7)),
  S4 54 52 true (.ld 5 true (.t 10)),
  S4 55 52 true (.pc 14 [(.t 53),(.t 54)]),
  S5 56 52 true (.un .not (.t 55)),
  S1 57 (.pick (.t 52) (.t 56) (.k (.bo false)))])
 (.cd (.t 57)
  (.rg [S7 58 7,
    S2 59 (.ld 5 true (.t 10)),
    S2 60 (.bsl 5 1 [.i .i64 0,.i .i64 0,.i .i64 0,.i .i64 0,.i .i64 0] [(0,(.t 59))]),
    S2 61 (.app 5 40 (.t 58) (.t 60)),
    S7 7 61])
  (.sk))))))
 (.rg [S7 21 8,
  S1 22 (.bin .add (.t 21) (.k (.i .i64 1))),
  S7 8 22]))
def c13:C :=
 .sq (.rg [S2 3 (.box (.t 0)),
  S2 4 (.box (.t 1)),
  S1 6 (.mov (.k (.nil)))])
 (.sq (.rg [S1 7 (.mov (.k (.nil)))])
 (.sq (.sq (.rg [S1 8 (.mov (.k (.i .i64 0)))])
 (.bk 0 (.lp QiO)))
 (.sq (.rg [S7 62 7,
  S7 6 62])
 (.rt))))
def fn13:Fn:={ n:=63,np:=3,res:=[.t 6],body:=c13 }
theorem e13:F 13=some fn13:=by kernel_rfl
def QjF:C :=
 .sq (.sq (.rg [S7 6 5,
  S7 7 0,
  S1 8 (.len (.t 7)),
  S1 9 (.bin .lss (.t 6) (.t 8))])
 (.cd (.t 9)
  (.sk)
  (.ex 0)))
 (.sq (.bk 1 (.sq (.rg [S7 12 0,
  S7 13 5,
  S1 14 (.ixp 5 (.t 12) (.t 13)),
  S2 15 (.ld 5 true (.t 14)),
  S2 16 (.ld 5 true (.t 3)),
  S1 17 (.eqp false true [.i .i64,.i .i64,.i .i64,.i .i64,.i .i64] (.t 15) (.t 16))])
 (.cd (.t 17)
  (.sq (.rg [S1 4 (.mov (.k (.bo true)))])
   (.rt))
  (.sk))))
 (.rg [S7 10 5,
  S1 11 (.bin .add (.t 10) (.k (.i .i64 1))),
  S7 5 11]))
def c14:C :=
 .sq (.rg [S2 3 (.box (.t 1)),
  S1 4 (.mov (.k (.bo false)))])
 (.sq (.sq (.rg [S1 5 (.mov (.k (.i .i64 0)))])
 (.bk 0 (.lp QjF)))
 (.sq (.rg [S1 4 (.mov (.k (.bo false)))])
 (.rt)))
def fn14:Fn:={ n:=18,np:=2,res:=[.t 4],body:=c14 }
theorem e14:F 14=some fn14:=by kernel_rfl
def Qkt:C :=
 .sq (.sq (.rg [S7 11 5,
  S7 12 0,
  S1 13 (.len (.t 12)),
  S1 14 (.bin .lss (.t 11) (.t 13))])
 (.cd (.t 14)
  (.sk)
  (.ex 0)))
 (.sq (.bk 1 (.sq (.rg [S7 17 1,
  S7 18 0,
  S7 19 5,
  S1 20 (.ixp 5 (.t 18) (.t 19)),
  S2 21 (.ld 5 true (.t 20)),
  S2 22 (.pc 14 [(.t 17),(.t 21)]),
  S1 23 (.un .not (.t 22)),
  S7 24 23,
  S5 25 24 false (.mov (.t 5)),
  S5 26 24 false (.bin .gtr (.t 25) (.k (.i .i64 0))),
  S5 27 24 false (.mov (.t 26)),
  S5 28 27 true (.mov (.t 0)),
  S5 29 27 true (.mov (.t 5)),
  S5 30 27 true (.bin .sub (.t 29) (.k (.i .i64 1))),
  S5 31 27 true (.ixp 5 (.t 28) (.t 30)),
  S5 33 27 true (.mov (.t 0)),
  S5 34 27 true (.mov (.t 5)),
  S5 35 27 true (.ixp 5 (.t 33) (.t 34)),
  S4 32 27 true (.ld 5 true (.t 31)),
  S4 36 27 true (.ld 5 true (.t 35)),
  S4 37 27 true (.pc 31 [(.t 32),(.t 36)]),
  S5 38 27 true (.bin .geq (.t 37) (.k (.i .i64 0))),
  S5 39 24 false (.pick (.t 27) (.t 38) (.k (.bo false))),
  S1 40 (.pick (.t 24) (.k (.bo true)) (.t 39))])
 (.cd (.t 40)
  (.sq (.rg [S1 4 (.mov (.k (.bo false)))])
   (.rt))
  (.sk))))
 (.rg [S7 15 5,
  S1 16 (.bin .add (.t 15) (.k (.i .i64 1))),
  S7 5 16]))
def c15:C :=
 .sq (.rg [S1 4 (.mov (.k (.bo false)))])
 (.sq (.sq (.rg [S7 6 0,
  S1 7 (.len (.t 6)),
  S7 8 1,
  S1 9 (.len (.t 8)),
  S1 10 (.bin .neq (.t 7) (.t 9))])
 (.cd (.t 10)
  (.sq (.rg [S1 4 (.mov (.k (.bo false)))])
   (.rt))
  (.sk)))
 (.sq (.sq (.rg [S1 5 (.mov (.k (.i .i64 0)))])
 (.bk 0 (.lp Qkt)))
 (.sq (.rg [S1 4 (.mov (.k (.bo true)))])
 (.rt))))
def fn15:Fn:={ n:=41,np:=2,res:=[.t 4],body:=c15 }
theorem e15:F 15=some fn15:=by kernel_rfl
def Qjw:C :=
 .sq (.rg [S1 14 (.bin .lss (.t 13) (.t 12))])
 (.sq (.cd (.t 14)
  (.sk)
  (.ex 0))
 (.sq (.bk 1 (.sq (.rg [S7 15 13,
  S1 16 (.ixp 1 (.t 11) (.t 13)),
  S6 17 16,
  S7 8 15,
  S7 9 17])
 (.sq (.sq (.rg [S7 18 8,
  S1 19 (.bin .eql (.t 18) (.k (.i .i64 0)))])
 (.cd (.t 19)
  (.rg [S7 20 7,
    S2 21 (.ld 15 true (.t 3)),
    S7 22 9,
    S2 23 (.pc 40 [(.t 21),(.t 22)]),
    S2 24 (.nc 39 [(.t 20),(.t 23)])])
  (.rg [S7 25 7,
    S2 26 (.ld 15 true (.t 3)),
    S7 27 9,
    S2 28 (.nc 41 [(.t 25),(.t 26),(.t 27)]),
    S7 7 28])))
 (.rg [S7 29 2,
  S7 30 7,
  S2 31 (.nv (.t 29) [(.t 30)])]))))
 (.rg [S1 32 (.bin .add (.t 13) (.k (.i .i64 1))),
  S7 13 32])))
def c20:C :=
 .sq (.rg [S2 3 (.box (.t 0)),
  S1 6 (.mov (.k (.nm)))])
 (.sq (.rg [S2 10 (.mkm),
  S7 7 10])
 (.sq (.sq (.rg [S7 11 1,
  S1 12 (.len (.t 11)),
  S1 13 (.mov (.k (.i .i64 0)))])
 (.bk 0 (.lp Qjw)))
 (.sq (.rg [S7 33 7,
  S7 6 33])
 (.rt))))
def fn20:Fn:={ n:=34,np:=3,res:=[.t 6],body:=c20 }
theorem e20:F 20=some fn20:=by kernel_rfl
def c21:C :=
 .sk
def fn21:Fn:={ n:=2,np:=1,res:=[],body:=c21 }
theorem e21:F 21=some fn21:=by kernel_rfl
def c22:C :=
 .sq (.rg [S1 4 (.mov (.k (.nil)))])
 (.sq (.rg [S7 6 0,
  S2 7 (.nc 42 [(.t 6)]),
  S7 5 7])
 (.sq (.rg [S7 8 5,
  S7 9 1,
  S2 10 (.nc 43 [(.t 8),(.t 9)])])
 (.sq (.rg [S7 11 5,
  S7 4 11])
 (.rt))))
def fn22:Fn:={ n:=12,np:=2,res:=[.t 4],body:=c22 }
theorem e22:F 22=some fn22:=by kernel_rfl
def c23:C :=
 .sq (.rg [S2 1 (.box (.t 0)),
  S1 2 (.mov (.k (.nf)))])
 (.sq (.rg [S1 3 (.mkf 44 [(.t 1)]),
  S7 2 3])
 (.rt))
def fn23:Fn:={ n:=4,np:=1,res:=[.t 2],body:=c23 }
theorem e23:F 23=some fn23:=by kernel_rfl
def c25:C :=
 .sq (.rg [S1 4 (.mov (.k (.bo false)))])
 (.sq (.rg [S7 5 0,
  S7 6 1,
  S2 7 (.nc 48 [(.t 5),(.t 6)]),
  S1 8 (.bin .geq (.t 7) (.k (.i .i64 0))),
  S7 4 8])
 (.rt))
def fn25:Fn:={ n:=9,np:=2,res:=[.t 4],body:=c25 }
theorem e25:F 25=some fn25:=by kernel_rfl
def c26:C :=
 .sq (.rg [S2 2 (.box (.t 0)),
  S1 3 (.mov (.k (.bo false)))])
 (.sq (.rg [S2 4 (.ld 15 true (.t 1)),
  S2 5 (.ld 5 true (.t 2)),
  S2 6 (.pc 27 [(.t 4),(.t 5)]),
  S7 3 6])
 (.rt))
def fn26:Fn:={ n:=7,np:=2,res:=[.t 3],body:=c26 }
theorem e26:F 26=some fn26:=by kernel_rfl
def c27:C :=
 .sq (.rg [S2 2 (.box (.t 0)),
  S2 3 (.box (.t 1)),
  S1 4 (.mov (.k (.bo false)))])
 (.sq (.rg [S2 5 (.ld 15 true (.t 2)),
  S2 6 (.ld 5 true (.t 3)),
  S2 7 (.pc 49 [(.t 5),(.t 6)]),
  S7 8 7,
  S5 9 8 true (.adr 13 (.t 2)),
  S5 11 8 true (.adr 0 (.t 3)),
  S4 10 8 true (.ld 1 false (.t 9)),
  S4 12 8 true (.ld 1 false (.t 11)),
  S5 13 8 true (.ixp 1 (.t 10) (.t 12)),
  S4 14 8 true (.ld 1 false (.t 13)),
  S1 15 (.pick (.t 8) (.t 14) (.k (.bo false))),
  S7 16 15,
  S5 18 16 true (.adr 0 (.t 3)),
  S5 21 16 true (.adr 1 (.t 3)),
  S5 22 16 true (.sla 4 (.t 21) none none),
  S4 17 16 true (.ld 15 true (.t 2)),
  S4 19 16 true (.ld 1 false (.t 18)),
  S4 20 16 true (.pc 51 [(.t 17),(.t 19)]),
  S4 23 16 true (.pc 50 [(.t 20),(.t 22)]),
  S1 24 (.pick (.t 16) (.t 23) (.k (.bo false))),
  S7 4 24])
 (.rt))
def fn27:Fn:={ n:=25,np:=2,res:=[.t 4],body:=c27 }
theorem e27:F 27=some fn27:=by kernel_rfl
def QjI:C :=
 .sq (.sq (.rg [S7 15 9,
  S8 16 0 3,
  S8 17 10 16,
  S6 18 17,
  S8 19 0 5,
  S6 20 19,
  S1 21 (.ixp 1 (.t 18) (.t 20)),
  S6 22 21,
  S1 23 (.len (.t 22)),
  S1 24 (.bin .lss (.t 15) (.t 23))])
 (.cd (.t 24)
  (.sk)
  (.ex 0)))
 (.sq (.bk 1 (.rg [S7 27 9,
  S8 28 1 8,
  S1 29 (.ixq 4 1 (.t 28) (.t 27)),
  S3 (.sto 1 (.t 29) (.k (.i .i64 1)))]))
 (.rg [S7 25 9,
  S1 26 (.bin .add (.t 25) (.k (.i .i64 1))),
  S7 9 26]))
def Qik:C :=
 .sq (.sq (.rg [S7 30 10,
  S8 31 0 3,
  S8 32 10 31,
  S6 33 32,
  S8 34 0 4,
  S6 35 34,
  S1 36 (.ixp 1 (.t 33) (.t 35)),
  S6 37 36,
  S1 38 (.len (.t 37)),
  S1 39 (.bin .lss (.t 30) (.t 38))])
 (.cd (.t 39)
  (.sk)
  (.ex 2)))
 (.sq (.bk 3 (.sq (.rg [S8 42 0 3,
  S8 43 9 42,
  S8 45 0 3,
  S8 46 10 45,
  S8 48 0 4,
  S7 52 10,
  S6 44 43,
  S6 47 46,
  S6 49 48,
  S1 50 (.ixp 1 (.t 47) (.t 49)),
  S6 51 50,
  S1 53 (.ixp 1 (.t 51) (.t 52)),
  S6 54 53,
  S1 55 (.ixp 2 (.t 44) (.t 54)),
  S2 56 (.ld 2 true (.t 55)),
  S2 11 (.alc [.i .i64 0,.i .i64 0]),
  S3 (.sto 2 (.t 11) (.t 56))])
 (.sq (.sq (.rg [S7 57 10,
  S8 58 1 5,
  S6 59 58,
  S1 60 (.bin .lss (.t 57) (.t 59))])
 (.cd (.t 60)
  (.sq (.rg [S7 61 10,
    S7 62 10,
    S8 63 1 4,
    S1 64 (.ixq 4 1 (.t 63) (.t 62)),
    S6 65 64,
    S8 66 1 8,
    S1 67 (.ixq 4 1 (.t 66) (.t 61)),
    S3 (.sto 1 (.t 67) (.t 65))])
   (.ex 3))
  (.sk)))
 (.sq (.sq (.rg [S7 68 10,
  S8 69 1 5,
  S6 70 69,
  S1 71 (.bin .eql (.t 68) (.t 70)),
  S7 72 71,
  S5 73 72 true (.adr 2 (.t 5)),
  S4 74 72 true (.ld 1 false (.t 73)),
  S1 75 (.pick (.t 72) (.t 74) (.k (.bo false)))])
 (.cd (.t 75)
  (.sq (.sq (.rg [S7 76 10,
    S8 77 1 4,
    S1 78 (.ixq 4 1 (.t 77) (.t 76)),
    S6 79 78,
    S2 80 (.ld 2 true (.t 11)),
    S2 81 (.pc 52 [(.t 80)]),
    S1 82 (.bin .eql (.t 79) (.t 81)),
    S7 83 82,
    S5 84 83 true (.adr 1 (.t 11)),
    S4 85 83 true (.ld 1 false (.t 84)),
    S5 86 83 true (.bin .geq (.t 85) (.k (.i .i64 0))),
    S1 87 (.pick (.t 83) (.t 86) (.k (.bo false)))])
   (.cd (.t 87)
    (.sq (.rg [S1 88 (.bld [.i .i64 0,.i .i64 0,.i .i64 0,.i .i64 0,.i .i64 0] []),
      S3 (.sto 5 (.t 6) (.t 88)),
      S1 7 (.mov (.k (.bo false)))])
     (.rt))
    (.sk)))
   (.sq (.rg [S7 89 10,
    S7 90 10,
    S8 91 1 4,
    S1 92 (.ixq 4 1 (.t 91) (.t 90)),
    S8 98 1 8,
    S6 93 92,
    S1 94 (.bin .add (.t 93) (.k (.i .i64 1))),
    S2 95 (.ld 2 true (.t 11)),
    S2 96 (.pc 52 [(.t 95)]),
    S1 97 (.mx false (.t 94) (.t 96)),
    S1 99 (.ixq 4 1 (.t 98) (.t 89)),
    S3 (.sto 1 (.t 99) (.t 97))])
   (.ex 3)))
  (.sk)))
 (.sq (.rg [S7 100 10,
  S8 101 1 4,
  S1 102 (.ixq 4 1 (.t 101) (.t 100)),
  S8 104 0 11,
  S6 103 102,
  S6 105 104,
  S1 106 (.bin .lss (.t 103) (.t 105))])
 (.cd (.t 106)
  (.sq (.rg [S1 107 (.bld [.i .i64 0,.i .i64 0,.i .i64 0,.i .i64 0,.i .i64 0] []),
    S3 (.sto 5 (.t 6) (.t 107)),
    S1 7 (.mov (.k (.bo false)))])
   (.rt))
  (.sk)))))))
 (.rg [S7 40 10,
  S1 41 (.bin .add (.t 40) (.k (.i .i64 1))),
  S7 10 41]))
def c29:C :=
 .sq (.rg [S2 3 (.box (.t 0)),
  S2 4 (.box (.t 1)),
  S2 5 (.box (.t 2)),
  S2 6 (.alc [.i .i64 0,.i .i64 0,.i .i64 0,.i .i64 0,.i .i64 0]),
  S1 7 (.mov (.k (.bo false)))])
 (.sq (.rg [S8 12 0 5,
  S6 13 12,
  S1 14 (.bld [.i .i64 0,.i .i64 0,.i .i64 0,.i .i64 0,.i .i64 0] [(0,1,(.t 13))]),
  S2 8 (.alc [.i .i64 0,.i .i64 0,.i .i64 0,.i .i64 0,.i .i64 0]),
  S3 (.sto 5 (.t 8) (.t 14))])
 (.sq (.sq (.rg [S1 9 (.mov (.k (.i .i64 0)))])
 (.bk 0 (.lp QjI)))
 (.sq (.sq (.rg [S1 10 (.mov (.k (.i .i64 0)))])
 (.bk 2 (.lp Qik)))
 (.sq (.rg [S2 108 (.ld 5 true (.t 8)),
  S3 (.sto 5 (.t 6) (.t 108)),
  S1 7 (.mov (.k (.bo true)))])
 (.rt)))))
def fn29:Fn:={ n:=109,np:=3,res:=[.c 6 5 true,.t 7],body:=c29 }
theorem e29:F 29=some fn29:=by kernel_rfl
def QiK:C :=
 .sq (.sq (.rg [S7 38 7,
  S1 39 (.bin .lss (.t 38) (.k (.i .i64 5)))])
 (.cd (.t 39)
  (.sk)
  (.ex 0)))
 (.sq (.bk 1 (.sq (.sq (.rg [S7 42 7,
  S1 43 (.ixq 5 1 (.t 5) (.t 42)),
  S7 45 7,
  S1 46 (.ixq 5 1 (.t 6) (.t 45)),
  S6 44 43,
  S6 47 46,
  S1 48 (.bin .lss (.t 44) (.t 47))])
 (.cd (.t 48)
  (.sq (.rg [S1 4 (.mov (.k (.i .i64 (-1))))])
   (.rt))
  (.sk)))
 (.sq (.rg [S7 49 7,
  S1 50 (.ixq 5 1 (.t 5) (.t 49)),
  S7 52 7,
  S1 53 (.ixq 5 1 (.t 6) (.t 52)),
  S6 51 50,
  S6 54 53,
  S1 55 (.bin .gtr (.t 51) (.t 54))])
 (.cd (.t 55)
  (.sq (.rg [S1 4 (.mov (.k (.i .i64 1)))])
   (.rt))
  (.sk)))))
 (.rg [S7 40 7,
  S1 41 (.bin .add (.t 40) (.k (.i .i64 1))),
  S7 7 41]))
def c31:C :=
 .sq (.rg [S2 2 (.box (.t 0)),
  S2 3 (.box (.t 1)),
  S1 4 (.mov (.k (.i .i64 0)))])
 (.sq (.rg [S8 8 0 2,
  S6 9 8,
  S8 10 1 2,
  S1 11 (.ixq 4 1 (.t 10) (.k (.i .i64 0))),
  S6 12 11,
  S8 13 1 2,
  S1 14 (.ixq 4 1 (.t 13) (.k (.i .i64 1))),
  S6 15 14,
  S8 16 1 2,
  S1 17 (.ixq 4 1 (.t 16) (.k (.i .i64 2))),
  S6 18 17,
  S8 19 1 2,
  S1 20 (.ixq 4 1 (.t 19) (.k (.i .i64 3))),
  S6 21 20,
  S1 22 (.bld [.i .i64 0,.i .i64 0,.i .i64 0,.i .i64 0,.i .i64 0] [(0,1,(.t 9)),(1,1,(.t 12)),(2,1,(.t 15)),(3,1,(.t 18)),(4,1,(.t 21))]),
  S2 5 (.alc [.i .i64 0,.i .i64 0,.i .i64 0,.i .i64 0,.i .i64 0]),
  S3 (.sto 5 (.t 5) (.t 22))])
 (.sq (.rg [S8 23 0 3,
  S6 24 23,
  S8 25 1 3,
  S1 26 (.ixq 4 1 (.t 25) (.k (.i .i64 0))),
  S6 27 26,
  S8 28 1 3,
  S1 29 (.ixq 4 1 (.t 28) (.k (.i .i64 1))),
  S6 30 29,
  S8 31 1 3,
  S1 32 (.ixq 4 1 (.t 31) (.k (.i .i64 2))),
  S6 33 32,
  S8 34 1 3,
  S1 35 (.ixq 4 1 (.t 34) (.k (.i .i64 3))),
  S6 36 35,
  S1 37 (.bld [.i .i64 0,.i .i64 0,.i .i64 0,.i .i64 0,.i .i64 0] [(0,1,(.t 24)),(1,1,(.t 27)),(2,1,(.t 30)),(3,1,(.t 33)),(4,1,(.t 36))]),
  S2 6 (.alc [.i .i64 0,.i .i64 0,.i .i64 0,.i .i64 0,.i .i64 0]),
  S3 (.sto 5 (.t 6) (.t 37))])
 (.sq (.sq (.rg [S1 7 (.mov (.k (.i .i64 0)))])
 (.bk 0 (.lp QiK)))
 (.sq (.rg [S1 4 (.mov (.k (.i .i64 0)))])
 (.rt)))))
def fn31:Fn:={ n:=56,np:=2,res:=[.t 4],body:=c31 }
theorem e31:F 31=some fn31:=by kernel_rfl
def Qiu:C :=
 .sq (.rg [S1 9 (.bin .lss (.t 8) (.t 7))])
 (.sq (.cd (.t 9)
  (.sk)
  (.ex 0))
 (.sq (.bk 1 (.sq (.rg [S1 10 (.ixp 5 (.t 6) (.t 8)),
  S2 11 (.ld 5 true (.t 10)),
  S2 5 (.alc [.i .i64 0,.i .i64 0,.i .i64 0,.i .i64 0,.i .i64 0]),
  S3 (.sto 5 (.t 5) (.t 11))])
 (.rg [S7 12 0,
  S2 13 (.ld 5 true (.t 5)),
  S2 14 (.lkp true [.i .i64,.i .i64,.i .i64,.i .i64,.i .i64] (.i .i64 0) false (.t 12) (.t 13)),
  S1 15 (.bin .add (.t 14) (.k (.i .i64 1))),
  ⟨some 16,none,.men true [.i .i64,.i .i64,.i .i64,.i .i64,.i .i64] (.i .i64 0) (.t 12) (.t 13),[.lkp true [.i .i64,.i .i64,.i .i64,.i .i64,.i .i64] (.i .i64 0) false (.t 12) (.t 13)]⟩,
  S1 17 (.ext (.t 16) 1),
  S3 (.est (.t 12) (.t 17) (.t 15))])))
 (.rg [S1 18 (.bin .add (.t 8) (.k (.i .i64 1))),
  S7 8 18])))
def c39:C :=
 .sq (.rg [S7 6 1,
  S1 7 (.len (.t 6)),
  S1 8 (.mov (.k (.i .i64 0)))])
 (.bk 0 (.lp Qiu))
def fn39:Fn:={ n:=19,np:=2,res:=[],body:=c39 }
theorem e39:F 39=some fn39:=by kernel_rfl
def Qkz:C :=
 .sq (.rg [S2 12 (.nxt (.t 11)),
  S1 13 (.ext (.t 12) 0)])
 (.sq (.cd (.t 13)
  (.sk)
  (.ex 0))
 (.bk 1 (.sq (.rg [S2 14 (.ent (.t 11)),
  S1 15 (.ext (.t 14) 0),
  S2 8 (.alc [.i .i64 0,.i .i64 0,.i .i64 0,.i .i64 0,.i .i64 0]),
  S3 (.sto 5 (.t 8) (.t 15))])
 (.rg [S7 16 7,
  S2 17 (.ld 15 true (.t 4)),
  S2 18 (.ld 5 true (.t 8)),
  S7 19 2,
  S2 20 (.pc 67 [(.t 17),(.t 18),(.t 19)]),
  S2 21 (.nc 39 [(.t 16),(.t 20)])]))))
def c41:C :=
 .sq (.rg [S2 4 (.box (.t 1)),
  S1 6 (.mov (.k (.nm)))])
 (.sq (.rg [S2 9 (.mkm),
  S7 7 9])
 (.sq (.sq (.rg [S7 10 0,
  S2 11 (.rng (.t 10))])
 (.bk 0 (.lp Qkz)))
 (.sq (.rg [S7 22 7,
  S7 6 22])
 (.rt))))
def fn41:Fn:={ n:=23,np:=3,res:=[.t 6],body:=c41 }
theorem e41:F 41=some fn41:=by kernel_rfl
def Qh8:C :=
 .sq (.rg [S1 9 (.bin .lss (.t 8) (.t 7))])
 (.sq (.cd (.t 9)
  (.sk)
  (.ex 0))
 (.sq (.bk 1 (.sq (.rg [S7 10 8,
  S7 5 10])
 (.sq (.rg [S7 11 1,
  S7 12 0,
  S7 13 5,
  S1 14 (.ixp 5 (.t 12) (.t 13)),
  S2 15 (.ld 5 true (.t 14)),
  S2 16 (.pv (.t 11) [(.t 15)])])
 (.cd (.t 16)
  (.sq (.rg [S7 17 5,
    S7 4 17])
   (.rt))
  (.sk)))))
 (.rg [S1 18 (.bin .add (.t 8) (.k (.i .i64 1))),
  S7 8 18])))
def c48:C :=
 .sq (.rg [S1 4 (.mov (.k (.i .i64 0)))])
 (.sq (.sq (.rg [S7 6 0,
  S1 7 (.len (.t 6)),
  S1 8 (.mov (.k (.i .i64 0)))])
 (.bk 0 (.lp Qh8)))
 (.sq (.rg [S1 4 (.mov (.k (.i .i64 (-1))))])
 (.rt)))
def fn48:Fn:={ n:=19,np:=2,res:=[.t 4],body:=c48 }
theorem e48:F 48=some fn48:=by kernel_rfl
def c52:C :=
 .sq (.rg [S2 1 (.box (.t 0)),
  S1 2 (.mov (.k (.i .i64 0)))])
 (.sq (.sq (.rg [S8 3 1 1,
  S6 4 3,
  S1 5 (.bin .lss (.t 4) (.k (.i .i64 0)))])
 (.cd (.t 5)
  (.sq (.rg [S8 6 0 1,
    S6 7 6,
    S7 2 7])
   (.rt))
  (.sk)))
 (.sq (.rg [S8 8 1 1,
  S6 9 8,
  S7 2 9])
 (.rt)))
def fn52:Fn:={ n:=10,np:=1,res:=[.t 2],body:=c52 }
theorem e52:F 52=some fn52:=by kernel_rfl
def c9:C :=
 .sq (.rg [S2 1 (.box (.t 0)),
  S2 2 (.alc [.i .i64 0,.i .u64 0,.i .u64 0,.i .u64 0,.i .u64 0,.nil,.i .i64 0,.i .i64 0,.nil,.nil,.nil,.nil,.nil,.nil,.bo false]),
  S1 3 (.mov (.k (.bo false)))])
 (.sq (.sq (.rg [S2 6 (.ld 8 true (.t 1)),
  S2 7 (.pc 18 [(.t 6),(.k (.i .i64 80))]),
  S1 8 (.bin .gtr (.t 7) (.k (.i .i64 80)))])
 (.cd (.t 8)
  (.sq (.rg [S1 9 (.bld [.i .i64 0,.i .u64 0,.i .u64 0,.i .u64 0,.i .u64 0,.nil,.i .i64 0,.i .i64 0,.nil,.nil,.nil,.nil,.nil,.nil,.bo false] []),
    S3 (.sto 15 (.t 2) (.t 9)),
    S1 3 (.mov (.k (.bo false)))])
   (.rt))
  (.sk)))
 (.sq (.rg [S2 11 (.ld 8 true (.t 1)),
  S2 12 (.pc 19 [(.t 11)]),
  S7 10 12,
  S1 13 (.ext (.t 10) 0),
  S1 14 (.ext (.t 10) 1),
  S2 4 (.alc [.i .i64 0,.i .u64 0,.i .u64 0,.i .u64 0,.i .u64 0,.nil,.i .i64 0,.i .i64 0,.nil,.nil,.nil,.nil,.nil,.nil,.bo false]),
  S3 (.sto 15 (.t 4) (.t 13)),
  S7 5 14])
 (.sq (.rg [S2 15 (.ld 15 true (.t 4)),
  S7 16 5,
  S1 17 (.bin .eql (.t 16) (.k (.i .i64 0))),
  S3 (.sto 15 (.t 2) (.t 15)),
  S7 3 17])
 (.rt))))
def fn9:Fn:={ n:=18,np:=1,res:=[.c 2 15 true,.t 3],body:=c9 }
theorem e9:F 9=some fn9:=by kernel_rfl
def QkA:C :=
 .sq (.sq (.rg [S7 11 6,
  S7 12 1,
  S1 13 (.bin .rem (.t 12) (.k (.i .i64 64))),
  S1 14 (.bin .lss (.t 11) (.t 13))])
 (.cd (.t 14)
  (.sk)
  (.ex 0)))
 (.sq (.bk 1 (.rg [S7 17 5,
  S1 18 (.bin .quo (.t 17) (.k (.i .u64 2))),
  S7 5 18]))
 (.rg [S7 15 6,
  S1 16 (.bin .add (.t 15) (.k (.i .i64 1))),
  S7 6 16]))
def c30:C :=
 .sq (.rg [S2 2 (.box (.t 0)),
  S1 4 (.mov (.k (.bo false)))])
 (.sq (.rg [S7 7 1,
  S1 8 (.bin .quo (.t 7) (.k (.i .i64 64))),
  S1 9 (.ixq 4 1 (.t 2) (.t 8)),
  S6 10 9,
  S7 5 10])
 (.sq (.sq (.rg [S1 6 (.mov (.k (.i .i64 0)))])
 (.bk 0 (.lp QkA)))
 (.sq (.rg [S7 19 5,
  S1 20 (.bin .rem (.t 19) (.k (.i .u64 2))),
  S1 21 (.bin .eql (.t 20) (.k (.i .u64 1))),
  S7 4 21])
 (.rt))))
def fn30:Fn:={ n:=22,np:=2,res:=[.t 4],body:=c30 }
theorem e30:F 30=some fn30:=by kernel_rfl
def Qh4:C :=
 .sq (.rg [S1 12 (.bin .lss (.t 11) (.t 10))])
 (.sq (.cd (.t 12)
  (.sk)
  (.ex 0))
 (.sq (.bk 1 (.sq (.rg [S1 13 (.ixp 1 (.t 9) (.t 11)),
  S6 14 13,
  S7 7 14])
 (.sq (.rg [S8 15 0 2,
  S8 16 8 15,
  S6 17 16,
  S7 18 7,
  S1 19 (.ixp 4 (.t 17) (.t 18)),
  S2 20 (.ld 4 true (.t 19)),
  S7 21 1,
  S2 22 (.pc 64 [(.t 20),(.t 21)])])
 (.cd (.t 22)
  (.rg [S7 23 5,
    S2 24 (.ld 15 true (.t 2)),
    S7 25 7,
    S2 26 (.pc 65 [(.t 24),(.t 25),(.k (.nil))]),
    S2 27 (.bsl 5 1 [.i .i64 0,.i .i64 0,.i .i64 0,.i .i64 0,.i .i64 0] [(0,(.t 26))]),
    S2 28 (.app 5 40 (.t 23) (.t 27)),
    S7 5 28])
  (.sk)))))
 (.rg [S1 29 (.bin .add (.t 11) (.k (.i .i64 1))),
  S7 11 29])))
def c40:C :=
 .sq (.rg [S2 2 (.box (.t 0)),
  S1 4 (.mov (.k (.nil)))])
 (.sq (.rg [S1 5 (.mov (.k (.nil)))])
 (.sq (.sq (.rg [S8 8 11 2,
  S6 9 8,
  S1 10 (.len (.t 9)),
  S1 11 (.mov (.k (.i .i64 0)))])
 (.bk 0 (.lp Qh4)))
 (.sq (.rg [S7 30 5,
  S2 31 (.nc 66 [(.t 30)]),
  S7 4 31])
 (.rt))))
def fn40:Fn:={ n:=32,np:=2,res:=[.t 4],body:=c40 }
theorem e40:F 40=some fn40:=by kernel_rfl
def QiX:C :=
 .sq (.rg [S1 27 (.bin .lss (.t 26) (.k (.i .i64 4)))])
 (.sq (.cd (.t 27)
  (.sk)
  (.ex 0))
 (.sq (.bk 1 (.sq (.rg [S7 28 26,
  S1 29 (.ixa 4 1 false (.t 25) (.t 26)),
  S7 6 28,
  S7 7 29])
 (.sq (.rg [S7 30 6,
  S7 31 5,
  S1 32 (.len (.t 31)),
  S1 33 (.bin .lss (.t 30) (.t 32)),
  S7 34 33,
  S5 35 34 true (.mov (.t 5)),
  S5 36 34 true (.mov (.t 6)),
  S5 37 34 true (.ixp 2 (.t 35) (.t 36)),
  S4 38 34 true (.ld 2 true (.t 37)),
  S5 39 34 true (.mov (.t 7)),
  S4 40 34 true (.pc 72 [(.t 38),(.t 39)]),
  S5 41 34 true (.un .not (.t 40)),
  S1 42 (.pick (.t 34) (.t 41) (.k (.bo false))),
  S7 43 42,
  S5 44 43 false (.mov (.t 6)),
  S5 45 43 false (.mov (.t 5)),
  S5 46 43 false (.len (.t 45)),
  S5 47 43 false (.bin .geq (.t 44) (.t 46)),
  S5 48 43 false (.mov (.t 47)),
  S5 49 48 true (.mov (.t 7)),
  S5 50 48 true (.bin .neq (.t 49) (.k (.i .i64 0))),
  S5 51 43 false (.pick (.t 48) (.t 50) (.k (.bo false))),
  S1 52 (.pick (.t 43) (.k (.bo true)) (.t 51))])
 (.cd (.t 52)
  (.sq (.rg [S1 4 (.mov (.k (.bo false)))])
   (.rt))
  (.sk)))))
 (.rg [S1 53 (.bin .add (.t 26) (.k (.i .i64 1))),
  S7 26 53])))
def c49:C :=
 .sq (.rg [S2 2 (.box (.t 0)),
  S2 3 (.box (.t 1)),
  S1 4 (.mov (.k (.bo false)))])
 (.sq (.sq (.rg [S8 8 0 3,
  S6 9 8,
  S1 10 (.bin .lss (.t 9) (.k (.i .i64 1))),
  S7 11 10,
  S5 12 11 false (.adr 0 (.t 3)),
  S4 13 11 false (.ld 1 false (.t 12)),
  S5 14 11 false (.adr 0 (.t 2)),
  S5 15 11 false (.adr 10 (.t 14)),
  S4 16 11 false (.ld 1 false (.t 15)),
  S5 17 11 false (.len (.t 16)),
  S5 18 11 false (.bin .geq (.t 13) (.t 17)),
  S1 19 (.pick (.t 11) (.k (.bo true)) (.t 18))])
 (.cd (.t 19)
  (.sq (.rg [S1 4 (.mov (.k (.bo false)))])
   (.rt))
  (.sk)))
 (.sq (.rg [S2 20 (.ld 15 true (.t 2)),
  S8 21 0 3,
  S6 22 21,
  S2 23 (.pc 51 [(.t 20),(.t 22)]),
  S7 5 23])
 (.sq (.sq (.rg [S8 24 1 3,
  S2 25 (.ld 4 true (.t 24)),
  S1 26 (.mov (.k (.i .i64 0)))])
 (.bk 0 (.lp QiX)))
 (.sq (.rg [S1 4 (.mov (.k (.bo true)))])
 (.rt)))))
def fn49:Fn:={ n:=54,np:=2,res:=[.t 4],body:=c49 }
theorem e49:F 49=some fn49:=by kernel_rfl
def Qin:C :=
 .sq (.rg [S1 24 (.bin .lss (.t 23) (.t 22))])
 (.sq (.cd (.t 24)
  (.sk)
  (.ex 0))
 (.sq (.bk 1 (.sq (.rg [S1 25 (.ixp 3 (.t 21) (.t 23)),
  S2 26 (.ld 3 true (.t 25)),
  S2 9 (.alc [.i .i64 0,.i .i64 0,.bo false]),
  S3 (.sto 3 (.t 9) (.t 26))])
 (.sq (.sq (.rg [S8 27 0 3,
  S8 28 8 27,
  S6 29 28,
  S8 30 0 9,
  S6 31 30,
  S1 32 (.ixp 4 (.t 29) (.t 31)),
  S2 33 (.ld 4 true (.t 32)),
  S7 34 2,
  S2 35 (.pc 64 [(.t 33),(.t 34)]),
  S1 36 (.un .not (.t 35))])
 (.cd (.t 36)
  (.ex 1)
  (.sk)))
 (.sq (.rg [S2 38 (.ld 15 true (.t 3)),
  S2 39 (.ld 5 true (.t 4)),
  S2 40 (.ld 3 true (.t 9)),
  S2 41 (.pc 102 [(.t 38),(.t 39),(.t 40)]),
  S7 37 41,
  S1 42 (.ext (.t 37) 0),
  S1 43 (.ext (.t 37) 1),
  S2 10 (.alc [.i .i64 0,.i .i64 0,.i .i64 0,.i .i64 0,.i .i64 0]),
  S3 (.sto 5 (.t 10) (.t 42)),
  S7 11 43])
 (.sq (.rg [S7 44 11])
 (.cd (.t 44)
  (.rg [S7 45 7,
    S2 46 (.ld 5 true (.t 10)),
    S2 47 (.bsl 5 1 [.i .i64 0,.i .i64 0,.i .i64 0,.i .i64 0,.i .i64 0] [(0,(.t 46))]),
    S2 48 (.app 5 40 (.t 45) (.t 47)),
    S7 7 48])
  (.sk)))))))
 (.rg [S1 49 (.bin .add (.t 23) (.k (.i .i64 1))),
  S7 23 49])))
def c67:C :=
 .sq (.rg [S2 3 (.box (.t 0)),
  S2 4 (.box (.t 1)),
  S1 6 (.mov (.k (.nil)))])
 (.sq (.sq (.rg [S2 12 (.ld 15 true (.t 3)),
  S2 13 (.ld 5 true (.t 4)),
  S2 14 (.pc 49 [(.t 12),(.t 13)]),
  S1 15 (.un .not (.t 14))])
 (.cd (.t 15)
  (.sq (.rg [S1 6 (.mov (.k (.nil)))])
   (.rt))
  (.sk)))
 (.sq (.rg [S1 7 (.mov (.k (.nil)))])
 (.sq (.sq (.rg [S8 16 12 3,
  S6 17 16,
  S8 18 0 4,
  S6 19 18,
  S1 20 (.ixp 1 (.t 17) (.t 19)),
  S6 21 20,
  S1 22 (.len (.t 21)),
  S1 23 (.mov (.k (.i .i64 0)))])
 (.bk 0 (.lp Qin)))
 (.sq (.rg [S7 50 7,
  S2 51 (.nc 66 [(.t 50)]),
  S7 6 51])
 (.rt)))))
def fn67:Fn:={ n:=52,np:=3,res:=[.t 6],body:=c67 }
theorem e67:F 67=some fn67:=by kernel_rfl
def Qky:C :=
 .sq (.sq (.rg [S7 7 6,
  S8 8 5 2,
  S6 9 8,
  S1 10 (.len (.t 9)),
  S1 11 (.bin .lss (.t 7) (.t 10)),
  S7 12 11,
  S5 13 12 true (.mov (.t 5)),
  S5 14 12 true (.mov (.t 1)),
  S5 15 12 true (.bin .leq (.t 13) (.t 14)),
  S1 16 (.pick (.t 12) (.t 15) (.k (.bo false)))])
 (.cd (.t 16)
  (.sk)
  (.ex 0)))
 (.sq (.bk 1 (.rg [S7 19 5,
  S8 20 5 2,
  S6 21 20,
  S7 22 6,
  S1 23 (.ixp 8 (.t 21) (.t 22)),
  S2 24 (.ld 8 true (.t 23)),
  S7 25 1,
  S7 26 5,
  S1 27 (.bin .sub (.t 25) (.t 26)),
  S2 28 (.pc 18 [(.t 24),(.t 27)]),
  S1 29 (.bin .add (.t 19) (.t 28)),
  S7 5 29]))
 (.rg [S7 17 6,
  S1 18 (.bin .add (.t 17) (.k (.i .i64 1))),
  S7 6 18]))
def c18:C :=
 .sq (.rg [S2 2 (.box (.t 0)),
  S1 4 (.mov (.k (.i .i64 0)))])
 (.sq (.rg [S1 5 (.mov (.k (.i .i64 1)))])
 (.sq (.sq (.rg [S1 6 (.mov (.k (.i .i64 0)))])
 (.bk 0 (.lp Qky)))
 (.sq (.rg [S7 30 5,
  S7 4 30])
 (.rt))))
def fn18:Fn:={ n:=31,np:=2,res:=[.t 4],body:=c18 }
theorem e18:F 18=some fn18:=by kernel_rfl
def Qj1:C :=
 .sq (.rg [S1 51 (.bin .lss (.t 50) (.t 49))])
 (.sq (.cd (.t 51)
  (.sk)
  (.ex 0))
 (.sq (.bk 1 (.sq (.rg [S1 52 (.ixp 1 (.t 48) (.t 50)),
  S6 53 52,
  S7 10 53])
 (.rg [S8 54 13 8,
  S6 55 54,
  S7 56 10,
  S1 57 (.ixp 1 (.t 55) (.t 56)),
  S3 (.sto 1 (.t 57) (.k (.bo true)))])))
 (.rg [S1 58 (.bin .add (.t 50) (.k (.i .i64 1))),
  S7 50 58])))
def QkL:C :=
 .sq (.rg [S2 64 (.nxt (.t 63)),
  S1 65 (.ext (.t 64) 0)])
 (.sq (.cd (.t 65)
  (.sk)
  (.ex 2))
 (.bk 3 (.sq (.rg [S2 66 (.ent (.t 63)),
  S1 67 (.ext (.t 66) 0),
  S2 11 (.alc [.i .i64 0,.i .i64 0,.i .i64 0,.bo false]),
  S3 (.sto 4 (.t 11) (.t 67))])
 (.rg [S8 68 12 8,
  S8 70 0 11,
  S8 72 12 8,
  S8 74 0 11,
  S8 78 1 11,
  S6 69 68,
  S6 71 70,
  S6 73 72,
  S6 75 74,
  S1 76 (.ixp 1 (.t 73) (.t 75)),
  S6 77 76,
  S2 79 (.ld 3 true (.t 78)),
  S2 80 (.bsl 3 1 [.i .i64 0,.i .i64 0,.bo false] [(0,(.t 79))]),
  ⟨some 81,none,.app 3 24 (.t 77) (.t 80),[.ld 1 false (.t 68),.ld 1 false (.t 70)]⟩,
  S1 82 (.ixp 1 (.t 69) (.t 71)),
  S3 (.sto 1 (.t 82) (.t 81))]))))
def Qiy:C :=
 .sq (.rg [S1 87 (.bin .lss (.t 86) (.t 85))])
 (.sq (.cd (.t 87)
  (.sk)
  (.ex 4))
 (.sq (.bk 5 (.sq (.rg [S1 88 (.ixp 1 (.t 84) (.t 86)),
  S6 89 88,
  S7 13 89])
 (.rg [S7 90 13,
  S2 91 (.nc 37 [(.t 90),(.k (.fn 38 []))])])))
 (.rg [S1 92 (.bin .add (.t 86) (.k (.i .i64 1))),
  S7 86 92])))
def c19:C :=
 .sq (.rg [S2 1 (.box (.t 0)),
  S2 2 (.alc [.i .i64 0,.i .u64 0,.i .u64 0,.i .u64 0,.i .u64 0,.nil,.i .i64 0,.i .i64 0,.nil,.nil,.nil,.nil,.nil,.nil,.bo false]),
  S1 3 (.mov (.k (.i .i64 0)))])
 (.sq (.rg [S2 15 (.ld 8 true (.t 1)),
  S2 16 (.pc 34 [(.t 15)]),
  S7 14 16,
  S1 17 (.ext (.t 14) 0),
  S1 18 (.ext (.t 14) 1),
  S2 4 (.alc [.i .i64 0,.i .u64 0,.i .u64 0,.i .u64 0,.i .u64 0,.nil,.i .i64 0,.i .i64 0,.nil,.nil,.nil]),
  S3 (.sto 11 (.t 4) (.t 17)),
  S7 5 18])
 (.sq (.sq (.rg [S7 19 5,
  S1 20 (.bin .neq (.t 19) (.k (.i .i64 0)))])
 (.cd (.t 20)
  (.sq (.rg [S1 21 (.bld [.i .i64 0,.i .u64 0,.i .u64 0,.i .u64 0,.i .u64 0,.nil,.i .i64 0,.i .i64 0,.nil,.nil,.nil,.nil,.nil,.nil,.bo false] []),
    S7 22 5,
    S3 (.sto 15 (.t 2) (.t 21)),
    S7 3 22])
   (.rt))
  (.sk)))
 (.sq (.rg [S2 23 (.mkm),
  S1 24 (.bld [.i .i64 0,.nm] [(1,1,(.t 23))]),
  S2 25 (.box (.t 24)),
  S7 6 25])
 (.sq (.rg [S7 26 6,
  S8 27 0 4,
  S2 28 (.ld 8 true (.t 27)),
  S2 29 (.nc 35 [(.t 26),(.t 28),(.k (.i .i64 0))]),
  S2 7 (.alc [.nil,.nil,.bo false]),
  S3 (.sto 3 (.t 7) (.t 29))])
 (.sq (.rg [S8 31 0 7,
  S8 33 8 4,
  S8 37 8 4,
  S8 41 2 7,
  S2 30 (.ld 11 true (.t 4)),
  S6 32 31,
  S6 34 33,
  S1 35 (.len (.t 34)),
  S6 38 37,
  S1 39 (.len (.t 38)),
  S6 42 41,
  S2 36 (.mks 1 24 [.nil] (.t 35) (.t 35)),
  S2 40 (.mks 1 1 [.bo false] (.t 39) (.t 39)),
  S1 43 (.bld [.i .i64 0,.i .u64 0,.i .u64 0,.i .u64 0,.i .u64 0,.nil,.i .i64 0,.i .i64 0,.nil,.nil,.nil,.nil,.nil,.nil,.bo false] [(0,11,(.t 30)),(11,1,(.t 32)),(12,1,(.t 36)),(13,1,(.t 40)),(14,1,(.t 42))]),
  S2 8 (.alc [.i .i64 0,.i .u64 0,.i .u64 0,.i .u64 0,.i .u64 0,.nil,.i .i64 0,.i .i64 0,.nil,.nil,.nil,.nil,.nil,.nil,.bo false]),
  S3 (.sto 15 (.t 8) (.t 43))])
 (.sq (.rg [S8 44 11 8,
  S6 45 44,
  S2 46 (.nc 36 [(.t 45)])])
 (.sq (.sq (.rg [S8 47 1 7,
  S6 48 47,
  S1 49 (.len (.t 48)),
  S1 50 (.mov (.k (.i .i64 0)))])
 (.bk 0 (.lp Qj1)))
 (.sq (.sq (.rg [S7 59 6,
  S1 60 (.nck (.t 59)),
  S8 61 1 60,
  S6 62 61,
  S2 63 (.rng (.t 62))])
 (.bk 2 (.lp QkL)))
 (.sq (.sq (.rg [S8 83 12 8,
  S6 84 83,
  S1 85 (.len (.t 84)),
  S1 86 (.mov (.k (.i .i64 0)))])
 (.bk 4 (.lp Qiy)))
 (.sq (.rg [S2 93 (.ld 15 true (.t 8)),
  S3 (.sto 15 (.t 2) (.t 93)),
  S1 3 (.mov (.k (.i .i64 0)))])
 (.rt)))))))))))
def fn19:Fn:={ n:=94,np:=1,res:=[.c 2 15 true,.t 3],body:=c19 }
theorem e19:F 19=some fn19:=by kernel_rfl
def c64:C :=
 .sq (.rg [S2 2 (.box (.t 0)),
  S1 4 (.mov (.k (.bo false)))])
 (.sq (.rg [S7 5 1,
  S1 6 (.bin .shr (.t 5) (.k (.i .u64 6))),
  S1 7 (.ixq 4 1 (.t 2) (.t 6)),
  S6 8 7,
  S7 9 1,
  S1 10 (.bin .and (.t 9) (.k (.i .u8 63))),
  S1 11 (.bin .shr (.t 8) (.t 10)),
  S1 12 (.bin .and (.t 11) (.k (.i .u64 1))),
  S1 13 (.bin .eql (.t 12) (.k (.i .u64 1))),
  S7 4 13])
 (.rt))
def fn64:Fn:={ n:=14,np:=2,res:=[.t 4],body:=c64 }
theorem e64:F 64=some fn64:=by kernel_rfl
def QjU:C :=
 .sq (.rg [S1 19 (.bin .lss (.t 18) (.t 17))])
 (.sq (.cd (.t 19)
  (.sk)
  (.ex 0))
 (.sq (.bk 1 (.sq (.rg [S7 20 18,
  S7 8 20])
 (.rg [S7 21 8,
  S8 22 1 7,
  S1 23 (.ixq 4 1 (.t 22) (.t 21)),
  S3 (.sto 1 (.t 23) (.k (.i .i64 1)))])))
 (.rg [S1 24 (.bin .add (.t 18) (.k (.i .i64 1))),
  S7 18 24])))
def c65:C :=
 .sq (.rg [S2 3 (.box (.t 0)),
  S2 6 (.alc [.i .i64 0,.i .i64 0,.i .i64 0,.i .i64 0,.i .i64 0])])
 (.sq (.rg [S7 9 1,
  S1 10 (.bld [.i .i64 0,.i .i64 0,.i .i64 0,.i .i64 0,.i .i64 0] [(0,1,(.t 9))]),
  S2 7 (.alc [.i .i64 0,.i .i64 0,.i .i64 0,.i .i64 0,.i .i64 0]),
  S3 (.sto 5 (.t 7) (.t 10))])
 (.sq (.sq (.rg [S8 11 0 3,
  S8 12 10 11,
  S6 13 12,
  S7 14 1,
  S1 15 (.ixp 1 (.t 13) (.t 14)),
  S6 16 15,
  S1 17 (.len (.t 16)),
  S1 18 (.mov (.k (.i .i64 0)))])
 (.bk 0 (.lp QjU)))
 (.sq (.rg [S8 25 1 7,
  S1 26 (.sla 4 (.t 25) none none),
  S7 27 2,
  S2 28 (.cpy 1 (.t 26) (.t 27))])
 (.sq (.rg [S2 29 (.ld 5 true (.t 7)),
  S3 (.sto 5 (.t 6) (.t 29))])
 (.rt)))))
def fn65:Fn:={ n:=30,np:=3,res:=[.c 6 5 true],body:=c65 }
theorem e65:F 65=some fn65:=by kernel_rfl
def c66:C :=
 .sq (.rg [S1 2 (.mov (.k (.nil)))])
 (.sq (.rg [S7 3 0,
  S2 4 (.nc 43 [(.t 3),(.k (.fn 24 []))])])
 (.sq (.rg [S7 5 0,
  S2 6 (.nc 101 [(.t 5)]),
  S7 2 6])
 (.rt)))
def fn66:Fn:={ n:=7,np:=1,res:=[.t 2],body:=c66 }
theorem e66:F 66=some fn66:=by kernel_rfl
def Qi0:C :=
 .sq (.rg [S1 16 (.bin .lss (.t 15) (.t 14))])
 (.sq (.cd (.t 16)
  (.sk)
  (.ex 0))
 (.sq (.bk 1 (.sq (.rg [S1 17 (.ixp 1 (.t 13) (.t 15)),
  S6 18 17,
  S7 7 18])
 (.rg [S7 19 5,
  S8 20 0 2,
  S8 21 9 20,
  S6 22 21,
  S7 23 7,
  S1 24 (.ixp 2 (.t 22) (.t 23)),
  S2 25 (.ld 2 true (.t 24)),
  S2 26 (.bsl 2 1 [.i .i64 0,.i .i64 0] [(0,(.t 25))]),
  S2 27 (.app 2 16 (.t 19) (.t 26)),
  S7 5 27])))
 (.rg [S1 28 (.bin .add (.t 15) (.k (.i .i64 1))),
  S7 15 28])))
def c51:C :=
 .sq (.rg [S2 2 (.box (.t 0)),
  S1 4 (.mov (.k (.nil)))])
 (.sq (.rg [S1 5 (.mov (.k (.nil)))])
 (.sq (.sq (.rg [S8 8 0 2,
  S8 9 10 8,
  S6 10 9,
  S7 11 1,
  S1 12 (.ixp 1 (.t 10) (.t 11)),
  S6 13 12,
  S1 14 (.len (.t 13)),
  S1 15 (.mov (.k (.i .i64 0)))])
 (.bk 0 (.lp Qi0)))
 (.sq (.rg [S7 29 5,
  S7 4 29])
 (.rt))))
def fn51:Fn:={ n:=30,np:=2,res:=[.t 4],body:=c51 }
theorem e51:F 51=some fn51:=by kernel_rfl
def c72:C :=
 .sq (.rg [S2 2 (.box (.t 0)),
  S1 4 (.mov (.k (.bo false)))])
 (.sq (.sq (.rg [S8 5 1 2,
  S6 6 5,
  S1 7 (.bin .eql (.t 6) (.k (.i .i64 (-1))))])
 (.cd (.t 7)
  (.sq (.rg [S7 8 1,
    S1 9 (.bin .geq (.t 8) (.k (.i .i64 1))),
    S7 10 9,
    S5 11 10 true (.mov (.t 1)),
    S5 12 10 true (.adr 0 (.t 2)),
    S4 13 10 true (.ld 1 false (.t 12)),
    S5 14 10 true (.bin .leq (.t 11) (.t 13)),
    S1 15 (.pick (.t 10) (.t 14) (.k (.bo false))),
    S7 4 15])
   (.rt))
  (.sk)))
 (.sq (.rg [S7 16 1,
  S1 17 (.bin .geq (.t 16) (.k (.i .i64 1))),
  S7 18 17,
  S5 19 18 true (.mov (.t 1)),
  S5 20 18 true (.adr 1 (.t 2)),
  S4 21 18 true (.ld 1 false (.t 20)),
  S5 22 18 true (.bin .leq (.t 19) (.t 21)),
  S1 23 (.pick (.t 18) (.t 22) (.k (.bo false))),
  S7 4 23])
 (.rt)))
def fn72:Fn:={ n:=24,np:=2,res:=[.t 4],body:=c72 }
theorem e72:F 72=some fn72:=by kernel_rfl
def c102:C :=
 .sq (.rg [S2 3 (.box (.t 0)),
  S2 4 (.box (.t 1)),
  S2 5 (.box (.t 2)),
  S2 6 (.alc [.i .i64 0,.i .i64 0,.i .i64 0,.i .i64 0,.i .i64 0]),
  S1 7 (.mov (.k (.bo false)))])
 (.sq (.rg [S2 13 (.ld 15 true (.t 3)),
  S8 14 0 4,
  S6 15 14,
  S2 16 (.pc 51 [(.t 13),(.t 15)]),
  S7 8 16])
 (.sq (.rg [S8 17 1 4,
  S8 18 1 5,
  S6 19 18,
  S1 20 (.sla 4 (.t 17) none (some (.t 19))),
  S2 21 (.nc 129 [(.t 20)]),
  S7 9 21])
 (.sq (.rg [S8 22 1 5,
  S6 23 22,
  S7 10 23])
 (.sq (.sq (.rg [S8 24 2 5,
  S6 25 24])
 (.cd (.t 25)
  (.sq (.rg [S7 27 8,
    S8 28 1 5,
    S8 32 1 5,
    S8 34 1 4,
    S6 29 28,
    S1 30 (.ixp 2 (.t 27) (.t 29)),
    S2 31 (.ld 2 true (.t 30)),
    S6 33 32,
    S1 35 (.ixq 4 1 (.t 34) (.t 33)),
    S6 36 35,
    S2 37 (.pc 130 [(.t 31),(.t 36)]),
    S7 26 37,
    S1 38 (.ext (.t 26) 0),
    S1 39 (.ext (.t 26) 1),
    S7 11 38,
    S7 12 39])
   (.sq (.sq (.rg [S7 40 12,
    S1 41 (.un .not (.t 40))])
   (.cd (.t 41)
    (.sq (.rg [S1 42 (.bld [.i .i64 0,.i .i64 0,.i .i64 0,.i .i64 0,.i .i64 0] []),
      S3 (.sto 5 (.t 6) (.t 42)),
      S1 7 (.mov (.k (.bo false)))])
     (.rt))
    (.sk)))
   (.sq (.rg [S7 43 9,
    S7 44 11,
    S2 45 (.bsl 1 1 [.i .i64 0] [(0,(.t 44))]),
    S2 46 (.app 1 8 (.t 43) (.t 45)),
    S7 9 46])
   (.rg [S7 47 10,
    S1 48 (.bin .add (.t 47) (.k (.i .i64 1))),
    S7 10 48]))))
  (.sk)))
 (.sq (.sq (.rg [S7 49 8,
  S7 50 10,
  S1 51 (.slc 2 (.t 49) (some (.t 50)) none none),
  S8 52 1 4,
  S7 53 10,
  S1 54 (.sla 4 (.t 52) (some (.t 53)) none),
  S2 55 (.pc 50 [(.t 51),(.t 54)]),
  S1 56 (.un .not (.t 55))])
 (.cd (.t 56)
  (.sq (.rg [S1 57 (.bld [.i .i64 0,.i .i64 0,.i .i64 0,.i .i64 0,.i .i64 0] []),
    S3 (.sto 5 (.t 6) (.t 57)),
    S1 7 (.mov (.k (.bo false)))])
   (.rt))
  (.sk)))
 (.sq (.rg [S2 58 (.ld 15 true (.t 3)),
  S8 59 0 5,
  S6 60 59,
  S7 61 9,
  S2 62 (.pc 65 [(.t 58),(.t 60),(.t 61)]),
  S3 (.sto 5 (.t 6) (.t 62)),
  S1 7 (.mov (.k (.bo true)))])
 (.rt)))))))
def QkN:Fn:={ n:=63,np:=3,res:=[.c 6 5 true,.t 7],body:=c102 }
theorem e102:F 102=some QkN:=by kernel_rfl
def c34:C :=
 .sq (.rg [S2 1 (.box (.t 0)),
  S2 2 (.alc [.i .i64 0,.i .u64 0,.i .u64 0,.i .u64 0,.i .u64 0,.nil,.i .i64 0,.i .i64 0,.nil,.nil,.nil]),
  S1 3 (.mov (.k (.i .i64 0)))])
 (.sq (.rg [S2 8 (.ld 8 true (.t 1)),
  S2 9 (.pc 53 [(.t 8)]),
  S7 7 9,
  S1 10 (.ext (.t 7) 0),
  S1 11 (.ext (.t 7) 1),
  S2 4 (.alc [.i .i64 0,.i .u64 0,.i .u64 0,.i .u64 0,.i .u64 0,.nil,.i .i64 0,.i .i64 0]),
  S3 (.sto 8 (.t 4) (.t 10)),
  S7 5 11])
 (.sq (.sq (.rg [S7 12 5,
  S1 13 (.bin .neq (.t 12) (.k (.i .i64 0)))])
 (.cd (.t 13)
  (.sq (.rg [S1 14 (.bld [.i .i64 0,.i .u64 0,.i .u64 0,.i .u64 0,.i .u64 0,.nil,.i .i64 0,.i .i64 0,.nil,.nil,.nil] []),
    S7 15 5,
    S3 (.sto 11 (.t 2) (.t 14)),
    S7 3 15])
   (.rt))
  (.sk)))
 (.sq (.rg [S2 16 (.ld 8 true (.t 4)),
  S2 17 (.mks 4 32 [.i .u64 0,.i .u64 0,.i .u64 0,.i .u64 0] (.k (.i .i64 1)) (.k (.i .i64 1))),
  S2 18 (.mks 1 24 [.nil] (.k (.i .i64 1)) (.k (.i .i64 1))),
  S1 19 (.bld [.i .i64 0,.i .u64 0,.i .u64 0,.i .u64 0,.i .u64 0,.nil,.i .i64 0,.i .i64 0,.nil,.nil,.nil] [(0,8,(.t 16)),(8,1,(.t 17)),(10,1,(.t 18))]),
  S2 20 (.box (.t 19)),
  S7 6 20])
 (.sq (.rg [S7 21 6,
  S2 22 (.ld 8 true (.t 4)),
  S2 23 (.nc 54 [(.t 21),(.t 22),(.k (.nil))])])
 (.sq (.sq (.rg [S7 24 6,
  S1 25 (.nck (.t 24)),
  S8 26 8 25,
  S6 27 26,
  S1 28 (.len (.t 27)),
  S1 29 (.bin .gtr (.t 28) (.k (.i .i64 41))),
  S7 30 29,
  S5 31 30 false (.mov (.t 6)),
  S5 32 30 false (.nck (.t 31)),
  S5 33 30 false (.adr 10 (.t 32)),
  S4 34 30 false (.ld 1 false (.t 33)),
  S4 35 30 false (.pc 55 [(.t 34),(.k (.fn 56 []))]),
  S1 36 (.pick (.t 30) (.k (.bo true)) (.t 35))])
 (.cd (.t 36)
  (.sq (.rg [S1 37 (.bld [.i .i64 0,.i .u64 0,.i .u64 0,.i .u64 0,.i .u64 0,.nil,.i .i64 0,.i .i64 0,.nil,.nil,.nil] []),
    S3 (.sto 11 (.t 2) (.t 37)),
    S1 3 (.mov (.k (.i .i64 3)))])
   (.rt))
  (.sk)))
 (.sq (.rg [S7 38 6,
  S1 39 (.nck (.t 38)),
  S2 40 (.ld 11 true (.t 39)),
  S3 (.sto 11 (.t 2) (.t 40)),
  S1 3 (.mov (.k (.i .i64 0)))])
 (.rt)))))))
def fn34:Fn:={ n:=41,np:=1,res:=[.c 2 11 true,.t 3],body:=c34 }
theorem e34:F 34=some fn34:=by kernel_rfl
def c35:C :=
 .sq (.rg [S2 4 (.box (.t 1)),
  S2 6 (.alc [.nil,.nil,.bo false])])
 (.sq (.sq (.rg [S8 7 0 4,
  S6 8 7])
 (.bk 0 (.sq (.rg [S1 10 (.bin .eql (.t 8) (.k (.i .i64 1))),
  S7 9 10])
 (.cd (.t 9)
  (.sq (.sq (.rg [S8 11 1 4,
    S2 12 (.ld 4 true (.t 11)),
    S2 13 (.pc 57 [(.t 12)])])
   (.cd (.t 13)
    (.sq (.rg [S1 14 (.bld [.nil,.nil,.bo false] []),
      S3 (.sto 3 (.t 6) (.t 14))])
     (.rt))
    (.sk)))
   (.sq (.rg [S7 15 0,
    S1 16 (.nck (.t 15)),
    S8 17 0 16,
    S6 18 17,
    S1 19 (.bin .add (.t 18) (.k (.i .i64 1))),
    S1 20 (.nck (.t 15)),
    S8 21 0 20,
    S3 (.sto 1 (.t 21) (.t 19))])
   (.sq (.rg [S7 22 0,
    S1 23 (.nck (.t 22)),
    S8 24 0 23,
    S7 27 0,
    S1 28 (.nck (.t 27)),
    S8 29 0 28,
    S6 25 24,
    S6 30 29,
    S2 26 (.bsl 1 1 [.i .i64 0] [(0,(.t 25))]),
    S2 31 (.bsl 1 1 [.i .i64 0] [(0,(.t 30))]),
    S1 32 (.bld [.nil,.nil,.bo false] [(0,1,(.t 26)),(1,1,(.t 31))]),
    S3 (.sto 3 (.t 6) (.t 32))])
   (.rt))))
  (.sq (.rg [S1 34 (.bin .eql (.t 8) (.k (.i .i64 2))),
    S7 33 34])
   (.cd (.t 33)
    (.sq (.rg [S7 35 0,
      S8 36 5 4,
      S6 37 36,
      S7 38 2,
      S2 39 (.nc 58 [(.t 35),(.t 37),(.t 38)]),
      S3 (.sto 3 (.t 6) (.t 39))])
     (.rt))
    (.sq (.rg [S1 41 (.bin .eql (.t 8) (.k (.i .i64 3))),
      S7 40 41])
     (.cd (.t 40)
      (.sq (.rg [S7 42 0,
        S8 43 5 4,
        S6 44 43,
        S7 45 2,
        S2 46 (.nc 59 [(.t 42),(.t 44),(.t 45)]),
        S3 (.sto 3 (.t 6) (.t 46))])
       (.rt))
      (.sq (.rg [S1 48 (.bin .eql (.t 8) (.k (.i .i64 4))),
        S7 47 48])
       (.cd (.t 47)
        (.sq (.rg [S7 49 0,
          S2 50 (.ld 8 true (.t 4)),
          S7 51 2,
          S2 52 (.nc 60 [(.t 49),(.t 50),(.t 51)]),
          S3 (.sto 3 (.t 6) (.t 52))])
         (.rt))
        (.sk)))))))))))
 (.sq (.rg [S1 53 (.bld [.nil,.nil,.bo false] [(2,1,(.k (.bo true)))]),
  S3 (.sto 3 (.t 6) (.t 53))])
 (.rt)))
def fn35:Fn:={ n:=54,np:=3,res:=[.c 6 3 true],body:=c35 }
theorem e35:F 35=some fn35:=by kernel_rfl
def c38:C :=
 .sq (.rg [S2 2 (.box (.t 0)),
  S2 3 (.box (.t 1)),
  S1 4 (.mov (.k (.i .i64 0)))])
 (.sq (.rg [S8 6 0 2,
  S8 8 0 3,
  S8 11 1 2,
  S8 13 1 3,
  S6 7 6,
  S6 9 8,
  S6 12 11,
  S6 14 13,
  S2 10 (.pc 46 [(.t 7),(.t 9)]),
  S2 15 (.pc 46 [(.t 12),(.t 14)]),
  S2 16 (.bsl 1 2 [.i .i64 0] [(0,(.t 10)),(1,(.t 15))]),
  S2 17 (.pc 45 [(.t 16)]),
  S7 5 17])
 (.sq (.sq (.rg [S7 18 5,
  S1 19 (.bin .eql (.t 18) (.k (.i .i64 0))),
  S7 20 19,
  S5 21 20 true (.adr 2 (.t 2)),
  S4 22 20 true (.ld 1 false (.t 21)),
  S5 23 20 true (.adr 2 (.t 3)),
  S4 24 20 true (.ld 1 false (.t 23)),
  S5 25 20 true (.eqb true (.t 22) (.t 24)),
  S1 26 (.pick (.t 20) (.t 25) (.k (.bo false)))])
 (.cd (.t 26)
  (.sq (.rg [S1 5 (.mov (.k (.i .i64 1)))])
   (.sq (.rg [S8 27 2 3,
    S6 28 27])
   (.cd (.t 28)
    (.rg [S1 5 (.mov (.k (.i .i64 (-1))))])
    (.sk))))
  (.sk)))
 (.sq (.rg [S7 29 5,
  S7 4 29])
 (.rt))))
def fn38:Fn:={ n:=30,np:=2,res:=[.t 4],body:=c38 }
theorem e38:F 38=some fn38:=by kernel_rfl
def c24:C :=
 .sq (.rg [S2 2 (.box (.t 0)),
  S2 3 (.box (.t 1)),
  S1 4 (.mov (.k (.i .i64 0)))])
 (.sq (.rg [S8 5 0 2,
  S8 7 0 3,
  S8 10 1 2,
  S1 11 (.sla 4 (.t 10) none none),
  S8 12 1 3,
  S1 13 (.sla 4 (.t 12) none none),
  S6 6 5,
  S6 8 7,
  S2 9 (.pc 46 [(.t 6),(.t 8)]),
  S2 14 (.pc 47 [(.t 11),(.t 13)]),
  S2 15 (.bsl 1 2 [.i .i64 0] [(0,(.t 9)),(1,(.t 14))]),
  S2 16 (.pc 45 [(.t 15)]),
  S7 4 16])
 (.rt))
def fn24:Fn:={ n:=17,np:=2,res:=[.t 4],body:=c24 }
theorem e24:F 24=some fn24:=by kernel_rfl
def Qfj:C :=
 .sq (.sq (.rg [S7 29 5,
  S7 30 4,
  S1 31 (.len (.t 30)),
  S1 32 (.bin .lss (.t 29) (.t 31))])
 (.cd (.t 32)
  (.sk)
  (.ex 2)))
 (.sq (.bk 3 (.sq (.rg [S7 35 4,
  S7 36 5,
  S1 37 (.ixp 5 (.t 35) (.t 36)),
  S7 39 4,
  S7 40 5,
  S1 41 (.bin .sub (.t 40) (.k (.i .i64 1))),
  S1 42 (.ixp 5 (.t 39) (.t 41)),
  S2 38 (.ld 5 true (.t 37)),
  S2 43 (.ld 5 true (.t 42)),
  S1 44 (.eqp true true [.i .i64,.i .i64,.i .i64,.i .i64,.i .i64] (.t 38) (.t 43))])
 (.cd (.t 44)
  (.sq (.rg [S7 45 0,
    S7 46 3,
    S7 47 4,
    S7 48 5,
    S1 49 (.ixp 5 (.t 47) (.t 48)),
    S2 50 (.ld 5 true (.t 49)),
    S1 51 (.ixp 5 (.t 45) (.t 46)),
    S3 (.sto 5 (.t 51) (.t 50))])
   (.rg [S7 52 3,
    S1 53 (.bin .add (.t 52) (.k (.i .i64 1))),
    S7 3 53]))
  (.sk))))
 (.rg [S7 33 5,
  S1 34 (.bin .add (.t 33) (.k (.i .i64 1))),
  S7 5 34]))
def QeW:C :=
 .sq (.sq (.rg [S7 10 3,
  S7 11 0,
  S1 12 (.len (.t 11)),
  S1 13 (.bin .lss (.t 10) (.t 12))])
 (.cd (.t 13)
  (.sk)
  (.ex 0)))
 (.sq (.bk 1 (.sq (.rg [S7 16 0,
  S7 17 3,
  S1 18 (.ixp 5 (.t 16) (.t 17)),
  S7 20 0,
  S7 21 3,
  S1 22 (.bin .sub (.t 21) (.k (.i .i64 1))),
  S1 23 (.ixp 5 (.t 20) (.t 22)),
  S2 19 (.ld 5 true (.t 18)),
  S2 24 (.ld 5 true (.t 23)),
  S1 25 (.eqp false true [.i .i64,.i .i64,.i .i64,.i .i64,.i .i64] (.t 19) (.t 24))])
 (.cd (.t 25)
  (.sq (.rg [S7 26 0,
    S7 27 3,
    S1 28 (.slc 5 (.t 26) (some (.t 27)) none none),
    S7 4 28])
   (.sq (.sq (.rg [S1 5 (.mov (.k (.i .i64 1)))])
   (.bk 2 (.lp Qfj)))
   (.sq (.rg [S7 54 0,
    S7 55 3,
    S1 56 (.slc 5 (.t 54) (some (.t 55)) none none),
    S3 (.clr [.i .i64 0,.i .i64 0,.i .i64 0,.i .i64 0,.i .i64 0] (.t 56))])
   (.sq (.rg [S7 57 0,
    S7 58 3,
    S1 59 (.slc 5 (.t 57) none (some (.t 58)) none),
    S7 2 59])
   (.rt)))))
  (.sk))))
 (.rg [S7 14 3,
  S1 15 (.bin .add (.t 14) (.k (.i .i64 1))),
  S7 3 15]))
def c101:C :=
 .sq (.rg [S1 2 (.mov (.k (.nil)))])
 (.sq (.sq (.rg [S7 6 0,
  S1 7 (.len (.t 6)),
  S1 8 (.bin .lss (.t 7) (.k (.i .i64 2)))])
 (.cd (.t 8)
  (.sq (.rg [S7 9 0,
    S7 2 9])
   (.rt))
  (.sk)))
 (.sq (.sq (.rg [S1 3 (.mov (.k (.i .i64 1)))])
 (.bk 0 (.lp QeW)))
 (.sq (.rg [S7 60 0,
  S7 2 60])
 (.rt))))
def QfE:Fn:={ n:=61,np:=1,res:=[.t 2],body:=c101 }
theorem e101:F 101=some QfE:=by kernel_rfl
def c129:C :=
 .sq (.rg [S1 2 (.mov (.k (.nil)))])
 (.sq (.sq (.rg [S7 3 0,
  S2 4 (.isz false (.t 3))])
 (.cd (.t 4)
  (.sq (.rg [S1 2 (.mov (.k (.nil)))])
   (.rt))
  (.sk)))
 (.sq (.rg [S2 5 (.bsl 1 0 [.i .i64 0] []),
  S7 6 0,
  S2 7 (.app 1 8 (.t 5) (.t 6)),
  S7 2 7])
 (.rt)))
def QiU:Fn:={ n:=8,np:=1,res:=[.t 2],body:=c129 }
theorem e129:F 129=some QiU:=by kernel_rfl
def c130:C :=
 .sq (.rg [S2 2 (.box (.t 0)),
  S1 4 (.mov (.k (.i .i64 0))),
  S1 5 (.mov (.k (.bo false)))])
 (.sq (.bk 0 (.sq (.rg [S8 7 1 2,
  S6 8 7,
  S1 9 (.bin .eql (.t 8) (.k (.i .i64 (-1)))),
  S7 6 9])
 (.cd (.t 6)
  (.sq (.rg [S7 10 1,
    S8 11 0 2,
    S6 12 11,
    S1 13 (.bin .sub (.t 12) (.k (.i .i64 1))),
    S1 14 (.mx false (.t 10) (.t 13)),
    S1 15 (.bin .add (.t 14) (.k (.i .i64 1))),
    S7 4 15,
    S1 5 (.mov (.k (.bo true)))])
   (.rt))
  (.sq (.rg [S7 17 1,
    S8 18 1 2,
    S6 19 18,
    S1 20 (.bin .geq (.t 17) (.t 19)),
    S7 16 20])
   (.cd (.t 16)
    (.sq (.rg [S1 4 (.mov (.k (.i .i64 0))),
      S1 5 (.mov (.k (.bo false)))])
     (.rt))
    (.sk))))))
 (.sq (.rg [S7 21 1,
  S1 22 (.bin .add (.t 21) (.k (.i .i64 1))),
  S7 4 22,
  S1 5 (.mov (.k (.bo true)))])
 (.rt)))
def Qk9:Fn:={ n:=23,np:=2,res:=[.t 4,.t 5],body:=c130 }
theorem e130:F 130=some Qk9:=by kernel_rfl
def Qkn:C :=
 .sq (.rg [S1 10 (.bin .lss (.t 9) (.t 8))])
 (.sq (.cd (.t 10)
  (.sk)
  (.ex 0))
 (.sq (.bk 1 (.sq (.rg [S7 11 9,
  S1 12 (.ixp 2 (.t 7) (.t 9)),
  S2 13 (.ld 2 true (.t 12)),
  S2 6 (.alc [.i .i64 0,.i .i64 0]),
  S7 5 11,
  S3 (.sto 2 (.t 6) (.t 13))])
 (.sq (.rg [S7 15 1,
  S7 16 5,
  S1 17 (.ixp 1 (.t 15) (.t 16)),
  S2 14 (.ld 2 true (.t 6)),
  S6 18 17,
  S2 19 (.pc 73 [(.t 14),(.t 18)]),
  S1 20 (.un .not (.t 19))])
 (.cd (.t 20)
  (.sq (.rg [S1 4 (.mov (.k (.bo false)))])
   (.rt))
  (.sk)))))
 (.rg [S1 21 (.bin .add (.t 9) (.k (.i .i64 1))),
  S7 9 21])))
def c50:C :=
 .sq (.rg [S1 4 (.mov (.k (.bo false)))])
 (.sq (.sq (.rg [S7 7 0,
  S1 8 (.len (.t 7)),
  S1 9 (.mov (.k (.i .i64 0)))])
 (.bk 0 (.lp Qkn)))
 (.sq (.rg [S1 4 (.mov (.k (.bo true)))])
 (.rt)))
def fn50:Fn:={ n:=22,np:=2,res:=[.t 4],body:=c50 }
theorem e50:F 50=some fn50:=by kernel_rfl
def c53:C :=
 .sq (.rg [S2 1 (.box (.t 0)),
  S2 2 (.alc [.i .i64 0,.i .u64 0,.i .u64 0,.i .u64 0,.i .u64 0,.nil,.i .i64 0,.i .i64 0]),
  S1 3 (.mov (.k (.i .i64 0)))])
 (.sq (.sq (.rg [S2 4 (.ld 8 true (.t 1)),
  S2 5 (.pc 74 [(.t 4)]),
  S1 6 (.un .not (.t 5))])
 (.cd (.t 6)
  (.sq (.rg [S1 7 (.bld [.i .i64 0,.i .u64 0,.i .u64 0,.i .u64 0,.i .u64 0,.nil,.i .i64 0,.i .i64 0] []),
    S3 (.sto 8 (.t 2) (.t 7)),
    S1 3 (.mov (.k (.i .i64 1)))])
   (.rt))
  (.sk)))
 (.sq (.rg [S2 8 (.ld 8 true (.t 1)),
  S2 9 (.pc 75 [(.t 8)]),
  S3 (.sto 8 (.t 2) (.t 9)),
  S1 3 (.mov (.k (.i .i64 0)))])
 (.rt)))
def fn53:Fn:={ n:=10,np:=1,res:=[.c 2 8 true,.t 3],body:=c53 }
theorem e53:F 53=some fn53:=by kernel_rfl
def QkY:C :=
 .sq (.rg [S1 70 (.bin .lss (.t 69) (.t 68))])
 (.sq (.cd (.t 70)
  (.sk)
  (.ex 0))
 (.sq (.bk 1 (.sq (.rg [S1 71 (.ixp 8 (.t 67) (.t 69)),
  S2 72 (.ld 8 true (.t 71)),
  S2 9 (.alc [.i .i64 0,.i .u64 0,.i .u64 0,.i .u64 0,.i .u64 0,.nil,.i .i64 0,.i .i64 0]),
  S3 (.sto 8 (.t 9) (.t 72))])
 (.rg [S7 73 0,
  S2 74 (.ld 8 true (.t 9)),
  S7 75 2,
  S2 76 (.nc 54 [(.t 73),(.t 74),(.t 75)])])))
 (.rg [S1 77 (.bin .add (.t 69) (.k (.i .i64 1))),
  S7 69 77])))
def c54:C :=
 .sq (.rg [S2 4 (.box (.t 1))])
 (.sq (.sq (.rg [S8 10 0 4,
  S6 11 10,
  S1 12 (.bin .eql (.t 11) (.k (.i .i64 1))),
  S7 13 12,
  S5 14 13 true (.adr 1 (.t 4)),
  S4 15 13 true (.ld 4 true (.t 14)),
  S4 16 13 true (.pc 57 [(.t 15)]),
  S5 17 13 true (.un .not (.t 16)),
  S1 18 (.pick (.t 13) (.t 17) (.k (.bo false)))])
 (.cd (.t 18)
  (.sq (.rg [S7 19 0,
    S7 20 0,
    S1 21 (.nck (.t 20)),
    S8 22 8 21,
    S8 24 1 4,
    S6 23 22,
    S2 25 (.ld 4 true (.t 24)),
    S2 26 (.bsl 4 1 [.i .u64 0,.i .u64 0,.i .u64 0,.i .u64 0] [(0,(.t 25))]),
    S2 27 (.app 4 32 (.t 23) (.t 26)),
    S1 28 (.nck (.t 19)),
    S8 29 8 28,
    S3 (.sto 1 (.t 29) (.t 27))])
   (.rg [S7 30 0,
    S7 31 0,
    S1 32 (.nck (.t 31)),
    S8 33 10 32,
    S7 35 2,
    S6 34 33,
    ⟨some 36,none,.nc 76 [(.t 35)],[.ld 1 false (.t 33)]⟩,
    S2 37 (.bsl 1 1 [.nil] [(0,(.t 36))]),
    S2 38 (.app 1 24 (.t 34) (.t 37)),
    S1 39 (.nck (.t 30)),
    S8 40 10 39,
    S3 (.sto 1 (.t 40) (.t 38))]))
  (.sk)))
 (.sq (.sq (.rg [S2 42 (.ld 8 true (.t 4)),
  S2 43 (.pc 77 [(.t 42)]),
  S7 41 43,
  S1 44 (.ext (.t 41) 0),
  S1 45 (.ext (.t 41) 1),
  S2 6 (.alc [.i .i64 0,.i .i64 0]),
  S3 (.sto 2 (.t 6) (.t 44)),
  S7 7 45])
 (.sq (.rg [S7 46 7])
 (.cd (.t 46)
  (.sq (.rg [S7 47 2,
    S7 49 0,
    S1 50 (.nck (.t 49)),
    S8 51 9 50,
    S6 52 51,
    S1 53 (.len (.t 52)),
    S1 54 (.lit 1 1 [.i .i64 0] [(0,(.t 53))]),
    ⟨some 48,none,.nc 76 [(.t 47)],[.ld 1 false (.t 51)]⟩,
    S2 55 (.app 1 8 (.t 48) (.t 54)),
    S7 2 55])
   (.rg [S7 56 0,
    S7 57 0,
    S1 58 (.nck (.t 57)),
    S8 59 9 58,
    S6 60 59,
    S2 61 (.ld 2 true (.t 6)),
    S2 62 (.bsl 2 1 [.i .i64 0,.i .i64 0] [(0,(.t 61))]),
    S2 63 (.app 2 16 (.t 60) (.t 62)),
    S1 64 (.nck (.t 56)),
    S8 65 9 64,
    S3 (.sto 1 (.t 65) (.t 63))]))
  (.sk))))
 (.sq (.rg [S8 66 5 4,
  S6 67 66,
  S1 68 (.len (.t 67)),
  S1 69 (.mov (.k (.i .i64 0)))])
 (.bk 0 (.lp QkY)))))
def fn54:Fn:={ n:=78,np:=3,res:=[],body:=c54 }
theorem e54:F 54=some fn54:=by kernel_rfl
def c55:C :=
 .sq (.rg [S1 4 (.mov (.k (.bo false)))])
 (.sq (.rg [S7 5 0,
  S7 6 1,
  S2 7 (.pc 78 [(.t 5),(.t 6)]),
  S1 8 (.bin .geq (.t 7) (.k (.i .i64 0))),
  S7 4 8])
 (.rt))
def fn55:Fn:={ n:=9,np:=2,res:=[.t 4],body:=c55 }
theorem e55:F 55=some fn55:=by kernel_rfl
def c56:C :=
 .sq (.rg [S1 2 (.mov (.k (.bo false)))])
 (.sq (.rg [S7 3 0,
  S1 4 (.len (.t 3)),
  S1 5 (.bin .gtr (.t 4) (.k (.i .i64 4))),
  S7 2 5])
 (.rt))
def fn56:Fn:={ n:=6,np:=1,res:=[.t 2],body:=c56 }
theorem e56:F 56=some fn56:=by kernel_rfl
def c57:C :=
 .sq (.rg [S2 1 (.box (.t 0)),
  S1 2 (.mov (.k (.bo false)))])
 (.sq (.rg [S2 3 (.ld 4 true (.t 1)),
  S1 4 (.bld [.i .u64 0,.i .u64 0,.i .u64 0,.i .u64 0] []),
  S1 5 (.eqp false true [.i .u64,.i .u64,.i .u64,.i .u64] (.t 3) (.t 4)),
  S7 2 5])
 (.rt))
def fn57:Fn:={ n:=6,np:=1,res:=[.t 2],body:=c57 }
theorem e57:F 57=some fn57:=by kernel_rfl
def QkJ:C :=
 .sq (.rg [S1 15 (.bin .lss (.t 14) (.t 13))])
 (.sq (.cd (.t 15)
  (.sk)
  (.ex 0))
 (.sq (.bk 1 (.sq (.rg [S1 16 (.ixp 8 (.t 12) (.t 14)),
  S2 17 (.ld 8 true (.t 16)),
  S2 9 (.alc [.i .i64 0,.i .u64 0,.i .u64 0,.i .u64 0,.i .u64 0,.nil,.i .i64 0,.i .i64 0]),
  S3 (.sto 8 (.t 9) (.t 17))])
 (.sq (.rg [S7 18 0,
  S2 19 (.ld 8 true (.t 9)),
  S7 20 2,
  S2 21 (.nc 35 [(.t 18),(.t 19),(.t 20)]),
  S2 10 (.alc [.nil,.nil,.bo false]),
  S3 (.sto 3 (.t 10) (.t 21))])
 (.sq (.rg [S7 22 0,
  S8 23 1 7,
  S6 24 23,
  S8 25 0 10,
  S6 26 25,
  S7 27 2,
  S2 28 (.nc 79 [(.t 22),(.t 24),(.t 26),(.t 27),(.k (.bo false))])])
 (.sq (.sq (.rg [S8 29 2 7,
  S6 30 29])
 (.cd (.t 30)
  (.rg [S8 31 0 7,
    S6 32 31,
    S8 33 0 10,
    S6 34 33,
    S2 35 (.bsl 1 2 [.nil] [(0,(.t 32)),(1,(.t 34))]),
    S2 36 (.nc 80 [(.t 35)]),
    S8 37 0 7,
    S3 (.sto 1 (.t 37) (.t 36))])
  (.sk)))
 (.sq (.sq (.rg [S8 38 2 10,
  S6 39 38])
 (.cd (.t 39)
  (.rg [S8 40 1 7,
    S6 41 40,
    S8 42 1 10,
    S6 43 42,
    S2 44 (.bsl 1 2 [.nil] [(0,(.t 41)),(1,(.t 43))]),
    S2 45 (.nc 80 [(.t 44)]),
    S8 46 1 7,
    S3 (.sto 1 (.t 46) (.t 45))])
  (.rg [S8 47 1 10,
    S6 48 47,
    S8 49 1 7,
    S3 (.sto 1 (.t 49) (.t 48))])))
 (.rg [S8 50 2 7,
  S6 51 50,
  S7 52 51,
  S5 53 52 true (.adr 2 (.t 10)),
  S4 54 52 true (.ld 1 false (.t 53)),
  S1 55 (.pick (.t 52) (.t 54) (.k (.bo false))),
  S8 56 2 7,
  S3 (.sto 1 (.t 56) (.t 55))])))))))
 (.rg [S1 57 (.bin .add (.t 14) (.k (.i .i64 1))),
  S7 14 57])))
def c58:C :=
 .sq (.rg [S2 6 (.alc [.nil,.nil,.bo false])])
 (.sq (.rg [S1 11 (.bld [.nil,.nil,.bo false] [(2,1,(.k (.bo true)))]),
  S2 7 (.alc [.nil,.nil,.bo false]),
  S3 (.sto 3 (.t 7) (.t 11))])
 (.sq (.sq (.rg [S7 12 1,
  S1 13 (.len (.t 12)),
  S1 14 (.mov (.k (.i .i64 0)))])
 (.bk 0 (.lp QkJ)))
 (.sq (.rg [S2 58 (.ld 3 true (.t 7)),
  S3 (.sto 3 (.t 6) (.t 58))])
 (.rt))))
def fn58:Fn:={ n:=59,np:=3,res:=[.c 6 3 true],body:=c58 }
theorem e58:F 58=some fn58:=by kernel_rfl
def Qkk:C :=
 .sq (.rg [S1 14 (.bin .lss (.t 13) (.t 12))])
 (.sq (.cd (.t 14)
  (.sk)
  (.ex 0))
 (.sq (.bk 1 (.sq (.rg [S1 15 (.ixp 8 (.t 11) (.t 13)),
  S2 16 (.ld 8 true (.t 15)),
  S2 9 (.alc [.i .i64 0,.i .u64 0,.i .u64 0,.i .u64 0,.i .u64 0,.nil,.i .i64 0,.i .i64 0]),
  S3 (.sto 8 (.t 9) (.t 16))])
 (.sq (.rg [S7 17 0,
  S2 18 (.ld 8 true (.t 9)),
  S7 19 2,
  S2 20 (.nc 35 [(.t 17),(.t 18),(.t 19)]),
  S2 10 (.alc [.nil,.nil,.bo false]),
  S3 (.sto 3 (.t 10) (.t 20))])
 (.sq (.rg [S8 21 0 7,
  S6 22 21,
  S8 23 0 10,
  S6 24 23,
  S2 25 (.bsl 1 2 [.nil] [(0,(.t 22)),(1,(.t 24))]),
  S2 26 (.nc 80 [(.t 25)]),
  S8 27 0 7,
  S3 (.sto 1 (.t 27) (.t 26))])
 (.sq (.rg [S8 28 1 7,
  S6 29 28,
  S8 30 1 10,
  S6 31 30,
  S2 32 (.bsl 1 2 [.nil] [(0,(.t 29)),(1,(.t 31))]),
  S2 33 (.nc 80 [(.t 32)]),
  S8 34 1 7,
  S3 (.sto 1 (.t 34) (.t 33))])
 (.rg [S8 35 2 7,
  S6 36 35,
  S7 37 36,
  S5 38 37 false (.adr 2 (.t 10)),
  S4 39 37 false (.ld 1 false (.t 38)),
  S1 40 (.pick (.t 37) (.k (.bo true)) (.t 39)),
  S8 41 2 7,
  S3 (.sto 1 (.t 41) (.t 40))]))))))
 (.rg [S1 42 (.bin .add (.t 13) (.k (.i .i64 1))),
  S7 13 42])))
def c59:C :=
 .sq (.rg [S2 6 (.alc [.nil,.nil,.bo false])])
 (.sq (.rg [S2 7 (.alc [.nil,.nil,.bo false])])
 (.sq (.sq (.rg [S7 11 1,
  S1 12 (.len (.t 11)),
  S1 13 (.mov (.k (.i .i64 0)))])
 (.bk 0 (.lp Qkk)))
 (.sq (.rg [S2 43 (.ld 3 true (.t 7)),
  S3 (.sto 3 (.t 6) (.t 43))])
 (.rt))))
def fn59:Fn:={ n:=44,np:=3,res:=[.c 6 3 true],body:=c59 }
theorem e59:F 59=some fn59:=by kernel_rfl
def c60:C :=
 .sq (.rg [S2 4 (.box (.t 1)),
  S2 6 (.alc [.nil,.nil,.bo false])])
 (.sq (.rg [S2 12 (.ld 8 true (.t 4)),
  S2 13 (.pc 77 [(.t 12)]),
  S7 11 13,
  S1 14 (.ext (.t 11) 0),
  S1 15 (.ext (.t 11) 1),
  S2 7 (.alc [.i .i64 0,.i .i64 0]),
  S3 (.sto 2 (.t 7) (.t 14)),
  S7 8 15])
 (.sq (.rg [S7 16 2,
  S7 9 16])
 (.sq (.sq (.rg [S7 17 8])
 (.cd (.t 17)
  (.rg [S7 18 9,
    S1 19 (.bin .add (.t 18) (.k (.i .i64 1))),
    S7 9 19])
  (.sk)))
 (.sq (.rg [S7 20 0,
  S8 21 5 4,
  S6 22 21,
  S1 23 (.ixp 8 (.t 22) (.k (.i .i64 0))),
  S2 24 (.ld 8 true (.t 23)),
  S7 25 9,
  S2 26 (.nc 35 [(.t 20),(.t 24),(.t 25)]),
  S2 10 (.alc [.nil,.nil,.bo false]),
  S3 (.sto 3 (.t 10) (.t 26))])
 (.sq (.sq (.rg [S8 27 7 4,
  S6 28 27,
  S1 29 (.bin .neq (.t 28) (.k (.i .i64 1)))])
 (.cd (.t 29)
  (.rg [S7 30 0,
    S8 31 1 10,
    S6 32 31,
    S8 33 0 10,
    S6 34 33,
    S7 35 2,
    S7 36 8,
    S2 37 (.nc 79 [(.t 30),(.t 32),(.t 34),(.t 35),(.t 36)])])
  (.sk)))
 (.sq (.rg [S2 38 (.ld 8 true (.t 4)),
  S2 39 (.pc 81 [(.t 38)]),
  S8 40 2 10,
  S3 (.sto 1 (.t 40) (.t 39))])
 (.sq (.rg [S2 41 (.ld 3 true (.t 10)),
  S3 (.sto 3 (.t 6) (.t 41))])
 (.rt))))))))
def fn60:Fn:={ n:=42,np:=3,res:=[.c 6 3 true],body:=c60 }
theorem e60:F 60=some fn60:=by kernel_rfl
def J2:C :=
 .sq (.rg [S1 9 (.bin .lss (.t 8) (.t 7))])
 (.sq (.cd (.t 9)
  (.sk)
  (.ex 0))
 (.sq (.bk 1 (.sq (.rg [S1 10 (.ixp 1 (.t 6) (.t 8)),
  S6 11 10,
  S7 5 11])
 (.sq (.rg [S7 12 5,
  S7 13 3,
  S1 14 (.bin .neq (.t 12) (.t 13))])
 (.cd (.t 14)
  (.sq (.rg [S7 15 5,
    S7 2 15])
   (.rt))
  (.sk)))))
 (.rg [S1 16 (.bin .add (.t 8) (.k (.i .i64 1))),
  S7 8 16])))
def c45:C :=
 .sq (.rg [S1 2 (.mov (.k (.i .i64 0)))])
 (.sq (.rg [S1 3 (.mov (.k (.i .i64 0)))])
 (.sq (.sq (.rg [S7 6 0,
  S1 7 (.len (.t 6)),
  S1 8 (.mov (.k (.i .i64 0)))])
 (.bk 0 (.lp J2)))
 (.sq (.rg [S7 17 3,
  S7 2 17])
 (.rt))))
def fn45:Fn:={ n:=18,np:=1,res:=[.t 2],body:=c45 }
theorem e45:F 45=some fn45:=by kernel_rfl
def c46:C :=
 .sq (.rg [S1 4 (.mov (.k (.i .i64 0)))])
 (.sq (.rg [S7 7 0,
  S2 8 (.pc 70 [(.t 7)]),
  S7 5 8])
 (.sq (.rg [S7 9 1,
  S2 10 (.pc 70 [(.t 9)]),
  S7 6 10])
 (.sq (.sq (.rg [S7 11 5])
 (.cd (.t 11)
  (.sq (.sq (.rg [S7 12 6])
   (.cd (.t 12)
    (.sq (.rg [S1 4 (.mov (.k (.i .i64 0)))])
     (.rt))
    (.sk)))
   (.sq (.rg [S1 4 (.mov (.k (.i .i64 (-1))))])
   (.rt)))
  (.sk)))
 (.sq (.sq (.rg [S7 13 6])
 (.cd (.t 13)
  (.sq (.rg [S1 4 (.mov (.k (.i .i64 1)))])
   (.rt))
  (.sk)))
 (.sq (.sq (.rg [S7 14 0,
  S7 15 1,
  S1 16 (.bin .lss (.t 14) (.t 15))])
 (.cd (.t 16)
  (.sq (.rg [S1 4 (.mov (.k (.i .i64 (-1))))])
   (.rt))
  (.sk)))
 (.sq (.sq (.rg [S7 17 0,
  S7 18 1,
  S1 19 (.bin .gtr (.t 17) (.t 18))])
 (.cd (.t 19)
  (.sq (.rg [S1 4 (.mov (.k (.i .i64 1)))])
   (.rt))
  (.sk)))
 (.sq (.rg [S1 4 (.mov (.k (.i .i64 0)))])
 (.rt))))))))
def fn46:Fn:={ n:=20,np:=2,res:=[.t 4],body:=c46 }
theorem e46:F 46=some fn46:=by kernel_rfl
def Qkp:C :=
 .sq (.rg [S1 12 (.bin .lss (.t 11) (.t 10))])
 (.sq (.cd (.t 12)
  (.sk)
  (.ex 0))
 (.sq (.bk 1 (.sq (.rg [S7 13 11,
  S1 14 (.ixp 1 (.t 9) (.t 11)),
  S6 15 14,
  S7 5 13,
  S7 6 15])
 (.sq (.sq (.rg [S7 16 5,
  S7 17 1,
  S1 18 (.len (.t 17)),
  S1 19 (.bin .geq (.t 16) (.t 18))])
 (.cd (.t 19)
  (.sq (.rg [S1 4 (.mov (.k (.i .i64 1)))])
   (.rt))
  (.sk)))
 (.sq (.rg [S7 20 1,
  S7 21 5,
  S1 22 (.ixp 1 (.t 20) (.t 21)),
  S6 23 22,
  S7 7 23])
 (.sq (.rg [S7 24 6,
  S7 25 7,
  S2 26 (.pc 71 [(.t 24),(.t 25)]),
  S7 8 26])
 (.sq (.rg [S7 27 8,
  S1 28 (.bin .neq (.t 27) (.k (.i .i64 0)))])
 (.cd (.t 28)
  (.sq (.rg [S7 29 8,
    S7 4 29])
   (.rt))
  (.sk))))))))
 (.rg [S1 30 (.bin .add (.t 11) (.k (.i .i64 1))),
  S7 11 30])))
def c47:C :=
 .sq (.rg [S1 4 (.mov (.k (.i .i64 0)))])
 (.sq (.sq (.rg [S7 9 0,
  S1 10 (.len (.t 9)),
  S1 11 (.mov (.k (.i .i64 0)))])
 (.bk 0 (.lp Qkp)))
 (.sq (.sq (.rg [S7 31 0,
  S1 32 (.len (.t 31)),
  S7 33 1,
  S1 34 (.len (.t 33)),
  S1 35 (.bin .lss (.t 32) (.t 34))])
 (.cd (.t 35)
  (.sq (.rg [S1 4 (.mov (.k (.i .i64 (-1))))])
   (.rt))
  (.sk)))
 (.sq (.rg [S1 4 (.mov (.k (.i .i64 0)))])
 (.rt))))
def fn47:Fn:={ n:=36,np:=2,res:=[.t 4],body:=c47 }
theorem e47:F 47=some fn47:=by kernel_rfl
def c73:C :=
 .sq (.rg [S2 2 (.box (.t 0)),
  S1 4 (.mov (.k (.bo false)))])
 (.sq (.rg [S7 5 1,
  S8 6 0 2,
  S6 7 6,
  S1 8 (.bin .geq (.t 5) (.t 7)),
  S7 4 8])
 (.rt))
def fn73:Fn:={ n:=9,np:=2,res:=[.t 4],body:=c73 }
theorem e73:F 73=some fn73:=by kernel_rfl
def c74:C :=
 .sq (.rg [S2 1 (.box (.t 0)),
  S1 2 (.mov (.k (.bo false)))])
 (.sq (.rg [S2 3 (.ld 8 true (.t 1)),
  S2 4 (.pc 112 [(.t 3)]),
  S7 5 4,
  S5 6 5 true (.adr 5 (.t 1)),
  S4 7 5 true (.ld 1 false (.t 6)),
  S4 8 5 true (.pc 113 [(.t 7),(.k (.fn 114 []))]),
  S5 9 5 true (.un .not (.t 8)),
  S1 10 (.pick (.t 5) (.t 9) (.k (.bo false))),
  S7 2 10])
 (.rt))
def fn74:Fn:={ n:=11,np:=1,res:=[.t 2],body:=c74 }
theorem e74:F 74=some fn74:=by kernel_rfl
def QiN:C :=
 .sq (.rg [S1 13 (.bin .lss (.t 12) (.t 11))])
 (.sq (.cd (.t 13)
  (.sk)
  (.ex 0))
 (.sq (.bk 1 (.sq (.rg [S1 14 (.ixp 8 (.t 10) (.t 12)),
  S2 15 (.ld 8 true (.t 14)),
  S2 5 (.alc [.i .i64 0,.i .u64 0,.i .u64 0,.i .u64 0,.i .u64 0,.nil,.i .i64 0,.i .i64 0]),
  S3 (.sto 8 (.t 5) (.t 15))])
 (.rg [S7 16 3,
  S2 17 (.ld 8 true (.t 5)),
  S2 18 (.pc 75 [(.t 17)]),
  S2 19 (.bsl 8 1 [.i .i64 0,.i .u64 0,.i .u64 0,.i .u64 0,.i .u64 0,.nil,.i .i64 0,.i .i64 0] [(0,(.t 18))]),
  S2 20 (.app 8 80 (.t 16) (.t 19)),
  S7 3 20])))
 (.rg [S1 21 (.bin .add (.t 12) (.k (.i .i64 1))),
  S7 12 21])))
def c75:C :=
 .sq (.rg [S2 1 (.box (.t 0)),
  S2 2 (.alc [.i .i64 0,.i .u64 0,.i .u64 0,.i .u64 0,.i .u64 0,.nil,.i .i64 0,.i .i64 0])])
 (.sq (.sq (.rg [S2 6 (.ld 8 true (.t 1)),
  S2 7 (.pc 115 [(.t 6)])])
 (.cd (.t 7)
  (.sq (.rg [S1 8 (.bld [.i .i64 0,.i .u64 0,.i .u64 0,.i .u64 0,.i .u64 0,.nil,.i .i64 0,.i .i64 0] [(0,1,(.k (.i .i64 1)))]),
    S3 (.sto 8 (.t 2) (.t 8))])
   (.rt))
  (.sk)))
 (.sq (.rg [S1 3 (.mov (.k (.nil)))])
 (.sq (.sq (.rg [S8 9 5 1,
  S6 10 9,
  S1 11 (.len (.t 10)),
  S1 12 (.mov (.k (.i .i64 0)))])
 (.bk 0 (.lp QiN)))
 (.sq (.sq (.rg [S8 22 0 1,
  S6 23 22])
 (.bk 2 (.sq (.sq (.rg [S1 25 (.bin .eql (.t 23) (.k (.i .i64 2))),
  S7 24 25])
 (.cd (.t 24)
  (.sk)
  (.rg [S1 26 (.bin .eql (.t 23) (.k (.i .i64 3))),
    S7 24 26])))
 (.cd (.t 24)
  (.sq (.rg [S8 27 0 1,
    S8 29 0 1,
    S7 31 3,
    S6 28 27,
    S6 30 29,
    ⟨some 32,none,.nc 117 [(.t 30),(.k (.nil)),(.t 31)],[.ld 1 false (.t 27)]⟩,
    S2 33 (.nc 116 [(.t 28),(.t 32)]),
    S3 (.sto 8 (.t 2) (.t 33))])
   (.rt))
  (.sq (.rg [S1 35 (.bin .eql (.t 23) (.k (.i .i64 4))),
    S7 34 35])
   (.cd (.t 34)
    (.sq (.rg [S7 36 3,
      S1 37 (.ixp 8 (.t 36) (.k (.i .i64 0))),
      S8 39 6 1,
      S8 41 7 1,
      S2 38 (.ld 8 true (.t 37)),
      S6 40 39,
      S6 42 41,
      S2 43 (.pc 118 [(.t 38),(.t 40),(.t 42)]),
      S3 (.sto 8 (.t 2) (.t 43))])
     (.rt))
    (.sk)))))))
 (.sq (.rg [S2 44 (.ld 8 true (.t 1)),
  S3 (.sto 8 (.t 2) (.t 44))])
 (.rt))))))
def fn75:Fn:={ n:=45,np:=1,res:=[.c 2 8 true],body:=c75 }
theorem e75:F 75=some fn75:=by kernel_rfl
def c76:C :=
 .sq (.rg [S1 2 (.mov (.k (.nil)))])
 (.sq (.sq (.rg [S7 3 0,
  S2 4 (.isz false (.t 3))])
 (.cd (.t 4)
  (.sq (.rg [S1 2 (.mov (.k (.nil)))])
   (.rt))
  (.sk)))
 (.sq (.rg [S2 5 (.bsl 1 0 [.i .i64 0] []),
  S7 6 0,
  S2 7 (.app 1 8 (.t 5) (.t 6)),
  S7 2 7])
 (.rt)))
def fn76:Fn:={ n:=8,np:=1,res:=[.t 2],body:=c76 }
theorem e76:F 76=some fn76:=by kernel_rfl
def c77:C :=
 .sq (.rg [S2 1 (.box (.t 0)),
  S2 2 (.alc [.i .i64 0,.i .i64 0]),
  S1 3 (.mov (.k (.bo false)))])
 (.sq (.rg [S8 5 6 1,
  S6 6 5,
  S1 7 (.mx true (.k (.i .i64 1)) (.t 6)),
  S8 8 7 1,
  S6 9 8,
  S1 10 (.bld [.i .i64 0,.i .i64 0] [(0,1,(.t 7)),(1,1,(.t 9))]),
  S2 4 (.alc [.i .i64 0,.i .i64 0]),
  S3 (.sto 2 (.t 4) (.t 10))])
 (.sq (.rg [S8 12 0 1,
  S2 11 (.ld 2 true (.t 4)),
  S6 13 12,
  S1 14 (.bin .eql (.t 13) (.k (.i .i64 4))),
  S7 15 14,
  S5 16 15 true (.adr 1 (.t 4)),
  S4 17 15 true (.ld 1 false (.t 16)),
  S5 18 15 true (.bin .gtr (.t 17) (.k (.i .i64 1))),
  S5 19 15 true (.mov (.t 18)),
  S5 20 19 false (.adr 1 (.t 4)),
  S4 21 19 false (.ld 1 false (.t 20)),
  S5 22 19 false (.bin .eql (.t 21) (.k (.i .i64 (-1)))),
  S5 23 19 false (.mov (.t 22)),
  S5 24 23 true (.adr 0 (.t 4)),
  S4 25 23 true (.ld 1 false (.t 24)),
  S5 26 23 true (.bin .gtr (.t 25) (.k (.i .i64 1))),
  S5 27 19 false (.pick (.t 23) (.t 26) (.k (.bo false))),
  S5 28 15 true (.pick (.t 19) (.k (.bo true)) (.t 27)),
  S1 29 (.pick (.t 15) (.t 28) (.k (.bo false))),
  ⟨none,none,.sto 2 (.t 2) (.t 11),[.ld 1 false (.t 24)]⟩,
  S7 3 29])
 (.rt)))
def fn77:Fn:={ n:=30,np:=1,res:=[.c 2 2 true,.t 3],body:=c77 }
theorem e77:F 77=some fn77:=by kernel_rfl
def Qje:C :=
 .sq (.rg [S1 9 (.bin .lss (.t 8) (.t 7))])
 (.sq (.cd (.t 9)
  (.sk)
  (.ex 0))
 (.sq (.bk 1 (.sq (.rg [S7 10 8,
  S7 5 10])
 (.sq (.rg [S7 11 1,
  S7 12 0,
  S7 13 5,
  S1 14 (.ixp 1 (.t 12) (.t 13)),
  S6 15 14,
  S2 16 (.pv (.t 11) [(.t 15)])])
 (.cd (.t 16)
  (.sq (.rg [S7 17 5,
    S7 4 17])
   (.rt))
  (.sk)))))
 (.rg [S1 18 (.bin .add (.t 8) (.k (.i .i64 1))),
  S7 8 18])))
def c78:C :=
 .sq (.rg [S1 4 (.mov (.k (.i .i64 0)))])
 (.sq (.sq (.rg [S7 6 0,
  S1 7 (.len (.t 6)),
  S1 8 (.mov (.k (.i .i64 0)))])
 (.bk 0 (.lp Qje)))
 (.sq (.rg [S1 4 (.mov (.k (.i .i64 (-1))))])
 (.rt)))
def fn78:Fn:={ n:=19,np:=2,res:=[.t 4],body:=c78 }
theorem e78:F 78=some fn78:=by kernel_rfl
def Qis:C :=
 .sq (.rg [S1 23 (.bin .lss (.t 22) (.t 21))])
 (.sq (.cd (.t 23)
  (.sk)
  (.ex 2))
 (.sq (.bk 3 (.sq (.rg [S1 24 (.ixp 1 (.t 20) (.t 22)),
  S6 25 24,
  S7 13 25])
 (.rg [S7 26 0,
  S1 27 (.nck (.t 26)),
  S8 28 1 27,
  S7 30 11,
  S7 31 13,
  S7 32 3,
  S7 33 4,
  S1 34 (.bld [.i .i64 0,.i .i64 0,.bo false] [(0,1,(.t 31)),(1,1,(.t 32)),(2,1,(.t 33))]),
  S1 35 (.bld [.i .i64 0,.i .i64 0,.i .i64 0,.bo false] [(0,1,(.t 30)),(1,3,(.t 34))]),
  S6 29 28,
  S2 36 (.lkp true [.i .i64,.i .i64,.i .i64,.b] (.i .i64 0) false (.t 29) (.t 35)),
  S1 37 (.bin .add (.t 36) (.k (.i .i64 1))),
  ⟨some 38,none,.men true [.i .i64,.i .i64,.i .i64,.b] (.i .i64 0) (.t 29) (.t 35),[.lkp true [.i .i64,.i .i64,.i .i64,.b] (.i .i64 0) false (.t 29) (.t 35)]⟩,
  S1 39 (.ext (.t 38) 1),
  S3 (.est (.t 29) (.t 39) (.t 37))])))
 (.rg [S1 40 (.bin .add (.t 22) (.k (.i .i64 1))),
  S7 22 40])))
def Qi6:C :=
 .sq (.rg [S1 17 (.bin .lss (.t 16) (.t 15))])
 (.sq (.cd (.t 17)
  (.sk)
  (.ex 0))
 (.sq (.bk 1 (.sq (.rg [S1 18 (.ixp 1 (.t 14) (.t 16)),
  S6 19 18,
  S7 11 19])
 (.sq (.rg [S7 20 2,
  S1 21 (.len (.t 20)),
  S1 22 (.mov (.k (.i .i64 0)))])
 (.bk 2 (.lp Qis)))))
 (.rg [S1 41 (.bin .add (.t 16) (.k (.i .i64 1))),
  S7 16 41])))
def c79:C :=
 .sq (.rg [S7 14 1,
  S1 15 (.len (.t 14)),
  S1 16 (.mov (.k (.i .i64 0)))])
 (.bk 0 (.lp Qi6))
def fn79:Fn:={ n:=42,np:=5,res:=[],body:=c79 }
theorem e79:F 79=some fn79:=by kernel_rfl
def VC:C :=
 .sq (.rg [S1 12 (.bin .lss (.t 11) (.t 10))])
 (.sq (.cd (.t 12)
  (.sk)
  (.ex 0))
 (.sq (.bk 1 (.sq (.rg [S1 13 (.ixp 1 (.t 9) (.t 11)),
  S6 14 13,
  S7 5 14])
 (.sq (.rg [S7 15 3,
  S7 16 5,
  S1 17 (.len (.t 16)),
  S1 18 (.bin .add (.t 15) (.t 17)),
  S7 3 18])
 (.sq (.rg [S7 19 3,
  S1 20 (.bin .lss (.t 19) (.k (.i .i64 0)))])
 (.cd (.t 20)
  (.rg [S2 21 (.bad),
    S3 (.bad)])
  (.sk))))))
 (.rg [S1 22 (.bin .add (.t 11) (.k (.i .i64 1))),
  S7 11 22])))
def YK:C :=
 .sq (.rg [S1 28 (.bin .lss (.t 27) (.t 26))])
 (.sq (.cd (.t 28)
  (.sk)
  (.ex 2))
 (.sq (.bk 3 (.sq (.rg [S1 29 (.ixp 1 (.t 25) (.t 27)),
  S6 30 29,
  S7 8 30])
 (.rg [S7 31 6,
  S7 32 8,
  S2 33 (.app 1 8 (.t 31) (.t 32)),
  S7 6 33])))
 (.rg [S1 34 (.bin .add (.t 27) (.k (.i .i64 1))),
  S7 27 34])))
def c80:C :=
 .sq (.rg [S1 2 (.mov (.k (.nil)))])
 (.sq (.rg [S1 3 (.mov (.k (.i .i64 0)))])
 (.sq (.sq (.rg [S7 9 0,
  S1 10 (.len (.t 9)),
  S1 11 (.mov (.k (.i .i64 0)))])
 (.bk 0 (.lp VC)))
 (.sq (.rg [S7 23 3,
  S2 24 (.nc 119 [(.k (.nil)),(.t 23)]),
  S7 6 24])
 (.sq (.sq (.rg [S7 25 0,
  S1 26 (.len (.t 25)),
  S1 27 (.mov (.k (.i .i64 0)))])
 (.bk 2 (.lp YK)))
 (.sq (.rg [S7 35 6,
  S7 2 35])
 (.rt))))))
def fn80:Fn:={ n:=36,np:=1,res:=[.t 2],body:=c80 }
theorem e80:F 80=some fn80:=by kernel_rfl
def c81:C :=
 .sq (.rg [S2 1 (.box (.t 0)),
  S1 2 (.mov (.k (.bo false)))])
 (.sq (.rg [S2 3 (.ld 8 true (.t 1)),
  S2 4 (.pc 74 [(.t 3)]),
  S7 5 4,
  S4 6 5 true (.ld 8 true (.t 1)),
  S4 7 5 true (.pc 120 [(.t 6)]),
  S1 8 (.pick (.t 5) (.t 7) (.k (.bo false))),
  S7 2 8])
 (.rt))
def fn81:Fn:={ n:=9,np:=1,res:=[.t 2],body:=c81 }
theorem e81:F 81=some fn81:=by kernel_rfl
def c70:C :=
 .sq (.rg [S1 2 (.mov (.k (.bo false)))])
 (.sq (.rg [S7 3 0,
  S7 4 0,
  S1 5 (.bin .neq (.t 3) (.t 4)),
  S7 2 5])
 (.rt))
def fn70:Fn:={ n:=6,np:=1,res:=[.t 2],body:=c70 }
theorem e70:F 70=some fn70:=by kernel_rfl
def c71:C :=
 .sq (.rg [S1 4 (.mov (.k (.i .i64 0)))])
 (.sq (.rg [S7 7 0,
  S2 8 (.pc 111 [(.t 7)]),
  S7 5 8])
 (.sq (.rg [S7 9 1,
  S2 10 (.pc 111 [(.t 9)]),
  S7 6 10])
 (.sq (.sq (.rg [S7 11 5])
 (.cd (.t 11)
  (.sq (.sq (.rg [S7 12 6])
   (.cd (.t 12)
    (.sq (.rg [S1 4 (.mov (.k (.i .i64 0)))])
     (.rt))
    (.sk)))
   (.sq (.rg [S1 4 (.mov (.k (.i .i64 (-1))))])
   (.rt)))
  (.sk)))
 (.sq (.sq (.rg [S7 13 6])
 (.cd (.t 13)
  (.sq (.rg [S1 4 (.mov (.k (.i .i64 1)))])
   (.rt))
  (.sk)))
 (.sq (.sq (.rg [S7 14 0,
  S7 15 1,
  S1 16 (.bin .lss (.t 14) (.t 15))])
 (.cd (.t 16)
  (.sq (.rg [S1 4 (.mov (.k (.i .i64 (-1))))])
   (.rt))
  (.sk)))
 (.sq (.sq (.rg [S7 17 0,
  S7 18 1,
  S1 19 (.bin .gtr (.t 17) (.t 18))])
 (.cd (.t 19)
  (.sq (.rg [S1 4 (.mov (.k (.i .i64 1)))])
   (.rt))
  (.sk)))
 (.sq (.rg [S1 4 (.mov (.k (.i .i64 0)))])
 (.rt))))))))
def fn71:Fn:={ n:=20,np:=2,res:=[.t 4],body:=c71 }
theorem e71:F 71=some fn71:=by kernel_rfl
def c112:C :=
 .sq (.rg [S2 1 (.box (.t 0)),
  S1 2 (.mov (.k (.bo false)))])
 (.sq (.rg [S8 4 6 1,
  S6 5 4,
  S1 6 (.bin .eql (.t 5) (.k (.i .i64 0))),
  S7 7 6,
  S5 8 7 true (.adr 7 (.t 1)),
  S4 9 7 true (.ld 1 false (.t 8)),
  S5 10 7 true (.bin .eql (.t 9) (.k (.i .i64 0))),
  S1 11 (.pick (.t 7) (.t 10) (.k (.bo false))),
  S7 3 11])
 (.sq (.sq (.rg [S8 12 0 1,
  S6 13 12])
 (.bk 0 (.sq (.rg [S1 15 (.bin .eql (.t 13) (.k (.i .i64 0))),
  S7 14 15])
 (.cd (.t 14)
  (.sq (.rg [S7 16 3,
    S7 17 16,
    S5 18 17 true (.adr 1 (.t 1)),
    S4 19 17 true (.ld 4 true (.t 18)),
    S4 20 17 true (.pc 57 [(.t 19)]),
    S1 21 (.pick (.t 17) (.t 20) (.k (.bo false))),
    S7 22 21,
    S5 23 22 true (.adr 5 (.t 1)),
    S4 24 22 true (.ld 1 false (.t 23)),
    S5 25 22 true (.len (.t 24)),
    S5 26 22 true (.bin .eql (.t 25) (.k (.i .i64 0))),
    S1 27 (.pick (.t 22) (.t 26) (.k (.bo false))),
    S7 2 27])
   (.rt))
  (.sq (.rg [S1 29 (.bin .eql (.t 13) (.k (.i .i64 1))),
    S7 28 29])
   (.cd (.t 28)
    (.sq (.rg [S7 30 3,
      S7 31 30,
      S5 32 31 true (.adr 5 (.t 1)),
      S4 33 31 true (.ld 1 false (.t 32)),
      S5 34 31 true (.len (.t 33)),
      S5 35 31 true (.bin .eql (.t 34) (.k (.i .i64 0))),
      S1 36 (.pick (.t 31) (.t 35) (.k (.bo false))),
      S7 2 36])
     (.rt))
    (.sq (.sq (.rg [S1 38 (.bin .eql (.t 13) (.k (.i .i64 2))),
      S7 37 38])
     (.cd (.t 37)
      (.sk)
      (.rg [S1 39 (.bin .eql (.t 13) (.k (.i .i64 3))),
        S7 37 39])))
     (.cd (.t 37)
      (.sq (.rg [S7 40 3,
        S7 41 40,
        S5 42 41 true (.adr 1 (.t 1)),
        S4 43 41 true (.ld 4 true (.t 42)),
        S4 44 41 true (.pc 57 [(.t 43)]),
        S1 45 (.pick (.t 41) (.t 44) (.k (.bo false))),
        S7 46 45,
        S5 47 46 true (.adr 5 (.t 1)),
        S4 48 46 true (.ld 1 false (.t 47)),
        S5 49 46 true (.len (.t 48)),
        S5 50 46 true (.bin .geq (.t 49) (.k (.i .i64 2))),
        S1 51 (.pick (.t 46) (.t 50) (.k (.bo false))),
        S7 2 51])
       (.rt))
      (.sq (.rg [S1 53 (.bin .eql (.t 13) (.k (.i .i64 4))),
        S7 52 53])
       (.cd (.t 52)
        (.sq (.rg [S8 54 1 1,
          S2 55 (.ld 4 true (.t 54)),
          S2 56 (.pc 57 [(.t 55)]),
          S7 57 56,
          S5 58 57 true (.adr 5 (.t 1)),
          S4 59 57 true (.ld 1 false (.t 58)),
          S5 60 57 true (.len (.t 59)),
          S5 61 57 true (.bin .eql (.t 60) (.k (.i .i64 1))),
          S1 62 (.pick (.t 57) (.t 61) (.k (.bo false))),
          S7 63 62,
          S5 64 63 true (.adr 6 (.t 1)),
          S4 65 63 true (.ld 1 false (.t 64)),
          S5 66 63 true (.bin .geq (.t 65) (.k (.i .i64 0))),
          S1 67 (.pick (.t 63) (.t 66) (.k (.bo false))),
          S7 68 67,
          S5 69 68 true (.adr 6 (.t 1)),
          S4 70 68 true (.ld 1 false (.t 69)),
          S5 71 68 true (.bin .leq (.t 70) (.k (.i .i64 2147483647))),
          S1 72 (.pick (.t 68) (.t 71) (.k (.bo false))),
          S7 73 72,
          S5 74 73 true (.adr 7 (.t 1)),
          S4 75 73 true (.ld 1 false (.t 74)),
          S5 76 73 true (.bin .eql (.t 75) (.k (.i .i64 (-1)))),
          S5 77 73 true (.mov (.t 76)),
          S5 78 77 false (.adr 7 (.t 1)),
          S4 79 77 false (.ld 1 false (.t 78)),
          S5 80 77 false (.adr 6 (.t 1)),
          S4 81 77 false (.ld 1 false (.t 80)),
          S5 82 77 false (.bin .geq (.t 79) (.t 81)),
          S5 83 77 false (.mov (.t 82)),
          S5 84 83 true (.adr 7 (.t 1)),
          S4 85 83 true (.ld 1 false (.t 84)),
          S5 86 83 true (.bin .leq (.t 85) (.k (.i .i64 2147483647))),
          S5 87 77 false (.pick (.t 83) (.t 86) (.k (.bo false))),
          S5 88 73 true (.pick (.t 77) (.k (.bo true)) (.t 87)),
          S1 89 (.pick (.t 73) (.t 88) (.k (.bo false))),
          S7 2 89])
         (.rt))
        (.sk)))))))))))
 (.sq (.rg [S1 2 (.mov (.k (.bo false)))])
 (.rt))))
def Qja:Fn:={ n:=90,np:=1,res:=[.t 2],body:=c112 }
theorem e112:F 112=some Qja:=by kernel_rfl
def c113:C :=
 .sq (.rg [S1 4 (.mov (.k (.bo false)))])
 (.sq (.rg [S7 5 0,
  S7 6 1,
  S2 7 (.pc 134 [(.t 5),(.t 6)]),
  S1 8 (.bin .geq (.t 7) (.k (.i .i64 0))),
  S7 4 8])
 (.rt))
def Qke:Fn:={ n:=9,np:=2,res:=[.t 4],body:=c113 }
theorem e113:F 113=some Qke:=by kernel_rfl
def c114:C :=
 .sq (.rg [S2 1 (.box (.t 0)),
  S1 2 (.mov (.k (.bo false)))])
 (.sq (.rg [S2 3 (.ld 8 true (.t 1)),
  S2 4 (.pc 74 [(.t 3)]),
  S1 5 (.un .not (.t 4)),
  S7 2 5])
 (.rt))
def Qkq:Fn:={ n:=6,np:=1,res:=[.t 2],body:=c114 }
theorem e114:F 114=some Qkq:=by kernel_rfl
def c115:C :=
 .sq (.rg [S2 1 (.box (.t 0)),
  S1 2 (.mov (.k (.bo false)))])
 (.sq (.sq (.rg [S8 3 0 1,
  S6 4 3])
 (.bk 0 (.sq (.rg [S1 6 (.bin .eql (.t 4) (.k (.i .i64 1))),
  S7 5 6])
 (.cd (.t 5)
  (.sq (.rg [S8 7 1 1,
    S2 8 (.ld 4 true (.t 7)),
    S2 9 (.pc 57 [(.t 8)]),
    S7 2 9])
   (.rt))
  (.sq (.rg [S1 11 (.bin .eql (.t 4) (.k (.i .i64 2))),
    S7 10 11])
   (.cd (.t 10)
    (.sq (.rg [S8 12 5 1,
      S6 13 12,
      S2 14 (.pc 113 [(.t 13),(.k (.fn 115 []))]),
      S7 2 14])
     (.rt))
    (.sq (.rg [S1 16 (.bin .eql (.t 4) (.k (.i .i64 3))),
      S7 15 16])
     (.cd (.t 15)
      (.sq (.rg [S8 17 5 1,
        S6 18 17,
        S2 19 (.pc 113 [(.t 18),(.k (.fn 135 []))]),
        S1 20 (.un .not (.t 19)),
        S7 2 20])
       (.rt))
      (.sq (.rg [S1 22 (.bin .eql (.t 4) (.k (.i .i64 4))),
        S7 21 22])
       (.cd (.t 21)
        (.sq (.rg [S8 23 6 1,
          S6 24 23,
          S1 25 (.bin .gtr (.t 24) (.k (.i .i64 0))),
          S7 26 25,
          S5 27 26 true (.adr 5 (.t 1)),
          S4 28 26 true (.ld 1 false (.t 27)),
          S5 29 26 true (.ixp 8 (.t 28) (.k (.i .i64 0))),
          S4 30 26 true (.ld 8 true (.t 29)),
          S4 31 26 true (.pc 115 [(.t 30)]),
          S1 32 (.pick (.t 26) (.t 31) (.k (.bo false))),
          S7 2 32])
         (.rt))
        (.sk)))))))))))
 (.sq (.rg [S1 2 (.mov (.k (.bo false)))])
 (.rt)))
def QfC:Fn:={ n:=33,np:=1,res:=[.t 2],body:=c115 }
theorem e115:F 115=some QfC:=by kernel_rfl
def c116:C :=
 .sq (.rg [S2 4 (.alc [.i .i64 0,.i .u64 0,.i .u64 0,.i .u64 0,.i .u64 0,.nil,.i .i64 0,.i .i64 0])])
 (.sq (.sq (.rg [S7 5 1,
  S1 6 (.len (.t 5))])
 (.bk 0 (.sq (.rg [S1 8 (.bin .eql (.t 6) (.k (.i .i64 0))),
  S7 7 8])
 (.cd (.t 7)
  (.sq (.rg [S1 9 (.bld [.i .i64 0,.i .u64 0,.i .u64 0,.i .u64 0,.i .u64 0,.nil,.i .i64 0,.i .i64 0] []),
    S3 (.sto 8 (.t 4) (.t 9))])
   (.rt))
  (.sq (.rg [S1 11 (.bin .eql (.t 6) (.k (.i .i64 1))),
    S7 10 11])
   (.cd (.t 10)
    (.sq (.rg [S7 12 1,
      S1 13 (.ixp 8 (.t 12) (.k (.i .i64 0))),
      S2 14 (.ld 8 true (.t 13)),
      S3 (.sto 8 (.t 4) (.t 14))])
     (.rt))
    (.sk)))))))
 (.sq (.rg [S7 15 0,
  S7 16 1,
  S1 17 (.bld [.i .i64 0,.i .u64 0,.i .u64 0,.i .u64 0,.i .u64 0,.nil,.i .i64 0,.i .i64 0] [(0,1,(.t 15)),(5,1,(.t 16))]),
  S3 (.sto 8 (.t 4) (.t 17))])
 (.rt)))
def QhX:Fn:={ n:=18,np:=2,res:=[.c 4 8 true],body:=c116 }
theorem e116:F 116=some QhX:=by kernel_rfl
def Qfe:C :=
 .sq (.rg [S1 12 (.bin .lss (.t 11) (.t 10))])
 (.sq (.cd (.t 12)
  (.sk)
  (.ex 0))
 (.sq (.bk 1 (.sq (.rg [S1 13 (.ixp 8 (.t 9) (.t 11)),
  S2 14 (.ld 8 true (.t 13)),
  S2 8 (.alc [.i .i64 0,.i .u64 0,.i .u64 0,.i .u64 0,.i .u64 0,.nil,.i .i64 0,.i .i64 0]),
  S3 (.sto 8 (.t 8) (.t 14))])
 (.bk 2 (.sq (.rg [S8 20 0 8,
  S6 21 20,
  S7 22 0,
  S1 23 (.bin .eql (.t 21) (.t 22)),
  S7 19 23])
 (.cd (.t 19)
  (.rg [S7 24 0,
    S7 25 1,
    S8 26 5 8,
    S6 27 26,
    S2 28 (.nc 117 [(.t 24),(.t 25),(.t 27)]),
    S7 1 28])
  (.sq (.rg [S7 30 0,
    S1 31 (.bin .eql (.t 30) (.k (.i .i64 2))),
    S7 32 31,
    S5 33 32 true (.adr 0 (.t 8)),
    S4 34 32 true (.ld 1 false (.t 33)),
    S5 35 32 true (.bin .eql (.t 34) (.k (.i .i64 0))),
    S1 36 (.pick (.t 32) (.t 35) (.k (.bo false))),
    S7 29 36])
   (.cd (.t 29)
    (.sk)
    (.sq (.rg [S7 38 0,
      S1 39 (.bin .eql (.t 38) (.k (.i .i64 3))),
      S7 40 39,
      S4 41 40 true (.ld 8 true (.t 8)),
      S4 42 40 true (.pc 115 [(.t 41)]),
      S5 43 40 true (.mov (.t 42)),
      S5 44 43 false (.mov (.t 1)),
      S5 45 43 false (.mkf 136 [(.t 8)]),
      S4 46 43 false (.pc 113 [(.t 44),(.t 45)]),
      S5 47 40 true (.pick (.t 43) (.k (.bo true)) (.t 46)),
      S1 48 (.pick (.t 40) (.t 47) (.k (.bo false))),
      S7 37 48])
     (.cd (.t 37)
      (.sk)
      (.rg [S7 15 1,
        S2 16 (.ld 8 true (.t 8)),
        S2 17 (.bsl 8 1 [.i .i64 0,.i .u64 0,.i .u64 0,.i .u64 0,.i .u64 0,.nil,.i .i64 0,.i .i64 0] [(0,(.t 16))]),
        S2 18 (.app 8 80 (.t 15) (.t 17)),
        S7 1 18]))))))))))
 (.rg [S1 49 (.bin .add (.t 11) (.k (.i .i64 1))),
  S7 11 49])))
def c117:C :=
 .sq (.rg [S1 6 (.mov (.k (.nil)))])
 (.sq (.sq (.rg [S7 9 2,
  S1 10 (.len (.t 9)),
  S1 11 (.mov (.k (.i .i64 0)))])
 (.bk 0 (.lp Qfe)))
 (.sq (.rg [S7 50 1,
  S7 6 50])
 (.rt)))
def Qks:Fn:={ n:=51,np:=3,res:=[.t 6],body:=c117 }
theorem e117:F 117=some Qks:=by kernel_rfl
def c118:C :=
 .sq (.rg [S2 3 (.box (.t 0)),
  S2 6 (.alc [.i .i64 0,.i .u64 0,.i .u64 0,.i .u64 0,.i .u64 0,.nil,.i .i64 0,.i .i64 0])])
 (.sq (.bk 0 (.sq (.rg [S7 8 2,
  S1 9 (.bin .eql (.t 8) (.k (.i .i64 0))),
  S7 10 9,
  S5 11 10 false (.adr 0 (.t 3)),
  S4 12 10 false (.ld 1 false (.t 11)),
  S5 13 10 false (.bin .eql (.t 12) (.k (.i .i64 0))),
  S1 14 (.pick (.t 10) (.k (.bo true)) (.t 13)),
  S7 15 14,
  S4 16 15 false (.ld 8 true (.t 3)),
  S4 17 15 false (.pc 115 [(.t 16)]),
  S1 18 (.pick (.t 15) (.k (.bo true)) (.t 17)),
  S7 7 18])
 (.cd (.t 7)
  (.sq (.rg [S1 19 (.bld [.i .i64 0,.i .u64 0,.i .u64 0,.i .u64 0,.i .u64 0,.nil,.i .i64 0,.i .i64 0] []),
    S3 (.sto 8 (.t 6) (.t 19))])
   (.rt))
  (.sq (.rg [S7 21 1,
    S1 22 (.bin .eql (.t 21) (.k (.i .i64 1))),
    S7 23 22,
    S5 24 23 true (.mov (.t 2)),
    S5 25 23 true (.bin .eql (.t 24) (.k (.i .i64 1))),
    S1 26 (.pick (.t 23) (.t 25) (.k (.bo false))),
    S7 20 26])
   (.cd (.t 20)
    (.sq (.rg [S2 27 (.ld 8 true (.t 3)),
      S3 (.sto 8 (.t 6) (.t 27))])
     (.rt))
    (.sq (.rg [S2 29 (.ld 8 true (.t 3)),
      S2 30 (.pc 120 [(.t 29)]),
      S7 28 30])
     (.cd (.t 28)
      (.rg [S1 1 (.mov (.k (.i .i64 0)))])
      (.sk))))))))
 (.sq (.rg [S2 31 (.ld 8 true (.t 3)),
  S2 32 (.bsl 8 1 [.i .i64 0,.i .u64 0,.i .u64 0,.i .u64 0,.i .u64 0,.nil,.i .i64 0,.i .i64 0] [(0,(.t 31))]),
  S7 33 1,
  S7 34 2,
  S1 35 (.bld [.i .i64 0,.i .u64 0,.i .u64 0,.i .u64 0,.i .u64 0,.nil,.i .i64 0,.i .i64 0] [(0,1,(.k (.i .i64 4))),(5,1,(.t 32)),(6,1,(.t 33)),(7,1,(.t 34))]),
  S3 (.sto 8 (.t 6) (.t 35))])
 (.rt)))
def Qla:Fn:={ n:=36,np:=3,res:=[.c 6 8 true],body:=c118 }
theorem e118:F 118=some Qla:=by kernel_rfl
def c119:C :=
 .sq (.rg [S1 4 (.mov (.k (.nil)))])
 (.sq (.sq (.rg [S7 5 1,
  S1 6 (.bin .lss (.t 5) (.k (.i .i64 0)))])
 (.cd (.t 6)
  (.rg [S2 7 (.bad),
    S3 (.bad)])
  (.sk)))
 (.sq (.sq (.rg [S7 8 1,
  S7 9 0,
  S1 10 (.cap (.t 9)),
  S7 11 0,
  S1 12 (.len (.t 11)),
  S1 13 (.bin .sub (.t 10) (.t 12)),
  S1 14 (.bin .sub (.t 8) (.t 13)),
  S7 1 14])
 (.sq (.rg [S7 15 1,
  S1 16 (.bin .gtr (.t 15) (.k (.i .i64 0)))])
 (.cd (.t 16)
  (.rg [S7 17 0,
    S7 18 0,
    S1 19 (.cap (.t 18)),
    S1 20 (.slc 1 (.t 17) none (some (.t 19)) none),
    S7 21 1,
    S2 22 (.apz 1 8 [.i .i64 0] (.t 20) (.t 21)),
    S7 23 0,
    S1 24 (.len (.t 23)),
    S1 25 (.slc 1 (.t 22) none (some (.t 24)) none),
    S7 0 25])
  (.sk))))
 (.sq (.rg [S7 26 0,
  S7 4 26])
 (.rt))))
def Qgr:Fn:={ n:=27,np:=2,res:=[.t 4],body:=c119 }
theorem e119:F 119=some Qgr:=by kernel_rfl
def c120:C :=
 .sq (.rg [S2 1 (.box (.t 0)),
  S1 2 (.mov (.k (.bo false)))])
 (.sq (.sq (.rg [S8 3 0 1,
  S6 4 3])
 (.bk 0 (.sq (.rg [S1 6 (.bin .eql (.t 4) (.k (.i .i64 1))),
  S7 5 6])
 (.cd (.t 5)
  (.sq (.rg [S1 2 (.mov (.k (.bo false)))])
   (.rt))
  (.sq (.rg [S1 8 (.bin .eql (.t 4) (.k (.i .i64 2))),
    S7 7 8])
   (.cd (.t 7)
    (.sq (.rg [S8 9 5 1,
      S6 10 9,
      S2 11 (.pc 113 [(.t 10),(.k (.fn 138 []))]),
      S1 12 (.un .not (.t 11)),
      S7 2 12])
     (.rt))
    (.sq (.rg [S1 14 (.bin .eql (.t 4) (.k (.i .i64 3))),
      S7 13 14])
     (.cd (.t 13)
      (.sq (.rg [S8 15 5 1,
        S6 16 15,
        S2 17 (.pc 113 [(.t 16),(.k (.fn 120 []))]),
        S7 2 17])
       (.rt))
      (.sq (.rg [S1 19 (.bin .eql (.t 4) (.k (.i .i64 4))),
        S7 18 19])
       (.cd (.t 18)
        (.sq (.rg [S8 20 6 1,
          S6 21 20,
          S1 22 (.bin .eql (.t 21) (.k (.i .i64 0))),
          S7 23 22,
          S5 24 23 false (.adr 5 (.t 1)),
          S4 25 23 false (.ld 1 false (.t 24)),
          S5 26 23 false (.ixp 8 (.t 25) (.k (.i .i64 0))),
          S4 27 23 false (.ld 8 true (.t 26)),
          S4 28 23 false (.pc 120 [(.t 27)]),
          S1 29 (.pick (.t 23) (.k (.bo true)) (.t 28)),
          S7 2 29])
         (.rt))
        (.sk)))))))))))
 (.sq (.rg [S1 2 (.mov (.k (.bo true)))])
 (.rt)))
def Qhj:Fn:={ n:=30,np:=1,res:=[.t 2],body:=c120 }
theorem e120:F 120=some Qhj:=by kernel_rfl
def c111:C :=
 .sq (.rg [S1 2 (.mov (.k (.bo false)))])
 (.sq (.rg [S7 3 0,
  S7 4 0,
  S1 5 (.bin .neq (.t 3) (.t 4)),
  S7 2 5])
 (.rt))
def QkZ:Fn:={ n:=6,np:=1,res:=[.t 2],body:=c111 }
theorem e111:F 111=some QkZ:=by kernel_rfl
def QeF:C :=
 .sq (.rg [S1 9 (.bin .lss (.t 8) (.t 7))])
 (.sq (.cd (.t 9)
  (.sk)
  (.ex 0))
 (.sq (.bk 1 (.sq (.rg [S7 10 8,
  S7 5 10])
 (.sq (.rg [S7 11 1,
  S7 12 0,
  S7 13 5,
  S1 14 (.ixp 8 (.t 12) (.t 13)),
  S2 15 (.ld 8 true (.t 14)),
  S2 16 (.pv (.t 11) [(.t 15)])])
 (.cd (.t 16)
  (.sq (.rg [S7 17 5,
    S7 4 17])
   (.rt))
  (.sk)))))
 (.rg [S1 18 (.bin .add (.t 8) (.k (.i .i64 1))),
  S7 8 18])))
def c134:C :=
 .sq (.rg [S1 4 (.mov (.k (.i .i64 0)))])
 (.sq (.sq (.rg [S7 6 0,
  S1 7 (.len (.t 6)),
  S1 8 (.mov (.k (.i .i64 0)))])
 (.bk 0 (.lp QeF)))
 (.sq (.rg [S1 4 (.mov (.k (.i .i64 (-1))))])
 (.rt)))
def Qjz:Fn:={ n:=19,np:=2,res:=[.t 4],body:=c134 }
theorem e134:F 134=some Qjz:=by kernel_rfl
def c135:C :=
 .sq (.rg [S2 1 (.box (.t 0)),
  S1 2 (.mov (.k (.bo false)))])
 (.sq (.rg [S2 3 (.ld 8 true (.t 1)),
  S2 4 (.pc 115 [(.t 3)]),
  S1 5 (.un .not (.t 4)),
  S7 2 5])
 (.rt))
def QiT:Fn:={ n:=6,np:=1,res:=[.t 2],body:=c135 }
theorem e135:F 135=some QiT:=by kernel_rfl
def c136:C :=
 .sq (.rg [S2 2 (.box (.t 0)),
  S1 3 (.mov (.k (.bo false)))])
 (.sq (.rg [S2 4 (.ld 8 true (.t 1)),
  S2 5 (.ld 8 true (.t 2)),
  S2 6 (.pc 137 [(.t 4),(.t 5)]),
  S7 3 6])
 (.rt))
def Qia:Fn:={ n:=7,np:=2,res:=[.t 3],body:=c136 }
theorem e136:F 136=some Qia:=by kernel_rfl
def c137:C :=
 .sq (.rg [S2 2 (.box (.t 0)),
  S2 3 (.box (.t 1)),
  S1 4 (.mov (.k (.bo false)))])
 (.sq (.rg [S8 5 0 2,
  S6 6 5,
  S8 7 0 3,
  S6 8 7,
  S1 9 (.bin .eql (.t 6) (.t 8)),
  S7 10 9,
  S5 11 10 true (.adr 1 (.t 2)),
  S4 12 10 true (.ld 4 true (.t 11)),
  S5 13 10 true (.adr 1 (.t 3)),
  S4 14 10 true (.ld 4 true (.t 13)),
  S5 15 10 true (.eqp false true [.i .u64,.i .u64,.i .u64,.i .u64] (.t 12) (.t 14)),
  S1 16 (.pick (.t 10) (.t 15) (.k (.bo false))),
  S7 17 16,
  S5 18 17 true (.adr 6 (.t 2)),
  S4 19 17 true (.ld 1 false (.t 18)),
  S5 20 17 true (.adr 6 (.t 3)),
  S4 21 17 true (.ld 1 false (.t 20)),
  S5 22 17 true (.bin .eql (.t 19) (.t 21)),
  S1 23 (.pick (.t 17) (.t 22) (.k (.bo false))),
  S7 24 23,
  S5 25 24 true (.adr 7 (.t 2)),
  S4 26 24 true (.ld 1 false (.t 25)),
  S5 27 24 true (.adr 7 (.t 3)),
  S4 28 24 true (.ld 1 false (.t 27)),
  S5 29 24 true (.bin .eql (.t 26) (.t 28)),
  S1 30 (.pick (.t 24) (.t 29) (.k (.bo false))),
  S7 31 30,
  S5 32 31 true (.adr 5 (.t 2)),
  S4 33 31 true (.ld 1 false (.t 32)),
  S5 34 31 true (.adr 5 (.t 3)),
  S4 35 31 true (.ld 1 false (.t 34)),
  S4 36 31 true (.pc 142 [(.t 33),(.t 35),(.k (.fn 137 []))]),
  S1 37 (.pick (.t 31) (.t 36) (.k (.bo false))),
  S7 4 37])
 (.rt))
def Qjr:Fn:={ n:=38,np:=2,res:=[.t 4],body:=c137 }
theorem e137:F 137=some Qjr:=by kernel_rfl
def c138:C :=
 .sq (.rg [S2 1 (.box (.t 0)),
  S1 2 (.mov (.k (.bo false)))])
 (.sq (.rg [S2 3 (.ld 8 true (.t 1)),
  S2 4 (.pc 120 [(.t 3)]),
  S1 5 (.un .not (.t 4)),
  S7 2 5])
 (.rt))
def Qjf:Fn:={ n:=6,np:=1,res:=[.t 2],body:=c138 }
theorem e138:F 138=some Qjf:=by kernel_rfl
def QeB:C :=
 .sq (.rg [S1 18 (.bin .lss (.t 17) (.t 16))])
 (.sq (.cd (.t 18)
  (.sk)
  (.ex 0))
 (.sq (.bk 1 (.sq (.rg [S7 19 17,
  S1 20 (.ixp 8 (.t 15) (.t 17)),
  S2 21 (.ld 8 true (.t 20)),
  S2 8 (.alc [.i .i64 0,.i .u64 0,.i .u64 0,.i .u64 0,.i .u64 0,.nil,.i .i64 0,.i .i64 0]),
  S7 7 19,
  S3 (.sto 8 (.t 8) (.t 21))])
 (.sq (.rg [S7 22 1,
  S7 23 7,
  S1 24 (.ixp 8 (.t 22) (.t 23)),
  S2 25 (.ld 8 true (.t 24)),
  S2 9 (.alc [.i .i64 0,.i .u64 0,.i .u64 0,.i .u64 0,.i .u64 0,.nil,.i .i64 0,.i .i64 0]),
  S3 (.sto 8 (.t 9) (.t 25))])
 (.sq (.rg [S7 26 2,
  S2 27 (.ld 8 true (.t 8)),
  S2 28 (.ld 8 true (.t 9)),
  S2 29 (.pv (.t 26) [(.t 27),(.t 28)]),
  S1 30 (.un .not (.t 29))])
 (.cd (.t 30)
  (.sq (.rg [S1 6 (.mov (.k (.bo false)))])
   (.rt))
  (.sk))))))
 (.rg [S1 31 (.bin .add (.t 17) (.k (.i .i64 1))),
  S7 17 31])))
def c142:C :=
 .sq (.rg [S1 6 (.mov (.k (.bo false)))])
 (.sq (.sq (.rg [S7 10 0,
  S1 11 (.len (.t 10)),
  S7 12 1,
  S1 13 (.len (.t 12)),
  S1 14 (.bin .neq (.t 11) (.t 13))])
 (.cd (.t 14)
  (.sq (.rg [S1 6 (.mov (.k (.bo false)))])
   (.rt))
  (.sk)))
 (.sq (.sq (.rg [S7 15 0,
  S1 16 (.len (.t 15)),
  S1 17 (.mov (.k (.i .i64 0)))])
 (.bk 0 (.lp QeB)))
 (.sq (.rg [S1 6 (.mov (.k (.bo true)))])
 (.rt))))
def QkD:Fn:={ n:=32,np:=3,res:=[.t 6],body:=c142 }
theorem e142:F 142=some QkD:=by kernel_rfl
end Go.Proofs.YtocmjakchgcioaaGreat
