import Derived.Test.YtgiedknghbpdfaaBs

namespace Go.Proofs.Ytgiedknghbpdfaa
set_option linter.all false
def imL:List (Nat × Nat × Nat):=[(10,(5,3)),(10,(7,2)),(10,(20,1)),(19,(5,2)),(20,(8,4)),(20,(10,4)),(20,(12,3)),(29,(3,6)),(29,(6,1)),(29,(11,3)),(33,(5,3)),(33,(6,6)),(33,(8,5)),(33,(10,5)),(34,(5,3)),(34,(6,5)),(34,(7,5)),(35,(5,6)),(35,(7,7)),(44,(12,5)),(44,(12,6)),(49,(9,1)),(76,(6,4)),(15,(20,10)),(15,(27,11)),(29,(6,7))]
def im (f r i:Nat):Bool:=imL.contains (f,r,i)
noncomputable def F:En:=enOf Try.prog im bsL Bas
abbrev S1 (d:Nat) (q:Q):Stp:=⟨some d,none,.q q,[]⟩
abbrev S2 (d:Nat) (i:I):Stp:=⟨some d,none,i,[]⟩
abbrev S3 (i:I):Stp:=⟨none,none,i,[]⟩
abbrev S4 (d t:Nat) (p:Bool) (i:I):Stp:=⟨some d,some (t,p),i,[]⟩
abbrev S5 (d t:Nat) (p:Bool) (q:Q):Stp:=⟨some d,some (t,p),.q q,[]⟩
abbrev S6 (d x:Nat):Stp:=⟨some d,none,.ld 1 false (.t x),[]⟩
abbrev S7 (d x:Nat):Stp:=⟨some d,none,.q (.mov (.t x)),[]⟩
abbrev S8 (d a x:Nat):Stp:=⟨some d,none,.q (.adr a (.t x)),[]⟩
def c8:C :=
 .sq (.rg [S1 0 (.mov (.k (.bo false)))])
 (.sq (.rg [S1 4 (.bld [.i .u64 0,.i .u64 0,.i .u64 0,.i .u64 0] [(0,1,(.k (.i .u64 1)))]),
  S1 5 (.bld [.i .i64 0,.i .u64 0,.i .u64 0,.i .u64 0,.i .u64 0,.nil,.i .i64 0,.i .i64 0] [(0,1,(.k (.i .i64 1))),(1,4,(.t 4))]),
  S2 6 (.pc 10 [(.t 5)]),
  S7 3 6,
  S1 7 (.ext (.t 3) 0),
  S1 8 (.ext (.t 3) 1),
  S2 1 (.alc [.i .i64 0,.i .u64 0,.i .u64 0,.i .u64 0,.i .u64 0,.nil,.i .i64 0,.i .i64 0,.nil,.nil,.nil,.nil,.nil,.nil,.bo false]),
  S3 (.sto 15 (.t 1) (.t 7)),
  S7 2 8])
 (.sq (.rg [S7 9 2,
  S1 10 (.bin .eql (.t 9) (.k (.i .i64 0))),
  S7 11 10,
  S5 12 11 true (.adr 11 (.t 1)),
  S4 13 11 true (.ld 1 false (.t 12)),
  S5 14 11 true (.len (.t 13)),
  S5 15 11 true (.bin .eql (.t 14) (.k (.i .i64 1))),
  S1 16 (.pick (.t 11) (.t 15) (.k (.bo false))),
  S7 17 16,
  S5 18 17 true (.adr 13 (.t 1)),
  S4 19 17 true (.ld 1 false (.t 18)),
  S5 20 17 true (.len (.t 19)),
  S5 21 17 true (.bin .eql (.t 20) (.k (.i .i64 2))),
  S1 22 (.pick (.t 17) (.t 21) (.k (.bo false))),
  S7 23 22,
  S5 24 23 true (.adr 13 (.t 1)),
  S4 25 23 true (.ld 1 false (.t 24)),
  S5 26 23 true (.ixp 1 (.t 25) (.k (.i .i64 1))),
  S4 27 23 true (.ld 1 false (.t 26)),
  S1 28 (.pick (.t 23) (.t 27) (.k (.bo false))),
  S7 29 28,
  S5 30 29 true (.adr 14 (.t 1)),
  S4 31 29 true (.ld 1 false (.t 30)),
  S5 32 29 true (.un .not (.t 31)),
  S1 33 (.pick (.t 29) (.t 32) (.k (.bo false))),
  S7 0 33])
 (.rt)))
def fn8:Fn:={ n:=34,np:=0,res:=[.t 0],body:=c8 }
theorem e8:F 8=some fn8:=by kernel_rfl
def b9_0:C :=
 .sq (.sq (.rg [S7 7 6,
  S8 8 5 2,
  S6 9 8,
  S1 10 (.len (.t 9)),
  S1 11 (.bin .lss (.t 7) (.t 10)),
  S7 12 11,
  S5 13 12 true (.mov (.t 5)),
  S5 14 12 true (.mov (.t 1)),
  S5 15 12 true (.bin .leq (.t 13) (.t 14)),
  S1 16 (.pick (.t 12) (.t 15) (.k (.bo false)))])
 (.cd (.t 16)
  (.sk)
  (.ex 0)))
 (.sq (.bk 1 (.rg [S7 19 5,
  S8 20 5 2,
  S6 21 20,
  S7 22 6,
  S1 23 (.ixp 8 (.t 21) (.t 22)),
  S2 24 (.ld 8 true (.t 23)),
  S7 25 1,
  S7 26 5,
  S1 27 (.bin .sub (.t 25) (.t 26)),
  S2 28 (.pc 9 [(.t 24),(.t 27)]),
  S1 29 (.bin .add (.t 19) (.t 28)),
  S7 5 29]))
 (.rg [S7 17 6,
  S1 18 (.bin .add (.t 17) (.k (.i .i64 1))),
  S7 6 18]))
def c9:C :=
 .sq (.rg [S2 2 (.box (.t 0)),
  S1 4 (.mov (.k (.i .i64 0)))])
 (.sq (.rg [S1 5 (.mov (.k (.i .i64 1)))])
 (.sq (.sq (.rg [S1 6 (.mov (.k (.i .i64 0)))])
 (.bk 0 (.lp b9_0)))
 (.sq (.rg [S7 30 5,
  S7 4 30])
 (.rt))))
def fn9:Fn:={ n:=31,np:=2,res:=[.t 4],body:=c9 }
theorem e9:F 9=some fn9:=by kernel_rfl
def b10_0:C :=
 .sq (.rg [S1 51 (.bin .lss (.t 50) (.t 49))])
 (.sq (.cd (.t 51)
  (.sk)
  (.ex 0))
 (.sq (.bk 1 (.sq (.rg [S1 52 (.ixp 1 (.t 48) (.t 50)),
  S6 53 52,
  S7 10 53])
 (.rg [S8 54 13 8,
  S6 55 54,
  S7 56 10,
  S1 57 (.ixp 1 (.t 55) (.t 56)),
  S3 (.sto 1 (.t 57) (.k (.bo true)))])))
 (.rg [S1 58 (.bin .add (.t 50) (.k (.i .i64 1))),
  S7 50 58])))
def b10_1:C :=
 .sq (.rg [S2 64 (.nxt (.t 63)),
  S1 65 (.ext (.t 64) 0)])
 (.sq (.cd (.t 65)
  (.sk)
  (.ex 2))
 (.bk 3 (.sq (.rg [S2 66 (.ent (.t 63)),
  S1 67 (.ext (.t 66) 0),
  S2 11 (.alc [.i .i64 0,.i .i64 0,.i .i64 0,.bo false]),
  S3 (.sto 4 (.t 11) (.t 67))])
 (.rg [S8 68 12 8,
  S8 70 0 11,
  S8 72 12 8,
  S8 74 0 11,
  S8 78 1 11,
  S6 69 68,
  S6 71 70,
  S6 73 72,
  S6 75 74,
  S1 76 (.ixp 1 (.t 73) (.t 75)),
  S6 77 76,
  S2 79 (.ld 3 true (.t 78)),
  S2 80 (.bsl 3 1 [.i .i64 0,.i .i64 0,.bo false] [(0,(.t 79))]),
  ⟨some 81,none,.app 3 24 (.t 77) (.t 80),[.ld 1 false (.t 68),.ld 1 false (.t 70)]⟩,
  S1 82 (.ixp 1 (.t 69) (.t 71)),
  S3 (.sto 1 (.t 82) (.t 81))]))))
def b10_2:C :=
 .sq (.rg [S1 87 (.bin .lss (.t 86) (.t 85))])
 (.sq (.cd (.t 87)
  (.sk)
  (.ex 4))
 (.sq (.bk 5 (.sq (.rg [S1 88 (.ixp 1 (.t 84) (.t 86)),
  S6 89 88,
  S7 13 89])
 (.rg [S7 90 13,
  S2 91 (.nc 22 [(.t 90),(.k (.fn 23 []))])])))
 (.rg [S1 92 (.bin .add (.t 86) (.k (.i .i64 1))),
  S7 86 92])))
def c10:C :=
 .sq (.rg [S2 1 (.box (.t 0)),
  S2 2 (.alc [.i .i64 0,.i .u64 0,.i .u64 0,.i .u64 0,.i .u64 0,.nil,.i .i64 0,.i .i64 0,.nil,.nil,.nil,.nil,.nil,.nil,.bo false]),
  S1 3 (.mov (.k (.i .i64 0)))])
 (.sq (.rg [S2 15 (.ld 8 true (.t 1)),
  S2 16 (.pc 19 [(.t 15)]),
  S7 14 16,
  S1 17 (.ext (.t 14) 0),
  S1 18 (.ext (.t 14) 1),
  S2 4 (.alc [.i .i64 0,.i .u64 0,.i .u64 0,.i .u64 0,.i .u64 0,.nil,.i .i64 0,.i .i64 0,.nil,.nil,.nil]),
  S3 (.sto 11 (.t 4) (.t 17)),
  S7 5 18])
 (.sq (.sq (.rg [S7 19 5,
  S1 20 (.bin .neq (.t 19) (.k (.i .i64 0)))])
 (.cd (.t 20)
  (.sq (.rg [S1 21 (.bld [.i .i64 0,.i .u64 0,.i .u64 0,.i .u64 0,.i .u64 0,.nil,.i .i64 0,.i .i64 0,.nil,.nil,.nil,.nil,.nil,.nil,.bo false] []),
    S7 22 5,
    S3 (.sto 15 (.t 2) (.t 21)),
    S7 3 22])
   (.rt))
  (.sk)))
 (.sq (.rg [S2 23 (.mkm),
  S1 24 (.bld [.i .i64 0,.nm] [(1,1,(.t 23))]),
  S2 25 (.box (.t 24)),
  S7 6 25])
 (.sq (.rg [S7 26 6,
  S8 27 0 4,
  S2 28 (.ld 8 true (.t 27)),
  S2 29 (.nc 20 [(.t 26),(.t 28),(.k (.i .i64 0))]),
  S2 7 (.alc [.nil,.nil,.bo false]),
  S3 (.sto 3 (.t 7) (.t 29))])
 (.sq (.rg [S8 31 0 7,
  S8 33 8 4,
  S8 37 8 4,
  S8 41 2 7,
  S2 30 (.ld 11 true (.t 4)),
  S6 32 31,
  S6 34 33,
  S1 35 (.len (.t 34)),
  S6 38 37,
  S1 39 (.len (.t 38)),
  S6 42 41,
  S2 36 (.mks 1 24 [.nil] (.t 35) (.t 35)),
  S2 40 (.mks 1 1 [.bo false] (.t 39) (.t 39)),
  S1 43 (.bld [.i .i64 0,.i .u64 0,.i .u64 0,.i .u64 0,.i .u64 0,.nil,.i .i64 0,.i .i64 0,.nil,.nil,.nil,.nil,.nil,.nil,.bo false] [(0,11,(.t 30)),(11,1,(.t 32)),(12,1,(.t 36)),(13,1,(.t 40)),(14,1,(.t 42))]),
  S2 8 (.alc [.i .i64 0,.i .u64 0,.i .u64 0,.i .u64 0,.i .u64 0,.nil,.i .i64 0,.i .i64 0,.nil,.nil,.nil,.nil,.nil,.nil,.bo false]),
  S3 (.sto 15 (.t 8) (.t 43))])
 (.sq (.rg [S8 44 11 8,
  S6 45 44,
  S2 46 (.nc 21 [(.t 45)])])
 (.sq (.sq (.rg [S8 47 1 7,
  S6 48 47,
  S1 49 (.len (.t 48)),
  S1 50 (.mov (.k (.i .i64 0)))])
 (.bk 0 (.lp b10_0)))
 (.sq (.sq (.rg [S7 59 6,
  S1 60 (.nck (.t 59)),
  S8 61 1 60,
  S6 62 61,
  S2 63 (.rng (.t 62))])
 (.bk 2 (.lp b10_1)))
 (.sq (.sq (.rg [S8 83 12 8,
  S6 84 83,
  S1 85 (.len (.t 84)),
  S1 86 (.mov (.k (.i .i64 0)))])
 (.bk 4 (.lp b10_2)))
 (.sq (.rg [S2 93 (.ld 15 true (.t 8)),
  S3 (.sto 15 (.t 2) (.t 93)),
  S1 3 (.mov (.k (.i .i64 0)))])
 (.rt)))))))))))
def fn10:Fn:={ n:=94,np:=1,res:=[.c 2 15 true,.t 3],body:=c10 }
theorem e10:F 10=some fn10:=by kernel_rfl
def b11_0:C :=
 .sq (.sq (.rg [S7 91 6,
  S8 92 5 1,
  S6 93 92,
  S1 94 (.len (.t 93)),
  S1 95 (.bin .lss (.t 91) (.t 94)),
  S7 96 95,
  S5 97 96 true (.mov (.t 5)),
  S1 98 (.pick (.t 96) (.t 97) (.k (.bo false)))])
 (.cd (.t 98)
  (.sk)
  (.ex 1)))
 (.sq (.bk 2 (.rg [S8 101 5 1,
  S6 102 101,
  S7 103 6,
  S1 104 (.ixp 8 (.t 102) (.t 103)),
  S2 105 (.ld 8 true (.t 104)),
  S2 106 (.pc 11 [(.t 105)]),
  S7 5 106]))
 (.rg [S7 99 6,
  S1 100 (.bin .add (.t 99) (.k (.i .i64 1))),
  S7 6 100]))
def c11:C :=
 .sq (.rg [S2 1 (.box (.t 0)),
  S1 2 (.mov (.k (.bo false)))])
 (.sq (.rg [S8 7 1 1,
  S2 8 (.ld 4 true (.t 7)),
  S1 9 (.bld [.i .u64 0,.i .u64 0,.i .u64 0,.i .u64 0] []),
  S1 10 (.eqp false true [.i .u64,.i .u64,.i .u64,.i .u64] (.t 8) (.t 9)),
  S7 3 10])
 (.sq (.rg [S8 11 6 1,
  S6 12 11,
  S1 13 (.bin .eql (.t 12) (.k (.i .i64 0))),
  S7 14 13,
  S5 15 14 true (.adr 7 (.t 1)),
  S4 16 14 true (.ld 1 false (.t 15)),
  S5 17 14 true (.bin .eql (.t 16) (.k (.i .i64 0))),
  S1 18 (.pick (.t 14) (.t 17) (.k (.bo false))),
  S7 4 18])
 (.sq (.rg [S1 5 (.mov (.k (.bo false)))])
 (.sq (.sq (.rg [S8 19 0 1,
  S6 20 19])
 (.bk 0 (.sq (.rg [S1 22 (.bin .eql (.t 20) (.k (.i .i64 0))),
  S7 21 22])
 (.cd (.t 21)
  (.rg [S7 23 3,
    S7 24 23,
    S5 25 24 true (.mov (.t 4)),
    S1 26 (.pick (.t 24) (.t 25) (.k (.bo false))),
    S7 27 26,
    S5 28 27 true (.adr 5 (.t 1)),
    S4 29 27 true (.ld 1 false (.t 28)),
    S5 30 27 true (.len (.t 29)),
    S5 31 27 true (.bin .eql (.t 30) (.k (.i .i64 0))),
    S1 32 (.pick (.t 27) (.t 31) (.k (.bo false))),
    S7 5 32])
  (.sq (.rg [S1 34 (.bin .eql (.t 20) (.k (.i .i64 1))),
    S7 33 34])
   (.cd (.t 33)
    (.rg [S7 35 4,
      S7 36 35,
      S5 37 36 true (.adr 5 (.t 1)),
      S4 38 36 true (.ld 1 false (.t 37)),
      S5 39 36 true (.len (.t 38)),
      S5 40 36 true (.bin .eql (.t 39) (.k (.i .i64 0))),
      S1 41 (.pick (.t 36) (.t 40) (.k (.bo false))),
      S7 5 41])
    (.sq (.sq (.rg [S1 43 (.bin .eql (.t 20) (.k (.i .i64 2))),
      S7 42 43])
     (.cd (.t 42)
      (.sk)
      (.rg [S1 44 (.bin .eql (.t 20) (.k (.i .i64 3))),
        S7 42 44])))
     (.cd (.t 42)
      (.rg [S7 45 3,
        S7 46 45,
        S5 47 46 true (.mov (.t 4)),
        S1 48 (.pick (.t 46) (.t 47) (.k (.bo false))),
        S7 49 48,
        S5 50 49 true (.adr 5 (.t 1)),
        S4 51 49 true (.ld 1 false (.t 50)),
        S5 52 49 true (.len (.t 51)),
        S5 53 49 true (.bin .gtr (.t 52) (.k (.i .i64 1))),
        S1 54 (.pick (.t 49) (.t 53) (.k (.bo false))),
        S7 5 54])
      (.sq (.rg [S1 56 (.bin .eql (.t 20) (.k (.i .i64 4))),
        S7 55 56])
       (.cd (.t 55)
        (.rg [S7 57 3,
          S7 58 57,
          S5 59 58 true (.adr 5 (.t 1)),
          S4 60 58 true (.ld 1 false (.t 59)),
          S5 61 58 true (.len (.t 60)),
          S5 62 58 true (.bin .eql (.t 61) (.k (.i .i64 1))),
          S1 63 (.pick (.t 58) (.t 62) (.k (.bo false))),
          S7 64 63,
          S5 65 64 true (.adr 6 (.t 1)),
          S4 66 64 true (.ld 1 false (.t 65)),
          S5 67 64 true (.bin .geq (.t 66) (.k (.i .i64 0))),
          S1 68 (.pick (.t 64) (.t 67) (.k (.bo false))),
          S7 69 68,
          S5 70 69 true (.adr 6 (.t 1)),
          S4 71 69 true (.ld 1 false (.t 70)),
          S5 72 69 true (.bin .leq (.t 71) (.k (.i .i64 2147483647))),
          S1 73 (.pick (.t 69) (.t 72) (.k (.bo false))),
          S7 74 73,
          S5 75 74 true (.adr 7 (.t 1)),
          S4 76 74 true (.ld 1 false (.t 75)),
          S5 77 74 true (.bin .leq (.t 76) (.k (.i .i64 2147483647))),
          S1 78 (.pick (.t 74) (.t 77) (.k (.bo false))),
          S7 79 78,
          S5 80 79 true (.adr 7 (.t 1)),
          S4 81 79 true (.ld 1 false (.t 80)),
          S5 82 79 true (.bin .eql (.t 81) (.k (.i .i64 (-1)))),
          S5 83 79 true (.mov (.t 82)),
          S5 84 83 false (.adr 7 (.t 1)),
          S4 85 83 false (.ld 1 false (.t 84)),
          S5 86 83 false (.adr 6 (.t 1)),
          S4 87 83 false (.ld 1 false (.t 86)),
          S5 88 83 false (.bin .geq (.t 85) (.t 87)),
          S5 89 79 true (.pick (.t 83) (.k (.bo true)) (.t 88)),
          S1 90 (.pick (.t 79) (.t 89) (.k (.bo false))),
          S7 5 90])
        (.sk)))))))))))
 (.sq (.sq (.rg [S1 6 (.mov (.k (.i .i64 0)))])
 (.bk 1 (.lp b11_0)))
 (.sq (.rg [S7 107 5,
  S7 2 107])
 (.rt)))))))
def fn11:Fn:={ n:=108,np:=1,res:=[.t 2],body:=c11 }
theorem e11:F 11=some fn11:=by kernel_rfl
def c19:C :=
 .sq (.rg [S2 1 (.box (.t 0)),
  S2 2 (.alc [.i .i64 0,.i .u64 0,.i .u64 0,.i .u64 0,.i .u64 0,.nil,.i .i64 0,.i .i64 0,.nil,.nil,.nil]),
  S1 3 (.mov (.k (.i .i64 0)))])
 (.sq (.rg [S2 8 (.ld 8 true (.t 1)),
  S2 9 (.pc 28 [(.t 8)]),
  S7 7 9,
  S1 10 (.ext (.t 7) 0),
  S1 11 (.ext (.t 7) 1),
  S2 4 (.alc [.i .i64 0,.i .u64 0,.i .u64 0,.i .u64 0,.i .u64 0,.nil,.i .i64 0,.i .i64 0]),
  S3 (.sto 8 (.t 4) (.t 10)),
  S7 5 11])
 (.sq (.sq (.rg [S7 12 5,
  S1 13 (.bin .neq (.t 12) (.k (.i .i64 0)))])
 (.cd (.t 13)
  (.sq (.rg [S1 14 (.bld [.i .i64 0,.i .u64 0,.i .u64 0,.i .u64 0,.i .u64 0,.nil,.i .i64 0,.i .i64 0,.nil,.nil,.nil] []),
    S7 15 5,
    S3 (.sto 11 (.t 2) (.t 14)),
    S7 3 15])
   (.rt))
  (.sk)))
 (.sq (.rg [S2 16 (.ld 8 true (.t 4)),
  S2 17 (.mks 4 32 [.i .u64 0,.i .u64 0,.i .u64 0,.i .u64 0] (.k (.i .i64 1)) (.k (.i .i64 1))),
  S2 18 (.mks 1 24 [.nil] (.k (.i .i64 1)) (.k (.i .i64 1))),
  S1 19 (.bld [.i .i64 0,.i .u64 0,.i .u64 0,.i .u64 0,.i .u64 0,.nil,.i .i64 0,.i .i64 0,.nil,.nil,.nil] [(0,8,(.t 16)),(8,1,(.t 17)),(10,1,(.t 18))]),
  S2 20 (.box (.t 19)),
  S7 6 20])
 (.sq (.rg [S7 21 6,
  S2 22 (.ld 8 true (.t 4)),
  S2 23 (.nc 29 [(.t 21),(.t 22),(.k (.nil))])])
 (.sq (.sq (.rg [S7 24 6,
  S1 25 (.nck (.t 24)),
  S8 26 8 25,
  S6 27 26,
  S1 28 (.len (.t 27)),
  S1 29 (.bin .gtr (.t 28) (.k (.i .i64 41))),
  S7 30 29,
  S5 31 30 false (.mov (.t 6)),
  S5 32 30 false (.nck (.t 31)),
  S5 33 30 false (.adr 10 (.t 32)),
  S4 34 30 false (.ld 1 false (.t 33)),
  S4 35 30 false (.pc 30 [(.t 34),(.k (.fn 31 []))]),
  S1 36 (.pick (.t 30) (.k (.bo true)) (.t 35))])
 (.cd (.t 36)
  (.sq (.rg [S1 37 (.bld [.i .i64 0,.i .u64 0,.i .u64 0,.i .u64 0,.i .u64 0,.nil,.i .i64 0,.i .i64 0,.nil,.nil,.nil] []),
    S3 (.sto 11 (.t 2) (.t 37)),
    S1 3 (.mov (.k (.i .i64 3)))])
   (.rt))
  (.sk)))
 (.sq (.rg [S7 38 6,
  S1 39 (.nck (.t 38)),
  S2 40 (.ld 11 true (.t 39)),
  S3 (.sto 11 (.t 2) (.t 40)),
  S1 3 (.mov (.k (.i .i64 0)))])
 (.rt)))))))
def fn19:Fn:={ n:=41,np:=1,res:=[.c 2 11 true,.t 3],body:=c19 }
theorem e19:F 19=some fn19:=by kernel_rfl
def c20:C :=
 .sq (.rg [S2 4 (.box (.t 1)),
  S2 6 (.alc [.nil,.nil,.bo false])])
 (.sq (.sq (.rg [S8 7 0 4,
  S6 8 7])
 (.bk 0 (.sq (.rg [S1 10 (.bin .eql (.t 8) (.k (.i .i64 1))),
  S7 9 10])
 (.cd (.t 9)
  (.sq (.sq (.rg [S8 11 1 4,
    S2 12 (.ld 4 true (.t 11)),
    S2 13 (.pc 32 [(.t 12)])])
   (.cd (.t 13)
    (.sq (.rg [S1 14 (.bld [.nil,.nil,.bo false] []),
      S3 (.sto 3 (.t 6) (.t 14))])
     (.rt))
    (.sk)))
   (.sq (.rg [S7 15 0,
    S1 16 (.nck (.t 15)),
    S8 17 0 16,
    S6 18 17,
    S1 19 (.bin .add (.t 18) (.k (.i .i64 1))),
    S1 20 (.nck (.t 15)),
    S8 21 0 20,
    S3 (.sto 1 (.t 21) (.t 19))])
   (.sq (.rg [S7 22 0,
    S1 23 (.nck (.t 22)),
    S8 24 0 23,
    S7 27 0,
    S1 28 (.nck (.t 27)),
    S8 29 0 28,
    S6 25 24,
    S6 30 29,
    S2 26 (.bsl 1 1 [.i .i64 0] [(0,(.t 25))]),
    S2 31 (.bsl 1 1 [.i .i64 0] [(0,(.t 30))]),
    S1 32 (.bld [.nil,.nil,.bo false] [(0,1,(.t 26)),(1,1,(.t 31))]),
    S3 (.sto 3 (.t 6) (.t 32))])
   (.rt))))
  (.sq (.rg [S1 34 (.bin .eql (.t 8) (.k (.i .i64 2))),
    S7 33 34])
   (.cd (.t 33)
    (.sq (.rg [S7 35 0,
      S8 36 5 4,
      S6 37 36,
      S7 38 2,
      S2 39 (.nc 33 [(.t 35),(.t 37),(.t 38)]),
      S3 (.sto 3 (.t 6) (.t 39))])
     (.rt))
    (.sq (.rg [S1 41 (.bin .eql (.t 8) (.k (.i .i64 3))),
      S7 40 41])
     (.cd (.t 40)
      (.sq (.rg [S7 42 0,
        S8 43 5 4,
        S6 44 43,
        S7 45 2,
        S2 46 (.nc 34 [(.t 42),(.t 44),(.t 45)]),
        S3 (.sto 3 (.t 6) (.t 46))])
       (.rt))
      (.sq (.rg [S1 48 (.bin .eql (.t 8) (.k (.i .i64 4))),
        S7 47 48])
       (.cd (.t 47)
        (.sq (.rg [S7 49 0,
          S2 50 (.ld 8 true (.t 4)),
          S7 51 2,
          S2 52 (.nc 35 [(.t 49),(.t 50),(.t 51)]),
          S3 (.sto 3 (.t 6) (.t 52))])
         (.rt))
        (.sk)))))))))))
 (.sq (.rg [S1 53 (.bld [.nil,.nil,.bo false] [(2,1,(.k (.bo true)))]),
  S3 (.sto 3 (.t 6) (.t 53))])
 (.rt)))
def fn20:Fn:={ n:=54,np:=3,res:=[.c 6 3 true],body:=c20 }
theorem e20:F 20=some fn20:=by kernel_rfl
def c23:C :=
 .sq (.rg [S2 2 (.box (.t 0)),
  S2 3 (.box (.t 1)),
  S1 4 (.mov (.k (.i .i64 0)))])
 (.sq (.rg [S8 6 0 2,
  S8 8 0 3,
  S8 11 1 2,
  S8 13 1 3,
  S6 7 6,
  S6 9 8,
  S6 12 11,
  S6 14 13,
  S2 10 (.pc 40 [(.t 7),(.t 9)]),
  S2 15 (.pc 40 [(.t 12),(.t 14)]),
  S2 16 (.bsl 1 2 [.i .i64 0] [(0,(.t 10)),(1,(.t 15))]),
  S2 17 (.pc 39 [(.t 16)]),
  S7 5 17])
 (.sq (.sq (.rg [S7 18 5,
  S1 19 (.bin .eql (.t 18) (.k (.i .i64 0))),
  S7 20 19,
  S5 21 20 true (.adr 2 (.t 2)),
  S4 22 20 true (.ld 1 false (.t 21)),
  S5 23 20 true (.adr 2 (.t 3)),
  S4 24 20 true (.ld 1 false (.t 23)),
  S5 25 20 true (.eqb true (.t 22) (.t 24)),
  S1 26 (.pick (.t 20) (.t 25) (.k (.bo false)))])
 (.cd (.t 26)
  (.sq (.rg [S1 5 (.mov (.k (.i .i64 1)))])
   (.sq (.rg [S8 27 2 3,
    S6 28 27])
   (.cd (.t 28)
    (.rg [S1 5 (.mov (.k (.i .i64 (-1))))])
    (.sk))))
  (.sk)))
 (.sq (.rg [S7 29 5,
  S7 4 29])
 (.rt))))
def fn23:Fn:={ n:=30,np:=2,res:=[.t 4],body:=c23 }
theorem e23:F 23=some fn23:=by kernel_rfl
def c28:C :=
 .sq (.rg [S2 1 (.box (.t 0)),
  S2 2 (.alc [.i .i64 0,.i .u64 0,.i .u64 0,.i .u64 0,.i .u64 0,.nil,.i .i64 0,.i .i64 0]),
  S1 3 (.mov (.k (.i .i64 0)))])
 (.sq (.sq (.rg [S2 4 (.ld 8 true (.t 1)),
  S2 5 (.pc 43 [(.t 4)]),
  S1 6 (.un .not (.t 5))])
 (.cd (.t 6)
  (.sq (.rg [S1 7 (.bld [.i .i64 0,.i .u64 0,.i .u64 0,.i .u64 0,.i .u64 0,.nil,.i .i64 0,.i .i64 0] []),
    S3 (.sto 8 (.t 2) (.t 7)),
    S1 3 (.mov (.k (.i .i64 1)))])
   (.rt))
  (.sk)))
 (.sq (.rg [S2 8 (.ld 8 true (.t 1)),
  S2 9 (.pc 44 [(.t 8)]),
  S3 (.sto 8 (.t 2) (.t 9)),
  S1 3 (.mov (.k (.i .i64 0)))])
 (.rt)))
def fn28:Fn:={ n:=10,np:=1,res:=[.c 2 8 true,.t 3],body:=c28 }
theorem e28:F 28=some fn28:=by kernel_rfl
def b29_0:C :=
 .sq (.rg [S1 70 (.bin .lss (.t 69) (.t 68))])
 (.sq (.cd (.t 70)
  (.sk)
  (.ex 0))
 (.sq (.bk 1 (.sq (.rg [S1 71 (.ixp 8 (.t 67) (.t 69)),
  S2 72 (.ld 8 true (.t 71)),
  S2 9 (.alc [.i .i64 0,.i .u64 0,.i .u64 0,.i .u64 0,.i .u64 0,.nil,.i .i64 0,.i .i64 0]),
  S3 (.sto 8 (.t 9) (.t 72))])
 (.rg [S7 73 0,
  S2 74 (.ld 8 true (.t 9)),
  S7 75 2,
  S2 76 (.nc 29 [(.t 73),(.t 74),(.t 75)])])))
 (.rg [S1 77 (.bin .add (.t 69) (.k (.i .i64 1))),
  S7 69 77])))
def c29:C :=
 .sq (.rg [S2 4 (.box (.t 1))])
 (.sq (.sq (.rg [S8 10 0 4,
  S6 11 10,
  S1 12 (.bin .eql (.t 11) (.k (.i .i64 1))),
  S7 13 12,
  S5 14 13 true (.adr 1 (.t 4)),
  S4 15 13 true (.ld 4 true (.t 14)),
  S4 16 13 true (.pc 32 [(.t 15)]),
  S5 17 13 true (.un .not (.t 16)),
  S1 18 (.pick (.t 13) (.t 17) (.k (.bo false)))])
 (.cd (.t 18)
  (.sq (.rg [S7 19 0,
    S7 20 0,
    S1 21 (.nck (.t 20)),
    S8 22 8 21,
    S8 24 1 4,
    S6 23 22,
    S2 25 (.ld 4 true (.t 24)),
    S2 26 (.bsl 4 1 [.i .u64 0,.i .u64 0,.i .u64 0,.i .u64 0] [(0,(.t 25))]),
    S2 27 (.app 4 32 (.t 23) (.t 26)),
    S1 28 (.nck (.t 19)),
    S8 29 8 28,
    S3 (.sto 1 (.t 29) (.t 27))])
   (.rg [S7 30 0,
    S7 31 0,
    S1 32 (.nck (.t 31)),
    S8 33 10 32,
    S7 35 2,
    S6 34 33,
    ⟨some 36,none,.nc 45 [(.t 35)],[.ld 1 false (.t 33)]⟩,
    S2 37 (.bsl 1 1 [.nil] [(0,(.t 36))]),
    S2 38 (.app 1 24 (.t 34) (.t 37)),
    S1 39 (.nck (.t 30)),
    S8 40 10 39,
    S3 (.sto 1 (.t 40) (.t 38))]))
  (.sk)))
 (.sq (.sq (.rg [S2 42 (.ld 8 true (.t 4)),
  S2 43 (.pc 46 [(.t 42)]),
  S7 41 43,
  S1 44 (.ext (.t 41) 0),
  S1 45 (.ext (.t 41) 1),
  S2 6 (.alc [.i .i64 0,.i .i64 0]),
  S3 (.sto 2 (.t 6) (.t 44)),
  S7 7 45])
 (.sq (.rg [S7 46 7])
 (.cd (.t 46)
  (.sq (.rg [S7 47 2,
    S7 49 0,
    S1 50 (.nck (.t 49)),
    S8 51 9 50,
    S6 52 51,
    S1 53 (.len (.t 52)),
    S1 54 (.lit 1 1 [.i .i64 0] [(0,(.t 53))]),
    ⟨some 48,none,.nc 45 [(.t 47)],[.ld 1 false (.t 51)]⟩,
    S2 55 (.app 1 8 (.t 48) (.t 54)),
    S7 2 55])
   (.rg [S7 56 0,
    S7 57 0,
    S1 58 (.nck (.t 57)),
    S8 59 9 58,
    S6 60 59,
    S2 61 (.ld 2 true (.t 6)),
    S2 62 (.bsl 2 1 [.i .i64 0,.i .i64 0] [(0,(.t 61))]),
    S2 63 (.app 2 16 (.t 60) (.t 62)),
    S1 64 (.nck (.t 56)),
    S8 65 9 64,
    S3 (.sto 1 (.t 65) (.t 63))]))
  (.sk))))
 (.sq (.rg [S8 66 5 4,
  S6 67 66,
  S1 68 (.len (.t 67)),
  S1 69 (.mov (.k (.i .i64 0)))])
 (.bk 0 (.lp b29_0)))))
def fn29:Fn:={ n:=78,np:=3,res:=[],body:=c29 }
theorem e29:F 29=some fn29:=by kernel_rfl
def c30:C :=
 .sq (.rg [S1 4 (.mov (.k (.bo false)))])
 (.sq (.rg [S7 5 0,
  S7 6 1,
  S2 7 (.pc 47 [(.t 5),(.t 6)]),
  S1 8 (.bin .geq (.t 7) (.k (.i .i64 0))),
  S7 4 8])
 (.rt))
def fn30:Fn:={ n:=9,np:=2,res:=[.t 4],body:=c30 }
theorem e30:F 30=some fn30:=by kernel_rfl
def c31:C :=
 .sq (.rg [S1 2 (.mov (.k (.bo false)))])
 (.sq (.rg [S7 3 0,
  S1 4 (.len (.t 3)),
  S1 5 (.bin .gtr (.t 4) (.k (.i .i64 4))),
  S7 2 5])
 (.rt))
def fn31:Fn:={ n:=6,np:=1,res:=[.t 2],body:=c31 }
theorem e31:F 31=some fn31:=by kernel_rfl
def c32:C :=
 .sq (.rg [S2 1 (.box (.t 0)),
  S1 2 (.mov (.k (.bo false)))])
 (.sq (.rg [S2 3 (.ld 4 true (.t 1)),
  S1 4 (.bld [.i .u64 0,.i .u64 0,.i .u64 0,.i .u64 0] []),
  S1 5 (.eqp false true [.i .u64,.i .u64,.i .u64,.i .u64] (.t 3) (.t 4)),
  S7 2 5])
 (.rt))
def fn32:Fn:={ n:=6,np:=1,res:=[.t 2],body:=c32 }
theorem e32:F 32=some fn32:=by kernel_rfl
def b33_0:C :=
 .sq (.rg [S1 15 (.bin .lss (.t 14) (.t 13))])
 (.sq (.cd (.t 15)
  (.sk)
  (.ex 0))
 (.sq (.bk 1 (.sq (.rg [S1 16 (.ixp 8 (.t 12) (.t 14)),
  S2 17 (.ld 8 true (.t 16)),
  S2 9 (.alc [.i .i64 0,.i .u64 0,.i .u64 0,.i .u64 0,.i .u64 0,.nil,.i .i64 0,.i .i64 0]),
  S3 (.sto 8 (.t 9) (.t 17))])
 (.sq (.rg [S7 18 0,
  S2 19 (.ld 8 true (.t 9)),
  S7 20 2,
  S2 21 (.nc 20 [(.t 18),(.t 19),(.t 20)]),
  S2 10 (.alc [.nil,.nil,.bo false]),
  S3 (.sto 3 (.t 10) (.t 21))])
 (.sq (.rg [S7 22 0,
  S8 23 1 7,
  S6 24 23,
  S8 25 0 10,
  S6 26 25,
  S7 27 2,
  S2 28 (.nc 48 [(.t 22),(.t 24),(.t 26),(.t 27),(.k (.bo false))])])
 (.sq (.sq (.rg [S8 29 2 7,
  S6 30 29])
 (.cd (.t 30)
  (.rg [S8 31 0 7,
    S6 32 31,
    S8 33 0 10,
    S6 34 33,
    S2 35 (.bsl 1 2 [.nil] [(0,(.t 32)),(1,(.t 34))]),
    S2 36 (.nc 49 [(.t 35)]),
    S8 37 0 7,
    S3 (.sto 1 (.t 37) (.t 36))])
  (.sk)))
 (.sq (.sq (.rg [S8 38 2 10,
  S6 39 38])
 (.cd (.t 39)
  (.rg [S8 40 1 7,
    S6 41 40,
    S8 42 1 10,
    S6 43 42,
    S2 44 (.bsl 1 2 [.nil] [(0,(.t 41)),(1,(.t 43))]),
    S2 45 (.nc 49 [(.t 44)]),
    S8 46 1 7,
    S3 (.sto 1 (.t 46) (.t 45))])
  (.rg [S8 47 1 10,
    S6 48 47,
    S8 49 1 7,
    S3 (.sto 1 (.t 49) (.t 48))])))
 (.rg [S8 50 2 7,
  S6 51 50,
  S7 52 51,
  S5 53 52 true (.adr 2 (.t 10)),
  S4 54 52 true (.ld 1 false (.t 53)),
  S1 55 (.pick (.t 52) (.t 54) (.k (.bo false))),
  S8 56 2 7,
  S3 (.sto 1 (.t 56) (.t 55))])))))))
 (.rg [S1 57 (.bin .add (.t 14) (.k (.i .i64 1))),
  S7 14 57])))
def c33:C :=
 .sq (.rg [S2 6 (.alc [.nil,.nil,.bo false])])
 (.sq (.rg [S1 11 (.bld [.nil,.nil,.bo false] [(2,1,(.k (.bo true)))]),
  S2 7 (.alc [.nil,.nil,.bo false]),
  S3 (.sto 3 (.t 7) (.t 11))])
 (.sq (.sq (.rg [S7 12 1,
  S1 13 (.len (.t 12)),
  S1 14 (.mov (.k (.i .i64 0)))])
 (.bk 0 (.lp b33_0)))
 (.sq (.rg [S2 58 (.ld 3 true (.t 7)),
  S3 (.sto 3 (.t 6) (.t 58))])
 (.rt))))
def fn33:Fn:={ n:=59,np:=3,res:=[.c 6 3 true],body:=c33 }
theorem e33:F 33=some fn33:=by kernel_rfl
def b34_0:C :=
 .sq (.rg [S1 14 (.bin .lss (.t 13) (.t 12))])
 (.sq (.cd (.t 14)
  (.sk)
  (.ex 0))
 (.sq (.bk 1 (.sq (.rg [S1 15 (.ixp 8 (.t 11) (.t 13)),
  S2 16 (.ld 8 true (.t 15)),
  S2 9 (.alc [.i .i64 0,.i .u64 0,.i .u64 0,.i .u64 0,.i .u64 0,.nil,.i .i64 0,.i .i64 0]),
  S3 (.sto 8 (.t 9) (.t 16))])
 (.sq (.rg [S7 17 0,
  S2 18 (.ld 8 true (.t 9)),
  S7 19 2,
  S2 20 (.nc 20 [(.t 17),(.t 18),(.t 19)]),
  S2 10 (.alc [.nil,.nil,.bo false]),
  S3 (.sto 3 (.t 10) (.t 20))])
 (.sq (.rg [S8 21 0 7,
  S6 22 21,
  S8 23 0 10,
  S6 24 23,
  S2 25 (.bsl 1 2 [.nil] [(0,(.t 22)),(1,(.t 24))]),
  S2 26 (.nc 49 [(.t 25)]),
  S8 27 0 7,
  S3 (.sto 1 (.t 27) (.t 26))])
 (.sq (.rg [S8 28 1 7,
  S6 29 28,
  S8 30 1 10,
  S6 31 30,
  S2 32 (.bsl 1 2 [.nil] [(0,(.t 29)),(1,(.t 31))]),
  S2 33 (.nc 49 [(.t 32)]),
  S8 34 1 7,
  S3 (.sto 1 (.t 34) (.t 33))])
 (.rg [S8 35 2 7,
  S6 36 35,
  S7 37 36,
  S5 38 37 false (.adr 2 (.t 10)),
  S4 39 37 false (.ld 1 false (.t 38)),
  S1 40 (.pick (.t 37) (.k (.bo true)) (.t 39)),
  S8 41 2 7,
  S3 (.sto 1 (.t 41) (.t 40))]))))))
 (.rg [S1 42 (.bin .add (.t 13) (.k (.i .i64 1))),
  S7 13 42])))
def c34:C :=
 .sq (.rg [S2 6 (.alc [.nil,.nil,.bo false])])
 (.sq (.rg [S2 7 (.alc [.nil,.nil,.bo false])])
 (.sq (.sq (.rg [S7 11 1,
  S1 12 (.len (.t 11)),
  S1 13 (.mov (.k (.i .i64 0)))])
 (.bk 0 (.lp b34_0)))
 (.sq (.rg [S2 43 (.ld 3 true (.t 7)),
  S3 (.sto 3 (.t 6) (.t 43))])
 (.rt))))
def fn34:Fn:={ n:=44,np:=3,res:=[.c 6 3 true],body:=c34 }
theorem e34:F 34=some fn34:=by kernel_rfl
def c35:C :=
 .sq (.rg [S2 4 (.box (.t 1)),
  S2 6 (.alc [.nil,.nil,.bo false])])
 (.sq (.rg [S2 12 (.ld 8 true (.t 4)),
  S2 13 (.pc 46 [(.t 12)]),
  S7 11 13,
  S1 14 (.ext (.t 11) 0),
  S1 15 (.ext (.t 11) 1),
  S2 7 (.alc [.i .i64 0,.i .i64 0]),
  S3 (.sto 2 (.t 7) (.t 14)),
  S7 8 15])
 (.sq (.rg [S7 16 2,
  S7 9 16])
 (.sq (.sq (.rg [S7 17 8])
 (.cd (.t 17)
  (.rg [S7 18 9,
    S1 19 (.bin .add (.t 18) (.k (.i .i64 1))),
    S7 9 19])
  (.sk)))
 (.sq (.rg [S7 20 0,
  S8 21 5 4,
  S6 22 21,
  S1 23 (.ixp 8 (.t 22) (.k (.i .i64 0))),
  S2 24 (.ld 8 true (.t 23)),
  S7 25 9,
  S2 26 (.nc 20 [(.t 20),(.t 24),(.t 25)]),
  S2 10 (.alc [.nil,.nil,.bo false]),
  S3 (.sto 3 (.t 10) (.t 26))])
 (.sq (.sq (.rg [S8 27 7 4,
  S6 28 27,
  S1 29 (.bin .neq (.t 28) (.k (.i .i64 1)))])
 (.cd (.t 29)
  (.rg [S7 30 0,
    S8 31 1 10,
    S6 32 31,
    S8 33 0 10,
    S6 34 33,
    S7 35 2,
    S7 36 8,
    S2 37 (.nc 48 [(.t 30),(.t 32),(.t 34),(.t 35),(.t 36)])])
  (.sk)))
 (.sq (.rg [S2 38 (.ld 8 true (.t 4)),
  S2 39 (.pc 50 [(.t 38)]),
  S8 40 2 10,
  S3 (.sto 1 (.t 40) (.t 39))])
 (.sq (.rg [S2 41 (.ld 3 true (.t 10)),
  S3 (.sto 3 (.t 6) (.t 41))])
 (.rt))))))))
def fn35:Fn:={ n:=42,np:=3,res:=[.c 6 3 true],body:=c35 }
theorem e35:F 35=some fn35:=by kernel_rfl
def b39_0:C :=
 .sq (.rg [S1 9 (.bin .lss (.t 8) (.t 7))])
 (.sq (.cd (.t 9)
  (.sk)
  (.ex 0))
 (.sq (.bk 1 (.sq (.rg [S1 10 (.ixp 1 (.t 6) (.t 8)),
  S6 11 10,
  S7 5 11])
 (.sq (.rg [S7 12 5,
  S7 13 3,
  S1 14 (.bin .neq (.t 12) (.t 13))])
 (.cd (.t 14)
  (.sq (.rg [S7 15 5,
    S7 2 15])
   (.rt))
  (.sk)))))
 (.rg [S1 16 (.bin .add (.t 8) (.k (.i .i64 1))),
  S7 8 16])))
def c39:C :=
 .sq (.rg [S1 2 (.mov (.k (.i .i64 0)))])
 (.sq (.rg [S1 3 (.mov (.k (.i .i64 0)))])
 (.sq (.sq (.rg [S7 6 0,
  S1 7 (.len (.t 6)),
  S1 8 (.mov (.k (.i .i64 0)))])
 (.bk 0 (.lp b39_0)))
 (.sq (.rg [S7 17 3,
  S7 2 17])
 (.rt))))
def fn39:Fn:={ n:=18,np:=1,res:=[.t 2],body:=c39 }
theorem e39:F 39=some fn39:=by kernel_rfl
def c40:C :=
 .sq (.rg [S1 4 (.mov (.k (.i .i64 0)))])
 (.sq (.rg [S7 7 0,
  S2 8 (.pc 70 [(.t 7)]),
  S7 5 8])
 (.sq (.rg [S7 9 1,
  S2 10 (.pc 70 [(.t 9)]),
  S7 6 10])
 (.sq (.sq (.rg [S7 11 5])
 (.cd (.t 11)
  (.sq (.sq (.rg [S7 12 6])
   (.cd (.t 12)
    (.sq (.rg [S1 4 (.mov (.k (.i .i64 0)))])
     (.rt))
    (.sk)))
   (.sq (.rg [S1 4 (.mov (.k (.i .i64 (-1))))])
   (.rt)))
  (.sk)))
 (.sq (.sq (.rg [S7 13 6])
 (.cd (.t 13)
  (.sq (.rg [S1 4 (.mov (.k (.i .i64 1)))])
   (.rt))
  (.sk)))
 (.sq (.sq (.rg [S7 14 0,
  S7 15 1,
  S1 16 (.bin .lss (.t 14) (.t 15))])
 (.cd (.t 16)
  (.sq (.rg [S1 4 (.mov (.k (.i .i64 (-1))))])
   (.rt))
  (.sk)))
 (.sq (.sq (.rg [S7 17 0,
  S7 18 1,
  S1 19 (.bin .gtr (.t 17) (.t 18))])
 (.cd (.t 19)
  (.sq (.rg [S1 4 (.mov (.k (.i .i64 1)))])
   (.rt))
  (.sk)))
 (.sq (.rg [S1 4 (.mov (.k (.i .i64 0)))])
 (.rt))))))))
def fn40:Fn:={ n:=20,np:=2,res:=[.t 4],body:=c40 }
theorem e40:F 40=some fn40:=by kernel_rfl
def c43:C :=
 .sq (.rg [S2 1 (.box (.t 0)),
  S1 2 (.mov (.k (.bo false)))])
 (.sq (.rg [S2 3 (.ld 8 true (.t 1)),
  S2 4 (.pc 71 [(.t 3)]),
  S7 5 4,
  S5 6 5 true (.adr 5 (.t 1)),
  S4 7 5 true (.ld 1 false (.t 6)),
  S4 8 5 true (.pc 72 [(.t 7),(.k (.fn 73 []))]),
  S5 9 5 true (.un .not (.t 8)),
  S1 10 (.pick (.t 5) (.t 9) (.k (.bo false))),
  S7 2 10])
 (.rt))
def fn43:Fn:={ n:=11,np:=1,res:=[.t 2],body:=c43 }
theorem e43:F 43=some fn43:=by kernel_rfl
def b44_0:C :=
 .sq (.rg [S1 13 (.bin .lss (.t 12) (.t 11))])
 (.sq (.cd (.t 13)
  (.sk)
  (.ex 0))
 (.sq (.bk 1 (.sq (.rg [S1 14 (.ixp 8 (.t 10) (.t 12)),
  S2 15 (.ld 8 true (.t 14)),
  S2 5 (.alc [.i .i64 0,.i .u64 0,.i .u64 0,.i .u64 0,.i .u64 0,.nil,.i .i64 0,.i .i64 0]),
  S3 (.sto 8 (.t 5) (.t 15))])
 (.rg [S7 16 3,
  S2 17 (.ld 8 true (.t 5)),
  S2 18 (.pc 44 [(.t 17)]),
  S2 19 (.bsl 8 1 [.i .i64 0,.i .u64 0,.i .u64 0,.i .u64 0,.i .u64 0,.nil,.i .i64 0,.i .i64 0] [(0,(.t 18))]),
  S2 20 (.app 8 80 (.t 16) (.t 19)),
  S7 3 20])))
 (.rg [S1 21 (.bin .add (.t 12) (.k (.i .i64 1))),
  S7 12 21])))
def c44:C :=
 .sq (.rg [S2 1 (.box (.t 0)),
  S2 2 (.alc [.i .i64 0,.i .u64 0,.i .u64 0,.i .u64 0,.i .u64 0,.nil,.i .i64 0,.i .i64 0])])
 (.sq (.sq (.rg [S2 6 (.ld 8 true (.t 1)),
  S2 7 (.pc 74 [(.t 6)])])
 (.cd (.t 7)
  (.sq (.rg [S1 8 (.bld [.i .i64 0,.i .u64 0,.i .u64 0,.i .u64 0,.i .u64 0,.nil,.i .i64 0,.i .i64 0] [(0,1,(.k (.i .i64 1)))]),
    S3 (.sto 8 (.t 2) (.t 8))])
   (.rt))
  (.sk)))
 (.sq (.rg [S1 3 (.mov (.k (.nil)))])
 (.sq (.sq (.rg [S8 9 5 1,
  S6 10 9,
  S1 11 (.len (.t 10)),
  S1 12 (.mov (.k (.i .i64 0)))])
 (.bk 0 (.lp b44_0)))
 (.sq (.sq (.rg [S8 22 0 1,
  S6 23 22])
 (.bk 2 (.sq (.sq (.rg [S1 25 (.bin .eql (.t 23) (.k (.i .i64 2))),
  S7 24 25])
 (.cd (.t 24)
  (.sk)
  (.rg [S1 26 (.bin .eql (.t 23) (.k (.i .i64 3))),
    S7 24 26])))
 (.cd (.t 24)
  (.sq (.rg [S8 27 0 1,
    S8 29 0 1,
    S7 31 3,
    S6 28 27,
    S6 30 29,
    ⟨some 32,none,.nc 76 [(.t 30),(.k (.nil)),(.t 31)],[.ld 1 false (.t 27)]⟩,
    S2 33 (.nc 75 [(.t 28),(.t 32)]),
    S3 (.sto 8 (.t 2) (.t 33))])
   (.rt))
  (.sq (.rg [S1 35 (.bin .eql (.t 23) (.k (.i .i64 4))),
    S7 34 35])
   (.cd (.t 34)
    (.sq (.rg [S7 36 3,
      S1 37 (.ixp 8 (.t 36) (.k (.i .i64 0))),
      S8 39 6 1,
      S8 41 7 1,
      S2 38 (.ld 8 true (.t 37)),
      S6 40 39,
      S6 42 41,
      S2 43 (.pc 77 [(.t 38),(.t 40),(.t 42)]),
      S3 (.sto 8 (.t 2) (.t 43))])
     (.rt))
    (.sk)))))))
 (.sq (.rg [S2 44 (.ld 8 true (.t 1)),
  S3 (.sto 8 (.t 2) (.t 44))])
 (.rt))))))
def fn44:Fn:={ n:=45,np:=1,res:=[.c 2 8 true],body:=c44 }
theorem e44:F 44=some fn44:=by kernel_rfl
def c45:C :=
 .sq (.rg [S1 2 (.mov (.k (.nil)))])
 (.sq (.sq (.rg [S7 3 0,
  S2 4 (.isz false (.t 3))])
 (.cd (.t 4)
  (.sq (.rg [S1 2 (.mov (.k (.nil)))])
   (.rt))
  (.sk)))
 (.sq (.rg [S2 5 (.bsl 1 0 [.i .i64 0] []),
  S7 6 0,
  S2 7 (.app 1 8 (.t 5) (.t 6)),
  S7 2 7])
 (.rt)))
def fn45:Fn:={ n:=8,np:=1,res:=[.t 2],body:=c45 }
theorem e45:F 45=some fn45:=by kernel_rfl
def c46:C :=
 .sq (.rg [S2 1 (.box (.t 0)),
  S2 2 (.alc [.i .i64 0,.i .i64 0]),
  S1 3 (.mov (.k (.bo false)))])
 (.sq (.rg [S8 5 6 1,
  S6 6 5,
  S1 7 (.mx true (.k (.i .i64 1)) (.t 6)),
  S8 8 7 1,
  S6 9 8,
  S1 10 (.bld [.i .i64 0,.i .i64 0] [(0,1,(.t 7)),(1,1,(.t 9))]),
  S2 4 (.alc [.i .i64 0,.i .i64 0]),
  S3 (.sto 2 (.t 4) (.t 10))])
 (.sq (.rg [S8 12 0 1,
  S2 11 (.ld 2 true (.t 4)),
  S6 13 12,
  S1 14 (.bin .eql (.t 13) (.k (.i .i64 4))),
  S7 15 14,
  S5 16 15 true (.adr 1 (.t 4)),
  S4 17 15 true (.ld 1 false (.t 16)),
  S5 18 15 true (.bin .gtr (.t 17) (.k (.i .i64 1))),
  S5 19 15 true (.mov (.t 18)),
  S5 20 19 false (.adr 1 (.t 4)),
  S4 21 19 false (.ld 1 false (.t 20)),
  S5 22 19 false (.bin .eql (.t 21) (.k (.i .i64 (-1)))),
  S5 23 19 false (.mov (.t 22)),
  S5 24 23 true (.adr 0 (.t 4)),
  S4 25 23 true (.ld 1 false (.t 24)),
  S5 26 23 true (.bin .gtr (.t 25) (.k (.i .i64 1))),
  S5 27 19 false (.pick (.t 23) (.t 26) (.k (.bo false))),
  S5 28 15 true (.pick (.t 19) (.k (.bo true)) (.t 27)),
  S1 29 (.pick (.t 15) (.t 28) (.k (.bo false))),
  ⟨none,none,.sto 2 (.t 2) (.t 11),[.ld 1 false (.t 24)]⟩,
  S7 3 29])
 (.rt)))
def fn46:Fn:={ n:=30,np:=1,res:=[.c 2 2 true,.t 3],body:=c46 }
theorem e46:F 46=some fn46:=by kernel_rfl
def b47_0:C :=
 .sq (.rg [S1 9 (.bin .lss (.t 8) (.t 7))])
 (.sq (.cd (.t 9)
  (.sk)
  (.ex 0))
 (.sq (.bk 1 (.sq (.rg [S7 10 8,
  S7 5 10])
 (.sq (.rg [S7 11 1,
  S7 12 0,
  S7 13 5,
  S1 14 (.ixp 1 (.t 12) (.t 13)),
  S6 15 14,
  S2 16 (.pv (.t 11) [(.t 15)])])
 (.cd (.t 16)
  (.sq (.rg [S7 17 5,
    S7 4 17])
   (.rt))
  (.sk)))))
 (.rg [S1 18 (.bin .add (.t 8) (.k (.i .i64 1))),
  S7 8 18])))
def c47:C :=
 .sq (.rg [S1 4 (.mov (.k (.i .i64 0)))])
 (.sq (.sq (.rg [S7 6 0,
  S1 7 (.len (.t 6)),
  S1 8 (.mov (.k (.i .i64 0)))])
 (.bk 0 (.lp b47_0)))
 (.sq (.rg [S1 4 (.mov (.k (.i .i64 (-1))))])
 (.rt)))
def fn47:Fn:={ n:=19,np:=2,res:=[.t 4],body:=c47 }
theorem e47:F 47=some fn47:=by kernel_rfl
def b48_0:C :=
 .sq (.rg [S1 23 (.bin .lss (.t 22) (.t 21))])
 (.sq (.cd (.t 23)
  (.sk)
  (.ex 2))
 (.sq (.bk 3 (.sq (.rg [S1 24 (.ixp 1 (.t 20) (.t 22)),
  S6 25 24,
  S7 13 25])
 (.rg [S7 26 0,
  S1 27 (.nck (.t 26)),
  S8 28 1 27,
  S7 30 11,
  S7 31 13,
  S7 32 3,
  S7 33 4,
  S1 34 (.bld [.i .i64 0,.i .i64 0,.bo false] [(0,1,(.t 31)),(1,1,(.t 32)),(2,1,(.t 33))]),
  S1 35 (.bld [.i .i64 0,.i .i64 0,.i .i64 0,.bo false] [(0,1,(.t 30)),(1,3,(.t 34))]),
  S6 29 28,
  S2 36 (.lkp true [.i .i64,.i .i64,.i .i64,.b] (.i .i64 0) false (.t 29) (.t 35)),
  S1 37 (.bin .add (.t 36) (.k (.i .i64 1))),
  ⟨some 38,none,.men true [.i .i64,.i .i64,.i .i64,.b] (.i .i64 0) (.t 29) (.t 35),[.lkp true [.i .i64,.i .i64,.i .i64,.b] (.i .i64 0) false (.t 29) (.t 35)]⟩,
  S1 39 (.ext (.t 38) 1),
  S3 (.est (.t 29) (.t 39) (.t 37))])))
 (.rg [S1 40 (.bin .add (.t 22) (.k (.i .i64 1))),
  S7 22 40])))
def b48_1:C :=
 .sq (.rg [S1 17 (.bin .lss (.t 16) (.t 15))])
 (.sq (.cd (.t 17)
  (.sk)
  (.ex 0))
 (.sq (.bk 1 (.sq (.rg [S1 18 (.ixp 1 (.t 14) (.t 16)),
  S6 19 18,
  S7 11 19])
 (.sq (.rg [S7 20 2,
  S1 21 (.len (.t 20)),
  S1 22 (.mov (.k (.i .i64 0)))])
 (.bk 2 (.lp b48_0)))))
 (.rg [S1 41 (.bin .add (.t 16) (.k (.i .i64 1))),
  S7 16 41])))
def c48:C :=
 .sq (.rg [S7 14 1,
  S1 15 (.len (.t 14)),
  S1 16 (.mov (.k (.i .i64 0)))])
 (.bk 0 (.lp b48_1))
def fn48:Fn:={ n:=42,np:=5,res:=[],body:=c48 }
theorem e48:F 48=some fn48:=by kernel_rfl
def b49_0:C :=
 .sq (.rg [S1 12 (.bin .lss (.t 11) (.t 10))])
 (.sq (.cd (.t 12)
  (.sk)
  (.ex 0))
 (.sq (.bk 1 (.sq (.rg [S1 13 (.ixp 1 (.t 9) (.t 11)),
  S6 14 13,
  S7 5 14])
 (.sq (.rg [S7 15 3,
  S7 16 5,
  S1 17 (.len (.t 16)),
  S1 18 (.bin .add (.t 15) (.t 17)),
  S7 3 18])
 (.sq (.rg [S7 19 3,
  S1 20 (.bin .lss (.t 19) (.k (.i .i64 0)))])
 (.cd (.t 20)
  (.rg [S2 21 (.bad),
    S3 (.bad)])
  (.sk))))))
 (.rg [S1 22 (.bin .add (.t 11) (.k (.i .i64 1))),
  S7 11 22])))
def b49_1:C :=
 .sq (.rg [S1 28 (.bin .lss (.t 27) (.t 26))])
 (.sq (.cd (.t 28)
  (.sk)
  (.ex 2))
 (.sq (.bk 3 (.sq (.rg [S1 29 (.ixp 1 (.t 25) (.t 27)),
  S6 30 29,
  S7 8 30])
 (.rg [S7 31 6,
  S7 32 8,
  S2 33 (.app 1 8 (.t 31) (.t 32)),
  S7 6 33])))
 (.rg [S1 34 (.bin .add (.t 27) (.k (.i .i64 1))),
  S7 27 34])))
def c49:C :=
 .sq (.rg [S1 2 (.mov (.k (.nil)))])
 (.sq (.rg [S1 3 (.mov (.k (.i .i64 0)))])
 (.sq (.sq (.rg [S7 9 0,
  S1 10 (.len (.t 9)),
  S1 11 (.mov (.k (.i .i64 0)))])
 (.bk 0 (.lp b49_0)))
 (.sq (.rg [S7 23 3,
  S2 24 (.nc 78 [(.k (.nil)),(.t 23)]),
  S7 6 24])
 (.sq (.sq (.rg [S7 25 0,
  S1 26 (.len (.t 25)),
  S1 27 (.mov (.k (.i .i64 0)))])
 (.bk 2 (.lp b49_1)))
 (.sq (.rg [S7 35 6,
  S7 2 35])
 (.rt))))))
def fn49:Fn:={ n:=36,np:=1,res:=[.t 2],body:=c49 }
theorem e49:F 49=some fn49:=by kernel_rfl
def c50:C :=
 .sq (.rg [S2 1 (.box (.t 0)),
  S1 2 (.mov (.k (.bo false)))])
 (.sq (.rg [S2 3 (.ld 8 true (.t 1)),
  S2 4 (.pc 43 [(.t 3)]),
  S7 5 4,
  S4 6 5 true (.ld 8 true (.t 1)),
  S4 7 5 true (.pc 79 [(.t 6)]),
  S1 8 (.pick (.t 5) (.t 7) (.k (.bo false))),
  S7 2 8])
 (.rt))
def fn50:Fn:={ n:=9,np:=1,res:=[.t 2],body:=c50 }
theorem e50:F 50=some fn50:=by kernel_rfl
def c70:C :=
 .sq (.rg [S1 2 (.mov (.k (.bo false)))])
 (.sq (.rg [S7 3 0,
  S7 4 0,
  S1 5 (.bin .neq (.t 3) (.t 4)),
  S7 2 5])
 (.rt))
def fn70:Fn:={ n:=6,np:=1,res:=[.t 2],body:=c70 }
theorem e70:F 70=some fn70:=by kernel_rfl
def c71:C :=
 .sq (.rg [S2 1 (.box (.t 0)),
  S1 2 (.mov (.k (.bo false)))])
 (.sq (.rg [S8 4 6 1,
  S6 5 4,
  S1 6 (.bin .eql (.t 5) (.k (.i .i64 0))),
  S7 7 6,
  S5 8 7 true (.adr 7 (.t 1)),
  S4 9 7 true (.ld 1 false (.t 8)),
  S5 10 7 true (.bin .eql (.t 9) (.k (.i .i64 0))),
  S1 11 (.pick (.t 7) (.t 10) (.k (.bo false))),
  S7 3 11])
 (.sq (.sq (.rg [S8 12 0 1,
  S6 13 12])
 (.bk 0 (.sq (.rg [S1 15 (.bin .eql (.t 13) (.k (.i .i64 0))),
  S7 14 15])
 (.cd (.t 14)
  (.sq (.rg [S7 16 3,
    S7 17 16,
    S5 18 17 true (.adr 1 (.t 1)),
    S4 19 17 true (.ld 4 true (.t 18)),
    S4 20 17 true (.pc 32 [(.t 19)]),
    S1 21 (.pick (.t 17) (.t 20) (.k (.bo false))),
    S7 22 21,
    S5 23 22 true (.adr 5 (.t 1)),
    S4 24 22 true (.ld 1 false (.t 23)),
    S5 25 22 true (.len (.t 24)),
    S5 26 22 true (.bin .eql (.t 25) (.k (.i .i64 0))),
    S1 27 (.pick (.t 22) (.t 26) (.k (.bo false))),
    S7 2 27])
   (.rt))
  (.sq (.rg [S1 29 (.bin .eql (.t 13) (.k (.i .i64 1))),
    S7 28 29])
   (.cd (.t 28)
    (.sq (.rg [S7 30 3,
      S7 31 30,
      S5 32 31 true (.adr 5 (.t 1)),
      S4 33 31 true (.ld 1 false (.t 32)),
      S5 34 31 true (.len (.t 33)),
      S5 35 31 true (.bin .eql (.t 34) (.k (.i .i64 0))),
      S1 36 (.pick (.t 31) (.t 35) (.k (.bo false))),
      S7 2 36])
     (.rt))
    (.sq (.sq (.rg [S1 38 (.bin .eql (.t 13) (.k (.i .i64 2))),
      S7 37 38])
     (.cd (.t 37)
      (.sk)
      (.rg [S1 39 (.bin .eql (.t 13) (.k (.i .i64 3))),
        S7 37 39])))
     (.cd (.t 37)
      (.sq (.rg [S7 40 3,
        S7 41 40,
        S5 42 41 true (.adr 1 (.t 1)),
        S4 43 41 true (.ld 4 true (.t 42)),
        S4 44 41 true (.pc 32 [(.t 43)]),
        S1 45 (.pick (.t 41) (.t 44) (.k (.bo false))),
        S7 46 45,
        S5 47 46 true (.adr 5 (.t 1)),
        S4 48 46 true (.ld 1 false (.t 47)),
        S5 49 46 true (.len (.t 48)),
        S5 50 46 true (.bin .geq (.t 49) (.k (.i .i64 2))),
        S1 51 (.pick (.t 46) (.t 50) (.k (.bo false))),
        S7 2 51])
       (.rt))
      (.sq (.rg [S1 53 (.bin .eql (.t 13) (.k (.i .i64 4))),
        S7 52 53])
       (.cd (.t 52)
        (.sq (.rg [S8 54 1 1,
          S2 55 (.ld 4 true (.t 54)),
          S2 56 (.pc 32 [(.t 55)]),
          S7 57 56,
          S5 58 57 true (.adr 5 (.t 1)),
          S4 59 57 true (.ld 1 false (.t 58)),
          S5 60 57 true (.len (.t 59)),
          S5 61 57 true (.bin .eql (.t 60) (.k (.i .i64 1))),
          S1 62 (.pick (.t 57) (.t 61) (.k (.bo false))),
          S7 63 62,
          S5 64 63 true (.adr 6 (.t 1)),
          S4 65 63 true (.ld 1 false (.t 64)),
          S5 66 63 true (.bin .geq (.t 65) (.k (.i .i64 0))),
          S1 67 (.pick (.t 63) (.t 66) (.k (.bo false))),
          S7 68 67,
          S5 69 68 true (.adr 6 (.t 1)),
          S4 70 68 true (.ld 1 false (.t 69)),
          S5 71 68 true (.bin .leq (.t 70) (.k (.i .i64 2147483647))),
          S1 72 (.pick (.t 68) (.t 71) (.k (.bo false))),
          S7 73 72,
          S5 74 73 true (.adr 7 (.t 1)),
          S4 75 73 true (.ld 1 false (.t 74)),
          S5 76 73 true (.bin .eql (.t 75) (.k (.i .i64 (-1)))),
          S5 77 73 true (.mov (.t 76)),
          S5 78 77 false (.adr 7 (.t 1)),
          S4 79 77 false (.ld 1 false (.t 78)),
          S5 80 77 false (.adr 6 (.t 1)),
          S4 81 77 false (.ld 1 false (.t 80)),
          S5 82 77 false (.bin .geq (.t 79) (.t 81)),
          S5 83 77 false (.mov (.t 82)),
          S5 84 83 true (.adr 7 (.t 1)),
          S4 85 83 true (.ld 1 false (.t 84)),
          S5 86 83 true (.bin .leq (.t 85) (.k (.i .i64 2147483647))),
          S5 87 77 false (.pick (.t 83) (.t 86) (.k (.bo false))),
          S5 88 73 true (.pick (.t 77) (.k (.bo true)) (.t 87)),
          S1 89 (.pick (.t 73) (.t 88) (.k (.bo false))),
          S7 2 89])
         (.rt))
        (.sk)))))))))))
 (.sq (.rg [S1 2 (.mov (.k (.bo false)))])
 (.rt))))
def fn71:Fn:={ n:=90,np:=1,res:=[.t 2],body:=c71 }
theorem e71:F 71=some fn71:=by kernel_rfl
def c72:C :=
 .sq (.rg [S1 4 (.mov (.k (.bo false)))])
 (.sq (.rg [S7 5 0,
  S7 6 1,
  S2 7 (.pc 88 [(.t 5),(.t 6)]),
  S1 8 (.bin .geq (.t 7) (.k (.i .i64 0))),
  S7 4 8])
 (.rt))
def fn72:Fn:={ n:=9,np:=2,res:=[.t 4],body:=c72 }
theorem e72:F 72=some fn72:=by kernel_rfl
def c73:C :=
 .sq (.rg [S2 1 (.box (.t 0)),
  S1 2 (.mov (.k (.bo false)))])
 (.sq (.rg [S2 3 (.ld 8 true (.t 1)),
  S2 4 (.pc 43 [(.t 3)]),
  S1 5 (.un .not (.t 4)),
  S7 2 5])
 (.rt))
def fn73:Fn:={ n:=6,np:=1,res:=[.t 2],body:=c73 }
theorem e73:F 73=some fn73:=by kernel_rfl
def c74:C :=
 .sq (.rg [S2 1 (.box (.t 0)),
  S1 2 (.mov (.k (.bo false)))])
 (.sq (.sq (.rg [S8 3 0 1,
  S6 4 3])
 (.bk 0 (.sq (.rg [S1 6 (.bin .eql (.t 4) (.k (.i .i64 1))),
  S7 5 6])
 (.cd (.t 5)
  (.sq (.rg [S8 7 1 1,
    S2 8 (.ld 4 true (.t 7)),
    S2 9 (.pc 32 [(.t 8)]),
    S7 2 9])
   (.rt))
  (.sq (.rg [S1 11 (.bin .eql (.t 4) (.k (.i .i64 2))),
    S7 10 11])
   (.cd (.t 10)
    (.sq (.rg [S8 12 5 1,
      S6 13 12,
      S2 14 (.pc 72 [(.t 13),(.k (.fn 74 []))]),
      S7 2 14])
     (.rt))
    (.sq (.rg [S1 16 (.bin .eql (.t 4) (.k (.i .i64 3))),
      S7 15 16])
     (.cd (.t 15)
      (.sq (.rg [S8 17 5 1,
        S6 18 17,
        S2 19 (.pc 72 [(.t 18),(.k (.fn 89 []))]),
        S1 20 (.un .not (.t 19)),
        S7 2 20])
       (.rt))
      (.sq (.rg [S1 22 (.bin .eql (.t 4) (.k (.i .i64 4))),
        S7 21 22])
       (.cd (.t 21)
        (.sq (.rg [S8 23 6 1,
          S6 24 23,
          S1 25 (.bin .gtr (.t 24) (.k (.i .i64 0))),
          S7 26 25,
          S5 27 26 true (.adr 5 (.t 1)),
          S4 28 26 true (.ld 1 false (.t 27)),
          S5 29 26 true (.ixp 8 (.t 28) (.k (.i .i64 0))),
          S4 30 26 true (.ld 8 true (.t 29)),
          S4 31 26 true (.pc 74 [(.t 30)]),
          S1 32 (.pick (.t 26) (.t 31) (.k (.bo false))),
          S7 2 32])
         (.rt))
        (.sk)))))))))))
 (.sq (.rg [S1 2 (.mov (.k (.bo false)))])
 (.rt)))
def fn74:Fn:={ n:=33,np:=1,res:=[.t 2],body:=c74 }
theorem e74:F 74=some fn74:=by kernel_rfl
def c75:C :=
 .sq (.rg [S2 4 (.alc [.i .i64 0,.i .u64 0,.i .u64 0,.i .u64 0,.i .u64 0,.nil,.i .i64 0,.i .i64 0])])
 (.sq (.sq (.rg [S7 5 1,
  S1 6 (.len (.t 5))])
 (.bk 0 (.sq (.rg [S1 8 (.bin .eql (.t 6) (.k (.i .i64 0))),
  S7 7 8])
 (.cd (.t 7)
  (.sq (.rg [S1 9 (.bld [.i .i64 0,.i .u64 0,.i .u64 0,.i .u64 0,.i .u64 0,.nil,.i .i64 0,.i .i64 0] []),
    S3 (.sto 8 (.t 4) (.t 9))])
   (.rt))
  (.sq (.rg [S1 11 (.bin .eql (.t 6) (.k (.i .i64 1))),
    S7 10 11])
   (.cd (.t 10)
    (.sq (.rg [S7 12 1,
      S1 13 (.ixp 8 (.t 12) (.k (.i .i64 0))),
      S2 14 (.ld 8 true (.t 13)),
      S3 (.sto 8 (.t 4) (.t 14))])
     (.rt))
    (.sk)))))))
 (.sq (.rg [S7 15 0,
  S7 16 1,
  S1 17 (.bld [.i .i64 0,.i .u64 0,.i .u64 0,.i .u64 0,.i .u64 0,.nil,.i .i64 0,.i .i64 0] [(0,1,(.t 15)),(5,1,(.t 16))]),
  S3 (.sto 8 (.t 4) (.t 17))])
 (.rt)))
def fn75:Fn:={ n:=18,np:=2,res:=[.c 4 8 true],body:=c75 }
theorem e75:F 75=some fn75:=by kernel_rfl
def b76_0:C :=
 .sq (.rg [S1 12 (.bin .lss (.t 11) (.t 10))])
 (.sq (.cd (.t 12)
  (.sk)
  (.ex 0))
 (.sq (.bk 1 (.sq (.rg [S1 13 (.ixp 8 (.t 9) (.t 11)),
  S2 14 (.ld 8 true (.t 13)),
  S2 8 (.alc [.i .i64 0,.i .u64 0,.i .u64 0,.i .u64 0,.i .u64 0,.nil,.i .i64 0,.i .i64 0]),
  S3 (.sto 8 (.t 8) (.t 14))])
 (.bk 2 (.sq (.rg [S8 20 0 8,
  S6 21 20,
  S7 22 0,
  S1 23 (.bin .eql (.t 21) (.t 22)),
  S7 19 23])
 (.cd (.t 19)
  (.rg [S7 24 0,
    S7 25 1,
    S8 26 5 8,
    S6 27 26,
    S2 28 (.nc 76 [(.t 24),(.t 25),(.t 27)]),
    S7 1 28])
  (.sq (.rg [S7 30 0,
    S1 31 (.bin .eql (.t 30) (.k (.i .i64 2))),
    S7 32 31,
    S5 33 32 true (.adr 0 (.t 8)),
    S4 34 32 true (.ld 1 false (.t 33)),
    S5 35 32 true (.bin .eql (.t 34) (.k (.i .i64 0))),
    S1 36 (.pick (.t 32) (.t 35) (.k (.bo false))),
    S7 29 36])
   (.cd (.t 29)
    (.sk)
    (.sq (.rg [S7 38 0,
      S1 39 (.bin .eql (.t 38) (.k (.i .i64 3))),
      S7 40 39,
      S4 41 40 true (.ld 8 true (.t 8)),
      S4 42 40 true (.pc 74 [(.t 41)]),
      S5 43 40 true (.mov (.t 42)),
      S5 44 43 false (.mov (.t 1)),
      S5 45 43 false (.mkf 90 [(.t 8)]),
      S4 46 43 false (.pc 72 [(.t 44),(.t 45)]),
      S5 47 40 true (.pick (.t 43) (.k (.bo true)) (.t 46)),
      S1 48 (.pick (.t 40) (.t 47) (.k (.bo false))),
      S7 37 48])
     (.cd (.t 37)
      (.sk)
      (.rg [S7 15 1,
        S2 16 (.ld 8 true (.t 8)),
        S2 17 (.bsl 8 1 [.i .i64 0,.i .u64 0,.i .u64 0,.i .u64 0,.i .u64 0,.nil,.i .i64 0,.i .i64 0] [(0,(.t 16))]),
        S2 18 (.app 8 80 (.t 15) (.t 17)),
        S7 1 18]))))))))))
 (.rg [S1 49 (.bin .add (.t 11) (.k (.i .i64 1))),
  S7 11 49])))
def c76:C :=
 .sq (.rg [S1 6 (.mov (.k (.nil)))])
 (.sq (.sq (.rg [S7 9 2,
  S1 10 (.len (.t 9)),
  S1 11 (.mov (.k (.i .i64 0)))])
 (.bk 0 (.lp b76_0)))
 (.sq (.rg [S7 50 1,
  S7 6 50])
 (.rt)))
def fn76:Fn:={ n:=51,np:=3,res:=[.t 6],body:=c76 }
theorem e76:F 76=some fn76:=by kernel_rfl
def c77:C :=
 .sq (.rg [S2 3 (.box (.t 0)),
  S2 6 (.alc [.i .i64 0,.i .u64 0,.i .u64 0,.i .u64 0,.i .u64 0,.nil,.i .i64 0,.i .i64 0])])
 (.sq (.bk 0 (.sq (.rg [S7 8 2,
  S1 9 (.bin .eql (.t 8) (.k (.i .i64 0))),
  S7 10 9,
  S5 11 10 false (.adr 0 (.t 3)),
  S4 12 10 false (.ld 1 false (.t 11)),
  S5 13 10 false (.bin .eql (.t 12) (.k (.i .i64 0))),
  S1 14 (.pick (.t 10) (.k (.bo true)) (.t 13)),
  S7 15 14,
  S4 16 15 false (.ld 8 true (.t 3)),
  S4 17 15 false (.pc 74 [(.t 16)]),
  S1 18 (.pick (.t 15) (.k (.bo true)) (.t 17)),
  S7 7 18])
 (.cd (.t 7)
  (.sq (.rg [S1 19 (.bld [.i .i64 0,.i .u64 0,.i .u64 0,.i .u64 0,.i .u64 0,.nil,.i .i64 0,.i .i64 0] []),
    S3 (.sto 8 (.t 6) (.t 19))])
   (.rt))
  (.sq (.rg [S7 21 1,
    S1 22 (.bin .eql (.t 21) (.k (.i .i64 1))),
    S7 23 22,
    S5 24 23 true (.mov (.t 2)),
    S5 25 23 true (.bin .eql (.t 24) (.k (.i .i64 1))),
    S1 26 (.pick (.t 23) (.t 25) (.k (.bo false))),
    S7 20 26])
   (.cd (.t 20)
    (.sq (.rg [S2 27 (.ld 8 true (.t 3)),
      S3 (.sto 8 (.t 6) (.t 27))])
     (.rt))
    (.sq (.rg [S2 29 (.ld 8 true (.t 3)),
      S2 30 (.pc 79 [(.t 29)]),
      S7 28 30])
     (.cd (.t 28)
      (.rg [S1 1 (.mov (.k (.i .i64 0)))])
      (.sk))))))))
 (.sq (.rg [S2 31 (.ld 8 true (.t 3)),
  S2 32 (.bsl 8 1 [.i .i64 0,.i .u64 0,.i .u64 0,.i .u64 0,.i .u64 0,.nil,.i .i64 0,.i .i64 0] [(0,(.t 31))]),
  S7 33 1,
  S7 34 2,
  S1 35 (.bld [.i .i64 0,.i .u64 0,.i .u64 0,.i .u64 0,.i .u64 0,.nil,.i .i64 0,.i .i64 0] [(0,1,(.k (.i .i64 4))),(5,1,(.t 32)),(6,1,(.t 33)),(7,1,(.t 34))]),
  S3 (.sto 8 (.t 6) (.t 35))])
 (.rt)))
def fn77:Fn:={ n:=36,np:=3,res:=[.c 6 8 true],body:=c77 }
theorem e77:F 77=some fn77:=by kernel_rfl
def c78:C :=
 .sq (.rg [S1 4 (.mov (.k (.nil)))])
 (.sq (.sq (.rg [S7 5 1,
  S1 6 (.bin .lss (.t 5) (.k (.i .i64 0)))])
 (.cd (.t 6)
  (.rg [S2 7 (.bad),
    S3 (.bad)])
  (.sk)))
 (.sq (.sq (.rg [S7 8 1,
  S7 9 0,
  S1 10 (.cap (.t 9)),
  S7 11 0,
  S1 12 (.len (.t 11)),
  S1 13 (.bin .sub (.t 10) (.t 12)),
  S1 14 (.bin .sub (.t 8) (.t 13)),
  S7 1 14])
 (.sq (.rg [S7 15 1,
  S1 16 (.bin .gtr (.t 15) (.k (.i .i64 0)))])
 (.cd (.t 16)
  (.rg [S7 17 0,
    S7 18 0,
    S1 19 (.cap (.t 18)),
    S1 20 (.slc 1 (.t 17) none (some (.t 19)) none),
    S7 21 1,
    S2 22 (.apz 1 8 [.i .i64 0] (.t 20) (.t 21)),
    S7 23 0,
    S1 24 (.len (.t 23)),
    S1 25 (.slc 1 (.t 22) none (some (.t 24)) none),
    S7 0 25])
  (.sk))))
 (.sq (.rg [S7 26 0,
  S7 4 26])
 (.rt))))
def fn78:Fn:={ n:=27,np:=2,res:=[.t 4],body:=c78 }
theorem e78:F 78=some fn78:=by kernel_rfl
def c79:C :=
 .sq (.rg [S2 1 (.box (.t 0)),
  S1 2 (.mov (.k (.bo false)))])
 (.sq (.sq (.rg [S8 3 0 1,
  S6 4 3])
 (.bk 0 (.sq (.rg [S1 6 (.bin .eql (.t 4) (.k (.i .i64 1))),
  S7 5 6])
 (.cd (.t 5)
  (.sq (.rg [S1 2 (.mov (.k (.bo false)))])
   (.rt))
  (.sq (.rg [S1 8 (.bin .eql (.t 4) (.k (.i .i64 2))),
    S7 7 8])
   (.cd (.t 7)
    (.sq (.rg [S8 9 5 1,
      S6 10 9,
      S2 11 (.pc 72 [(.t 10),(.k (.fn 92 []))]),
      S1 12 (.un .not (.t 11)),
      S7 2 12])
     (.rt))
    (.sq (.rg [S1 14 (.bin .eql (.t 4) (.k (.i .i64 3))),
      S7 13 14])
     (.cd (.t 13)
      (.sq (.rg [S8 15 5 1,
        S6 16 15,
        S2 17 (.pc 72 [(.t 16),(.k (.fn 79 []))]),
        S7 2 17])
       (.rt))
      (.sq (.rg [S1 19 (.bin .eql (.t 4) (.k (.i .i64 4))),
        S7 18 19])
       (.cd (.t 18)
        (.sq (.rg [S8 20 6 1,
          S6 21 20,
          S1 22 (.bin .eql (.t 21) (.k (.i .i64 0))),
          S7 23 22,
          S5 24 23 false (.adr 5 (.t 1)),
          S4 25 23 false (.ld 1 false (.t 24)),
          S5 26 23 false (.ixp 8 (.t 25) (.k (.i .i64 0))),
          S4 27 23 false (.ld 8 true (.t 26)),
          S4 28 23 false (.pc 79 [(.t 27)]),
          S1 29 (.pick (.t 23) (.k (.bo true)) (.t 28)),
          S7 2 29])
         (.rt))
        (.sk)))))))))))
 (.sq (.rg [S1 2 (.mov (.k (.bo true)))])
 (.rt)))
def fn79:Fn:={ n:=30,np:=1,res:=[.t 2],body:=c79 }
theorem e79:F 79=some fn79:=by kernel_rfl
def b88_0:C :=
 .sq (.rg [S1 9 (.bin .lss (.t 8) (.t 7))])
 (.sq (.cd (.t 9)
  (.sk)
  (.ex 0))
 (.sq (.bk 1 (.sq (.rg [S7 10 8,
  S7 5 10])
 (.sq (.rg [S7 11 1,
  S7 12 0,
  S7 13 5,
  S1 14 (.ixp 8 (.t 12) (.t 13)),
  S2 15 (.ld 8 true (.t 14)),
  S2 16 (.pv (.t 11) [(.t 15)])])
 (.cd (.t 16)
  (.sq (.rg [S7 17 5,
    S7 4 17])
   (.rt))
  (.sk)))))
 (.rg [S1 18 (.bin .add (.t 8) (.k (.i .i64 1))),
  S7 8 18])))
def c88:C :=
 .sq (.rg [S1 4 (.mov (.k (.i .i64 0)))])
 (.sq (.sq (.rg [S7 6 0,
  S1 7 (.len (.t 6)),
  S1 8 (.mov (.k (.i .i64 0)))])
 (.bk 0 (.lp b88_0)))
 (.sq (.rg [S1 4 (.mov (.k (.i .i64 (-1))))])
 (.rt)))
def fn88:Fn:={ n:=19,np:=2,res:=[.t 4],body:=c88 }
theorem e88:F 88=some fn88:=by kernel_rfl
def c89:C :=
 .sq (.rg [S2 1 (.box (.t 0)),
  S1 2 (.mov (.k (.bo false)))])
 (.sq (.rg [S2 3 (.ld 8 true (.t 1)),
  S2 4 (.pc 74 [(.t 3)]),
  S1 5 (.un .not (.t 4)),
  S7 2 5])
 (.rt))
def fn89:Fn:={ n:=6,np:=1,res:=[.t 2],body:=c89 }
theorem e89:F 89=some fn89:=by kernel_rfl
def c90:C :=
 .sq (.rg [S2 2 (.box (.t 0)),
  S1 3 (.mov (.k (.bo false)))])
 (.sq (.rg [S2 4 (.ld 8 true (.t 1)),
  S2 5 (.ld 8 true (.t 2)),
  S2 6 (.pc 91 [(.t 4),(.t 5)]),
  S7 3 6])
 (.rt))
def fn90:Fn:={ n:=7,np:=2,res:=[.t 3],body:=c90 }
theorem e90:F 90=some fn90:=by kernel_rfl
def c91:C :=
 .sq (.rg [S2 2 (.box (.t 0)),
  S2 3 (.box (.t 1)),
  S1 4 (.mov (.k (.bo false)))])
 (.sq (.rg [S8 5 0 2,
  S6 6 5,
  S8 7 0 3,
  S6 8 7,
  S1 9 (.bin .eql (.t 6) (.t 8)),
  S7 10 9,
  S5 11 10 true (.adr 1 (.t 2)),
  S4 12 10 true (.ld 4 true (.t 11)),
  S5 13 10 true (.adr 1 (.t 3)),
  S4 14 10 true (.ld 4 true (.t 13)),
  S5 15 10 true (.eqp false true [.i .u64,.i .u64,.i .u64,.i .u64] (.t 12) (.t 14)),
  S1 16 (.pick (.t 10) (.t 15) (.k (.bo false))),
  S7 17 16,
  S5 18 17 true (.adr 6 (.t 2)),
  S4 19 17 true (.ld 1 false (.t 18)),
  S5 20 17 true (.adr 6 (.t 3)),
  S4 21 17 true (.ld 1 false (.t 20)),
  S5 22 17 true (.bin .eql (.t 19) (.t 21)),
  S1 23 (.pick (.t 17) (.t 22) (.k (.bo false))),
  S7 24 23,
  S5 25 24 true (.adr 7 (.t 2)),
  S4 26 24 true (.ld 1 false (.t 25)),
  S5 27 24 true (.adr 7 (.t 3)),
  S4 28 24 true (.ld 1 false (.t 27)),
  S5 29 24 true (.bin .eql (.t 26) (.t 28)),
  S1 30 (.pick (.t 24) (.t 29) (.k (.bo false))),
  S7 31 30,
  S5 32 31 true (.adr 5 (.t 2)),
  S4 33 31 true (.ld 1 false (.t 32)),
  S5 34 31 true (.adr 5 (.t 3)),
  S4 35 31 true (.ld 1 false (.t 34)),
  S4 36 31 true (.pc 95 [(.t 33),(.t 35),(.k (.fn 91 []))]),
  S1 37 (.pick (.t 31) (.t 36) (.k (.bo false))),
  S7 4 37])
 (.rt))
def fn91:Fn:={ n:=38,np:=2,res:=[.t 4],body:=c91 }
theorem e91:F 91=some fn91:=by kernel_rfl
def c92:C :=
 .sq (.rg [S2 1 (.box (.t 0)),
  S1 2 (.mov (.k (.bo false)))])
 (.sq (.rg [S2 3 (.ld 8 true (.t 1)),
  S2 4 (.pc 79 [(.t 3)]),
  S1 5 (.un .not (.t 4)),
  S7 2 5])
 (.rt))
def fn92:Fn:={ n:=6,np:=1,res:=[.t 2],body:=c92 }
theorem e92:F 92=some fn92:=by kernel_rfl
def b95_0:C :=
 .sq (.rg [S1 18 (.bin .lss (.t 17) (.t 16))])
 (.sq (.cd (.t 18)
  (.sk)
  (.ex 0))
 (.sq (.bk 1 (.sq (.rg [S7 19 17,
  S1 20 (.ixp 8 (.t 15) (.t 17)),
  S2 21 (.ld 8 true (.t 20)),
  S2 8 (.alc [.i .i64 0,.i .u64 0,.i .u64 0,.i .u64 0,.i .u64 0,.nil,.i .i64 0,.i .i64 0]),
  S7 7 19,
  S3 (.sto 8 (.t 8) (.t 21))])
 (.sq (.rg [S7 22 1,
  S7 23 7,
  S1 24 (.ixp 8 (.t 22) (.t 23)),
  S2 25 (.ld 8 true (.t 24)),
  S2 9 (.alc [.i .i64 0,.i .u64 0,.i .u64 0,.i .u64 0,.i .u64 0,.nil,.i .i64 0,.i .i64 0]),
  S3 (.sto 8 (.t 9) (.t 25))])
 (.sq (.rg [S7 26 2,
  S2 27 (.ld 8 true (.t 8)),
  S2 28 (.ld 8 true (.t 9)),
  S2 29 (.pv (.t 26) [(.t 27),(.t 28)]),
  S1 30 (.un .not (.t 29))])
 (.cd (.t 30)
  (.sq (.rg [S1 6 (.mov (.k (.bo false)))])
   (.rt))
  (.sk))))))
 (.rg [S1 31 (.bin .add (.t 17) (.k (.i .i64 1))),
  S7 17 31])))
def c95:C :=
 .sq (.rg [S1 6 (.mov (.k (.bo false)))])
 (.sq (.sq (.rg [S7 10 0,
  S1 11 (.len (.t 10)),
  S7 12 1,
  S1 13 (.len (.t 12)),
  S1 14 (.bin .neq (.t 11) (.t 13))])
 (.cd (.t 14)
  (.sq (.rg [S1 6 (.mov (.k (.bo false)))])
   (.rt))
  (.sk)))
 (.sq (.sq (.rg [S7 15 0,
  S1 16 (.len (.t 15)),
  S1 17 (.mov (.k (.i .i64 0)))])
 (.bk 0 (.lp b95_0)))
 (.sq (.rg [S1 6 (.mov (.k (.bo true)))])
 (.rt))))
def fn95:Fn:={ n:=32,np:=3,res:=[.t 6],body:=c95 }
theorem e95:F 95=some fn95:=by kernel_rfl
def b5_0:C :=
 .sq (.sq (.rg [S7 50 9,
  S8 51 12 5,
  S6 52 51,
  S7 53 8,
  S1 54 (.ixp 1 (.t 52) (.t 53)),
  S6 55 54,
  S1 56 (.len (.t 55)),
  S1 57 (.bin .lss (.t 50) (.t 56))])
 (.cd (.t 57)
  (.sk)
  (.ex 2)))
 (.sq (.bk 3 (.sq (.rg [S7 60 7,
  S7 61 8,
  S8 62 12 5,
  S7 64 8,
  S7 67 9,
  S6 63 62,
  S1 65 (.ixp 1 (.t 63) (.t 64)),
  S6 66 65,
  S1 68 (.ixp 3 (.t 66) (.t 67)),
  S2 69 (.ld 3 true (.t 68)),
  S2 70 (.pc 16 [(.t 60),(.t 61),(.t 69)]),
  S1 71 (.un .not (.t 70)),
  S7 72 71,
  S5 73 72 false (.mov (.t 9)),
  S5 74 72 false (.bin .gtr (.t 73) (.k (.i .i64 0))),
  S5 75 72 false (.mov (.t 74)),
  S5 76 75 true (.adr 12 (.t 5)),
  S5 78 75 true (.mov (.t 8)),
  S5 81 75 true (.mov (.t 9)),
  S5 82 75 true (.bin .sub (.t 81) (.k (.i .i64 1))),
  S5 85 75 true (.adr 12 (.t 5)),
  S5 87 75 true (.mov (.t 8)),
  S5 90 75 true (.mov (.t 9)),
  S4 77 75 true (.ld 1 false (.t 76)),
  S5 79 75 true (.ixp 1 (.t 77) (.t 78)),
  S4 80 75 true (.ld 1 false (.t 79)),
  S5 83 75 true (.ixp 3 (.t 80) (.t 82)),
  S4 84 75 true (.ld 3 true (.t 83)),
  S4 86 75 true (.ld 1 false (.t 85)),
  S5 88 75 true (.ixp 1 (.t 86) (.t 87)),
  S4 89 75 true (.ld 1 false (.t 88)),
  S5 91 75 true (.ixp 3 (.t 89) (.t 90)),
  S4 92 75 true (.ld 3 true (.t 91)),
  S4 93 75 true (.pc 17 [(.t 84),(.t 92)]),
  S5 94 75 true (.un .not (.t 93)),
  S5 95 72 false (.pick (.t 75) (.t 94) (.k (.bo false))),
  S1 96 (.pick (.t 72) (.k (.bo true)) (.t 95))])
 (.cd (.t 96)
  (.sq (.rg [S1 2 (.mov (.k (.bo false)))])
   (.rt))
  (.sk))))
 (.rg [S7 58 9,
  S1 59 (.bin .add (.t 58) (.k (.i .i64 1))),
  S7 9 59]))
def b5_1:C :=
 .sq (.sq (.rg [S7 43 8,
  S8 44 12 5,
  S6 45 44,
  S1 46 (.len (.t 45)),
  S1 47 (.bin .lss (.t 43) (.t 46))])
 (.cd (.t 47)
  (.sk)
  (.ex 0)))
 (.sq (.bk 1 (.sq (.rg [S1 9 (.mov (.k (.i .i64 0)))])
 (.bk 2 (.lp b5_0))))
 (.rg [S7 48 8,
  S1 49 (.bin .add (.t 48) (.k (.i .i64 1))),
  S7 8 49]))
def b5_2:C :=
 .sq (.sq (.rg [S7 103 7,
  S7 104 10,
  S1 105 (.ixp 4 (.t 103) (.t 104)),
  S8 106 0 105,
  S8 108 12 5,
  S6 107 106,
  S6 109 108,
  S1 110 (.len (.t 109)),
  S1 111 (.bin .lss (.t 107) (.t 110)),
  S7 112 111,
  S5 113 112 true (.mov (.t 12)),
  S5 114 112 true (.adr 12 (.t 5)),
  S5 116 112 true (.mov (.t 7)),
  S5 117 112 true (.mov (.t 10)),
  S5 118 112 true (.ixp 4 (.t 116) (.t 117)),
  S5 119 112 true (.adr 0 (.t 118)),
  S4 115 112 true (.ld 1 false (.t 114)),
  S4 120 112 true (.ld 1 false (.t 119)),
  S5 121 112 true (.ixp 1 (.t 115) (.t 120)),
  S4 122 112 true (.ld 1 false (.t 121)),
  S5 123 112 true (.len (.t 122)),
  S5 124 112 true (.bin .lss (.t 113) (.t 123)),
  S1 125 (.pick (.t 112) (.t 124) (.k (.bo false)))])
 (.cd (.t 125)
  (.sk)
  (.ex 6)))
 (.sq (.bk 7 (.rg [S7 128 11,
  S7 129 128,
  S5 130 129 false (.adr 12 (.t 5)),
  S5 132 129 false (.mov (.t 7)),
  S5 133 129 false (.mov (.t 10)),
  S5 134 129 false (.ixp 4 (.t 132) (.t 133)),
  S5 135 129 false (.adr 0 (.t 134)),
  S5 139 129 false (.mov (.t 12)),
  S5 142 129 false (.mov (.t 7)),
  S5 143 129 false (.mov (.t 10)),
  S5 144 129 false (.ixp 4 (.t 142) (.t 143)),
  S5 145 129 false (.adr 1 (.t 144)),
  S4 131 129 false (.ld 1 false (.t 130)),
  S4 136 129 false (.ld 1 false (.t 135)),
  S5 137 129 false (.ixp 1 (.t 131) (.t 136)),
  S4 138 129 false (.ld 1 false (.t 137)),
  S5 140 129 false (.ixp 3 (.t 138) (.t 139)),
  S4 141 129 false (.ld 3 true (.t 140)),
  S4 146 129 false (.ld 3 true (.t 145)),
  S5 147 129 false (.eqp false true [.i .i64,.i .i64,.b] (.t 141) (.t 146)),
  S1 148 (.pick (.t 129) (.k (.bo true)) (.t 147)),
  S7 11 148]))
 (.rg [S7 126 12,
  S1 127 (.bin .add (.t 126) (.k (.i .i64 1))),
  S7 12 127]))
def b5_3:C :=
 .sq (.sq (.rg [S7 97 10,
  S7 98 7,
  S1 99 (.len (.t 98)),
  S1 100 (.bin .lss (.t 97) (.t 99))])
 (.cd (.t 100)
  (.sk)
  (.ex 4)))
 (.sq (.bk 5 (.sq (.rg [S1 11 (.mov (.k (.bo false)))])
 (.sq (.sq (.rg [S1 12 (.mov (.k (.i .i64 0)))])
 (.bk 6 (.lp b5_2)))
 (.sq (.rg [S7 149 11,
  S1 150 (.un .not (.t 149))])
 (.cd (.t 150)
  (.sq (.rg [S1 2 (.mov (.k (.bo false)))])
   (.rt))
  (.sk))))))
 (.rg [S7 101 10,
  S1 102 (.bin .add (.t 101) (.k (.i .i64 1))),
  S7 10 102]))
def c5:C :=
 .sq (.rg [S2 1 (.box (.t 0)),
  S1 2 (.mov (.k (.bo false)))])
 (.sq (.sq (.rg [S2 13 (.pc 8 []),
  S1 14 (.un .not (.t 13)),
  S7 15 14,
  S4 16 15 false (.ld 8 true (.t 1)),
  S4 17 15 false (.pc 9 [(.t 16),(.k (.i .i64 100))]),
  S5 18 15 false (.bin .gtr (.t 17) (.k (.i .i64 100))),
  S1 19 (.pick (.t 15) (.k (.bo true)) (.t 18)),
  S7 20 19,
  S4 21 20 false (.ld 8 true (.t 1)),
  S4 22 20 false (.pc 11 [(.t 21)]),
  S5 23 20 false (.un .not (.t 22)),
  S1 24 (.pick (.t 20) (.k (.bo true)) (.t 23))])
 (.cd (.t 24)
  (.sq (.rg [S2 25 (.pc 8 []),
    S7 2 25])
   (.rt))
  (.sk)))
 (.sq (.rg [S2 27 (.ld 8 true (.t 1)),
  S2 28 (.pc 12 [(.t 27)]),
  S7 26 28,
  S1 29 (.ext (.t 26) 0),
  S1 30 (.ext (.t 26) 1),
  S2 3 (.alc [.i .i64 0,.i .u64 0,.i .u64 0,.i .u64 0,.i .u64 0,.nil,.i .i64 0,.i .i64 0,.nil,.nil,.nil]),
  S3 (.sto 11 (.t 3) (.t 29)),
  S7 4 30])
 (.sq (.sq (.rg [S7 31 4,
  S1 32 (.bin .neq (.t 31) (.k (.i .i64 0)))])
 (.cd (.t 32)
  (.sq (.rg [S1 2 (.mov (.k (.bo true)))])
   (.rt))
  (.sk)))
 (.sq (.rg [S2 34 (.ld 8 true (.t 1)),
  S2 35 (.pc 10 [(.t 34)]),
  S7 33 35,
  S1 36 (.ext (.t 33) 0),
  S1 37 (.ext (.t 33) 1),
  S2 5 (.alc [.i .i64 0,.i .u64 0,.i .u64 0,.i .u64 0,.i .u64 0,.nil,.i .i64 0,.i .i64 0,.nil,.nil,.nil,.nil,.nil,.nil,.bo false]),
  S3 (.sto 15 (.t 5) (.t 36)),
  S7 6 37])
 (.sq (.rg [S8 38 0 3,
  S2 39 (.ld 8 true (.t 38)),
  S2 40 (.pc 15 [(.t 39),(.k (.i .i64 0)),(.k (.i .i64 0))]),
  S7 7 40])
 (.sq (.sq (.rg [S7 41 6,
  S1 42 (.bin .neq (.t 41) (.k (.i .i64 0)))])
 (.cd (.t 42)
  (.sq (.rg [S1 2 (.mov (.k (.bo false)))])
   (.rt))
  (.sk)))
 (.sq (.sq (.rg [S1 8 (.mov (.k (.i .i64 0)))])
 (.bk 0 (.lp b5_1)))
 (.sq (.sq (.rg [S1 10 (.mov (.k (.i .i64 0)))])
 (.bk 4 (.lp b5_3)))
 (.sq (.rg [S1 2 (.mov (.k (.bo true)))])
 (.rt))))))))))
def fn5:Fn:={ n:=151,np:=1,res:=[.t 2],body:=c5 }
theorem e5:F 5=some fn5:=by kernel_rfl
def b12_0:C :=
 .sq (.sq (.rg [S7 27 9,
  S7 28 6,
  S1 29 (.len (.t 28)),
  S1 30 (.bin .lss (.t 27) (.t 29))])
 (.cd (.t 30)
  (.sk)
  (.ex 0)))
 (.sq (.bk 1 (.sq (.rg [S7 34 6,
  S7 35 9,
  S1 36 (.ixp 8 (.t 34) (.t 35)),
  S2 37 (.ld 8 true (.t 36)),
  S2 38 (.pc 26 [(.t 37)]),
  S7 33 38,
  S1 39 (.ext (.t 33) 0),
  S1 40 (.ext (.t 33) 1),
  S2 10 (.alc [.i .i64 0,.i .i64 0]),
  S3 (.sto 2 (.t 10) (.t 39)),
  S7 11 40])
 (.sq (.rg [S7 41 8,
  S2 42 (.bsl 1 1 [.i .i64 0] [(0,(.k (.i .i64 (-1))))]),
  S2 43 (.app 1 8 (.t 41) (.t 42)),
  S7 8 43])
 (.sq (.rg [S7 44 11])
 (.cd (.t 44)
  (.sq (.rg [S7 45 8,
    S7 46 9,
    S8 47 9 5,
    S6 48 47,
    S1 49 (.len (.t 48)),
    S1 50 (.ixp 1 (.t 45) (.t 46)),
    S3 (.sto 1 (.t 50) (.t 49))])
   (.rg [S8 51 9 5,
    S6 52 51,
    S2 53 (.ld 2 true (.t 10)),
    S2 54 (.bsl 2 1 [.i .i64 0,.i .i64 0] [(0,(.t 53))]),
    S2 55 (.app 2 16 (.t 52) (.t 54)),
    S8 56 9 5,
    S3 (.sto 1 (.t 56) (.t 55))]))
  (.sk))))))
 (.rg [S7 31 9,
  S1 32 (.bin .add (.t 31) (.k (.i .i64 1))),
  S7 9 32]))
def b12_1:C :=
 .sq (.sq (.rg [S7 78 14,
  S7 79 7,
  S7 80 12,
  S1 81 (.ixp 1 (.t 79) (.t 80)),
  S6 82 81,
  S1 83 (.len (.t 82)),
  S1 84 (.bin .lss (.t 78) (.t 83))])
 (.cd (.t 84)
  (.sk)
  (.ex 4)))
 (.sq (.bk 5 (.sq (.rg [S7 87 8,
  S7 88 7,
  S7 89 12,
  S1 90 (.ixp 1 (.t 88) (.t 89)),
  S6 91 90,
  S7 92 14,
  S1 93 (.ixp 1 (.t 91) (.t 92)),
  S6 94 93,
  S1 95 (.ixp 1 (.t 87) (.t 94)),
  S6 96 95,
  S1 97 (.bin .geq (.t 96) (.k (.i .i64 0)))])
 (.cd (.t 97)
  (.rg [S7 98 13,
    S7 99 8,
    S7 100 7,
    S7 101 12,
    S1 102 (.ixp 1 (.t 100) (.t 101)),
    S6 103 102,
    S7 104 14,
    S1 105 (.ixp 1 (.t 103) (.t 104)),
    S6 106 105,
    S1 107 (.ixp 1 (.t 99) (.t 106)),
    S6 108 107,
    S2 109 (.bsl 1 1 [.i .i64 0] [(0,(.t 108))]),
    S2 110 (.app 1 8 (.t 98) (.t 109)),
    S7 13 110])
  (.sk))))
 (.rg [S7 85 14,
  S1 86 (.bin .add (.t 85) (.k (.i .i64 1))),
  S7 14 86]))
def b12_2:C :=
 .sq (.sq (.rg [S7 57 12,
  S7 58 6,
  S1 59 (.len (.t 58)),
  S1 60 (.bin .lss (.t 57) (.t 59))])
 (.cd (.t 60)
  (.sk)
  (.ex 2)))
 (.sq (.bk 3 (.sq (.sq (.rg [S7 63 6,
  S7 64 12,
  S1 65 (.ixp 8 (.t 63) (.t 64)),
  S8 66 0 65,
  S6 67 66,
  S1 68 (.bin .neq (.t 67) (.k (.i .i64 1))),
  S7 69 68,
  S5 70 69 false (.mov (.t 6)),
  S5 71 69 false (.mov (.t 12)),
  S5 72 69 false (.ixp 8 (.t 70) (.t 71)),
  S5 73 69 false (.adr 1 (.t 72)),
  S4 74 69 false (.ld 4 true (.t 73)),
  S5 75 69 false (.bld [.i .u64 0,.i .u64 0,.i .u64 0,.i .u64 0] []),
  S5 76 69 false (.eqp false true [.i .u64,.i .u64,.i .u64,.i .u64] (.t 74) (.t 75)),
  S1 77 (.pick (.t 69) (.k (.bo true)) (.t 76))])
 (.cd (.t 77)
  (.ex 3)
  (.sk)))
 (.sq (.rg [S1 13 (.mov (.k (.nil)))])
 (.sq (.sq (.rg [S1 14 (.mov (.k (.i .i64 0)))])
 (.bk 4 (.lp b12_1)))
 (.sq (.sq (.rg [S7 111 13,
  S1 112 (.len (.t 111)),
  S1 113 (.bin .gtr (.t 112) (.k (.i .i64 4)))])
 (.cd (.t 113)
  (.sq (.rg [S1 114 (.bld [.i .i64 0,.i .u64 0,.i .u64 0,.i .u64 0,.i .u64 0,.nil,.i .i64 0,.i .i64 0,.nil,.nil,.nil] []),
    S3 (.sto 11 (.t 2) (.t 114)),
    S1 3 (.mov (.k (.i .i64 3)))])
   (.rt))
  (.sk)))
 (.sq (.rg [S8 115 8 5,
  S7 117 6,
  S7 118 12,
  S1 119 (.ixp 8 (.t 117) (.t 118)),
  S8 120 1 119,
  S6 116 115,
  S2 121 (.ld 4 true (.t 120)),
  S2 122 (.bsl 4 1 [.i .u64 0,.i .u64 0,.i .u64 0,.i .u64 0] [(0,(.t 121))]),
  S2 123 (.app 4 32 (.t 116) (.t 122)),
  S8 124 8 5,
  S3 (.sto 1 (.t 124) (.t 123))])
 (.rg [S8 125 10 5,
  S6 126 125,
  S7 127 13,
  S2 128 (.bsl 1 1 [.nil] [(0,(.t 127))]),
  S2 129 (.app 1 24 (.t 126) (.t 128)),
  S8 130 10 5,
  S3 (.sto 1 (.t 130) (.t 129))])))))))
 (.rg [S7 61 12,
  S1 62 (.bin .add (.t 61) (.k (.i .i64 1))),
  S7 12 62]))
def c12:C :=
 .sq (.rg [S2 1 (.box (.t 0)),
  S2 2 (.alc [.i .i64 0,.i .u64 0,.i .u64 0,.i .u64 0,.i .u64 0,.nil,.i .i64 0,.i .i64 0,.nil,.nil,.nil]),
  S1 3 (.mov (.k (.i .i64 0)))])
 (.sq (.rg [S2 15 (.ld 8 true (.t 1)),
  S2 16 (.pc 24 [(.t 15)]),
  S2 4 (.alc [.i .i64 0,.i .u64 0,.i .u64 0,.i .u64 0,.i .u64 0,.nil,.i .i64 0,.i .i64 0]),
  S3 (.sto 8 (.t 4) (.t 16))])
 (.sq (.rg [S2 17 (.ld 8 true (.t 4)),
  S1 18 (.bld [.i .u64 0,.i .u64 0,.i .u64 0,.i .u64 0] []),
  S2 19 (.bsl 4 1 [.i .u64 0,.i .u64 0,.i .u64 0,.i .u64 0] [(0,(.t 18))]),
  S2 20 (.bsl 1 1 [.nil] [(0,(.k (.nil)))]),
  S1 21 (.bld [.i .i64 0,.i .u64 0,.i .u64 0,.i .u64 0,.i .u64 0,.nil,.i .i64 0,.i .i64 0,.nil,.nil,.nil] [(0,8,(.t 17)),(8,1,(.t 19)),(10,1,(.t 20))]),
  S2 5 (.alc [.i .i64 0,.i .u64 0,.i .u64 0,.i .u64 0,.i .u64 0,.nil,.i .i64 0,.i .i64 0,.nil,.nil,.nil]),
  S3 (.sto 11 (.t 5) (.t 21))])
 (.sq (.rg [S2 23 (.ld 8 true (.t 4)),
  S2 24 (.pc 25 [(.t 23),(.k (.nil)),(.k (.i .i64 0))]),
  S7 22 24,
  S1 25 (.ext (.t 22) 0),
  S1 26 (.ext (.t 22) 1),
  S7 6 25,
  S7 7 26])
 (.sq (.rg [S1 8 (.mov (.k (.nil)))])
 (.sq (.sq (.rg [S1 9 (.mov (.k (.i .i64 0)))])
 (.bk 0 (.lp b12_0)))
 (.sq (.sq (.rg [S1 12 (.mov (.k (.i .i64 0)))])
 (.bk 2 (.lp b12_2)))
 (.sq (.sq (.rg [S8 131 8 5,
  S6 132 131,
  S1 133 (.len (.t 132)),
  S1 134 (.bin .gtr (.t 133) (.k (.i .i64 41)))])
 (.cd (.t 134)
  (.sq (.rg [S1 135 (.bld [.i .i64 0,.i .u64 0,.i .u64 0,.i .u64 0,.i .u64 0,.nil,.i .i64 0,.i .i64 0,.nil,.nil,.nil] []),
    S3 (.sto 11 (.t 2) (.t 135)),
    S1 3 (.mov (.k (.i .i64 3)))])
   (.rt))
  (.sk)))
 (.sq (.rg [S2 136 (.ld 11 true (.t 5)),
  S3 (.sto 11 (.t 2) (.t 136)),
  S1 3 (.mov (.k (.i .i64 0)))])
 (.rt)))))))))
def fn12:Fn:={ n:=137,np:=1,res:=[.c 2 11 true,.t 3],body:=c12 }
theorem e12:F 12=some fn12:=by kernel_rfl
def b13_0:C :=
 .sq (.sq (.rg [S7 68 17,
  S1 69 (.bin .lss (.t 68) (.k (.i .i64 200)))])
 (.cd (.t 69)
  (.sk)
  (.ex 2)))
 (.sq (.bk 3 (.sq (.sq (.rg [S8 72 0 2,
  S6 73 72,
  S1 74 (.bin .neq (.t 73) (.k (.i .i64 2))),
  S7 75 74,
  S5 76 75 false (.mov (.t 10)),
  S1 77 (.pick (.t 75) (.k (.bo true)) (.t 76))])
 (.cd (.t 77)
  (.rg [S7 78 7,
    S7 79 17,
    S7 80 7,
    S7 81 17,
    S1 82 (.ixp 1 (.t 80) (.t 81)),
    S6 83 82,
    S7 84 83,
    S5 85 84 false (.mov (.t 12)),
    S5 86 84 false (.mov (.t 17)),
    S5 87 84 false (.ixp 1 (.t 85) (.t 86)),
    S4 88 84 false (.ld 1 false (.t 87)),
    S1 89 (.pick (.t 84) (.k (.bo true)) (.t 88)),
    S1 90 (.ixp 1 (.t 78) (.t 79)),
    S3 (.sto 1 (.t 90) (.t 89))])
  (.sk)))
 (.sq (.sq (.rg [S8 91 0 2,
  S6 92 91,
  S1 93 (.bin .eql (.t 92) (.k (.i .i64 2))),
  S7 94 93,
  S5 95 94 true (.mov (.t 16)),
  S5 96 94 true (.un .not (.t 95)),
  S1 97 (.pick (.t 94) (.t 96) (.k (.bo false)))])
 (.cd (.t 97)
  (.rg [S7 98 8,
    S7 99 17,
    S1 100 (.ixp 1 (.t 98) (.t 99)),
    S3 (.sto 1 (.t 100) (.k (.bo false)))])
  (.sk)))
 (.rg [S7 101 8,
  S7 102 17,
  S7 103 8,
  S7 104 17,
  S1 105 (.ixp 1 (.t 103) (.t 104)),
  S6 106 105,
  S7 107 106,
  S5 108 107 false (.mov (.t 13)),
  S5 109 107 false (.mov (.t 17)),
  S5 110 107 false (.ixp 1 (.t 108) (.t 109)),
  S4 111 107 false (.ld 1 false (.t 110)),
  S1 112 (.pick (.t 107) (.k (.bo true)) (.t 111)),
  S1 113 (.ixp 1 (.t 101) (.t 102)),
  S3 (.sto 1 (.t 113) (.t 112))]))))
 (.rg [S7 70 17,
  S1 71 (.bin .add (.t 70) (.k (.i .i64 1))),
  S7 17 71]))
def b13_1:C :=
 .sq (.sq (.rg [S7 39 11,
  S8 40 5 2,
  S6 41 40,
  S1 42 (.len (.t 41)),
  S1 43 (.bin .lss (.t 39) (.t 42))])
 (.cd (.t 43)
  (.sk)
  (.ex 0)))
 (.sq (.bk 1 (.sq (.rg [S8 47 5 2,
  S6 48 47,
  S7 49 11,
  S1 50 (.ixp 8 (.t 48) (.t 49)),
  S2 51 (.ld 8 true (.t 50)),
  S7 52 1,
  S7 53 9,
  S1 54 (.bin .add (.t 52) (.t 53)),
  S2 55 (.pc 13 [(.t 51),(.t 54)]),
  S7 46 55,
  S1 56 (.ext (.t 46) 0),
  S1 57 (.ext (.t 46) 1),
  S1 58 (.ext (.t 46) 2),
  S7 12 56,
  S7 13 57,
  S7 14 58])
 (.sq (.rg [S8 60 5 2,
  S6 61 60,
  S7 62 11,
  S1 63 (.ixp 8 (.t 61) (.t 62)),
  S2 64 (.ld 8 true (.t 63)),
  S2 65 (.pc 14 [(.t 64)]),
  S7 59 65,
  S1 66 (.ext (.t 59) 0),
  S1 67 (.ext (.t 59) 1),
  S7 15 66,
  S7 16 67])
 (.sq (.sq (.rg [S1 17 (.mov (.k (.i .i64 0)))])
 (.bk 2 (.lp b13_0)))
 (.sq (.rg [S7 114 10,
  S7 115 114,
  S5 116 115 true (.mov (.t 16)),
  S1 117 (.pick (.t 115) (.t 116) (.k (.bo false))),
  S7 10 117])
 (.rg [S7 118 9,
  S7 119 14,
  S1 120 (.bin .add (.t 118) (.t 119)),
  S7 9 120]))))))
 (.rg [S7 44 11,
  S1 45 (.bin .add (.t 44) (.k (.i .i64 1))),
  S7 11 45]))
def c13:C :=
 .sq (.rg [S2 2 (.box (.t 0)),
  S1 4 (.mov (.k (.nil))),
  S1 5 (.mov (.k (.nil))),
  S1 6 (.mov (.k (.i .i64 0)))])
 (.sq (.rg [S2 18 (.mks 1 1 [.bo false] (.k (.i .i64 200)) (.k (.i .i64 200))),
  S7 7 18,
  S2 19 (.mks 1 1 [.bo false] (.k (.i .i64 200)) (.k (.i .i64 200))),
  S7 8 19])
 (.sq (.sq (.rg [S8 20 0 2,
  S6 21 20,
  S1 22 (.bin .eql (.t 21) (.k (.i .i64 1)))])
 (.cd (.t 22)
  (.sq (.sq (.rg [S8 23 1 2,
    S2 24 (.ld 4 true (.t 23)),
    S1 25 (.bld [.i .u64 0,.i .u64 0,.i .u64 0,.i .u64 0] []),
    S1 26 (.eqp false true [.i .u64,.i .u64,.i .u64,.i .u64] (.t 24) (.t 25))])
   (.cd (.t 26)
    (.sq (.rg [S7 27 7,
      S7 28 8,
      S7 4 27,
      S7 5 28,
      S1 6 (.mov (.k (.i .i64 0)))])
     (.rt))
    (.sk)))
   (.sq (.rg [S7 29 7,
    S7 30 1,
    S1 31 (.bin .add (.t 30) (.k (.i .i64 1))),
    S1 32 (.ixp 1 (.t 29) (.t 31)),
    S3 (.sto 1 (.t 32) (.k (.bo true)))])
   (.sq (.rg [S7 33 8,
    S7 34 1,
    S1 35 (.bin .add (.t 34) (.k (.i .i64 1))),
    S1 36 (.ixp 1 (.t 33) (.t 35)),
    S3 (.sto 1 (.t 36) (.k (.bo true)))])
   (.sq (.rg [S7 37 7,
    S7 38 8,
    S7 4 37,
    S7 5 38,
    S1 6 (.mov (.k (.i .i64 1)))])
   (.rt)))))
  (.sk)))
 (.sq (.rg [S1 9 (.mov (.k (.i .i64 0)))])
 (.sq (.rg [S1 10 (.mov (.k (.bo true)))])
 (.sq (.sq (.rg [S1 11 (.mov (.k (.i .i64 0)))])
 (.bk 0 (.lp b13_1)))
 (.sq (.rg [S7 121 7,
  S7 122 8,
  S7 123 9,
  S7 4 121,
  S7 5 122,
  S7 6 123])
 (.rt)))))))
def fn13:Fn:={ n:=124,np:=2,res:=[.t 4,.t 5,.t 6],body:=c13 }
theorem e13:F 13=some fn13:=by kernel_rfl
def b14_0:C :=
 .sq (.sq (.rg [S7 9 6,
  S8 10 5 1,
  S6 11 10,
  S1 12 (.len (.t 11)),
  S1 13 (.bin .lss (.t 9) (.t 12))])
 (.cd (.t 13)
  (.sk)
  (.ex 0)))
 (.sq (.bk 1 (.sq (.rg [S8 17 5 1,
  S6 18 17,
  S7 19 6,
  S1 20 (.ixp 8 (.t 18) (.t 19)),
  S2 21 (.ld 8 true (.t 20)),
  S2 22 (.pc 14 [(.t 21)]),
  S7 16 22,
  S1 23 (.ext (.t 16) 0),
  S1 24 (.ext (.t 16) 1),
  S7 7 23,
  S7 8 24])
 (.sq (.sq (.rg [S7 25 7])
 (.cd (.t 25)
  (.rg [S7 26 4,
    S1 27 (.bin .add (.t 26) (.k (.i .i64 1))),
    S7 4 27])
  (.sk)))
 (.sq (.rg [S7 28 8])
 (.cd (.t 28)
  (.rg [S7 29 5,
    S1 30 (.bin .add (.t 29) (.k (.i .i64 1))),
    S7 5 30])
  (.sk))))))
 (.rg [S7 14 6,
  S1 15 (.bin .add (.t 14) (.k (.i .i64 1))),
  S7 6 15]))
def c14:C :=
 .sq (.rg [S2 1 (.box (.t 0)),
  S1 2 (.mov (.k (.bo false))),
  S1 3 (.mov (.k (.bo false)))])
 (.sq (.rg [S1 4 (.mov (.k (.i .i64 0))),
  S1 5 (.mov (.k (.i .i64 0)))])
 (.sq (.sq (.rg [S1 6 (.mov (.k (.i .i64 0)))])
 (.bk 0 (.lp b14_0)))
 (.sq (.sq (.rg [S8 31 0 1,
  S6 32 31])
 (.bk 2 (.sq (.rg [S1 34 (.bin .eql (.t 32) (.k (.i .i64 0))),
  S7 33 34])
 (.cd (.t 33)
  (.sq (.rg [S1 2 (.mov (.k (.bo false))),
    S1 3 (.mov (.k (.bo true)))])
   (.rt))
  (.sq (.rg [S1 36 (.bin .eql (.t 32) (.k (.i .i64 1))),
    S7 35 36])
   (.cd (.t 35)
    (.sq (.rg [S8 37 1 1,
      S2 38 (.ld 4 true (.t 37)),
      S1 39 (.bld [.i .u64 0,.i .u64 0,.i .u64 0,.i .u64 0] []),
      S1 40 (.eqp false true [.i .u64,.i .u64,.i .u64,.i .u64] (.t 38) (.t 39)),
      S7 2 40,
      S1 3 (.mov (.k (.bo false)))])
     (.rt))
    (.sq (.rg [S1 42 (.bin .eql (.t 32) (.k (.i .i64 2))),
      S7 41 42])
     (.cd (.t 41)
      (.sq (.rg [S7 43 4,
        S1 44 (.bin .gtr (.t 43) (.k (.i .i64 0))),
        S7 45 5,
        S8 46 5 1,
        S7 2 44,
        S6 47 46,
        S1 48 (.len (.t 47)),
        S1 49 (.bin .eql (.t 45) (.t 48)),
        S7 3 49])
       (.rt))
      (.sq (.rg [S1 51 (.bin .eql (.t 32) (.k (.i .i64 3))),
        S7 50 51])
       (.cd (.t 50)
        (.sq (.rg [S7 52 4,
          S8 53 5 1,
          S6 54 53,
          S1 55 (.len (.t 54)),
          S1 56 (.bin .eql (.t 52) (.t 55)),
          S7 57 5,
          S1 58 (.bin .gtr (.t 57) (.k (.i .i64 0))),
          S7 2 56,
          S7 3 58])
         (.rt))
        (.sk)))))))))))
 (.sq (.rg [S7 59 4,
  S1 60 (.bin .gtr (.t 59) (.k (.i .i64 0))),
  S7 61 60,
  S5 62 61 true (.adr 6 (.t 1)),
  S4 63 61 true (.ld 1 false (.t 62)),
  S5 64 61 true (.bin .gtr (.t 63) (.k (.i .i64 0))),
  S1 65 (.pick (.t 61) (.t 64) (.k (.bo false))),
  S8 66 6 1,
  S6 67 66,
  S1 68 (.bin .eql (.t 67) (.k (.i .i64 0))),
  S7 69 68,
  S5 70 69 false (.mov (.t 5)),
  S5 71 69 false (.bin .gtr (.t 70) (.k (.i .i64 0))),
  S1 72 (.pick (.t 69) (.k (.bo true)) (.t 71)),
  S7 2 65,
  S7 3 72])
 (.rt)))))
def fn14:Fn:={ n:=73,np:=1,res:=[.t 2,.t 3],body:=c14 }
theorem e14:F 14=some fn14:=by kernel_rfl
def b15_0:C :=
 .sq (.sq (.rg [S7 33 15,
  S8 34 5 3,
  S6 35 34,
  S1 36 (.len (.t 35)),
  S1 37 (.bin .lss (.t 33) (.t 36))])
 (.cd (.t 37)
  (.sk)
  (.ex 0)))
 (.sq (.bk 1 (.sq (.rg [S7 40 7,
  S8 41 5 3,
  S6 42 41,
  S7 43 15,
  S1 44 (.ixp 8 (.t 42) (.t 43)),
  S2 45 (.ld 8 true (.t 44)),
  S7 46 14,
  S7 47 8,
  S2 48 (.pc 15 [(.t 45),(.t 46),(.t 47)]),
  S2 49 (.app 4 32 (.t 40) (.t 48)),
  S7 7 49])
 (.sq (.rg [S8 51 5 3,
  S6 52 51,
  S7 53 15,
  S1 54 (.ixp 8 (.t 52) (.t 53)),
  S2 55 (.ld 8 true (.t 54)),
  S7 56 14,
  S2 57 (.pc 13 [(.t 55),(.t 56)]),
  S7 50 57,
  S1 58 (.ext (.t 50) 0),
  S1 59 (.ext (.t 50) 1),
  S1 60 (.ext (.t 50) 2),
  S7 16 58,
  S7 17 59,
  S7 18 60])
 (.sq (.rg [S8 62 5 3,
  S6 63 62,
  S7 64 15,
  S1 65 (.ixp 8 (.t 63) (.t 64)),
  S2 66 (.ld 8 true (.t 65)),
  S2 67 (.pc 14 [(.t 66)]),
  S7 61 67,
  S1 68 (.ext (.t 61) 0),
  S1 69 (.ext (.t 61) 1),
  S7 19 68,
  S7 20 69])
 (.sq (.rg [S7 70 11,
  S7 71 16,
  S2 72 (.bsl 1 1 [.nil] [(0,(.t 71))]),
  S2 73 (.app 1 24 (.t 70) (.t 72)),
  S7 11 73])
 (.sq (.rg [S7 74 12,
  S7 75 17,
  S2 76 (.bsl 1 1 [.nil] [(0,(.t 75))]),
  S2 77 (.app 1 24 (.t 74) (.t 76)),
  S7 12 77])
 (.sq (.rg [S7 78 13,
  S7 79 20,
  S2 80 (.bsl 1 1 [.bo false] [(0,(.t 79))]),
  S2 81 (.app 1 1 (.t 78) (.t 80)),
  S7 13 81])
 (.rg [S7 82 14,
  S7 83 18,
  S1 84 (.bin .add (.t 82) (.t 83)),
  S7 14 84]))))))))
 (.rg [S7 38 15,
  S1 39 (.bin .add (.t 38) (.k (.i .i64 1))),
  S7 15 39]))
def b15_1:C :=
 .sq (.sq (.rg [S7 118 22,
  S8 119 5 3,
  S6 120 119,
  S1 121 (.len (.t 120)),
  S1 122 (.bin .lss (.t 118) (.t 121))])
 (.cd (.t 122)
  (.sk)
  (.ex 4)))
 (.sq (.bk 5 (.sq (.rg [S7 125 7,
  S7 126 12,
  S7 127 21,
  S1 128 (.ixp 1 (.t 126) (.t 127)),
  S7 130 11,
  S7 131 22,
  S1 132 (.ixp 1 (.t 130) (.t 131)),
  S7 134 2,
  S1 135 (.bld [.i .i64 0,.i .i64 0,.bo false] [(1,1,(.t 134))]),
  S6 129 128,
  S6 133 132,
  S2 136 (.nc 27 [(.t 125),(.t 129),(.t 133),(.t 135)]),
  S7 7 136])
 (.sq (.rg [S7 137 13,
  S7 138 22,
  S1 139 (.ixp 1 (.t 137) (.t 138)),
  S6 140 139,
  S1 141 (.un .not (.t 140))])
 (.cd (.t 141)
  (.ex 4)
  (.sk)))))
 (.rg [S7 123 22,
  S1 124 (.bin .add (.t 123) (.k (.i .i64 1))),
  S7 22 124]))
def b15_2:C :=
 .sq (.sq (.rg [S7 104 21,
  S8 105 5 3,
  S6 106 105,
  S1 107 (.len (.t 106)),
  S1 108 (.bin .lss (.t 104) (.t 107)),
  S7 109 108,
  S5 110 109 true (.adr 0 (.t 3)),
  S4 111 109 true (.ld 1 false (.t 110)),
  S5 112 109 true (.bin .eql (.t 111) (.k (.i .i64 2))),
  S1 113 (.pick (.t 109) (.t 112) (.k (.bo false)))])
 (.cd (.t 113)
  (.sk)
  (.ex 2)))
 (.sq (.bk 3 (.sq (.rg [S7 116 21,
  S1 117 (.bin .add (.t 116) (.k (.i .i64 1))),
  S7 22 117])
 (.bk 4 (.lp b15_1))))
 (.rg [S7 114 21,
  S1 115 (.bin .add (.t 114) (.k (.i .i64 1))),
  S7 21 115]))
def c15:C :=
 .sq (.rg [S2 3 (.box (.t 0)),
  S1 6 (.mov (.k (.nil)))])
 (.sq (.rg [S1 7 (.mov (.k (.nil)))])
 (.sq (.rg [S7 23 2,
  S7 8 23])
 (.sq (.rg [S2 25 (.ld 8 true (.t 3)),
  S2 26 (.pc 26 [(.t 25)]),
  S7 24 26,
  S1 27 (.ext (.t 24) 0),
  S1 28 (.ext (.t 24) 1),
  S2 9 (.alc [.i .i64 0,.i .i64 0]),
  S3 (.sto 2 (.t 9) (.t 27)),
  S7 10 28])
 (.sq (.sq (.rg [S7 29 10])
 (.cd (.t 29)
  (.rg [S7 30 8,
    S1 31 (.bin .add (.t 30) (.k (.i .i64 1))),
    S7 8 31])
  (.sk)))
 (.sq (.rg [S1 11 (.mov (.k (.nil))),
  S1 12 (.mov (.k (.nil)))])
 (.sq (.rg [S1 13 (.mov (.k (.nil)))])
 (.sq (.rg [S7 32 1,
  S7 14 32])
 (.sq (.sq (.rg [S1 15 (.mov (.k (.i .i64 0)))])
 (.bk 0 (.lp b15_0)))
 (.sq (.sq (.rg [S8 85 0 3,
  S6 86 85,
  S1 87 (.bin .eql (.t 86) (.k (.i .i64 4))),
  S7 88 87,
  S5 89 88 true (.adr 7 (.t 3)),
  S4 90 88 true (.ld 1 false (.t 89)),
  S5 91 88 true (.bin .neq (.t 90) (.k (.i .i64 1))),
  S1 92 (.pick (.t 88) (.t 91) (.k (.bo false)))])
 (.cd (.t 92)
  (.sq (.rg [S7 93 7,
    S7 94 12,
    S1 95 (.ixp 1 (.t 94) (.k (.i .i64 0))),
    S7 97 11,
    S1 98 (.ixp 1 (.t 97) (.k (.i .i64 0))),
    S7 100 2,
    S7 101 10,
    S1 102 (.bld [.i .i64 0,.i .i64 0,.bo false] [(1,1,(.t 100)),(2,1,(.t 101))]),
    S6 96 95,
    S6 99 98,
    S2 103 (.nc 27 [(.t 93),(.t 96),(.t 99),(.t 102)]),
    S7 6 103])
   (.rt))
  (.sk)))
 (.sq (.sq (.rg [S1 21 (.mov (.k (.i .i64 0)))])
 (.bk 2 (.lp b15_2)))
 (.sq (.rg [S7 142 7,
  S7 6 142])
 (.rt))))))))))))
def fn15:Fn:={ n:=143,np:=3,res:=[.t 6],body:=c15 }
theorem e15:F 15=some fn15:=by kernel_rfl
def b16_0:C :=
 .sq (.sq (.rg [S7 8 7,
  S7 9 0,
  S1 10 (.len (.t 9)),
  S1 11 (.bin .lss (.t 8) (.t 10))])
 (.cd (.t 11)
  (.sk)
  (.ex 0)))
 (.sq (.bk 1 (.sq (.rg [S7 14 0,
  S7 15 7,
  S1 16 (.ixp 4 (.t 14) (.t 15)),
  S8 17 0 16,
  S7 19 1,
  S6 18 17,
  S1 20 (.bin .eql (.t 18) (.t 19)),
  S7 21 20,
  S5 22 21 true (.mov (.t 0)),
  S5 23 21 true (.mov (.t 7)),
  S5 24 21 true (.ixp 4 (.t 22) (.t 23)),
  S5 25 21 true (.adr 1 (.t 24)),
  S4 26 21 true (.ld 3 true (.t 25)),
  S4 27 21 true (.ld 3 true (.t 5)),
  S5 28 21 true (.eqp false true [.i .i64,.i .i64,.b] (.t 26) (.t 27)),
  S1 29 (.pick (.t 21) (.t 28) (.k (.bo false)))])
 (.cd (.t 29)
  (.sq (.rg [S1 6 (.mov (.k (.bo true)))])
   (.rt))
  (.sk))))
 (.rg [S7 12 7,
  S1 13 (.bin .add (.t 12) (.k (.i .i64 1))),
  S7 7 13]))
def c16:C :=
 .sq (.rg [S2 5 (.box (.t 2)),
  S1 6 (.mov (.k (.bo false)))])
 (.sq (.sq (.rg [S1 7 (.mov (.k (.i .i64 0)))])
 (.bk 0 (.lp b16_0)))
 (.sq (.rg [S1 6 (.mov (.k (.bo false)))])
 (.rt)))
def fn16:Fn:={ n:=30,np:=3,res:=[.t 6],body:=c16 }
theorem e16:F 16=some fn16:=by kernel_rfl
def c17:C :=
 .sq (.rg [S2 2 (.box (.t 0)),
  S2 3 (.box (.t 1)),
  S1 4 (.mov (.k (.bo false)))])
 (.sq (.sq (.rg [S8 5 0 2,
  S6 6 5,
  S8 7 0 3,
  S6 8 7,
  S1 9 (.bin .neq (.t 6) (.t 8))])
 (.cd (.t 9)
  (.sq (.rg [S8 10 0 2,
    S6 11 10,
    S8 12 0 3,
    S6 13 12,
    S1 14 (.bin .lss (.t 11) (.t 13)),
    S7 4 14])
   (.rt))
  (.sk)))
 (.sq (.sq (.rg [S8 15 1 2,
  S6 16 15,
  S8 17 1 3,
  S6 18 17,
  S1 19 (.bin .neq (.t 16) (.t 18))])
 (.cd (.t 19)
  (.sq (.rg [S8 20 1 2,
    S6 21 20,
    S8 22 1 3,
    S6 23 22,
    S1 24 (.bin .lss (.t 21) (.t 23)),
    S7 4 24])
   (.rt))
  (.sk)))
 (.sq (.rg [S8 25 2 2,
  S6 26 25,
  S1 27 (.un .not (.t 26)),
  S7 28 27,
  S5 29 28 true (.adr 2 (.t 3)),
  S4 30 28 true (.ld 1 false (.t 29)),
  S1 31 (.pick (.t 28) (.t 30) (.k (.bo false))),
  S7 4 31])
 (.rt))))
def fn17:Fn:={ n:=32,np:=2,res:=[.t 4],body:=c17 }
theorem e17:F 17=some fn17:=by kernel_rfl
def b24_0:C :=
 .sq (.sq (.rg [S7 27 6,
  S8 28 5 1,
  S6 29 28,
  S1 30 (.len (.t 29)),
  S1 31 (.bin .lss (.t 27) (.t 30))])
 (.cd (.t 31)
  (.sk)
  (.ex 0)))
 (.sq (.bk 1 (.rg [S7 34 5,
  S8 35 5 1,
  S6 36 35,
  S7 37 6,
  S1 38 (.ixp 8 (.t 36) (.t 37)),
  S2 39 (.ld 8 true (.t 38)),
  S2 40 (.pc 24 [(.t 39)]),
  S2 41 (.bsl 8 1 [.i .i64 0,.i .u64 0,.i .u64 0,.i .u64 0,.i .u64 0,.nil,.i .i64 0,.i .i64 0] [(0,(.t 40))]),
  S2 42 (.app 8 80 (.t 34) (.t 41)),
  S7 5 42]))
 (.rg [S7 32 6,
  S1 33 (.bin .add (.t 32) (.k (.i .i64 1))),
  S7 6 33]))
def b24_1:C :=
 .sq (.sq (.rg [S7 124 15,
  S7 125 10,
  S1 126 (.len (.t 125)),
  S1 127 (.bin .lss (.t 124) (.t 126)),
  S7 128 127,
  S5 129 128 true (.adr 0 (.t 1)),
  S4 130 128 true (.ld 1 false (.t 129)),
  S5 131 128 true (.bin .eql (.t 130) (.k (.i .i64 3))),
  S1 132 (.pick (.t 128) (.t 131) (.k (.bo false)))])
 (.cd (.t 132)
  (.sk)
  (.ex 4)))
 (.sq (.bk 5 (.rg [S7 135 14,
  S7 136 135,
  S5 137 136 false (.mov (.t 10)),
  S5 138 136 false (.mov (.t 15)),
  S5 139 136 false (.ixp 8 (.t 137) (.t 138)),
  S5 141 136 false (.mov (.t 5)),
  S5 142 136 false (.mov (.t 11)),
  S5 143 136 false (.ixp 8 (.t 141) (.t 142)),
  S4 140 136 false (.ld 8 true (.t 139)),
  S4 144 136 false (.ld 8 true (.t 143)),
  S4 145 136 false (.pc 42 [(.t 140),(.t 144)]),
  S1 146 (.pick (.t 136) (.k (.bo true)) (.t 145)),
  S7 14 146]))
 (.rg [S7 133 15,
  S1 134 (.bin .add (.t 133) (.k (.i .i64 1))),
  S7 15 134]))
def b24_2:C :=
 .sq (.sq (.rg [S7 91 11,
  S7 92 5,
  S1 93 (.len (.t 92)),
  S1 94 (.bin .lss (.t 91) (.t 93))])
 (.cd (.t 94)
  (.sk)
  (.ex 2)))
 (.sq (.bk 3 (.sq (.rg [S7 98 5,
  S7 99 11,
  S1 100 (.ixp 8 (.t 98) (.t 99)),
  S2 101 (.ld 8 true (.t 100)),
  S2 102 (.pc 14 [(.t 101)]),
  S7 97 102,
  S1 103 (.ext (.t 97) 0),
  S1 104 (.ext (.t 97) 1),
  S7 12 103,
  S7 13 104])
 (.sq (.rg [S8 105 0 1,
  S6 106 105,
  S1 107 (.bin .eql (.t 106) (.k (.i .i64 2))),
  S7 108 107,
  S5 109 108 true (.mov (.t 5)),
  S5 110 108 true (.mov (.t 11)),
  S5 111 108 true (.ixp 8 (.t 109) (.t 110)),
  S5 112 108 true (.adr 0 (.t 111)),
  S4 113 108 true (.ld 1 false (.t 112)),
  S5 114 108 true (.bin .eql (.t 113) (.k (.i .i64 0))),
  S1 115 (.pick (.t 108) (.t 114) (.k (.bo false))),
  S7 116 115,
  S5 117 116 false (.adr 0 (.t 1)),
  S4 118 116 false (.ld 1 false (.t 117)),
  S5 119 116 false (.bin .eql (.t 118) (.k (.i .i64 3))),
  S5 120 116 false (.mov (.t 119)),
  S5 121 120 true (.mov (.t 12)),
  S5 122 116 false (.pick (.t 120) (.t 121) (.k (.bo false))),
  S1 123 (.pick (.t 116) (.k (.bo true)) (.t 122)),
  S7 14 123])
 (.sq (.sq (.rg [S1 15 (.mov (.k (.i .i64 0)))])
 (.bk 4 (.lp b24_1)))
 (.sq (.rg [S7 147 14,
  S1 148 (.un .not (.t 147))])
 (.cd (.t 148)
  (.rg [S7 149 10,
    S7 150 5,
    S7 151 11,
    S1 152 (.ixp 8 (.t 150) (.t 151)),
    S2 153 (.ld 8 true (.t 152)),
    S2 154 (.bsl 8 1 [.i .i64 0,.i .u64 0,.i .u64 0,.i .u64 0,.i .u64 0,.nil,.i .i64 0,.i .i64 0] [(0,(.t 153))]),
    S2 155 (.app 8 80 (.t 149) (.t 154)),
    S7 10 155])
  (.sk)))))))
 (.rg [S7 95 11,
  S1 96 (.bin .add (.t 95) (.k (.i .i64 1))),
  S7 11 96]))
def c24:C :=
 .sq (.rg [S2 1 (.box (.t 0)),
  S2 2 (.alc [.i .i64 0,.i .u64 0,.i .u64 0,.i .u64 0,.i .u64 0,.nil,.i .i64 0,.i .i64 0])])
 (.sq (.rg [S2 17 (.ld 8 true (.t 1)),
  S2 18 (.pc 14 [(.t 17)]),
  S7 16 18,
  S1 19 (.ext (.t 16) 0),
  S1 20 (.ext (.t 16) 1),
  S7 3 19,
  S7 4 20])
 (.sq (.sq (.rg [S7 21 3])
 (.cd (.t 21)
  (.sq (.rg [S1 22 (.bld [.i .i64 0,.i .u64 0,.i .u64 0,.i .u64 0,.i .u64 0,.nil,.i .i64 0,.i .i64 0] [(0,1,(.k (.i .i64 1)))]),
    S3 (.sto 8 (.t 2) (.t 22))])
   (.rt))
  (.sk)))
 (.sq (.sq (.rg [S8 23 0 1,
  S6 24 23,
  S1 25 (.bin .lss (.t 24) (.k (.i .i64 2)))])
 (.cd (.t 25)
  (.sq (.rg [S2 26 (.ld 8 true (.t 1)),
    S3 (.sto 8 (.t 2) (.t 26))])
   (.rt))
  (.sk)))
 (.sq (.rg [S1 5 (.mov (.k (.nil)))])
 (.sq (.sq (.rg [S1 6 (.mov (.k (.i .i64 0)))])
 (.bk 0 (.lp b24_0)))
 (.sq (.sq (.rg [S8 43 0 1,
  S6 44 43,
  S1 45 (.bin .eql (.t 44) (.k (.i .i64 4)))])
 (.cd (.t 45)
  (.sq (.rg [S7 47 5,
    S1 48 (.ixp 8 (.t 47) (.k (.i .i64 0))),
    S2 49 (.ld 8 true (.t 48)),
    S2 50 (.pc 14 [(.t 49)]),
    S7 46 50,
    S1 51 (.ext (.t 46) 0),
    S1 52 (.ext (.t 46) 1),
    S7 7 51,
    S7 8 52])
   (.sq (.sq (.rg [S8 53 7 1,
    S6 54 53,
    S1 55 (.bin .eql (.t 54) (.k (.i .i64 0))),
    S7 56 55,
    S5 57 56 false (.mov (.t 5)),
    S5 58 56 false (.ixp 8 (.t 57) (.k (.i .i64 0))),
    S5 59 56 false (.adr 0 (.t 58)),
    S4 60 56 false (.ld 1 false (.t 59)),
    S5 61 56 false (.bin .eql (.t 60) (.k (.i .i64 0))),
    S1 62 (.pick (.t 56) (.k (.bo true)) (.t 61)),
    S7 63 62,
    S5 64 63 false (.mov (.t 7)),
    S1 65 (.pick (.t 63) (.k (.bo true)) (.t 64))])
   (.cd (.t 65)
    (.sq (.rg [S1 66 (.bld [.i .i64 0,.i .u64 0,.i .u64 0,.i .u64 0,.i .u64 0,.nil,.i .i64 0,.i .i64 0] []),
      S3 (.sto 8 (.t 2) (.t 66))])
     (.rt))
    (.sk)))
   (.sq (.sq (.rg [S8 67 6 1,
    S6 68 67,
    S1 69 (.bin .eql (.t 68) (.k (.i .i64 1))),
    S7 70 69,
    S5 71 70 true (.adr 7 (.t 1)),
    S4 72 70 true (.ld 1 false (.t 71)),
    S5 73 70 true (.bin .eql (.t 72) (.k (.i .i64 1))),
    S1 74 (.pick (.t 70) (.t 73) (.k (.bo false)))])
   (.cd (.t 74)
    (.sq (.rg [S7 75 5,
      S1 76 (.ixp 8 (.t 75) (.k (.i .i64 0))),
      S2 77 (.ld 8 true (.t 76)),
      S3 (.sto 8 (.t 2) (.t 77))])
     (.rt))
    (.sk)))
   (.sq (.rg [S7 78 5,
    S8 79 6 1,
    S6 80 79,
    S8 81 7 1,
    S6 82 81,
    S1 83 (.bld [.i .i64 0,.i .u64 0,.i .u64 0,.i .u64 0,.i .u64 0,.nil,.i .i64 0,.i .i64 0] [(0,1,(.k (.i .i64 4))),(5,1,(.t 78)),(6,1,(.t 80)),(7,1,(.t 82))]),
    S2 9 (.alc [.i .i64 0,.i .u64 0,.i .u64 0,.i .u64 0,.i .u64 0,.nil,.i .i64 0,.i .i64 0]),
    S3 (.sto 8 (.t 9) (.t 83))])
   (.sq (.sq (.rg [S7 84 8])
   (.cd (.t 84)
    (.rg [S8 85 6 9,
      S3 (.sto 1 (.t 85) (.k (.i .i64 0)))])
    (.sk)))
   (.sq (.rg [S2 86 (.ld 8 true (.t 9)),
    S3 (.sto 8 (.t 2) (.t 86))])
   (.rt)))))))
  (.sk)))
 (.sq (.rg [S8 87 0 1,
  S6 88 87,
  S7 89 5,
  S2 90 (.pc 41 [(.t 88),(.t 89)]),
  S7 5 90])
 (.sq (.rg [S1 10 (.mov (.k (.nil)))])
 (.sq (.sq (.rg [S1 11 (.mov (.k (.i .i64 0)))])
 (.bk 2 (.lp b24_2)))
 (.sq (.sq (.rg [S7 156 10,
  S1 157 (.len (.t 156)),
  S1 158 (.bin .eql (.t 157) (.k (.i .i64 0)))])
 (.cd (.t 158)
  (.sq (.rg [S1 159 (.bld [.i .i64 0,.i .u64 0,.i .u64 0,.i .u64 0,.i .u64 0,.nil,.i .i64 0,.i .i64 0] []),
    S3 (.sto 8 (.t 2) (.t 159))])
   (.rt))
  (.sk)))
 (.sq (.sq (.rg [S7 160 10,
  S1 161 (.len (.t 160)),
  S1 162 (.bin .eql (.t 161) (.k (.i .i64 1)))])
 (.cd (.t 162)
  (.sq (.rg [S7 163 10,
    S1 164 (.ixp 8 (.t 163) (.k (.i .i64 0))),
    S2 165 (.ld 8 true (.t 164)),
    S3 (.sto 8 (.t 2) (.t 165))])
   (.rt))
  (.sk)))
 (.sq (.rg [S8 166 0 1,
  S6 167 166,
  S7 168 10,
  S1 169 (.bld [.i .i64 0,.i .u64 0,.i .u64 0,.i .u64 0,.i .u64 0,.nil,.i .i64 0,.i .i64 0] [(0,1,(.t 167)),(5,1,(.t 168))]),
  S3 (.sto 8 (.t 2) (.t 169))])
 (.rt)))))))))))))
def fn24:Fn:={ n:=170,np:=1,res:=[.c 2 8 true],body:=c24 }
theorem e24:F 24=some fn24:=by kernel_rfl
def b25_0:C :=
 .sq (.sq (.rg [S7 18 10,
  S8 19 5 3,
  S6 20 19,
  S1 21 (.len (.t 20)),
  S1 22 (.bin .lss (.t 18) (.t 21))])
 (.cd (.t 22)
  (.sk)
  (.ex 0)))
 (.sq (.bk 1 (.sq (.rg [S2 25 (.bsl 1 0 [.i .i64 0] []),
  S7 26 1,
  S2 27 (.app 1 8 (.t 25) (.t 26)),
  S7 28 2,
  S2 29 (.bsl 1 1 [.i .i64 0] [(0,(.t 28))]),
  S2 30 (.app 1 8 (.t 27) (.t 29)),
  S7 11 30])
 (.sq (.rg [S8 32 5 3,
  S6 33 32,
  S7 34 10,
  S1 35 (.ixp 8 (.t 33) (.t 34)),
  S2 36 (.ld 8 true (.t 35)),
  S7 37 11,
  S7 38 2,
  S7 39 8,
  S1 40 (.len (.t 39)),
  S1 41 (.bin .add (.t 38) (.t 40)),
  S2 42 (.pc 25 [(.t 36),(.t 37),(.t 41)]),
  S7 31 42,
  S1 43 (.ext (.t 31) 0),
  S1 44 (.ext (.t 31) 1),
  S7 12 43,
  S7 13 44])
 (.sq (.rg [S7 45 8,
  S7 46 12,
  S2 47 (.app 8 80 (.t 45) (.t 46)),
  S7 8 47])
 (.rg [S7 48 9,
  S7 49 13,
  S2 50 (.app 1 24 (.t 48) (.t 49)),
  S7 9 50])))))
 (.rg [S7 23 10,
  S1 24 (.bin .add (.t 23) (.k (.i .i64 1))),
  S7 10 24]))
def c25:C :=
 .sq (.rg [S2 3 (.box (.t 0)),
  S1 6 (.mov (.k (.nil))),
  S1 7 (.mov (.k (.nil)))])
 (.sq (.rg [S2 14 (.ld 8 true (.t 3)),
  S2 15 (.bsl 8 1 [.i .i64 0,.i .u64 0,.i .u64 0,.i .u64 0,.i .u64 0,.nil,.i .i64 0,.i .i64 0] [(0,(.t 14))]),
  S7 16 1,
  S2 17 (.bsl 1 1 [.nil] [(0,(.t 16))]),
  S7 8 15,
  S7 9 17])
 (.sq (.sq (.rg [S1 10 (.mov (.k (.i .i64 0)))])
 (.bk 0 (.lp b25_0)))
 (.sq (.rg [S7 51 8,
  S7 52 9,
  S7 6 51,
  S7 7 52])
 (.rt))))
def fn25:Fn:={ n:=53,np:=3,res:=[.t 6,.t 7],body:=c25 }
theorem e25:F 25=some fn25:=by kernel_rfl
def c26:C :=
 .sq (.rg [S2 1 (.box (.t 0)),
  S2 2 (.alc [.i .i64 0,.i .i64 0]),
  S1 3 (.mov (.k (.bo false)))])
 (.sq (.rg [S8 5 6 1,
  S6 6 5,
  S7 4 6])
 (.sq (.sq (.rg [S7 7 4,
  S1 8 (.bin .eql (.t 7) (.k (.i .i64 0)))])
 (.cd (.t 8)
  (.rg [S1 4 (.mov (.k (.i .i64 1)))])
  (.sk)))
 (.sq (.rg [S7 9 4,
  S8 10 7 1,
  S6 11 10,
  S1 12 (.bld [.i .i64 0,.i .i64 0] [(0,1,(.t 9)),(1,1,(.t 11))]),
  S8 13 0 1,
  S6 14 13,
  S1 15 (.bin .eql (.t 14) (.k (.i .i64 4))),
  S7 16 15,
  S5 17 16 true (.adr 7 (.t 1)),
  S4 18 16 true (.ld 1 false (.t 17)),
  S5 19 16 true (.bin .gtr (.t 18) (.k (.i .i64 1))),
  S5 20 16 true (.mov (.t 19)),
  S5 21 20 false (.adr 7 (.t 1)),
  S4 22 20 false (.ld 1 false (.t 21)),
  S5 23 20 false (.bin .lss (.t 22) (.k (.i .i64 0))),
  S5 24 20 false (.mov (.t 23)),
  S5 25 24 true (.mov (.t 4)),
  S5 26 24 true (.bin .gtr (.t 25) (.k (.i .i64 1))),
  S5 27 20 false (.pick (.t 24) (.t 26) (.k (.bo false))),
  S5 28 16 true (.pick (.t 20) (.k (.bo true)) (.t 27)),
  S1 29 (.pick (.t 16) (.t 28) (.k (.bo false))),
  S3 (.sto 2 (.t 2) (.t 12)),
  S7 3 29])
 (.rt))))
def fn26:Fn:={ n:=30,np:=1,res:=[.c 2 2 true,.t 3],body:=c26 }
theorem e26:F 26=some fn26:=by kernel_rfl
def b27_0:C :=
 .sq (.sq (.rg [S7 15 10,
  S1 16 (.bin .lss (.t 15) (.k (.i .i64 200)))])
 (.cd (.t 16)
  (.sk)
  (.ex 2)))
 (.sq (.bk 3 (.sq (.rg [S7 19 1,
  S7 20 9,
  S1 21 (.ixp 1 (.t 19) (.t 20)),
  S6 22 21,
  S7 23 22,
  S5 24 23 true (.mov (.t 2)),
  S5 25 23 true (.mov (.t 10)),
  S5 26 23 true (.ixp 1 (.t 24) (.t 25)),
  S4 27 23 true (.ld 1 false (.t 26)),
  S1 28 (.pick (.t 23) (.t 27) (.k (.bo false)))])
 (.cd (.t 28)
  (.rg [S7 29 0,
    S7 30 9,
    S7 31 10,
    S8 32 1 7,
    S6 33 32,
    S8 34 2 7,
    S6 35 34,
    S1 36 (.bld [.i .i64 0,.i .i64 0,.bo false] [(0,1,(.t 31)),(1,1,(.t 33)),(2,1,(.t 35))]),
    S1 37 (.bld [.i .i64 0,.i .i64 0,.i .i64 0,.bo false] [(0,1,(.t 30)),(1,3,(.t 36))]),
    S2 38 (.bsl 4 1 [.i .i64 0,.i .i64 0,.i .i64 0,.bo false] [(0,(.t 37))]),
    S2 39 (.app 4 32 (.t 29) (.t 38)),
    S7 0 39])
  (.sk))))
 (.rg [S7 17 10,
  S1 18 (.bin .add (.t 17) (.k (.i .i64 1))),
  S7 10 18]))
def b27_1:C :=
 .sq (.sq (.rg [S7 11 9,
  S1 12 (.bin .lss (.t 11) (.k (.i .i64 200)))])
 (.cd (.t 12)
  (.sk)
  (.ex 0)))
 (.sq (.bk 1 (.sq (.rg [S1 10 (.mov (.k (.i .i64 0)))])
 (.bk 2 (.lp b27_0))))
 (.rg [S7 13 9,
  S1 14 (.bin .add (.t 13) (.k (.i .i64 1))),
  S7 9 14]))
def c27:C :=
 .sq (.rg [S2 7 (.box (.t 3)),
  S1 8 (.mov (.k (.nil)))])
 (.sq (.sq (.rg [S1 9 (.mov (.k (.i .i64 0)))])
 (.bk 0 (.lp b27_1)))
 (.sq (.rg [S7 40 0,
  S7 8 40])
 (.rt)))
def fn27:Fn:={ n:=41,np:=4,res:=[.t 8],body:=c27 }
theorem e27:F 27=some fn27:=by kernel_rfl
def b41_0:C :=
 .sq (.sq (.rg [S7 7 6,
  S7 8 1,
  S1 9 (.len (.t 8)),
  S1 10 (.bin .lss (.t 7) (.t 9))])
 (.cd (.t 10)
  (.sk)
  (.ex 0)))
 (.sq (.bk 1 (.sq (.rg [S7 13 1,
  S7 14 6,
  S1 15 (.ixp 8 (.t 13) (.t 14)),
  S8 16 0 15,
  S6 17 16,
  S7 18 0,
  S1 19 (.bin .eql (.t 17) (.t 18))])
 (.cd (.t 19)
  (.rg [S7 20 5,
    S7 21 1,
    S7 22 6,
    S1 23 (.ixp 8 (.t 21) (.t 22)),
    S8 24 5 23,
    S6 25 24,
    S2 26 (.app 8 80 (.t 20) (.t 25)),
    S7 5 26])
  (.rg [S7 27 5,
    S7 28 1,
    S7 29 6,
    S1 30 (.ixp 8 (.t 28) (.t 29)),
    S2 31 (.ld 8 true (.t 30)),
    S2 32 (.bsl 8 1 [.i .i64 0,.i .u64 0,.i .u64 0,.i .u64 0,.i .u64 0,.nil,.i .i64 0,.i .i64 0] [(0,(.t 31))]),
    S2 33 (.app 8 80 (.t 27) (.t 32)),
    S7 5 33]))))
 (.rg [S7 11 6,
  S1 12 (.bin .add (.t 11) (.k (.i .i64 1))),
  S7 6 12]))
def c41:C :=
 .sq (.rg [S1 4 (.mov (.k (.nil)))])
 (.sq (.rg [S1 5 (.mov (.k (.nil)))])
 (.sq (.sq (.rg [S1 6 (.mov (.k (.i .i64 0)))])
 (.bk 0 (.lp b41_0)))
 (.sq (.rg [S7 34 5,
  S7 4 34])
 (.rt))))
def fn41:Fn:={ n:=35,np:=2,res:=[.t 4],body:=c41 }
theorem e41:F 41=some fn41:=by kernel_rfl
def b42_0:C :=
 .sq (.sq (.rg [S7 41 5,
  S8 42 5 2,
  S6 43 42,
  S1 44 (.len (.t 43)),
  S1 45 (.bin .lss (.t 41) (.t 44))])
 (.cd (.t 45)
  (.sk)
  (.ex 0)))
 (.sq (.bk 1 (.sq (.rg [S8 48 5 2,
  S7 50 5,
  S8 53 5 3,
  S7 55 5,
  S6 49 48,
  S1 51 (.ixp 8 (.t 49) (.t 50)),
  S2 52 (.ld 8 true (.t 51)),
  S6 54 53,
  S1 56 (.ixp 8 (.t 54) (.t 55)),
  S2 57 (.ld 8 true (.t 56)),
  S2 58 (.pc 42 [(.t 52),(.t 57)]),
  S1 59 (.un .not (.t 58))])
 (.cd (.t 59)
  (.sq (.rg [S1 4 (.mov (.k (.bo false)))])
   (.rt))
  (.sk))))
 (.rg [S7 46 5,
  S1 47 (.bin .add (.t 46) (.k (.i .i64 1))),
  S7 5 47]))
def c42:C :=
 .sq (.rg [S2 2 (.box (.t 0)),
  S2 3 (.box (.t 1)),
  S1 4 (.mov (.k (.bo false)))])
 (.sq (.sq (.rg [S8 6 0 2,
  S6 7 6,
  S8 8 0 3,
  S6 9 8,
  S1 10 (.bin .neq (.t 7) (.t 9)),
  S7 11 10,
  S5 12 11 false (.adr 1 (.t 2)),
  S4 13 11 false (.ld 4 true (.t 12)),
  S5 14 11 false (.adr 1 (.t 3)),
  S4 15 11 false (.ld 4 true (.t 14)),
  S5 16 11 false (.eqp true true [.i .u64,.i .u64,.i .u64,.i .u64] (.t 13) (.t 15)),
  S1 17 (.pick (.t 11) (.k (.bo true)) (.t 16)),
  S7 18 17,
  S5 19 18 false (.adr 6 (.t 2)),
  S4 20 18 false (.ld 1 false (.t 19)),
  S5 21 18 false (.adr 6 (.t 3)),
  S4 22 18 false (.ld 1 false (.t 21)),
  S5 23 18 false (.bin .neq (.t 20) (.t 22)),
  S1 24 (.pick (.t 18) (.k (.bo true)) (.t 23)),
  S7 25 24,
  S5 26 25 false (.adr 7 (.t 2)),
  S4 27 25 false (.ld 1 false (.t 26)),
  S5 28 25 false (.adr 7 (.t 3)),
  S4 29 25 false (.ld 1 false (.t 28)),
  S5 30 25 false (.bin .neq (.t 27) (.t 29)),
  S1 31 (.pick (.t 25) (.k (.bo true)) (.t 30)),
  S7 32 31,
  S5 33 32 false (.adr 5 (.t 2)),
  S4 34 32 false (.ld 1 false (.t 33)),
  S5 35 32 false (.len (.t 34)),
  S5 36 32 false (.adr 5 (.t 3)),
  S4 37 32 false (.ld 1 false (.t 36)),
  S5 38 32 false (.len (.t 37)),
  S5 39 32 false (.bin .neq (.t 35) (.t 38)),
  S1 40 (.pick (.t 32) (.k (.bo true)) (.t 39))])
 (.cd (.t 40)
  (.sq (.rg [S1 4 (.mov (.k (.bo false)))])
   (.rt))
  (.sk)))
 (.sq (.sq (.rg [S1 5 (.mov (.k (.i .i64 0)))])
 (.bk 0 (.lp b42_0)))
 (.sq (.rg [S1 4 (.mov (.k (.bo true)))])
 (.rt))))
def fn42:Fn:={ n:=60,np:=2,res:=[.t 4],body:=c42 }
theorem e42:F 42=some fn42:=by kernel_rfl
end Go.Proofs.Ytgiedknghbpdfaa
