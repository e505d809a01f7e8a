import Derived.Test.YtpkmfoinpdnifaaDoorBs

namespace Go.Proofs.YtpkmfoinpdnifaaDoor
set_option linter.all false
def imL:List (Nat × Nat × Nat):=[(16,(5,3)),(16,(7,2)),(16,(20,1)),(22,(5,2)),(23,(8,4)),(23,(10,4)),(23,(12,3)),(32,(3,6)),(32,(6,1)),(32,(11,3)),(36,(5,3)),(36,(6,6)),(36,(8,5)),(36,(10,5)),(37,(5,3)),(37,(6,5)),(37,(7,5)),(38,(5,6)),(38,(7,7)),(48,(12,5)),(48,(12,6)),(53,(9,1)),(80,(6,4)),(32,(6,7)),(28,(16,8)),(28,(15,2)),(17,(1,1)),(3,(7,2)),(4,(6,1)),(4,(13,19)),(5,(2,6)),(9,(8,10)),(8,(14,3)),(13,(5,5)),(14,(6,2))]
def im (f r i:Nat):Bool:=imL.contains (f,r,i)
noncomputable def F:En:=enOf Tryd.prog im bsL Bas
abbrev S1 (d:Nat) (q:Q):Stp:=⟨some d,none,.q q,[]⟩
abbrev S2 (d:Nat) (i:I):Stp:=⟨some d,none,i,[]⟩
abbrev S3 (i:I):Stp:=⟨none,none,i,[]⟩
abbrev S4 (d t:Nat) (p:Bool) (i:I):Stp:=⟨some d,some (t,p),i,[]⟩
abbrev S5 (d t:Nat) (p:Bool) (q:Q):Stp:=⟨some d,some (t,p),.q q,[]⟩
abbrev S6 (d x:Nat):Stp:=⟨some d,none,.ld 1 false (.t x),[]⟩
abbrev S7 (d x:Nat):Stp:=⟨some d,none,.q (.mov (.t x)),[]⟩
abbrev S8 (d a x:Nat):Stp:=⟨some d,none,.q (.adr a (.t x)),[]⟩
def b3_0:C :=
 .sq (.sq (.rg [S7 52 12,
  S7 53 11,
  S1 54 (.len (.t 53)),
  S1 55 (.bin .lss (.t 52) (.t 54))])
 (.cd (.t 55)
  (.sk)
  (.ex 0)))
 (.sq (.bk 1 (.sq (.rg [S2 59 (.ld 257 true (.t 10)),
  S7 60 12,
  S2 61 (.pc 10 [(.t 59),(.t 60)]),
  S7 58 61,
  S1 62 (.ext (.t 58) 0),
  S1 63 (.ext (.t 58) 1),
  S7 13 62,
  S7 14 63])
 (.sq (.rg [S8 64 0 10,
  S7 66 12,
  S7 69 11,
  S7 70 12,
  S1 71 (.ixp 4 (.t 69) (.t 70)),
  S6 65 64,
  S1 67 (.ixp 4 (.t 65) (.t 66)),
  S2 68 (.ld 4 true (.t 67)),
  S2 72 (.ld 4 true (.t 71)),
  S1 73 (.eqp true true [.i .u64,.i .u64,.i .u64,.i .u64] (.t 68) (.t 72)),
  S7 74 73,
  S5 75 74 false (.mov (.t 14)),
  S5 76 74 false (.un .not (.t 75)),
  S1 77 (.pick (.t 74) (.k (.bo true)) (.t 76)),
  S7 78 77,
  S5 79 78 false (.mov (.t 11)),
  S5 80 78 false (.mov (.t 12)),
  S5 81 78 false (.ixp 4 (.t 79) (.t 80)),
  S5 83 78 false (.mov (.t 13)),
  S5 84 78 false (.cv .i64 (.t 83)),
  S4 82 78 false (.ld 4 true (.t 81)),
  S4 85 78 false (.pc 11 [(.t 82),(.t 84)]),
  S5 86 78 false (.un .not (.t 85)),
  S1 87 (.pick (.t 78) (.k (.bo true)) (.t 86)),
  S7 88 87,
  S5 89 88 false (.mov (.t 9)),
  S5 90 88 false (.mov (.t 13)),
  S5 91 88 false (.cv .i64 (.t 90)),
  S5 93 88 false (.mov (.t 13)),
  S5 94 88 false (.cv .i64 (.t 93)),
  S4 92 88 false (.pc 12 [(.t 89),(.t 91)]),
  S5 95 88 false (.bin .neq (.t 92) (.t 94)),
  S1 96 (.pick (.t 88) (.k (.bo true)) (.t 95))])
 (.cd (.t 96)
  (.sq (.rg [S1 4 (.mov (.k (.bo false)))])
   (.rt))
  (.sk)))))
 (.rg [S7 56 12,
  S1 57 (.bin .add (.t 56) (.k (.i .i64 1))),
  S7 12 57]))
def b3_1:C :=
 .sq (.sq (.rg [S7 97 15,
  S1 98 (.bin .lss (.t 97) (.k (.i .i64 256)))])
 (.cd (.t 98)
  (.sk)
  (.ex 2)))
 (.sq (.bk 3 (.sq (.rg [S7 101 15,
  S8 102 1 10,
  S1 103 (.ixq 256 1 (.t 102) (.t 101)),
  S6 104 103,
  S1 105 (.bin .lss (.t 104) (.k (.i .i64 0))),
  S7 106 105,
  S5 107 106 false (.mov (.t 15)),
  S5 108 106 false (.adr 1 (.t 10)),
  S5 109 106 false (.ixq 256 1 (.t 108) (.t 107)),
  S4 110 106 false (.ld 1 false (.t 109)),
  S5 111 106 false (.mov (.t 11)),
  S5 112 106 false (.len (.t 111)),
  S5 113 106 false (.bin .geq (.t 110) (.t 112)),
  S1 114 (.pick (.t 106) (.k (.bo true)) (.t 113)),
  S7 115 114,
  S5 116 115 false (.mov (.t 11)),
  S5 117 115 false (.mov (.t 15)),
  S5 118 115 false (.adr 1 (.t 10)),
  S5 119 115 false (.ixq 256 1 (.t 118) (.t 117)),
  S4 120 115 false (.ld 1 false (.t 119)),
  S5 121 115 false (.ixp 4 (.t 116) (.t 120)),
  S4 122 115 false (.ld 4 true (.t 121)),
  S5 123 115 false (.mov (.t 15)),
  S4 124 115 false (.pc 11 [(.t 122),(.t 123)]),
  S5 125 115 false (.un .not (.t 124)),
  S1 126 (.pick (.t 115) (.k (.bo true)) (.t 125))])
 (.cd (.t 126)
  (.sq (.rg [S1 4 (.mov (.k (.bo false)))])
   (.rt))
  (.sk))))
 (.rg [S7 99 15,
  S1 100 (.bin .add (.t 99) (.k (.i .i64 1))),
  S7 15 100]))
def c3:C :=
 .sq (.rg [S2 2 (.box (.t 0)),
  S2 3 (.box (.t 1)),
  S1 4 (.mov (.k (.bo false)))])
 (.sq (.sq (.rg [S2 20 (.pc 5 []),
  S1 21 (.un .not (.t 20))])
 (.cd (.t 21)
  (.sq (.rg [S1 4 (.mov (.k (.bo false)))])
   (.rt))
  (.sk)))
 (.sq (.rg [S2 23 (.ld 8 true (.t 2)),
  S2 24 (.pc 6 [(.t 23)]),
  S7 22 24,
  S1 25 (.ext (.t 22) 0),
  S1 26 (.ext (.t 22) 1),
  S2 5 (.alc [.i .i64 0,.i .u64 0,.i .u64 0,.i .u64 0,.i .u64 0,.nil,.i .i64 0,.i .i64 0,.nil,.nil,.nil,.nil,.nil,.nil,.bo false]),
  S3 (.sto 15 (.t 5) (.t 25)),
  S7 6 26])
 (.sq (.rg [S2 28 (.ld 8 true (.t 3)),
  S2 29 (.pc 6 [(.t 28)]),
  S7 27 29,
  S1 30 (.ext (.t 27) 0),
  S1 31 (.ext (.t 27) 1),
  S2 7 (.alc [.i .i64 0,.i .u64 0,.i .u64 0,.i .u64 0,.i .u64 0,.nil,.i .i64 0,.i .i64 0,.nil,.nil,.nil,.nil,.nil,.nil,.bo false]),
  S3 (.sto 15 (.t 7) (.t 30)),
  S7 8 31])
 (.sq (.sq (.rg [S7 32 6,
  S1 33 (.un .not (.t 32)),
  S7 34 33,
  S5 35 34 false (.mov (.t 8)),
  S5 36 34 false (.un .not (.t 35)),
  S1 37 (.pick (.t 34) (.k (.bo true)) (.t 36))])
 (.cd (.t 37)
  (.sq (.rg [S1 4 (.mov (.k (.bo true)))])
   (.rt))
  (.sk)))
 (.sq (.rg [S2 38 (.ld 15 true (.t 5)),
  S2 39 (.ld 15 true (.t 7)),
  S1 40 (.lit 15 2 [.i .i64 0,.i .u64 0,.i .u64 0,.i .u64 0,.i .u64 0,.nil,.i .i64 0,.i .i64 0,.nil,.nil,.nil,.nil,.nil,.nil,.bo false] [(0,(.t 38)),(1,(.t 39))]),
  S7 9 40])
 (.sq (.rg [S7 41 9,
  S2 42 (.pc 7 [(.t 41)]),
  S2 10 (.alc (.nil::(rp 256 (.i .i64 0)))),
  S3 (.sto 257 (.t 10) (.t 42))])
 (.sq (.rg [S7 43 9,
  S2 44 (.pc 9 [(.t 43)]),
  S2 45 (.pc 8 [(.t 44)]),
  S7 11 45])
 (.sq (.sq (.rg [S8 46 0 10,
  S6 47 46,
  S1 48 (.len (.t 47)),
  S7 49 11,
  S1 50 (.len (.t 49)),
  S1 51 (.bin .neq (.t 48) (.t 50))])
 (.cd (.t 51)
  (.sq (.rg [S1 4 (.mov (.k (.bo false)))])
   (.rt))
  (.sk)))
 (.sq (.sq (.rg [S1 12 (.mov (.k (.i .i64 0)))])
 (.bk 0 (.lp b3_0)))
 (.sq (.sq (.rg [S1 15 (.mov (.k (.i .i64 0)))])
 (.bk 2 (.lp b3_1)))
 (.sq (.rg [S2 128 (.ld 257 true (.t 10)),
  S2 129 (.pc 10 [(.t 128),(.k (.i .i64 (-1)))]),
  S7 127 129,
  S1 130 (.ext (.t 127) 0),
  S1 131 (.ext (.t 127) 1),
  S7 16 130,
  S7 17 131])
 (.sq (.rg [S2 133 (.ld 257 true (.t 10)),
  S7 134 11,
  S1 135 (.len (.t 134)),
  S2 136 (.pc 10 [(.t 133),(.t 135)]),
  S7 132 136,
  S1 137 (.ext (.t 132) 0),
  S1 138 (.ext (.t 132) 1),
  S7 18 137,
  S7 19 138])
 (.sq (.rg [S7 139 17,
  S1 140 (.un .not (.t 139)),
  S7 141 140,
  S5 142 141 true (.mov (.t 19)),
  S5 143 141 true (.un .not (.t 142)),
  S1 144 (.pick (.t 141) (.t 143) (.k (.bo false))),
  S7 4 144])
 (.rt))))))))))))))
def fn3:Fn:={ n:=145,np:=2,res:=[.t 4],body:=c3 }
theorem e3:F 3=some fn3:=by kernel_rfl
def b4_0:C :=
 .sq (.sq (.rg [S7 47 10,
  S7 48 1,
  S1 49 (.len (.t 48)),
  S1 50 (.bin .lss (.t 47) (.t 49))])
 (.cd (.t 50)
  (.sk)
  (.ex 0)))
 (.sq (.bk 1 (.sq (.rg [S7 53 8,
  S7 54 10,
  S1 55 (.ixp 1 (.t 53) (.t 54)),
  S7 57 1,
  S7 58 10,
  S1 59 (.ixp 1 (.t 57) (.t 58)),
  S8 61 1 7,
  S6 56 55,
  S6 60 59,
  S1 62 (.ixq 256 1 (.t 61) (.t 60)),
  S6 63 62,
  S1 64 (.bin .neq (.t 56) (.t 63)),
  S7 65 64,
  S5 66 65 false (.mov (.t 9)),
  S5 67 65 false (.mov (.t 10)),
  S5 68 65 false (.ixp 1 (.t 66) (.t 67)),
  S5 73 65 false (.mov (.t 1)),
  S5 74 65 false (.mov (.t 10)),
  S5 75 65 false (.ixp 1 (.t 73) (.t 74)),
  S4 69 65 false (.ld 1 false (.t 68)),
  S5 70 65 false (.cv .i64 (.t 69)),
  S4 71 65 false (.ld 15 true (.t 5)),
  S5 72 65 false (.lit 15 1 [.i .i64 0,.i .u64 0,.i .u64 0,.i .u64 0,.i .u64 0,.nil,.i .i64 0,.i .i64 0,.nil,.nil,.nil,.nil,.nil,.nil,.bo false] [(0,(.t 71))]),
  S4 76 65 false (.ld 1 false (.t 75)),
  S5 77 65 false (.cv .i64 (.t 76)),
  S4 78 65 false (.pc 12 [(.t 72),(.t 77)]),
  S5 79 65 false (.bin .neq (.t 70) (.t 78)),
  S1 80 (.pick (.t 65) (.k (.bo true)) (.t 79))])
 (.cd (.t 80)
  (.sq (.rg [S1 4 (.mov (.k (.bo false)))])
   (.rt))
  (.sk))))
 (.rg [S7 51 10,
  S1 52 (.bin .add (.t 51) (.k (.i .i64 1))),
  S7 10 52]))
def c4:C :=
 .sq (.rg [S2 2 (.box (.t 0)),
  S1 4 (.mov (.k (.bo false)))])
 (.sq (.sq (.rg [S2 11 (.pc 5 []),
  S1 12 (.un .not (.t 11)),
  S7 13 12,
  S5 14 13 false (.mov (.t 1)),
  S5 15 13 false (.len (.t 14)),
  S5 16 13 false (.bin .gtr (.t 15) (.k (.i .i64 300))),
  S1 17 (.pick (.t 13) (.k (.bo true)) (.t 16))])
 (.cd (.t 17)
  (.sq (.rg [S2 18 (.pc 5 []),
    S7 4 18])
   (.rt))
  (.sk)))
 (.sq (.rg [S2 20 (.ld 8 true (.t 2)),
  S2 21 (.pc 6 [(.t 20)]),
  S7 19 21,
  S1 22 (.ext (.t 19) 0),
  S1 23 (.ext (.t 19) 1),
  S2 5 (.alc [.i .i64 0,.i .u64 0,.i .u64 0,.i .u64 0,.i .u64 0,.nil,.i .i64 0,.i .i64 0,.nil,.nil,.nil,.nil,.nil,.nil,.bo false]),
  S3 (.sto 15 (.t 5) (.t 22)),
  S7 6 23])
 (.sq (.sq (.rg [S7 24 6,
  S1 25 (.un .not (.t 24))])
 (.cd (.t 25)
  (.sq (.rg [S1 4 (.mov (.k (.bo true)))])
   (.rt))
  (.sk)))
 (.sq (.rg [S2 26 (.ld 15 true (.t 5)),
  S1 27 (.lit 15 1 [.i .i64 0,.i .u64 0,.i .u64 0,.i .u64 0,.i .u64 0,.nil,.i .i64 0,.i .i64 0,.nil,.nil,.nil,.nil,.nil,.nil,.bo false] [(0,(.t 26))]),
  S2 28 (.pc 7 [(.t 27)]),
  S2 7 (.alc (.nil::(rp 256 (.i .i64 0)))),
  S3 (.sto 257 (.t 7) (.t 28))])
 (.sq (.rg [S7 30 1,
  S7 33 1,
  S2 29 (.ld 257 true (.t 7)),
  S2 32 (.ld 257 true (.t 7)),
  S2 31 (.pc 13 [(.t 29),(.t 30)]),
  S2 34 (.pc 14 [(.t 32),(.t 33)]),
  S7 8 31,
  S7 9 34])
 (.sq (.sq (.rg [S7 35 8,
  S1 36 (.len (.t 35)),
  S7 37 1,
  S1 38 (.len (.t 37)),
  S1 39 (.bin .neq (.t 36) (.t 38)),
  S7 40 39,
  S5 41 40 false (.mov (.t 9)),
  S5 42 40 false (.len (.t 41)),
  S5 43 40 false (.mov (.t 1)),
  S5 44 40 false (.len (.t 43)),
  S5 45 40 false (.bin .neq (.t 42) (.t 44)),
  S1 46 (.pick (.t 40) (.k (.bo true)) (.t 45))])
 (.cd (.t 46)
  (.sq (.rg [S1 4 (.mov (.k (.bo false)))])
   (.rt))
  (.sk)))
 (.sq (.sq (.rg [S1 10 (.mov (.k (.i .i64 0)))])
 (.bk 0 (.lp b4_0)))
 (.sq (.rg [S1 4 (.mov (.k (.bo true)))])
 (.rt)))))))))
def fn4:Fn:={ n:=81,np:=2,res:=[.t 4],body:=c4 }
theorem e4:F 4=some fn4:=by kernel_rfl
def c5:C :=
 .sq (.rg [S1 0 (.mov (.k (.bo false)))])
 (.sq (.rg [S2 2 (.pc 7 [(.k (.nil))]),
  S2 1 (.alc (.nil::(rp 256 (.i .i64 0)))),
  S3 (.sto 257 (.t 1) (.t 2))])
 (.sq (.rg [S8 3 0 1,
  S6 4 3,
  S1 5 (.len (.t 4)),
  S1 6 (.bin .eql (.t 5) (.k (.i .i64 1))),
  S7 7 6,
  S4 8 7 true (.ld 257 true (.t 1)),
  S5 9 7 true (.lit 1 1 [.i .u8 0] [(0,(.k (.i .u8 3)))]),
  S4 10 7 true (.pc 13 [(.t 8),(.t 9)]),
  S5 11 7 true (.len (.t 10)),
  S5 12 7 true (.bin .eql (.t 11) (.k (.i .i64 1))),
  S1 13 (.pick (.t 7) (.t 12) (.k (.bo false))),
  S7 0 13])
 (.rt)))
def fn5:Fn:={ n:=14,np:=0,res:=[.t 0],body:=c5 }
theorem e5:F 5=some fn5:=by kernel_rfl
def b7_0:C :=
 .sq (.rg [S1 13 (.bin .lss (.t 12) (.t 11))])
 (.sq (.cd (.t 13)
  (.sk)
  (.ex 0))
 (.sq (.bk 1 (.sq (.rg [S1 14 (.ixp 15 (.t 10) (.t 12)),
  S2 15 (.ld 15 true (.t 14)),
  S2 5 (.alc [.i .i64 0,.i .u64 0,.i .u64 0,.i .u64 0,.i .u64 0,.nil,.i .i64 0,.i .i64 0,.nil,.nil,.nil,.nil,.nil,.nil,.bo false]),
  S3 (.sto 15 (.t 5) (.t 15))])
 (.sq (.rg [S8 16 0 5,
  S8 17 8 16,
  S6 18 17,
  S1 19 (.len (.t 18)),
  S1 20 (.bin .gtr (.t 19) (.k (.i .i64 0)))])
 (.cd (.t 20)
  (.rg [S7 21 3,
    S8 22 0 5,
    S8 23 8 22,
    S6 24 23,
    S1 25 (.slc 4 (.t 24) (some (.k (.i .i64 1))) none none),
    S2 26 (.app 4 32 (.t 21) (.t 25)),
    S7 3 26])
  (.sk)))))
 (.rg [S1 27 (.bin .add (.t 12) (.k (.i .i64 1))),
  S7 12 27])))
def b7_1:C :=
 .sq (.rg [S1 40 (.bin .lss (.t 39) (.k (.i .i64 256)))])
 (.sq (.cd (.t 40)
  (.sk)
  (.ex 4))
 (.sq (.bk 5 (.sq (.rg [S7 41 39,
  S7 9 41])
 (.sq (.rg [S2 42 (.ld 4 true (.t 8)),
  S7 43 9,
  S1 44 (.cv .u8 (.t 43)),
  S2 45 (.pc 18 [(.t 42),(.t 44)])])
 (.cd (.t 45)
  (.rg [S7 46 9,
    S7 47 7,
    S8 48 1 6,
    S1 49 (.ixq 256 1 (.t 48) (.t 46)),
    S3 (.sto 1 (.t 49) (.t 47))])
  (.sk)))))
 (.rg [S1 50 (.bin .add (.t 39) (.k (.i .i64 1))),
  S7 39 50])))
def b7_2:C :=
 .sq (.rg [S1 35 (.bin .lss (.t 34) (.t 33))])
 (.sq (.cd (.t 35)
  (.sk)
  (.ex 2))
 (.sq (.bk 3 (.sq (.rg [S7 36 34,
  S1 37 (.ixp 4 (.t 32) (.t 34)),
  S2 38 (.ld 4 true (.t 37)),
  S2 8 (.alc [.i .u64 0,.i .u64 0,.i .u64 0,.i .u64 0]),
  S7 7 36,
  S3 (.sto 4 (.t 8) (.t 38))])
 (.sq (.rg [S1 39 (.mov (.k (.i .i64 0)))])
 (.bk 4 (.lp b7_1)))))
 (.rg [S1 51 (.bin .add (.t 34) (.k (.i .i64 1))),
  S7 34 51])))
def c7:C :=
 .sq (.rg [S2 2 (.alc (.nil::(rp 256 (.i .i64 0))))])
 (.sq (.rg [S1 3 (.mov (.k (.nil)))])
 (.sq (.sq (.rg [S7 10 0,
  S1 11 (.len (.t 10)),
  S1 12 (.mov (.k (.i .i64 0)))])
 (.bk 0 (.lp b7_0)))
 (.sq (.rg [S7 28 3,
  S2 29 (.pc 17 [(.t 28)]),
  S1 30 (.bld (.nil::(rp 256 (.i .i64 0))) [(0,1,(.t 29))]),
  S2 6 (.alc (.nil::(rp 256 (.i .i64 0)))),
  S3 (.sto 257 (.t 6) (.t 30))])
 (.sq (.sq (.rg [S8 31 0 6,
  S6 32 31,
  S1 33 (.len (.t 32)),
  S1 34 (.mov (.k (.i .i64 0)))])
 (.bk 2 (.lp b7_2)))
 (.sq (.rg [S2 52 (.ld 257 true (.t 6)),
  S3 (.sto 257 (.t 2) (.t 52))])
 (.rt))))))
def fn7:Fn:={ n:=53,np:=1,res:=[.c 2 257 true],body:=c7 }
theorem e7:F 7=some fn7:=by kernel_rfl
def b8_0:C :=
 .sq (.sq (.rg [S7 16 7,
  S1 17 (.bin .lss (.t 16) (.k (.i .i64 256)))])
 (.cd (.t 17)
  (.sk)
  (.ex 2)))
 (.sq (.bk 3 (.sq (.rg [S7 20 0,
  S7 21 5,
  S7 22 7,
  S2 23 (.pc 19 [(.t 20),(.t 21),(.t 22)])])
 (.cd (.t 23)
  (.sq (.rg [S7 24 7,
    S1 25 (.ixq 256 1 (.t 6) (.t 24)),
    S3 (.sto 1 (.t 25) (.k (.bo true)))])
   (.rg [S7 26 7,
    S1 27 (.ixq 256 1 (.t 4) (.t 26)),
    S3 (.sto 1 (.t 27) (.k (.bo true)))]))
  (.sk))))
 (.rg [S7 18 7,
  S1 19 (.bin .add (.t 18) (.k (.i .i64 1))),
  S7 7 19]))
def b8_1:C :=
 .sq (.sq (.rg [S7 8 5,
  S1 9 (.bin .lss (.t 8) (.k (.i .i64 256)))])
 (.cd (.t 9)
  (.sk)
  (.ex 0)))
 (.sq (.bk 1 (.sq (.sq (.rg [S7 12 5,
  S1 13 (.ixq 256 1 (.t 4) (.t 12)),
  S6 14 13])
 (.cd (.t 14)
  (.ex 1)
  (.sk)))
 (.sq (.rg [S2 6 (.alc (rp 256 (.bo false)))])
 (.sq (.sq (.rg [S7 15 5,
  S7 7 15])
 (.bk 2 (.lp b8_0)))
 (.rg [S7 28 3,
  S2 29 (.ld 256 true (.t 6)),
  S2 30 (.pc 20 [(.t 29)]),
  S1 31 (.lit 4 1 [.i .u64 0,.i .u64 0,.i .u64 0,.i .u64 0] [(0,(.t 30))]),
  S2 32 (.app 4 32 (.t 28) (.t 31)),
  S7 3 32])))))
 (.rg [S7 10 5,
  S1 11 (.bin .add (.t 10) (.k (.i .i64 1))),
  S7 5 11]))
def c8:C :=
 .sq (.rg [S1 2 (.mov (.k (.nil)))])
 (.sq (.rg [S1 3 (.mov (.k (.nil)))])
 (.sq (.rg [S2 4 (.alc (rp 256 (.bo false)))])
 (.sq (.sq (.rg [S1 5 (.mov (.k (.i .i64 0)))])
 (.bk 0 (.lp b8_1)))
 (.sq (.rg [S7 33 3,
  S7 2 33])
 (.rt)))))
def fn8:Fn:={ n:=34,np:=1,res:=[.t 2],body:=c8 }
theorem e8:F 8=some fn8:=by kernel_rfl
def b9_0:C :=
 .sq (.sq (.rg [S7 12 5,
  S7 13 0,
  S7 14 4,
  S1 15 (.ixp 15 (.t 13) (.t 14)),
  S8 16 0 15,
  S8 17 8 16,
  S6 18 17,
  S1 19 (.len (.t 18)),
  S1 20 (.bin .lss (.t 12) (.t 19))])
 (.cd (.t 20)
  (.sk)
  (.ex 2)))
 (.sq (.bk 3 (.rg [S7 23 3,
  S7 24 0,
  S7 25 4,
  S1 26 (.ixp 15 (.t 24) (.t 25)),
  S8 27 0 26,
  S8 28 8 27,
  S6 29 28,
  S7 30 5,
  S1 31 (.ixp 4 (.t 29) (.t 30)),
  S2 32 (.ld 4 true (.t 31)),
  S1 33 (.lit 4 1 [.i .u64 0,.i .u64 0,.i .u64 0,.i .u64 0] [(0,(.t 32))]),
  S2 34 (.app 4 32 (.t 23) (.t 33)),
  S7 3 34]))
 (.rg [S7 21 5,
  S1 22 (.bin .add (.t 21) (.k (.i .i64 1))),
  S7 5 22]))
def b9_1:C :=
 .sq (.sq (.rg [S7 6 4,
  S7 7 0,
  S1 8 (.len (.t 7)),
  S1 9 (.bin .lss (.t 6) (.t 8))])
 (.cd (.t 9)
  (.sk)
  (.ex 0)))
 (.sq (.bk 1 (.sq (.rg [S1 5 (.mov (.k (.i .i64 1)))])
 (.bk 2 (.lp b9_0))))
 (.rg [S7 10 4,
  S1 11 (.bin .add (.t 10) (.k (.i .i64 1))),
  S7 4 11]))
def c9:C :=
 .sq (.rg [S1 2 (.mov (.k (.nil)))])
 (.sq (.rg [S1 3 (.mov (.k (.nil)))])
 (.sq (.sq (.rg [S1 4 (.mov (.k (.i .i64 0)))])
 (.bk 0 (.lp b9_1)))
 (.sq (.rg [S7 35 3,
  S7 2 35])
 (.rt))))
def fn9:Fn:={ n:=36,np:=1,res:=[.t 2],body:=c9 }
theorem e9:F 9=some fn9:=by kernel_rfl
def c10:C :=
 .sq (.rg [S2 2 (.box (.t 0)),
  S1 4 (.mov (.k (.i .u8 0))),
  S1 5 (.mov (.k (.bo false)))])
 (.sq (.sq (.rg [S7 6 1,
  S1 7 (.bin .lss (.t 6) (.k (.i .i64 0))),
  S7 8 7,
  S5 9 8 false (.mov (.t 1)),
  S5 10 8 false (.adr 0 (.t 2)),
  S4 11 8 false (.ld 1 false (.t 10)),
  S5 12 8 false (.len (.t 11)),
  S5 13 8 false (.bin .geq (.t 9) (.t 12)),
  S1 14 (.pick (.t 8) (.k (.bo true)) (.t 13))])
 (.cd (.t 14)
  (.sq (.rg [S1 4 (.mov (.k (.i .u8 0))),
    S1 5 (.mov (.k (.bo false)))])
   (.rt))
  (.sk)))
 (.sq (.rg [S8 15 0 2,
  S6 16 15,
  S7 17 1,
  S1 18 (.ixp 4 (.t 16) (.t 17)),
  S2 19 (.ld 4 true (.t 18)),
  S2 20 (.pc 21 [(.t 19)]),
  S1 21 (.ext (.t 20) 0),
  S1 22 (.ext (.t 20) 1),
  S7 4 21,
  S7 5 22])
 (.rt)))
def fn10:Fn:={ n:=23,np:=2,res:=[.t 4,.t 5],body:=c10 }
theorem e10:F 10=some fn10:=by kernel_rfl
def b12_0:C :=
 .sq (.sq (.rg [S7 9 6,
  S7 10 1,
  S1 11 (.bin .lss (.t 9) (.t 10))])
 (.cd (.t 11)
  (.sk)
  (.ex 0)))
 (.sq (.bk 1 (.sq (.rg [S7 14 5,
  S7 15 6,
  S7 16 1,
  S2 17 (.pc 19 [(.t 14),(.t 15),(.t 16)])])
 (.cd (.t 17)
  (.sq (.rg [S7 18 6,
    S7 4 18])
   (.rt))
  (.sk))))
 (.rg [S7 12 6,
  S1 13 (.bin .add (.t 12) (.k (.i .i64 1))),
  S7 6 13]))
def c12:C :=
 .sq (.rg [S1 4 (.mov (.k (.i .i64 0)))])
 (.sq (.rg [S7 7 0,
  S2 8 (.pc 9 [(.t 7)]),
  S7 5 8])
 (.sq (.sq (.rg [S1 6 (.mov (.k (.i .i64 0)))])
 (.bk 0 (.lp b12_0)))
 (.sq (.rg [S7 19 1,
  S7 4 19])
 (.rt))))
def fn12:Fn:={ n:=20,np:=2,res:=[.t 4],body:=c12 }
theorem e12:F 12=some fn12:=by kernel_rfl
def b13_0:C :=
 .sq (.rg [S1 11 (.bin .lss (.t 10) (.t 9))])
 (.sq (.cd (.t 11)
  (.sk)
  (.ex 0))
 (.sq (.bk 1 (.sq (.rg [S1 12 (.ixp 1 (.t 8) (.t 10)),
  S6 13 12,
  S7 7 13])
 (.rg [S7 14 5,
  S7 15 7,
  S8 16 1 2,
  S1 17 (.ixq 256 1 (.t 16) (.t 15)),
  S6 18 17,
  S1 19 (.lit 1 1 [.i .i64 0] [(0,(.t 18))]),
  S2 20 (.app 1 8 (.t 14) (.t 19)),
  S7 5 20])))
 (.rg [S1 21 (.bin .add (.t 10) (.k (.i .i64 1))),
  S7 10 21])))
def c13:C :=
 .sq (.rg [S2 2 (.box (.t 0)),
  S1 4 (.mov (.k (.nil)))])
 (.sq (.rg [S1 5 (.mov (.k (.nil)))])
 (.sq (.sq (.rg [S7 8 1,
  S1 9 (.len (.t 8)),
  S1 10 (.mov (.k (.i .i64 0)))])
 (.bk 0 (.lp b13_0)))
 (.sq (.rg [S7 22 5,
  S7 4 22])
 (.rt))))
def fn13:Fn:={ n:=23,np:=2,res:=[.t 4],body:=c13 }
theorem e13:F 13=some fn13:=by kernel_rfl
def b14_0:C :=
 .sq (.rg [S1 15 (.bin .lss (.t 14) (.t 13))])
 (.sq (.cd (.t 15)
  (.sk)
  (.ex 0))
 (.sq (.bk 1 (.sq (.rg [S1 16 (.ixp 1 (.t 12) (.t 14)),
  S6 17 16,
  S7 7 17])
 (.sq (.rg [S2 19 (.ld 257 true (.t 2)),
  S7 20 7,
  S2 21 (.pc 10 [(.t 19),(.t 20)]),
  S7 18 21,
  S1 22 (.ext (.t 18) 0),
  S1 23 (.ext (.t 18) 1),
  S7 8 22,
  S7 9 23])
 (.rg [S7 24 5,
  S7 25 8,
  S1 26 (.lit 1 1 [.i .u8 0] [(0,(.t 25))]),
  S2 27 (.app 1 1 (.t 24) (.t 26)),
  S7 5 27]))))
 (.rg [S1 28 (.bin .add (.t 14) (.k (.i .i64 1))),
  S7 14 28])))
def c14:C :=
 .sq (.rg [S2 2 (.box (.t 0)),
  S1 4 (.mov (.k (.nil)))])
 (.sq (.rg [S1 5 (.mov (.k (.nil)))])
 (.sq (.sq (.rg [S2 10 (.ld 257 true (.t 2)),
  S7 11 1,
  S2 12 (.pc 13 [(.t 10),(.t 11)]),
  S1 13 (.len (.t 12)),
  S1 14 (.mov (.k (.i .i64 0)))])
 (.bk 0 (.lp b14_0)))
 (.sq (.rg [S7 29 5,
  S7 4 29])
 (.rt))))
def fn14:Fn:={ n:=30,np:=2,res:=[.t 4],body:=c14 }
theorem e14:F 14=some fn14:=by kernel_rfl
def b17_0:C :=
 .sq (.sq (.rg [S7 6 0,
  S1 7 (.len (.t 6)),
  S2 8 (.ld 1 false (.k (glV 0))),
  S1 9 (.bin .gtr (.t 7) (.t 8))])
 (.cd (.t 9)
  (.sk)
  (.ex 0)))
 (.bk 1 (.sq (.rg [S7 10 3,
  S7 11 0,
  S2 12 (.ld 1 false (.k (glV 0))),
  S1 13 (.slc 4 (.t 11) none (some (.t 12)) none),
  S2 14 (.pc 28 [(.t 10),(.t 13)]),
  S7 3 14])
 (.rg [S7 15 0,
  S2 16 (.ld 1 false (.k (glV 0))),
  S1 17 (.slc 4 (.t 15) (some (.t 16)) none none),
  S7 0 17])))
def c17:C :=
 .sq (.rg [S1 2 (.mov (.k (.nil)))])
 (.sq (.rg [S2 4 (.pc 27 [(.k (.i .u8 0)),(.k (.i .u8 255))]),
  S1 5 (.lit 4 1 [.i .u64 0,.i .u64 0,.i .u64 0,.i .u64 0] [(0,(.t 4))]),
  S7 3 5])
 (.sq (.bk 0 (.lp b17_0))
 (.sq (.rg [S7 18 3,
  S7 19 0,
  S2 20 (.pc 28 [(.t 18),(.t 19)]),
  S7 2 20])
 (.rt))))
def fn17:Fn:={ n:=21,np:=1,res:=[.t 2],body:=c17 }
theorem e17:F 17=some fn17:=by kernel_rfl
def b19_0:C :=
 .sq (.sq (.rg [S7 8 7,
  S7 9 0,
  S1 10 (.len (.t 9)),
  S1 11 (.bin .lss (.t 8) (.t 10))])
 (.cd (.t 11)
  (.sk)
  (.ex 0)))
 (.sq (.bk 1 (.sq (.rg [S7 14 0,
  S7 15 7,
  S1 16 (.ixp 4 (.t 14) (.t 15)),
  S7 18 1,
  S7 20 0,
  S7 21 7,
  S1 22 (.ixp 4 (.t 20) (.t 21)),
  S7 24 2,
  S2 17 (.ld 4 true (.t 16)),
  S2 23 (.ld 4 true (.t 22)),
  S2 19 (.pc 11 [(.t 17),(.t 18)]),
  S2 25 (.pc 11 [(.t 23),(.t 24)]),
  S1 26 (.eqb true (.t 19) (.t 25))])
 (.cd (.t 26)
  (.sq (.rg [S1 6 (.mov (.k (.bo false)))])
   (.rt))
  (.sk))))
 (.rg [S7 12 7,
  S1 13 (.bin .add (.t 12) (.k (.i .i64 1))),
  S7 7 13]))
def c19:C :=
 .sq (.rg [S1 6 (.mov (.k (.bo false)))])
 (.sq (.sq (.rg [S1 7 (.mov (.k (.i .i64 0)))])
 (.bk 0 (.lp b19_0)))
 (.sq (.rg [S1 6 (.mov (.k (.bo true)))])
 (.rt)))
def fn19:Fn:={ n:=27,np:=3,res:=[.t 6],body:=c19 }
theorem e19:F 19=some fn19:=by kernel_rfl
def b20_0:C :=
 .sq (.sq (.rg [S7 5 4,
  S1 6 (.bin .lss (.t 5) (.k (.i .i64 256)))])
 (.cd (.t 6)
  (.sk)
  (.ex 0)))
 (.sq (.bk 1 (.sq (.rg [S7 9 4,
  S1 10 (.ixq 256 1 (.t 1) (.t 9)),
  S6 11 10])
 (.cd (.t 11)
  (.rg [S2 12 (.ld 4 true (.t 3)),
    S7 13 4,
    S2 14 (.pc 29 [(.t 12),(.t 13)]),
    S3 (.sto 4 (.t 3) (.t 14))])
  (.sk))))
 (.rg [S7 7 4,
  S1 8 (.bin .add (.t 7) (.k (.i .i64 1))),
  S7 4 8]))
def c20:C :=
 .sq (.rg [S2 1 (.box (.t 0)),
  S2 2 (.alc [.i .u64 0,.i .u64 0,.i .u64 0,.i .u64 0])])
 (.sq (.rg [S2 3 (.alc [.i .u64 0,.i .u64 0,.i .u64 0,.i .u64 0])])
 (.sq (.sq (.rg [S1 4 (.mov (.k (.i .i64 0)))])
 (.bk 0 (.lp b20_0)))
 (.sq (.rg [S2 15 (.ld 4 true (.t 3)),
  S3 (.sto 4 (.t 2) (.t 15))])
 (.rt))))
def fn20:Fn:={ n:=16,np:=1,res:=[.c 2 4 true],body:=c20 }
theorem e20:F 20=some fn20:=by kernel_rfl
def b21_0:C :=
 .sq (.rg [S1 8 (.bin .lss (.t 7) (.k (.i .i64 4)))])
 (.sq (.cd (.t 8)
  (.sk)
  (.ex 0))
 (.sq (.bk 1 (.sq (.rg [S7 9 7,
  S1 10 (.ixa 4 1 false (.t 6) (.t 7)),
  S7 4 9,
  S7 5 10])
 (.sq (.rg [S7 11 5,
  S1 12 (.bin .neq (.t 11) (.k (.i .u64 0)))])
 (.cd (.t 12)
  (.sq (.rg [S7 13 4,
    S1 14 (.bin .shl (.t 13) (.k (.i .u64 6))),
    S7 15 5,
    S2 16 (.pc 30 [(.t 15)]),
    S1 17 (.bin .add (.t 14) (.t 16)),
    S1 18 (.cv .u8 (.t 17)),
    S7 2 18,
    S1 3 (.mov (.k (.bo true)))])
   (.rt))
  (.sk)))))
 (.rg [S1 19 (.bin .add (.t 7) (.k (.i .i64 1))),
  S7 7 19])))
def c21:C :=
 .sq (.rg [S2 1 (.box (.t 0)),
  S1 2 (.mov (.k (.i .u8 0))),
  S1 3 (.mov (.k (.bo false)))])
 (.sq (.sq (.rg [S2 6 (.ld 4 true (.t 1)),
  S1 7 (.mov (.k (.i .i64 0)))])
 (.bk 0 (.lp b21_0)))
 (.sq (.rg [S1 2 (.mov (.k (.i .u8 0))),
  S1 3 (.mov (.k (.bo false)))])
 (.rt)))
def fn21:Fn:={ n:=20,np:=1,res:=[.t 2,.t 3],body:=c21 }
theorem e21:F 21=some fn21:=by kernel_rfl
def b27_0:C :=
 .sq (.sq (.rg [S7 9 6,
  S7 10 1,
  S1 11 (.cv .i64 (.t 10)),
  S1 12 (.bin .leq (.t 9) (.t 11))])
 (.cd (.t 12)
  (.sk)
  (.ex 0)))
 (.sq (.bk 1 (.rg [S7 15 6,
  S1 16 (.bin .shr (.t 15) (.k (.i .u64 6))),
  S1 17 (.ixq 4 1 (.t 5) (.t 16)),
  S7 19 6,
  S1 20 (.bin .and (.t 19) (.k (.i .i64 63))),
  S1 21 (.bin .shl (.k (.i .u64 1)) (.t 20)),
  S6 18 17,
  S1 22 (.bin .or (.t 18) (.t 21)),
  S1 23 (.ixq 4 1 (.t 5) (.t 16)),
  S3 (.sto 1 (.t 23) (.t 22))]))
 (.rg [S7 13 6,
  S1 14 (.bin .add (.t 13) (.k (.i .i64 1))),
  S7 6 14]))
def c27:C :=
 .sq (.rg [S2 4 (.alc [.i .u64 0,.i .u64 0,.i .u64 0,.i .u64 0])])
 (.sq (.rg [S2 5 (.alc [.i .u64 0,.i .u64 0,.i .u64 0,.i .u64 0])])
 (.sq (.sq (.rg [S7 7 0,
  S1 8 (.cv .i64 (.t 7)),
  S7 6 8])
 (.bk 0 (.lp b27_0)))
 (.sq (.rg [S2 24 (.ld 4 true (.t 5)),
  S3 (.sto 4 (.t 4) (.t 24))])
 (.rt))))
def fn27:Fn:={ n:=25,np:=2,res:=[.c 4 4 true],body:=c27 }
theorem e27:F 27=some fn27:=by kernel_rfl
def b28_0:C :=
 .sq (.rg [S1 21 (.bin .lss (.t 20) (.t 19))])
 (.sq (.cd (.t 21)
  (.sk)
  (.ex 2))
 (.sq (.bk 3 (.sq (.rg [S7 22 20,
  S1 23 (.ixp 4 (.t 18) (.t 20)),
  S2 24 (.ld 4 true (.t 23)),
  S2 9 (.alc [.i .u64 0,.i .u64 0,.i .u64 0,.i .u64 0]),
  S7 8 22,
  S3 (.sto 4 (.t 9) (.t 24))])
 (.sq (.sq (.rg [S2 25 (.ld 4 true (.t 9)),
  S7 26 7,
  S1 27 (.cv .u8 (.t 26)),
  S2 28 (.pc 18 [(.t 25),(.t 27)]),
  S1 29 (.un .not (.t 28))])
 (.cd (.t 29)
  (.ex 3)
  (.sk)))
 (.sq (.rg [S7 30 8,
  S7 31 1,
  S7 32 7,
  S1 33 (.cv .u8 (.t 32)),
  S2 34 (.pc 44 [(.t 31),(.t 33)]),
  S1 35 (.bld [.i .i64 0,.i .u64 0,.i .u64 0,.i .u64 0,.i .u64 0] [(0,1,(.t 30)),(1,4,(.t 34))]),
  S2 10 (.alc [.i .i64 0,.i .u64 0,.i .u64 0,.i .u64 0,.i .u64 0]),
  S3 (.sto 5 (.t 10) (.t 35))])
 (.sq (.rg [S7 37 5,
  S2 38 (.ld 5 true (.t 10)),
  S2 39 (.lkp true [.i .i64,.i .u64,.i .u64,.i .u64,.i .u64] (.i .i64 0) true (.t 37) (.t 38)),
  S7 36 39,
  S1 40 (.ext (.t 36) 0),
  S1 41 (.ext (.t 36) 1),
  S7 11 40,
  S7 12 41])
 (.sq (.sq (.rg [S7 42 12,
  S1 43 (.un .not (.t 42))])
 (.cd (.t 43)
  (.sq (.rg [S7 44 6,
    S1 45 (.len (.t 44)),
    S7 11 45])
   (.sq (.rg [S7 46 5,
    S2 47 (.ld 5 true (.t 10)),
    S7 48 11,
    S3 (.mup true [.i .i64,.i .u64,.i .u64,.i .u64,.i .u64] (.t 46) (.t 47) (.t 48))])
   (.rg [S7 49 6,
    S1 50 (.bld [.i .u64 0,.i .u64 0,.i .u64 0,.i .u64 0] []),
    S1 51 (.lit 4 1 [.i .u64 0,.i .u64 0,.i .u64 0,.i .u64 0] [(0,(.t 50))]),
    S2 52 (.app 4 32 (.t 49) (.t 51)),
    S7 6 52])))
  (.sk)))
 (.rg [S7 53 6,
  S7 54 11,
  S7 55 6,
  S7 56 11,
  S1 57 (.ixp 4 (.t 55) (.t 56)),
  S7 59 7,
  S1 60 (.cv .u8 (.t 59)),
  S1 61 (.lit 1 1 [.i .u8 0] [(0,(.t 60))]),
  S2 58 (.ld 4 true (.t 57)),
  S2 62 (.pc 46 [(.t 61)]),
  S2 63 (.pc 45 [(.t 58),(.t 62)]),
  S1 64 (.ixp 4 (.t 53) (.t 54)),
  S3 (.sto 4 (.t 64) (.t 63))])))))))
 (.rg [S1 65 (.bin .add (.t 20) (.k (.i .i64 1))),
  S7 20 65])))
def b28_1:C :=
 .sq (.rg [S1 16 (.bin .lss (.t 15) (.t 14))])
 (.sq (.cd (.t 16)
  (.sk)
  (.ex 0))
 (.sq (.bk 1 (.sq (.rg [S7 17 15,
  S7 7 17])
 (.sq (.rg [S7 18 0,
  S1 19 (.len (.t 18)),
  S1 20 (.mov (.k (.i .i64 0)))])
 (.bk 2 (.lp b28_0)))))
 (.rg [S1 66 (.bin .add (.t 15) (.k (.i .i64 1))),
  S7 15 66])))
def c28:C :=
 .sq (.rg [S1 4 (.mov (.k (.nil)))])
 (.sq (.rg [S2 13 (.mkm),
  S7 5 13])
 (.sq (.rg [S1 6 (.mov (.k (.nil)))])
 (.sq (.sq (.rg [S2 14 (.ld 1 false (.k (glV 0))),
  S1 15 (.mov (.k (.i .i64 0)))])
 (.bk 0 (.lp b28_1)))
 (.sq (.rg [S7 67 6,
  S7 4 67])
 (.rt)))))
def fn28:Fn:={ n:=68,np:=2,res:=[.t 4],body:=c28 }
theorem e28:F 28=some fn28:=by kernel_rfl
def b29_0:C :=
 .sq (.sq (.rg [S7 11 6,
  S7 12 1,
  S1 13 (.bin .rem (.t 12) (.k (.i .i64 64))),
  S1 14 (.bin .lss (.t 11) (.t 13))])
 (.cd (.t 14)
  (.sk)
  (.ex 0)))
 (.sq (.bk 1 (.rg [S7 17 5,
  S1 18 (.bin .mul (.t 17) (.k (.i .u64 2))),
  S7 5 18]))
 (.rg [S7 15 6,
  S1 16 (.bin .add (.t 15) (.k (.i .i64 1))),
  S7 6 16]))
def c29:C :=
 .sq (.rg [S2 2 (.box (.t 0)),
  S2 4 (.alc [.i .u64 0,.i .u64 0,.i .u64 0,.i .u64 0])])
 (.sq (.sq (.rg [S2 7 (.ld 4 true (.t 2)),
  S7 8 1,
  S2 9 (.pc 11 [(.t 7),(.t 8)])])
 (.cd (.t 9)
  (.sq (.rg [S2 10 (.ld 4 true (.t 2)),
    S3 (.sto 4 (.t 4) (.t 10))])
   (.rt))
  (.sk)))
 (.sq (.rg [S1 5 (.mov (.k (.i .u64 1)))])
 (.sq (.sq (.rg [S1 6 (.mov (.k (.i .i64 0)))])
 (.bk 0 (.lp b29_0)))
 (.sq (.rg [S7 19 1,
  S1 20 (.bin .quo (.t 19) (.k (.i .i64 64))),
  S1 21 (.ixq 4 1 (.t 2) (.t 20)),
  S6 22 21,
  S7 23 5,
  S1 24 (.bin .add (.t 22) (.t 23)),
  S1 25 (.ixq 4 1 (.t 2) (.t 20)),
  S3 (.sto 1 (.t 25) (.t 24))])
 (.sq (.rg [S2 26 (.ld 4 true (.t 2)),
  S3 (.sto 4 (.t 4) (.t 26))])
 (.rt))))))
def fn29:Fn:={ n:=27,np:=2,res:=[.c 4 4 true],body:=c29 }
theorem e29:F 29=some fn29:=by kernel_rfl
def b44_0:C :=
 .sq (.rg [S1 11 (.bin .lss (.t 10) (.t 9))])
 (.sq (.cd (.t 11)
  (.sk)
  (.ex 0))
 (.sq (.bk 1 (.sq (.rg [S7 12 10,
  S1 13 (.ixp 4 (.t 8) (.t 10)),
  S2 14 (.ld 4 true (.t 13)),
  S2 7 (.alc [.i .u64 0,.i .u64 0,.i .u64 0,.i .u64 0]),
  S7 6 12,
  S3 (.sto 4 (.t 7) (.t 14))])
 (.sq (.rg [S2 15 (.ld 4 true (.t 7)),
  S7 16 1,
  S2 17 (.pc 18 [(.t 15),(.t 16)])])
 (.cd (.t 17)
  (.rg [S7 18 6,
    S1 19 (.bin .shr (.t 18) (.k (.i .u64 6))),
    S1 20 (.ixq 4 1 (.t 5) (.t 19)),
    S7 22 6,
    S1 23 (.bin .and (.t 22) (.k (.i .i64 63))),
    S1 24 (.bin .shl (.k (.i .u64 1)) (.t 23)),
    S6 21 20,
    S1 25 (.bin .or (.t 21) (.t 24)),
    S1 26 (.ixq 4 1 (.t 5) (.t 19)),
    S3 (.sto 1 (.t 26) (.t 25))])
  (.sk)))))
 (.rg [S1 27 (.bin .add (.t 10) (.k (.i .i64 1))),
  S7 10 27])))
def c44:C :=
 .sq (.rg [S2 4 (.alc [.i .u64 0,.i .u64 0,.i .u64 0,.i .u64 0])])
 (.sq (.rg [S2 5 (.alc [.i .u64 0,.i .u64 0,.i .u64 0,.i .u64 0])])
 (.sq (.sq (.rg [S7 8 0,
  S1 9 (.len (.t 8)),
  S1 10 (.mov (.k (.i .i64 0)))])
 (.bk 0 (.lp b44_0)))
 (.sq (.rg [S2 28 (.ld 4 true (.t 5)),
  S3 (.sto 4 (.t 4) (.t 28))])
 (.rt))))
def fn44:Fn:={ n:=29,np:=2,res:=[.c 4 4 true],body:=c44 }
theorem e44:F 44=some fn44:=by kernel_rfl
def b45_0:C :=
 .sq (.rg [S1 7 (.bin .lss (.t 6) (.k (.i .i64 4)))])
 (.sq (.cd (.t 7)
  (.sk)
  (.ex 0))
 (.sq (.bk 1 (.sq (.rg [S7 8 6,
  S7 5 8])
 (.rg [S7 9 5,
  S1 10 (.ixq 4 1 (.t 2) (.t 9)),
  S7 12 5,
  S1 13 (.ixq 4 1 (.t 3) (.t 12)),
  S6 11 10,
  S6 14 13,
  S1 15 (.bin .or (.t 11) (.t 14)),
  S1 16 (.ixq 4 1 (.t 2) (.t 9)),
  S3 (.sto 1 (.t 16) (.t 15))])))
 (.rg [S1 17 (.bin .add (.t 6) (.k (.i .i64 1))),
  S7 6 17])))
def c45:C :=
 .sq (.rg [S2 2 (.box (.t 0)),
  S2 3 (.box (.t 1)),
  S2 4 (.alc [.i .u64 0,.i .u64 0,.i .u64 0,.i .u64 0])])
 (.sq (.sq (.rg [S1 6 (.mov (.k (.i .i64 0)))])
 (.bk 0 (.lp b45_0)))
 (.sq (.rg [S2 18 (.ld 4 true (.t 2)),
  S3 (.sto 4 (.t 4) (.t 18))])
 (.rt)))
def fn45:Fn:={ n:=19,np:=2,res:=[.c 4 4 true],body:=c45 }
theorem e45:F 45=some fn45:=by kernel_rfl
def b46_0:C :=
 .sq (.rg [S1 9 (.bin .lss (.t 8) (.t 7))])
 (.sq (.cd (.t 9)
  (.sk)
  (.ex 0))
 (.sq (.bk 1 (.sq (.rg [S1 10 (.ixp 1 (.t 6) (.t 8)),
  S6 11 10,
  S7 5 11])
 (.rg [S7 12 5,
  S1 13 (.bin .shr (.t 12) (.k (.i .u64 6))),
  S1 14 (.ixq 4 1 (.t 3) (.t 13)),
  S6 15 14,
  S7 16 5,
  S1 17 (.bin .and (.t 16) (.k (.i .u8 63))),
  S1 18 (.bin .shl (.k (.i .u64 1)) (.t 17)),
  S1 19 (.bin .or (.t 15) (.t 18)),
  S1 20 (.ixq 4 1 (.t 3) (.t 13)),
  S3 (.sto 1 (.t 20) (.t 19))])))
 (.rg [S1 21 (.bin .add (.t 8) (.k (.i .i64 1))),
  S7 8 21])))
def c46:C :=
 .sq (.rg [S2 2 (.alc [.i .u64 0,.i .u64 0,.i .u64 0,.i .u64 0])])
 (.sq (.rg [S2 3 (.alc [.i .u64 0,.i .u64 0,.i .u64 0,.i .u64 0])])
 (.sq (.sq (.rg [S7 6 0,
  S1 7 (.len (.t 6)),
  S1 8 (.mov (.k (.i .i64 0)))])
 (.bk 0 (.lp b46_0)))
 (.sq (.rg [S2 22 (.ld 4 true (.t 3)),
  S3 (.sto 4 (.t 2) (.t 22))])
 (.rt))))
def fn46:Fn:={ n:=23,np:=1,res:=[.c 2 4 true],body:=c46 }
theorem e46:F 46=some fn46:=by kernel_rfl
def c6:C :=
 .sq (.rg [S2 1 (.box (.t 0)),
  S2 2 (.alc [.i .i64 0,.i .u64 0,.i .u64 0,.i .u64 0,.i .u64 0,.nil,.i .i64 0,.i .i64 0,.nil,.nil,.nil,.nil,.nil,.nil,.bo false]),
  S1 3 (.mov (.k (.bo false)))])
 (.sq (.sq (.rg [S2 6 (.ld 8 true (.t 1)),
  S2 7 (.pc 15 [(.t 6),(.k (.i .i64 80))]),
  S1 8 (.bin .gtr (.t 7) (.k (.i .i64 80)))])
 (.cd (.t 8)
  (.sq (.rg [S1 9 (.bld [.i .i64 0,.i .u64 0,.i .u64 0,.i .u64 0,.i .u64 0,.nil,.i .i64 0,.i .i64 0,.nil,.nil,.nil,.nil,.nil,.nil,.bo false] []),
    S3 (.sto 15 (.t 2) (.t 9)),
    S1 3 (.mov (.k (.bo false)))])
   (.rt))
  (.sk)))
 (.sq (.rg [S2 11 (.ld 8 true (.t 1)),
  S2 12 (.pc 16 [(.t 11)]),
  S7 10 12,
  S1 13 (.ext (.t 10) 0),
  S1 14 (.ext (.t 10) 1),
  S2 4 (.alc [.i .i64 0,.i .u64 0,.i .u64 0,.i .u64 0,.i .u64 0,.nil,.i .i64 0,.i .i64 0,.nil,.nil,.nil,.nil,.nil,.nil,.bo false]),
  S3 (.sto 15 (.t 4) (.t 13)),
  S7 5 14])
 (.sq (.rg [S2 15 (.ld 15 true (.t 4)),
  S7 16 5,
  S1 17 (.bin .eql (.t 16) (.k (.i .i64 0))),
  S3 (.sto 15 (.t 2) (.t 15)),
  S7 3 17])
 (.rt))))
def fn6:Fn:={ n:=18,np:=1,res:=[.c 2 15 true,.t 3],body:=c6 }
theorem e6:F 6=some fn6:=by kernel_rfl
def b11_0:C :=
 .sq (.sq (.rg [S7 11 6,
  S7 12 1,
  S1 13 (.bin .rem (.t 12) (.k (.i .i64 64))),
  S1 14 (.bin .lss (.t 11) (.t 13))])
 (.cd (.t 14)
  (.sk)
  (.ex 0)))
 (.sq (.bk 1 (.rg [S7 17 5,
  S1 18 (.bin .quo (.t 17) (.k (.i .u64 2))),
  S7 5 18]))
 (.rg [S7 15 6,
  S1 16 (.bin .add (.t 15) (.k (.i .i64 1))),
  S7 6 16]))
def c11:C :=
 .sq (.rg [S2 2 (.box (.t 0)),
  S1 4 (.mov (.k (.bo false)))])
 (.sq (.rg [S7 7 1,
  S1 8 (.bin .quo (.t 7) (.k (.i .i64 64))),
  S1 9 (.ixq 4 1 (.t 2) (.t 8)),
  S6 10 9,
  S7 5 10])
 (.sq (.sq (.rg [S1 6 (.mov (.k (.i .i64 0)))])
 (.bk 0 (.lp b11_0)))
 (.sq (.rg [S7 19 5,
  S1 20 (.bin .rem (.t 19) (.k (.i .u64 2))),
  S1 21 (.bin .eql (.t 20) (.k (.i .u64 1))),
  S7 4 21])
 (.rt))))
def fn11:Fn:={ n:=22,np:=2,res:=[.t 4],body:=c11 }
theorem e11:F 11=some fn11:=by kernel_rfl
def b15_0:C :=
 .sq (.sq (.rg [S7 7 6,
  S8 8 5 2,
  S6 9 8,
  S1 10 (.len (.t 9)),
  S1 11 (.bin .lss (.t 7) (.t 10)),
  S7 12 11,
  S5 13 12 true (.mov (.t 5)),
  S5 14 12 true (.mov (.t 1)),
  S5 15 12 true (.bin .leq (.t 13) (.t 14)),
  S1 16 (.pick (.t 12) (.t 15) (.k (.bo false)))])
 (.cd (.t 16)
  (.sk)
  (.ex 0)))
 (.sq (.bk 1 (.rg [S7 19 5,
  S8 20 5 2,
  S6 21 20,
  S7 22 6,
  S1 23 (.ixp 8 (.t 21) (.t 22)),
  S2 24 (.ld 8 true (.t 23)),
  S7 25 1,
  S7 26 5,
  S1 27 (.bin .sub (.t 25) (.t 26)),
  S2 28 (.pc 15 [(.t 24),(.t 27)]),
  S1 29 (.bin .add (.t 19) (.t 28)),
  S7 5 29]))
 (.rg [S7 17 6,
  S1 18 (.bin .add (.t 17) (.k (.i .i64 1))),
  S7 6 18]))
def c15:C :=
 .sq (.rg [S2 2 (.box (.t 0)),
  S1 4 (.mov (.k (.i .i64 0)))])
 (.sq (.rg [S1 5 (.mov (.k (.i .i64 1)))])
 (.sq (.sq (.rg [S1 6 (.mov (.k (.i .i64 0)))])
 (.bk 0 (.lp b15_0)))
 (.sq (.rg [S7 30 5,
  S7 4 30])
 (.rt))))
def fn15:Fn:={ n:=31,np:=2,res:=[.t 4],body:=c15 }
theorem e15:F 15=some fn15:=by kernel_rfl
def b16_0:C :=
 .sq (.rg [S1 51 (.bin .lss (.t 50) (.t 49))])
 (.sq (.cd (.t 51)
  (.sk)
  (.ex 0))
 (.sq (.bk 1 (.sq (.rg [S1 52 (.ixp 1 (.t 48) (.t 50)),
  S6 53 52,
  S7 10 53])
 (.rg [S8 54 13 8,
  S6 55 54,
  S7 56 10,
  S1 57 (.ixp 1 (.t 55) (.t 56)),
  S3 (.sto 1 (.t 57) (.k (.bo true)))])))
 (.rg [S1 58 (.bin .add (.t 50) (.k (.i .i64 1))),
  S7 50 58])))
def b16_1:C :=
 .sq (.rg [S2 64 (.nxt (.t 63)),
  S1 65 (.ext (.t 64) 0)])
 (.sq (.cd (.t 65)
  (.sk)
  (.ex 2))
 (.bk 3 (.sq (.rg [S2 66 (.ent (.t 63)),
  S1 67 (.ext (.t 66) 0),
  S2 11 (.alc [.i .i64 0,.i .i64 0,.i .i64 0,.bo false]),
  S3 (.sto 4 (.t 11) (.t 67))])
 (.rg [S8 68 12 8,
  S8 70 0 11,
  S8 72 12 8,
  S8 74 0 11,
  S8 78 1 11,
  S6 69 68,
  S6 71 70,
  S6 73 72,
  S6 75 74,
  S1 76 (.ixp 1 (.t 73) (.t 75)),
  S6 77 76,
  S2 79 (.ld 3 true (.t 78)),
  S2 80 (.bsl 3 1 [.i .i64 0,.i .i64 0,.bo false] [(0,(.t 79))]),
  ⟨some 81,none,.app 3 24 (.t 77) (.t 80),[.ld 1 false (.t 68),.ld 1 false (.t 70)]⟩,
  S1 82 (.ixp 1 (.t 69) (.t 71)),
  S3 (.sto 1 (.t 82) (.t 81))]))))
def b16_2:C :=
 .sq (.rg [S1 87 (.bin .lss (.t 86) (.t 85))])
 (.sq (.cd (.t 87)
  (.sk)
  (.ex 4))
 (.sq (.bk 5 (.sq (.rg [S1 88 (.ixp 1 (.t 84) (.t 86)),
  S6 89 88,
  S7 13 89])
 (.rg [S7 90 13,
  S2 91 (.nc 25 [(.t 90),(.k (.fn 26 []))])])))
 (.rg [S1 92 (.bin .add (.t 86) (.k (.i .i64 1))),
  S7 86 92])))
def c16:C :=
 .sq (.rg [S2 1 (.box (.t 0)),
  S2 2 (.alc [.i .i64 0,.i .u64 0,.i .u64 0,.i .u64 0,.i .u64 0,.nil,.i .i64 0,.i .i64 0,.nil,.nil,.nil,.nil,.nil,.nil,.bo false]),
  S1 3 (.mov (.k (.i .i64 0)))])
 (.sq (.rg [S2 15 (.ld 8 true (.t 1)),
  S2 16 (.pc 22 [(.t 15)]),
  S7 14 16,
  S1 17 (.ext (.t 14) 0),
  S1 18 (.ext (.t 14) 1),
  S2 4 (.alc [.i .i64 0,.i .u64 0,.i .u64 0,.i .u64 0,.i .u64 0,.nil,.i .i64 0,.i .i64 0,.nil,.nil,.nil]),
  S3 (.sto 11 (.t 4) (.t 17)),
  S7 5 18])
 (.sq (.sq (.rg [S7 19 5,
  S1 20 (.bin .neq (.t 19) (.k (.i .i64 0)))])
 (.cd (.t 20)
  (.sq (.rg [S1 21 (.bld [.i .i64 0,.i .u64 0,.i .u64 0,.i .u64 0,.i .u64 0,.nil,.i .i64 0,.i .i64 0,.nil,.nil,.nil,.nil,.nil,.nil,.bo false] []),
    S7 22 5,
    S3 (.sto 15 (.t 2) (.t 21)),
    S7 3 22])
   (.rt))
  (.sk)))
 (.sq (.rg [S2 23 (.mkm),
  S1 24 (.bld [.i .i64 0,.nm] [(1,1,(.t 23))]),
  S2 25 (.box (.t 24)),
  S7 6 25])
 (.sq (.rg [S7 26 6,
  S8 27 0 4,
  S2 28 (.ld 8 true (.t 27)),
  S2 29 (.nc 23 [(.t 26),(.t 28),(.k (.i .i64 0))]),
  S2 7 (.alc [.nil,.nil,.bo false]),
  S3 (.sto 3 (.t 7) (.t 29))])
 (.sq (.rg [S8 31 0 7,
  S8 33 8 4,
  S8 37 8 4,
  S8 41 2 7,
  S2 30 (.ld 11 true (.t 4)),
  S6 32 31,
  S6 34 33,
  S1 35 (.len (.t 34)),
  S6 38 37,
  S1 39 (.len (.t 38)),
  S6 42 41,
  S2 36 (.mks 1 24 [.nil] (.t 35) (.t 35)),
  S2 40 (.mks 1 1 [.bo false] (.t 39) (.t 39)),
  S1 43 (.bld [.i .i64 0,.i .u64 0,.i .u64 0,.i .u64 0,.i .u64 0,.nil,.i .i64 0,.i .i64 0,.nil,.nil,.nil,.nil,.nil,.nil,.bo false] [(0,11,(.t 30)),(11,1,(.t 32)),(12,1,(.t 36)),(13,1,(.t 40)),(14,1,(.t 42))]),
  S2 8 (.alc [.i .i64 0,.i .u64 0,.i .u64 0,.i .u64 0,.i .u64 0,.nil,.i .i64 0,.i .i64 0,.nil,.nil,.nil,.nil,.nil,.nil,.bo false]),
  S3 (.sto 15 (.t 8) (.t 43))])
 (.sq (.rg [S8 44 11 8,
  S6 45 44,
  S2 46 (.nc 24 [(.t 45)])])
 (.sq (.sq (.rg [S8 47 1 7,
  S6 48 47,
  S1 49 (.len (.t 48)),
  S1 50 (.mov (.k (.i .i64 0)))])
 (.bk 0 (.lp b16_0)))
 (.sq (.sq (.rg [S7 59 6,
  S1 60 (.nck (.t 59)),
  S8 61 1 60,
  S6 62 61,
  S2 63 (.rng (.t 62))])
 (.bk 2 (.lp b16_1)))
 (.sq (.sq (.rg [S8 83 12 8,
  S6 84 83,
  S1 85 (.len (.t 84)),
  S1 86 (.mov (.k (.i .i64 0)))])
 (.bk 4 (.lp b16_2)))
 (.sq (.rg [S2 93 (.ld 15 true (.t 8)),
  S3 (.sto 15 (.t 2) (.t 93)),
  S1 3 (.mov (.k (.i .i64 0)))])
 (.rt)))))))))))
def fn16:Fn:={ n:=94,np:=1,res:=[.c 2 15 true,.t 3],body:=c16 }
theorem e16:F 16=some fn16:=by kernel_rfl
def c18:C :=
 .sq (.rg [S2 2 (.box (.t 0)),
  S1 4 (.mov (.k (.bo false)))])
 (.sq (.rg [S7 5 1,
  S1 6 (.bin .shr (.t 5) (.k (.i .u64 6))),
  S1 7 (.ixq 4 1 (.t 2) (.t 6)),
  S6 8 7,
  S7 9 1,
  S1 10 (.bin .and (.t 9) (.k (.i .u8 63))),
  S1 11 (.bin .shr (.t 8) (.t 10)),
  S1 12 (.bin .and (.t 11) (.k (.i .u64 1))),
  S1 13 (.bin .eql (.t 12) (.k (.i .u64 1))),
  S7 4 13])
 (.rt))
def fn18:Fn:={ n:=14,np:=2,res:=[.t 4],body:=c18 }
theorem e18:F 18=some fn18:=by kernel_rfl
def c22:C :=
 .sq (.rg [S2 1 (.box (.t 0)),
  S2 2 (.alc [.i .i64 0,.i .u64 0,.i .u64 0,.i .u64 0,.i .u64 0,.nil,.i .i64 0,.i .i64 0,.nil,.nil,.nil]),
  S1 3 (.mov (.k (.i .i64 0)))])
 (.sq (.rg [S2 8 (.ld 8 true (.t 1)),
  S2 9 (.pc 31 [(.t 8)]),
  S7 7 9,
  S1 10 (.ext (.t 7) 0),
  S1 11 (.ext (.t 7) 1),
  S2 4 (.alc [.i .i64 0,.i .u64 0,.i .u64 0,.i .u64 0,.i .u64 0,.nil,.i .i64 0,.i .i64 0]),
  S3 (.sto 8 (.t 4) (.t 10)),
  S7 5 11])
 (.sq (.sq (.rg [S7 12 5,
  S1 13 (.bin .neq (.t 12) (.k (.i .i64 0)))])
 (.cd (.t 13)
  (.sq (.rg [S1 14 (.bld [.i .i64 0,.i .u64 0,.i .u64 0,.i .u64 0,.i .u64 0,.nil,.i .i64 0,.i .i64 0,.nil,.nil,.nil] []),
    S7 15 5,
    S3 (.sto 11 (.t 2) (.t 14)),
    S7 3 15])
   (.rt))
  (.sk)))
 (.sq (.rg [S2 16 (.ld 8 true (.t 4)),
  S2 17 (.mks 4 32 [.i .u64 0,.i .u64 0,.i .u64 0,.i .u64 0] (.k (.i .i64 1)) (.k (.i .i64 1))),
  S2 18 (.mks 1 24 [.nil] (.k (.i .i64 1)) (.k (.i .i64 1))),
  S1 19 (.bld [.i .i64 0,.i .u64 0,.i .u64 0,.i .u64 0,.i .u64 0,.nil,.i .i64 0,.i .i64 0,.nil,.nil,.nil] [(0,8,(.t 16)),(8,1,(.t 17)),(10,1,(.t 18))]),
  S2 20 (.box (.t 19)),
  S7 6 20])
 (.sq (.rg [S7 21 6,
  S2 22 (.ld 8 true (.t 4)),
  S2 23 (.nc 32 [(.t 21),(.t 22),(.k (.nil))])])
 (.sq (.sq (.rg [S7 24 6,
  S1 25 (.nck (.t 24)),
  S8 26 8 25,
  S6 27 26,
  S1 28 (.len (.t 27)),
  S1 29 (.bin .gtr (.t 28) (.k (.i .i64 41))),
  S7 30 29,
  S5 31 30 false (.mov (.t 6)),
  S5 32 30 false (.nck (.t 31)),
  S5 33 30 false (.adr 10 (.t 32)),
  S4 34 30 false (.ld 1 false (.t 33)),
  S4 35 30 false (.pc 33 [(.t 34),(.k (.fn 34 []))]),
  S1 36 (.pick (.t 30) (.k (.bo true)) (.t 35))])
 (.cd (.t 36)
  (.sq (.rg [S1 37 (.bld [.i .i64 0,.i .u64 0,.i .u64 0,.i .u64 0,.i .u64 0,.nil,.i .i64 0,.i .i64 0,.nil,.nil,.nil] []),
    S3 (.sto 11 (.t 2) (.t 37)),
    S1 3 (.mov (.k (.i .i64 3)))])
   (.rt))
  (.sk)))
 (.sq (.rg [S7 38 6,
  S1 39 (.nck (.t 38)),
  S2 40 (.ld 11 true (.t 39)),
  S3 (.sto 11 (.t 2) (.t 40)),
  S1 3 (.mov (.k (.i .i64 0)))])
 (.rt)))))))
def fn22:Fn:={ n:=41,np:=1,res:=[.c 2 11 true,.t 3],body:=c22 }
theorem e22:F 22=some fn22:=by kernel_rfl
def c23:C :=
 .sq (.rg [S2 4 (.box (.t 1)),
  S2 6 (.alc [.nil,.nil,.bo false])])
 (.sq (.sq (.rg [S8 7 0 4,
  S6 8 7])
 (.bk 0 (.sq (.rg [S1 10 (.bin .eql (.t 8) (.k (.i .i64 1))),
  S7 9 10])
 (.cd (.t 9)
  (.sq (.sq (.rg [S8 11 1 4,
    S2 12 (.ld 4 true (.t 11)),
    S2 13 (.pc 35 [(.t 12)])])
   (.cd (.t 13)
    (.sq (.rg [S1 14 (.bld [.nil,.nil,.bo false] []),
      S3 (.sto 3 (.t 6) (.t 14))])
     (.rt))
    (.sk)))
   (.sq (.rg [S7 15 0,
    S1 16 (.nck (.t 15)),
    S8 17 0 16,
    S6 18 17,
    S1 19 (.bin .add (.t 18) (.k (.i .i64 1))),
    S1 20 (.nck (.t 15)),
    S8 21 0 20,
    S3 (.sto 1 (.t 21) (.t 19))])
   (.sq (.rg [S7 22 0,
    S1 23 (.nck (.t 22)),
    S8 24 0 23,
    S7 27 0,
    S1 28 (.nck (.t 27)),
    S8 29 0 28,
    S6 25 24,
    S6 30 29,
    S2 26 (.bsl 1 1 [.i .i64 0] [(0,(.t 25))]),
    S2 31 (.bsl 1 1 [.i .i64 0] [(0,(.t 30))]),
    S1 32 (.bld [.nil,.nil,.bo false] [(0,1,(.t 26)),(1,1,(.t 31))]),
    S3 (.sto 3 (.t 6) (.t 32))])
   (.rt))))
  (.sq (.rg [S1 34 (.bin .eql (.t 8) (.k (.i .i64 2))),
    S7 33 34])
   (.cd (.t 33)
    (.sq (.rg [S7 35 0,
      S8 36 5 4,
      S6 37 36,
      S7 38 2,
      S2 39 (.nc 36 [(.t 35),(.t 37),(.t 38)]),
      S3 (.sto 3 (.t 6) (.t 39))])
     (.rt))
    (.sq (.rg [S1 41 (.bin .eql (.t 8) (.k (.i .i64 3))),
      S7 40 41])
     (.cd (.t 40)
      (.sq (.rg [S7 42 0,
        S8 43 5 4,
        S6 44 43,
        S7 45 2,
        S2 46 (.nc 37 [(.t 42),(.t 44),(.t 45)]),
        S3 (.sto 3 (.t 6) (.t 46))])
       (.rt))
      (.sq (.rg [S1 48 (.bin .eql (.t 8) (.k (.i .i64 4))),
        S7 47 48])
       (.cd (.t 47)
        (.sq (.rg [S7 49 0,
          S2 50 (.ld 8 true (.t 4)),
          S7 51 2,
          S2 52 (.nc 38 [(.t 49),(.t 50),(.t 51)]),
          S3 (.sto 3 (.t 6) (.t 52))])
         (.rt))
        (.sk)))))))))))
 (.sq (.rg [S1 53 (.bld [.nil,.nil,.bo false] [(2,1,(.k (.bo true)))]),
  S3 (.sto 3 (.t 6) (.t 53))])
 (.rt)))
def fn23:Fn:={ n:=54,np:=3,res:=[.c 6 3 true],body:=c23 }
theorem e23:F 23=some fn23:=by kernel_rfl
def c26:C :=
 .sq (.rg [S2 2 (.box (.t 0)),
  S2 3 (.box (.t 1)),
  S1 4 (.mov (.k (.i .i64 0)))])
 (.sq (.rg [S8 6 0 2,
  S8 8 0 3,
  S8 11 1 2,
  S8 13 1 3,
  S6 7 6,
  S6 9 8,
  S6 12 11,
  S6 14 13,
  S2 10 (.pc 43 [(.t 7),(.t 9)]),
  S2 15 (.pc 43 [(.t 12),(.t 14)]),
  S2 16 (.bsl 1 2 [.i .i64 0] [(0,(.t 10)),(1,(.t 15))]),
  S2 17 (.pc 42 [(.t 16)]),
  S7 5 17])
 (.sq (.sq (.rg [S7 18 5,
  S1 19 (.bin .eql (.t 18) (.k (.i .i64 0))),
  S7 20 19,
  S5 21 20 true (.adr 2 (.t 2)),
  S4 22 20 true (.ld 1 false (.t 21)),
  S5 23 20 true (.adr 2 (.t 3)),
  S4 24 20 true (.ld 1 false (.t 23)),
  S5 25 20 true (.eqb true (.t 22) (.t 24)),
  S1 26 (.pick (.t 20) (.t 25) (.k (.bo false)))])
 (.cd (.t 26)
  (.sq (.rg [S1 5 (.mov (.k (.i .i64 1)))])
   (.sq (.rg [S8 27 2 3,
    S6 28 27])
   (.cd (.t 28)
    (.rg [S1 5 (.mov (.k (.i .i64 (-1))))])
    (.sk))))
  (.sk)))
 (.sq (.rg [S7 29 5,
  S7 4 29])
 (.rt))))
def fn26:Fn:={ n:=30,np:=2,res:=[.t 4],body:=c26 }
theorem e26:F 26=some fn26:=by kernel_rfl
def c31:C :=
 .sq (.rg [S2 1 (.box (.t 0)),
  S2 2 (.alc [.i .i64 0,.i .u64 0,.i .u64 0,.i .u64 0,.i .u64 0,.nil,.i .i64 0,.i .i64 0]),
  S1 3 (.mov (.k (.i .i64 0)))])
 (.sq (.sq (.rg [S2 4 (.ld 8 true (.t 1)),
  S2 5 (.pc 47 [(.t 4)]),
  S1 6 (.un .not (.t 5))])
 (.cd (.t 6)
  (.sq (.rg [S1 7 (.bld [.i .i64 0,.i .u64 0,.i .u64 0,.i .u64 0,.i .u64 0,.nil,.i .i64 0,.i .i64 0] []),
    S3 (.sto 8 (.t 2) (.t 7)),
    S1 3 (.mov (.k (.i .i64 1)))])
   (.rt))
  (.sk)))
 (.sq (.rg [S2 8 (.ld 8 true (.t 1)),
  S2 9 (.pc 48 [(.t 8)]),
  S3 (.sto 8 (.t 2) (.t 9)),
  S1 3 (.mov (.k (.i .i64 0)))])
 (.rt)))
def fn31:Fn:={ n:=10,np:=1,res:=[.c 2 8 true,.t 3],body:=c31 }
theorem e31:F 31=some fn31:=by kernel_rfl
def b32_0:C :=
 .sq (.rg [S1 70 (.bin .lss (.t 69) (.t 68))])
 (.sq (.cd (.t 70)
  (.sk)
  (.ex 0))
 (.sq (.bk 1 (.sq (.rg [S1 71 (.ixp 8 (.t 67) (.t 69)),
  S2 72 (.ld 8 true (.t 71)),
  S2 9 (.alc [.i .i64 0,.i .u64 0,.i .u64 0,.i .u64 0,.i .u64 0,.nil,.i .i64 0,.i .i64 0]),
  S3 (.sto 8 (.t 9) (.t 72))])
 (.rg [S7 73 0,
  S2 74 (.ld 8 true (.t 9)),
  S7 75 2,
  S2 76 (.nc 32 [(.t 73),(.t 74),(.t 75)])])))
 (.rg [S1 77 (.bin .add (.t 69) (.k (.i .i64 1))),
  S7 69 77])))
def c32:C :=
 .sq (.rg [S2 4 (.box (.t 1))])
 (.sq (.sq (.rg [S8 10 0 4,
  S6 11 10,
  S1 12 (.bin .eql (.t 11) (.k (.i .i64 1))),
  S7 13 12,
  S5 14 13 true (.adr 1 (.t 4)),
  S4 15 13 true (.ld 4 true (.t 14)),
  S4 16 13 true (.pc 35 [(.t 15)]),
  S5 17 13 true (.un .not (.t 16)),
  S1 18 (.pick (.t 13) (.t 17) (.k (.bo false)))])
 (.cd (.t 18)
  (.sq (.rg [S7 19 0,
    S7 20 0,
    S1 21 (.nck (.t 20)),
    S8 22 8 21,
    S8 24 1 4,
    S6 23 22,
    S2 25 (.ld 4 true (.t 24)),
    S2 26 (.bsl 4 1 [.i .u64 0,.i .u64 0,.i .u64 0,.i .u64 0] [(0,(.t 25))]),
    S2 27 (.app 4 32 (.t 23) (.t 26)),
    S1 28 (.nck (.t 19)),
    S8 29 8 28,
    S3 (.sto 1 (.t 29) (.t 27))])
   (.rg [S7 30 0,
    S7 31 0,
    S1 32 (.nck (.t 31)),
    S8 33 10 32,
    S7 35 2,
    S6 34 33,
    ⟨some 36,none,.nc 49 [(.t 35)],[.ld 1 false (.t 33)]⟩,
    S2 37 (.bsl 1 1 [.nil] [(0,(.t 36))]),
    S2 38 (.app 1 24 (.t 34) (.t 37)),
    S1 39 (.nck (.t 30)),
    S8 40 10 39,
    S3 (.sto 1 (.t 40) (.t 38))]))
  (.sk)))
 (.sq (.sq (.rg [S2 42 (.ld 8 true (.t 4)),
  S2 43 (.pc 50 [(.t 42)]),
  S7 41 43,
  S1 44 (.ext (.t 41) 0),
  S1 45 (.ext (.t 41) 1),
  S2 6 (.alc [.i .i64 0,.i .i64 0]),
  S3 (.sto 2 (.t 6) (.t 44)),
  S7 7 45])
 (.sq (.rg [S7 46 7])
 (.cd (.t 46)
  (.sq (.rg [S7 47 2,
    S7 49 0,
    S1 50 (.nck (.t 49)),
    S8 51 9 50,
    S6 52 51,
    S1 53 (.len (.t 52)),
    S1 54 (.lit 1 1 [.i .i64 0] [(0,(.t 53))]),
    ⟨some 48,none,.nc 49 [(.t 47)],[.ld 1 false (.t 51)]⟩,
    S2 55 (.app 1 8 (.t 48) (.t 54)),
    S7 2 55])
   (.rg [S7 56 0,
    S7 57 0,
    S1 58 (.nck (.t 57)),
    S8 59 9 58,
    S6 60 59,
    S2 61 (.ld 2 true (.t 6)),
    S2 62 (.bsl 2 1 [.i .i64 0,.i .i64 0] [(0,(.t 61))]),
    S2 63 (.app 2 16 (.t 60) (.t 62)),
    S1 64 (.nck (.t 56)),
    S8 65 9 64,
    S3 (.sto 1 (.t 65) (.t 63))]))
  (.sk))))
 (.sq (.rg [S8 66 5 4,
  S6 67 66,
  S1 68 (.len (.t 67)),
  S1 69 (.mov (.k (.i .i64 0)))])
 (.bk 0 (.lp b32_0)))))
def fn32:Fn:={ n:=78,np:=3,res:=[],body:=c32 }
theorem e32:F 32=some fn32:=by kernel_rfl
def c33:C :=
 .sq (.rg [S1 4 (.mov (.k (.bo false)))])
 (.sq (.rg [S7 5 0,
  S7 6 1,
  S2 7 (.pc 51 [(.t 5),(.t 6)]),
  S1 8 (.bin .geq (.t 7) (.k (.i .i64 0))),
  S7 4 8])
 (.rt))
def fn33:Fn:={ n:=9,np:=2,res:=[.t 4],body:=c33 }
theorem e33:F 33=some fn33:=by kernel_rfl
def c34:C :=
 .sq (.rg [S1 2 (.mov (.k (.bo false)))])
 (.sq (.rg [S7 3 0,
  S1 4 (.len (.t 3)),
  S1 5 (.bin .gtr (.t 4) (.k (.i .i64 4))),
  S7 2 5])
 (.rt))
def fn34:Fn:={ n:=6,np:=1,res:=[.t 2],body:=c34 }
theorem e34:F 34=some fn34:=by kernel_rfl
def c35:C :=
 .sq (.rg [S2 1 (.box (.t 0)),
  S1 2 (.mov (.k (.bo false)))])
 (.sq (.rg [S2 3 (.ld 4 true (.t 1)),
  S1 4 (.bld [.i .u64 0,.i .u64 0,.i .u64 0,.i .u64 0] []),
  S1 5 (.eqp false true [.i .u64,.i .u64,.i .u64,.i .u64] (.t 3) (.t 4)),
  S7 2 5])
 (.rt))
def fn35:Fn:={ n:=6,np:=1,res:=[.t 2],body:=c35 }
theorem e35:F 35=some fn35:=by kernel_rfl
def b36_0:C :=
 .sq (.rg [S1 15 (.bin .lss (.t 14) (.t 13))])
 (.sq (.cd (.t 15)
  (.sk)
  (.ex 0))
 (.sq (.bk 1 (.sq (.rg [S1 16 (.ixp 8 (.t 12) (.t 14)),
  S2 17 (.ld 8 true (.t 16)),
  S2 9 (.alc [.i .i64 0,.i .u64 0,.i .u64 0,.i .u64 0,.i .u64 0,.nil,.i .i64 0,.i .i64 0]),
  S3 (.sto 8 (.t 9) (.t 17))])
 (.sq (.rg [S7 18 0,
  S2 19 (.ld 8 true (.t 9)),
  S7 20 2,
  S2 21 (.nc 23 [(.t 18),(.t 19),(.t 20)]),
  S2 10 (.alc [.nil,.nil,.bo false]),
  S3 (.sto 3 (.t 10) (.t 21))])
 (.sq (.rg [S7 22 0,
  S8 23 1 7,
  S6 24 23,
  S8 25 0 10,
  S6 26 25,
  S7 27 2,
  S2 28 (.nc 52 [(.t 22),(.t 24),(.t 26),(.t 27),(.k (.bo false))])])
 (.sq (.sq (.rg [S8 29 2 7,
  S6 30 29])
 (.cd (.t 30)
  (.rg [S8 31 0 7,
    S6 32 31,
    S8 33 0 10,
    S6 34 33,
    S2 35 (.bsl 1 2 [.nil] [(0,(.t 32)),(1,(.t 34))]),
    S2 36 (.nc 53 [(.t 35)]),
    S8 37 0 7,
    S3 (.sto 1 (.t 37) (.t 36))])
  (.sk)))
 (.sq (.sq (.rg [S8 38 2 10,
  S6 39 38])
 (.cd (.t 39)
  (.rg [S8 40 1 7,
    S6 41 40,
    S8 42 1 10,
    S6 43 42,
    S2 44 (.bsl 1 2 [.nil] [(0,(.t 41)),(1,(.t 43))]),
    S2 45 (.nc 53 [(.t 44)]),
    S8 46 1 7,
    S3 (.sto 1 (.t 46) (.t 45))])
  (.rg [S8 47 1 10,
    S6 48 47,
    S8 49 1 7,
    S3 (.sto 1 (.t 49) (.t 48))])))
 (.rg [S8 50 2 7,
  S6 51 50,
  S7 52 51,
  S5 53 52 true (.adr 2 (.t 10)),
  S4 54 52 true (.ld 1 false (.t 53)),
  S1 55 (.pick (.t 52) (.t 54) (.k (.bo false))),
  S8 56 2 7,
  S3 (.sto 1 (.t 56) (.t 55))])))))))
 (.rg [S1 57 (.bin .add (.t 14) (.k (.i .i64 1))),
  S7 14 57])))
def c36:C :=
 .sq (.rg [S2 6 (.alc [.nil,.nil,.bo false])])
 (.sq (.rg [S1 11 (.bld [.nil,.nil,.bo false] [(2,1,(.k (.bo true)))]),
  S2 7 (.alc [.nil,.nil,.bo false]),
  S3 (.sto 3 (.t 7) (.t 11))])
 (.sq (.sq (.rg [S7 12 1,
  S1 13 (.len (.t 12)),
  S1 14 (.mov (.k (.i .i64 0)))])
 (.bk 0 (.lp b36_0)))
 (.sq (.rg [S2 58 (.ld 3 true (.t 7)),
  S3 (.sto 3 (.t 6) (.t 58))])
 (.rt))))
def fn36:Fn:={ n:=59,np:=3,res:=[.c 6 3 true],body:=c36 }
theorem e36:F 36=some fn36:=by kernel_rfl
def b37_0:C :=
 .sq (.rg [S1 14 (.bin .lss (.t 13) (.t 12))])
 (.sq (.cd (.t 14)
  (.sk)
  (.ex 0))
 (.sq (.bk 1 (.sq (.rg [S1 15 (.ixp 8 (.t 11) (.t 13)),
  S2 16 (.ld 8 true (.t 15)),
  S2 9 (.alc [.i .i64 0,.i .u64 0,.i .u64 0,.i .u64 0,.i .u64 0,.nil,.i .i64 0,.i .i64 0]),
  S3 (.sto 8 (.t 9) (.t 16))])
 (.sq (.rg [S7 17 0,
  S2 18 (.ld 8 true (.t 9)),
  S7 19 2,
  S2 20 (.nc 23 [(.t 17),(.t 18),(.t 19)]),
  S2 10 (.alc [.nil,.nil,.bo false]),
  S3 (.sto 3 (.t 10) (.t 20))])
 (.sq (.rg [S8 21 0 7,
  S6 22 21,
  S8 23 0 10,
  S6 24 23,
  S2 25 (.bsl 1 2 [.nil] [(0,(.t 22)),(1,(.t 24))]),
  S2 26 (.nc 53 [(.t 25)]),
  S8 27 0 7,
  S3 (.sto 1 (.t 27) (.t 26))])
 (.sq (.rg [S8 28 1 7,
  S6 29 28,
  S8 30 1 10,
  S6 31 30,
  S2 32 (.bsl 1 2 [.nil] [(0,(.t 29)),(1,(.t 31))]),
  S2 33 (.nc 53 [(.t 32)]),
  S8 34 1 7,
  S3 (.sto 1 (.t 34) (.t 33))])
 (.rg [S8 35 2 7,
  S6 36 35,
  S7 37 36,
  S5 38 37 false (.adr 2 (.t 10)),
  S4 39 37 false (.ld 1 false (.t 38)),
  S1 40 (.pick (.t 37) (.k (.bo true)) (.t 39)),
  S8 41 2 7,
  S3 (.sto 1 (.t 41) (.t 40))]))))))
 (.rg [S1 42 (.bin .add (.t 13) (.k (.i .i64 1))),
  S7 13 42])))
def c37:C :=
 .sq (.rg [S2 6 (.alc [.nil,.nil,.bo false])])
 (.sq (.rg [S2 7 (.alc [.nil,.nil,.bo false])])
 (.sq (.sq (.rg [S7 11 1,
  S1 12 (.len (.t 11)),
  S1 13 (.mov (.k (.i .i64 0)))])
 (.bk 0 (.lp b37_0)))
 (.sq (.rg [S2 43 (.ld 3 true (.t 7)),
  S3 (.sto 3 (.t 6) (.t 43))])
 (.rt))))
def fn37:Fn:={ n:=44,np:=3,res:=[.c 6 3 true],body:=c37 }
theorem e37:F 37=some fn37:=by kernel_rfl
def c38:C :=
 .sq (.rg [S2 4 (.box (.t 1)),
  S2 6 (.alc [.nil,.nil,.bo false])])
 (.sq (.rg [S2 12 (.ld 8 true (.t 4)),
  S2 13 (.pc 50 [(.t 12)]),
  S7 11 13,
  S1 14 (.ext (.t 11) 0),
  S1 15 (.ext (.t 11) 1),
  S2 7 (.alc [.i .i64 0,.i .i64 0]),
  S3 (.sto 2 (.t 7) (.t 14)),
  S7 8 15])
 (.sq (.rg [S7 16 2,
  S7 9 16])
 (.sq (.sq (.rg [S7 17 8])
 (.cd (.t 17)
  (.rg [S7 18 9,
    S1 19 (.bin .add (.t 18) (.k (.i .i64 1))),
    S7 9 19])
  (.sk)))
 (.sq (.rg [S7 20 0,
  S8 21 5 4,
  S6 22 21,
  S1 23 (.ixp 8 (.t 22) (.k (.i .i64 0))),
  S2 24 (.ld 8 true (.t 23)),
  S7 25 9,
  S2 26 (.nc 23 [(.t 20),(.t 24),(.t 25)]),
  S2 10 (.alc [.nil,.nil,.bo false]),
  S3 (.sto 3 (.t 10) (.t 26))])
 (.sq (.sq (.rg [S8 27 7 4,
  S6 28 27,
  S1 29 (.bin .neq (.t 28) (.k (.i .i64 1)))])
 (.cd (.t 29)
  (.rg [S7 30 0,
    S8 31 1 10,
    S6 32 31,
    S8 33 0 10,
    S6 34 33,
    S7 35 2,
    S7 36 8,
    S2 37 (.nc 52 [(.t 30),(.t 32),(.t 34),(.t 35),(.t 36)])])
  (.sk)))
 (.sq (.rg [S2 38 (.ld 8 true (.t 4)),
  S2 39 (.pc 54 [(.t 38)]),
  S8 40 2 10,
  S3 (.sto 1 (.t 40) (.t 39))])
 (.sq (.rg [S2 41 (.ld 3 true (.t 10)),
  S3 (.sto 3 (.t 6) (.t 41))])
 (.rt))))))))
def fn38:Fn:={ n:=42,np:=3,res:=[.c 6 3 true],body:=c38 }
theorem e38:F 38=some fn38:=by kernel_rfl
def b42_0:C :=
 .sq (.rg [S1 9 (.bin .lss (.t 8) (.t 7))])
 (.sq (.cd (.t 9)
  (.sk)
  (.ex 0))
 (.sq (.bk 1 (.sq (.rg [S1 10 (.ixp 1 (.t 6) (.t 8)),
  S6 11 10,
  S7 5 11])
 (.sq (.rg [S7 12 5,
  S7 13 3,
  S1 14 (.bin .neq (.t 12) (.t 13))])
 (.cd (.t 14)
  (.sq (.rg [S7 15 5,
    S7 2 15])
   (.rt))
  (.sk)))))
 (.rg [S1 16 (.bin .add (.t 8) (.k (.i .i64 1))),
  S7 8 16])))
def c42:C :=
 .sq (.rg [S1 2 (.mov (.k (.i .i64 0)))])
 (.sq (.rg [S1 3 (.mov (.k (.i .i64 0)))])
 (.sq (.sq (.rg [S7 6 0,
  S1 7 (.len (.t 6)),
  S1 8 (.mov (.k (.i .i64 0)))])
 (.bk 0 (.lp b42_0)))
 (.sq (.rg [S7 17 3,
  S7 2 17])
 (.rt))))
def fn42:Fn:={ n:=18,np:=1,res:=[.t 2],body:=c42 }
theorem e42:F 42=some fn42:=by kernel_rfl
def c43:C :=
 .sq (.rg [S1 4 (.mov (.k (.i .i64 0)))])
 (.sq (.rg [S7 7 0,
  S2 8 (.pc 74 [(.t 7)]),
  S7 5 8])
 (.sq (.rg [S7 9 1,
  S2 10 (.pc 74 [(.t 9)]),
  S7 6 10])
 (.sq (.sq (.rg [S7 11 5])
 (.cd (.t 11)
  (.sq (.sq (.rg [S7 12 6])
   (.cd (.t 12)
    (.sq (.rg [S1 4 (.mov (.k (.i .i64 0)))])
     (.rt))
    (.sk)))
   (.sq (.rg [S1 4 (.mov (.k (.i .i64 (-1))))])
   (.rt)))
  (.sk)))
 (.sq (.sq (.rg [S7 13 6])
 (.cd (.t 13)
  (.sq (.rg [S1 4 (.mov (.k (.i .i64 1)))])
   (.rt))
  (.sk)))
 (.sq (.sq (.rg [S7 14 0,
  S7 15 1,
  S1 16 (.bin .lss (.t 14) (.t 15))])
 (.cd (.t 16)
  (.sq (.rg [S1 4 (.mov (.k (.i .i64 (-1))))])
   (.rt))
  (.sk)))
 (.sq (.sq (.rg [S7 17 0,
  S7 18 1,
  S1 19 (.bin .gtr (.t 17) (.t 18))])
 (.cd (.t 19)
  (.sq (.rg [S1 4 (.mov (.k (.i .i64 1)))])
   (.rt))
  (.sk)))
 (.sq (.rg [S1 4 (.mov (.k (.i .i64 0)))])
 (.rt))))))))
def fn43:Fn:={ n:=20,np:=2,res:=[.t 4],body:=c43 }
theorem e43:F 43=some fn43:=by kernel_rfl
def c47:C :=
 .sq (.rg [S2 1 (.box (.t 0)),
  S1 2 (.mov (.k (.bo false)))])
 (.sq (.rg [S2 3 (.ld 8 true (.t 1)),
  S2 4 (.pc 75 [(.t 3)]),
  S7 5 4,
  S5 6 5 true (.adr 5 (.t 1)),
  S4 7 5 true (.ld 1 false (.t 6)),
  S4 8 5 true (.pc 76 [(.t 7),(.k (.fn 77 []))]),
  S5 9 5 true (.un .not (.t 8)),
  S1 10 (.pick (.t 5) (.t 9) (.k (.bo false))),
  S7 2 10])
 (.rt))
def fn47:Fn:={ n:=11,np:=1,res:=[.t 2],body:=c47 }
theorem e47:F 47=some fn47:=by kernel_rfl
def b48_0:C :=
 .sq (.rg [S1 13 (.bin .lss (.t 12) (.t 11))])
 (.sq (.cd (.t 13)
  (.sk)
  (.ex 0))
 (.sq (.bk 1 (.sq (.rg [S1 14 (.ixp 8 (.t 10) (.t 12)),
  S2 15 (.ld 8 true (.t 14)),
  S2 5 (.alc [.i .i64 0,.i .u64 0,.i .u64 0,.i .u64 0,.i .u64 0,.nil,.i .i64 0,.i .i64 0]),
  S3 (.sto 8 (.t 5) (.t 15))])
 (.rg [S7 16 3,
  S2 17 (.ld 8 true (.t 5)),
  S2 18 (.pc 48 [(.t 17)]),
  S2 19 (.bsl 8 1 [.i .i64 0,.i .u64 0,.i .u64 0,.i .u64 0,.i .u64 0,.nil,.i .i64 0,.i .i64 0] [(0,(.t 18))]),
  S2 20 (.app 8 80 (.t 16) (.t 19)),
  S7 3 20])))
 (.rg [S1 21 (.bin .add (.t 12) (.k (.i .i64 1))),
  S7 12 21])))
def c48:C :=
 .sq (.rg [S2 1 (.box (.t 0)),
  S2 2 (.alc [.i .i64 0,.i .u64 0,.i .u64 0,.i .u64 0,.i .u64 0,.nil,.i .i64 0,.i .i64 0])])
 (.sq (.sq (.rg [S2 6 (.ld 8 true (.t 1)),
  S2 7 (.pc 78 [(.t 6)])])
 (.cd (.t 7)
  (.sq (.rg [S1 8 (.bld [.i .i64 0,.i .u64 0,.i .u64 0,.i .u64 0,.i .u64 0,.nil,.i .i64 0,.i .i64 0] [(0,1,(.k (.i .i64 1)))]),
    S3 (.sto 8 (.t 2) (.t 8))])
   (.rt))
  (.sk)))
 (.sq (.rg [S1 3 (.mov (.k (.nil)))])
 (.sq (.sq (.rg [S8 9 5 1,
  S6 10 9,
  S1 11 (.len (.t 10)),
  S1 12 (.mov (.k (.i .i64 0)))])
 (.bk 0 (.lp b48_0)))
 (.sq (.sq (.rg [S8 22 0 1,
  S6 23 22])
 (.bk 2 (.sq (.sq (.rg [S1 25 (.bin .eql (.t 23) (.k (.i .i64 2))),
  S7 24 25])
 (.cd (.t 24)
  (.sk)
  (.rg [S1 26 (.bin .eql (.t 23) (.k (.i .i64 3))),
    S7 24 26])))
 (.cd (.t 24)
  (.sq (.rg [S8 27 0 1,
    S8 29 0 1,
    S7 31 3,
    S6 28 27,
    S6 30 29,
    ⟨some 32,none,.nc 80 [(.t 30),(.k (.nil)),(.t 31)],[.ld 1 false (.t 27)]⟩,
    S2 33 (.nc 79 [(.t 28),(.t 32)]),
    S3 (.sto 8 (.t 2) (.t 33))])
   (.rt))
  (.sq (.rg [S1 35 (.bin .eql (.t 23) (.k (.i .i64 4))),
    S7 34 35])
   (.cd (.t 34)
    (.sq (.rg [S7 36 3,
      S1 37 (.ixp 8 (.t 36) (.k (.i .i64 0))),
      S8 39 6 1,
      S8 41 7 1,
      S2 38 (.ld 8 true (.t 37)),
      S6 40 39,
      S6 42 41,
      S2 43 (.pc 81 [(.t 38),(.t 40),(.t 42)]),
      S3 (.sto 8 (.t 2) (.t 43))])
     (.rt))
    (.sk)))))))
 (.sq (.rg [S2 44 (.ld 8 true (.t 1)),
  S3 (.sto 8 (.t 2) (.t 44))])
 (.rt))))))
def fn48:Fn:={ n:=45,np:=1,res:=[.c 2 8 true],body:=c48 }
theorem e48:F 48=some fn48:=by kernel_rfl
def c49:C :=
 .sq (.rg [S1 2 (.mov (.k (.nil)))])
 (.sq (.sq (.rg [S7 3 0,
  S2 4 (.isz false (.t 3))])
 (.cd (.t 4)
  (.sq (.rg [S1 2 (.mov (.k (.nil)))])
   (.rt))
  (.sk)))
 (.sq (.rg [S2 5 (.bsl 1 0 [.i .i64 0] []),
  S7 6 0,
  S2 7 (.app 1 8 (.t 5) (.t 6)),
  S7 2 7])
 (.rt)))
def fn49:Fn:={ n:=8,np:=1,res:=[.t 2],body:=c49 }
theorem e49:F 49=some fn49:=by kernel_rfl
def c50:C :=
 .sq (.rg [S2 1 (.box (.t 0)),
  S2 2 (.alc [.i .i64 0,.i .i64 0]),
  S1 3 (.mov (.k (.bo false)))])
 (.sq (.rg [S8 5 6 1,
  S6 6 5,
  S1 7 (.mx true (.k (.i .i64 1)) (.t 6)),
  S8 8 7 1,
  S6 9 8,
  S1 10 (.bld [.i .i64 0,.i .i64 0] [(0,1,(.t 7)),(1,1,(.t 9))]),
  S2 4 (.alc [.i .i64 0,.i .i64 0]),
  S3 (.sto 2 (.t 4) (.t 10))])
 (.sq (.rg [S8 12 0 1,
  S2 11 (.ld 2 true (.t 4)),
  S6 13 12,
  S1 14 (.bin .eql (.t 13) (.k (.i .i64 4))),
  S7 15 14,
  S5 16 15 true (.adr 1 (.t 4)),
  S4 17 15 true (.ld 1 false (.t 16)),
  S5 18 15 true (.bin .gtr (.t 17) (.k (.i .i64 1))),
  S5 19 15 true (.mov (.t 18)),
  S5 20 19 false (.adr 1 (.t 4)),
  S4 21 19 false (.ld 1 false (.t 20)),
  S5 22 19 false (.bin .eql (.t 21) (.k (.i .i64 (-1)))),
  S5 23 19 false (.mov (.t 22)),
  S5 24 23 true (.adr 0 (.t 4)),
  S4 25 23 true (.ld 1 false (.t 24)),
  S5 26 23 true (.bin .gtr (.t 25) (.k (.i .i64 1))),
  S5 27 19 false (.pick (.t 23) (.t 26) (.k (.bo false))),
  S5 28 15 true (.pick (.t 19) (.k (.bo true)) (.t 27)),
  S1 29 (.pick (.t 15) (.t 28) (.k (.bo false))),
  ⟨none,none,.sto 2 (.t 2) (.t 11),[.ld 1 false (.t 24)]⟩,
  S7 3 29])
 (.rt)))
def fn50:Fn:={ n:=30,np:=1,res:=[.c 2 2 true,.t 3],body:=c50 }
theorem e50:F 50=some fn50:=by kernel_rfl
def b51_0:C :=
 .sq (.rg [S1 9 (.bin .lss (.t 8) (.t 7))])
 (.sq (.cd (.t 9)
  (.sk)
  (.ex 0))
 (.sq (.bk 1 (.sq (.rg [S7 10 8,
  S7 5 10])
 (.sq (.rg [S7 11 1,
  S7 12 0,
  S7 13 5,
  S1 14 (.ixp 1 (.t 12) (.t 13)),
  S6 15 14,
  S2 16 (.pv (.t 11) [(.t 15)])])
 (.cd (.t 16)
  (.sq (.rg [S7 17 5,
    S7 4 17])
   (.rt))
  (.sk)))))
 (.rg [S1 18 (.bin .add (.t 8) (.k (.i .i64 1))),
  S7 8 18])))
def c51:C :=
 .sq (.rg [S1 4 (.mov (.k (.i .i64 0)))])
 (.sq (.sq (.rg [S7 6 0,
  S1 7 (.len (.t 6)),
  S1 8 (.mov (.k (.i .i64 0)))])
 (.bk 0 (.lp b51_0)))
 (.sq (.rg [S1 4 (.mov (.k (.i .i64 (-1))))])
 (.rt)))
def fn51:Fn:={ n:=19,np:=2,res:=[.t 4],body:=c51 }
theorem e51:F 51=some fn51:=by kernel_rfl
def b52_0:C :=
 .sq (.rg [S1 23 (.bin .lss (.t 22) (.t 21))])
 (.sq (.cd (.t 23)
  (.sk)
  (.ex 2))
 (.sq (.bk 3 (.sq (.rg [S1 24 (.ixp 1 (.t 20) (.t 22)),
  S6 25 24,
  S7 13 25])
 (.rg [S7 26 0,
  S1 27 (.nck (.t 26)),
  S8 28 1 27,
  S7 30 11,
  S7 31 13,
  S7 32 3,
  S7 33 4,
  S1 34 (.bld [.i .i64 0,.i .i64 0,.bo false] [(0,1,(.t 31)),(1,1,(.t 32)),(2,1,(.t 33))]),
  S1 35 (.bld [.i .i64 0,.i .i64 0,.i .i64 0,.bo false] [(0,1,(.t 30)),(1,3,(.t 34))]),
  S6 29 28,
  S2 36 (.lkp true [.i .i64,.i .i64,.i .i64,.b] (.i .i64 0) false (.t 29) (.t 35)),
  S1 37 (.bin .add (.t 36) (.k (.i .i64 1))),
  ⟨some 38,none,.men true [.i .i64,.i .i64,.i .i64,.b] (.i .i64 0) (.t 29) (.t 35),[.lkp true [.i .i64,.i .i64,.i .i64,.b] (.i .i64 0) false (.t 29) (.t 35)]⟩,
  S1 39 (.ext (.t 38) 1),
  S3 (.est (.t 29) (.t 39) (.t 37))])))
 (.rg [S1 40 (.bin .add (.t 22) (.k (.i .i64 1))),
  S7 22 40])))
def b52_1:C :=
 .sq (.rg [S1 17 (.bin .lss (.t 16) (.t 15))])
 (.sq (.cd (.t 17)
  (.sk)
  (.ex 0))
 (.sq (.bk 1 (.sq (.rg [S1 18 (.ixp 1 (.t 14) (.t 16)),
  S6 19 18,
  S7 11 19])
 (.sq (.rg [S7 20 2,
  S1 21 (.len (.t 20)),
  S1 22 (.mov (.k (.i .i64 0)))])
 (.bk 2 (.lp b52_0)))))
 (.rg [S1 41 (.bin .add (.t 16) (.k (.i .i64 1))),
  S7 16 41])))
def c52:C :=
 .sq (.rg [S7 14 1,
  S1 15 (.len (.t 14)),
  S1 16 (.mov (.k (.i .i64 0)))])
 (.bk 0 (.lp b52_1))
def fn52:Fn:={ n:=42,np:=5,res:=[],body:=c52 }
theorem e52:F 52=some fn52:=by kernel_rfl
def b53_0:C :=
 .sq (.rg [S1 12 (.bin .lss (.t 11) (.t 10))])
 (.sq (.cd (.t 12)
  (.sk)
  (.ex 0))
 (.sq (.bk 1 (.sq (.rg [S1 13 (.ixp 1 (.t 9) (.t 11)),
  S6 14 13,
  S7 5 14])
 (.sq (.rg [S7 15 3,
  S7 16 5,
  S1 17 (.len (.t 16)),
  S1 18 (.bin .add (.t 15) (.t 17)),
  S7 3 18])
 (.sq (.rg [S7 19 3,
  S1 20 (.bin .lss (.t 19) (.k (.i .i64 0)))])
 (.cd (.t 20)
  (.rg [S2 21 (.bad),
    S3 (.bad)])
  (.sk))))))
 (.rg [S1 22 (.bin .add (.t 11) (.k (.i .i64 1))),
  S7 11 22])))
def b53_1:C :=
 .sq (.rg [S1 28 (.bin .lss (.t 27) (.t 26))])
 (.sq (.cd (.t 28)
  (.sk)
  (.ex 2))
 (.sq (.bk 3 (.sq (.rg [S1 29 (.ixp 1 (.t 25) (.t 27)),
  S6 30 29,
  S7 8 30])
 (.rg [S7 31 6,
  S7 32 8,
  S2 33 (.app 1 8 (.t 31) (.t 32)),
  S7 6 33])))
 (.rg [S1 34 (.bin .add (.t 27) (.k (.i .i64 1))),
  S7 27 34])))
def c53:C :=
 .sq (.rg [S1 2 (.mov (.k (.nil)))])
 (.sq (.rg [S1 3 (.mov (.k (.i .i64 0)))])
 (.sq (.sq (.rg [S7 9 0,
  S1 10 (.len (.t 9)),
  S1 11 (.mov (.k (.i .i64 0)))])
 (.bk 0 (.lp b53_0)))
 (.sq (.rg [S7 23 3,
  S2 24 (.nc 82 [(.k (.nil)),(.t 23)]),
  S7 6 24])
 (.sq (.sq (.rg [S7 25 0,
  S1 26 (.len (.t 25)),
  S1 27 (.mov (.k (.i .i64 0)))])
 (.bk 2 (.lp b53_1)))
 (.sq (.rg [S7 35 6,
  S7 2 35])
 (.rt))))))
def fn53:Fn:={ n:=36,np:=1,res:=[.t 2],body:=c53 }
theorem e53:F 53=some fn53:=by kernel_rfl
def c54:C :=
 .sq (.rg [S2 1 (.box (.t 0)),
  S1 2 (.mov (.k (.bo false)))])
 (.sq (.rg [S2 3 (.ld 8 true (.t 1)),
  S2 4 (.pc 47 [(.t 3)]),
  S7 5 4,
  S4 6 5 true (.ld 8 true (.t 1)),
  S4 7 5 true (.pc 83 [(.t 6)]),
  S1 8 (.pick (.t 5) (.t 7) (.k (.bo false))),
  S7 2 8])
 (.rt))
def fn54:Fn:={ n:=9,np:=1,res:=[.t 2],body:=c54 }
theorem e54:F 54=some fn54:=by kernel_rfl
def c74:C :=
 .sq (.rg [S1 2 (.mov (.k (.bo false)))])
 (.sq (.rg [S7 3 0,
  S7 4 0,
  S1 5 (.bin .neq (.t 3) (.t 4)),
  S7 2 5])
 (.rt))
def fn74:Fn:={ n:=6,np:=1,res:=[.t 2],body:=c74 }
theorem e74:F 74=some fn74:=by kernel_rfl
def c30:C :=
 .sq (.rg [S1 2 (.mov (.k (.i .i64 0)))])
 (.sq (.sq (.rg [S7 3 0,
  S1 4 (.bin .eql (.t 3) (.k (.i .u64 0)))])
 (.cd (.t 4)
  (.sq (.rg [S1 2 (.mov (.k (.i .i64 64)))])
   (.rt))
  (.sk)))
 (.sq (.rg [S7 5 0,
  S7 6 0,
  S1 7 (.un .neg (.t 6)),
  S1 8 (.bin .and (.t 5) (.t 7)),
  S1 9 (.bin .mul (.t 8) (.k (.i .u64 285870213051353865))),
  S1 10 (.bin .shr (.t 9) (.k (.i .u64 58))),
  S1 11 (.ixq 64 1 (.k (glV 1)) (.t 10)),
  S6 12 11,
  S1 13 (.cv .i64 (.t 12)),
  S7 2 13])
 (.rt)))
def fn30:Fn:={ n:=14,np:=1,res:=[.t 2],body:=c30 }
theorem e30:F 30=some fn30:=by kernel_rfl
def c75:C :=
 .sq (.rg [S2 1 (.box (.t 0)),
  S1 2 (.mov (.k (.bo false)))])
 (.sq (.rg [S8 4 6 1,
  S6 5 4,
  S1 6 (.bin .eql (.t 5) (.k (.i .i64 0))),
  S7 7 6,
  S5 8 7 true (.adr 7 (.t 1)),
  S4 9 7 true (.ld 1 false (.t 8)),
  S5 10 7 true (.bin .eql (.t 9) (.k (.i .i64 0))),
  S1 11 (.pick (.t 7) (.t 10) (.k (.bo false))),
  S7 3 11])
 (.sq (.sq (.rg [S8 12 0 1,
  S6 13 12])
 (.bk 0 (.sq (.rg [S1 15 (.bin .eql (.t 13) (.k (.i .i64 0))),
  S7 14 15])
 (.cd (.t 14)
  (.sq (.rg [S7 16 3,
    S7 17 16,
    S5 18 17 true (.adr 1 (.t 1)),
    S4 19 17 true (.ld 4 true (.t 18)),
    S4 20 17 true (.pc 35 [(.t 19)]),
    S1 21 (.pick (.t 17) (.t 20) (.k (.bo false))),
    S7 22 21,
    S5 23 22 true (.adr 5 (.t 1)),
    S4 24 22 true (.ld 1 false (.t 23)),
    S5 25 22 true (.len (.t 24)),
    S5 26 22 true (.bin .eql (.t 25) (.k (.i .i64 0))),
    S1 27 (.pick (.t 22) (.t 26) (.k (.bo false))),
    S7 2 27])
   (.rt))
  (.sq (.rg [S1 29 (.bin .eql (.t 13) (.k (.i .i64 1))),
    S7 28 29])
   (.cd (.t 28)
    (.sq (.rg [S7 30 3,
      S7 31 30,
      S5 32 31 true (.adr 5 (.t 1)),
      S4 33 31 true (.ld 1 false (.t 32)),
      S5 34 31 true (.len (.t 33)),
      S5 35 31 true (.bin .eql (.t 34) (.k (.i .i64 0))),
      S1 36 (.pick (.t 31) (.t 35) (.k (.bo false))),
      S7 2 36])
     (.rt))
    (.sq (.sq (.rg [S1 38 (.bin .eql (.t 13) (.k (.i .i64 2))),
      S7 37 38])
     (.cd (.t 37)
      (.sk)
      (.rg [S1 39 (.bin .eql (.t 13) (.k (.i .i64 3))),
        S7 37 39])))
     (.cd (.t 37)
      (.sq (.rg [S7 40 3,
        S7 41 40,
        S5 42 41 true (.adr 1 (.t 1)),
        S4 43 41 true (.ld 4 true (.t 42)),
        S4 44 41 true (.pc 35 [(.t 43)]),
        S1 45 (.pick (.t 41) (.t 44) (.k (.bo false))),
        S7 46 45,
        S5 47 46 true (.adr 5 (.t 1)),
        S4 48 46 true (.ld 1 false (.t 47)),
        S5 49 46 true (.len (.t 48)),
        S5 50 46 true (.bin .geq (.t 49) (.k (.i .i64 2))),
        S1 51 (.pick (.t 46) (.t 50) (.k (.bo false))),
        S7 2 51])
       (.rt))
      (.sq (.rg [S1 53 (.bin .eql (.t 13) (.k (.i .i64 4))),
        S7 52 53])
       (.cd (.t 52)
        (.sq (.rg [S8 54 1 1,
          S2 55 (.ld 4 true (.t 54)),
          S2 56 (.pc 35 [(.t 55)]),
          S7 57 56,
          S5 58 57 true (.adr 5 (.t 1)),
          S4 59 57 true (.ld 1 false (.t 58)),
          S5 60 57 true (.len (.t 59)),
          S5 61 57 true (.bin .eql (.t 60) (.k (.i .i64 1))),
          S1 62 (.pick (.t 57) (.t 61) (.k (.bo false))),
          S7 63 62,
          S5 64 63 true (.adr 6 (.t 1)),
          S4 65 63 true (.ld 1 false (.t 64)),
          S5 66 63 true (.bin .geq (.t 65) (.k (.i .i64 0))),
          S1 67 (.pick (.t 63) (.t 66) (.k (.bo false))),
          S7 68 67,
          S5 69 68 true (.adr 6 (.t 1)),
          S4 70 68 true (.ld 1 false (.t 69)),
          S5 71 68 true (.bin .leq (.t 70) (.k (.i .i64 2147483647))),
          S1 72 (.pick (.t 68) (.t 71) (.k (.bo false))),
          S7 73 72,
          S5 74 73 true (.adr 7 (.t 1)),
          S4 75 73 true (.ld 1 false (.t 74)),
          S5 76 73 true (.bin .eql (.t 75) (.k (.i .i64 (-1)))),
          S5 77 73 true (.mov (.t 76)),
          S5 78 77 false (.adr 7 (.t 1)),
          S4 79 77 false (.ld 1 false (.t 78)),
          S5 80 77 false (.adr 6 (.t 1)),
          S4 81 77 false (.ld 1 false (.t 80)),
          S5 82 77 false (.bin .geq (.t 79) (.t 81)),
          S5 83 77 false (.mov (.t 82)),
          S5 84 83 true (.adr 7 (.t 1)),
          S4 85 83 true (.ld 1 false (.t 84)),
          S5 86 83 true (.bin .leq (.t 85) (.k (.i .i64 2147483647))),
          S5 87 77 false (.pick (.t 83) (.t 86) (.k (.bo false))),
          S5 88 73 true (.pick (.t 77) (.k (.bo true)) (.t 87)),
          S1 89 (.pick (.t 73) (.t 88) (.k (.bo false))),
          S7 2 89])
         (.rt))
        (.sk)))))))))))
 (.sq (.rg [S1 2 (.mov (.k (.bo false)))])
 (.rt))))
def fn75:Fn:={ n:=90,np:=1,res:=[.t 2],body:=c75 }
theorem e75:F 75=some fn75:=by kernel_rfl
def c76:C :=
 .sq (.rg [S1 4 (.mov (.k (.bo false)))])
 (.sq (.rg [S7 5 0,
  S7 6 1,
  S2 7 (.pc 92 [(.t 5),(.t 6)]),
  S1 8 (.bin .geq (.t 7) (.k (.i .i64 0))),
  S7 4 8])
 (.rt))
def fn76:Fn:={ n:=9,np:=2,res:=[.t 4],body:=c76 }
theorem e76:F 76=some fn76:=by kernel_rfl
def c77:C :=
 .sq (.rg [S2 1 (.box (.t 0)),
  S1 2 (.mov (.k (.bo false)))])
 (.sq (.rg [S2 3 (.ld 8 true (.t 1)),
  S2 4 (.pc 47 [(.t 3)]),
  S1 5 (.un .not (.t 4)),
  S7 2 5])
 (.rt))
def fn77:Fn:={ n:=6,np:=1,res:=[.t 2],body:=c77 }
theorem e77:F 77=some fn77:=by kernel_rfl
def c78:C :=
 .sq (.rg [S2 1 (.box (.t 0)),
  S1 2 (.mov (.k (.bo false)))])
 (.sq (.sq (.rg [S8 3 0 1,
  S6 4 3])
 (.bk 0 (.sq (.rg [S1 6 (.bin .eql (.t 4) (.k (.i .i64 1))),
  S7 5 6])
 (.cd (.t 5)
  (.sq (.rg [S8 7 1 1,
    S2 8 (.ld 4 true (.t 7)),
    S2 9 (.pc 35 [(.t 8)]),
    S7 2 9])
   (.rt))
  (.sq (.rg [S1 11 (.bin .eql (.t 4) (.k (.i .i64 2))),
    S7 10 11])
   (.cd (.t 10)
    (.sq (.rg [S8 12 5 1,
      S6 13 12,
      S2 14 (.pc 76 [(.t 13),(.k (.fn 78 []))]),
      S7 2 14])
     (.rt))
    (.sq (.rg [S1 16 (.bin .eql (.t 4) (.k (.i .i64 3))),
      S7 15 16])
     (.cd (.t 15)
      (.sq (.rg [S8 17 5 1,
        S6 18 17,
        S2 19 (.pc 76 [(.t 18),(.k (.fn 93 []))]),
        S1 20 (.un .not (.t 19)),
        S7 2 20])
       (.rt))
      (.sq (.rg [S1 22 (.bin .eql (.t 4) (.k (.i .i64 4))),
        S7 21 22])
       (.cd (.t 21)
        (.sq (.rg [S8 23 6 1,
          S6 24 23,
          S1 25 (.bin .gtr (.t 24) (.k (.i .i64 0))),
          S7 26 25,
          S5 27 26 true (.adr 5 (.t 1)),
          S4 28 26 true (.ld 1 false (.t 27)),
          S5 29 26 true (.ixp 8 (.t 28) (.k (.i .i64 0))),
          S4 30 26 true (.ld 8 true (.t 29)),
          S4 31 26 true (.pc 78 [(.t 30)]),
          S1 32 (.pick (.t 26) (.t 31) (.k (.bo false))),
          S7 2 32])
         (.rt))
        (.sk)))))))))))
 (.sq (.rg [S1 2 (.mov (.k (.bo false)))])
 (.rt)))
def fn78:Fn:={ n:=33,np:=1,res:=[.t 2],body:=c78 }
theorem e78:F 78=some fn78:=by kernel_rfl
def c79:C :=
 .sq (.rg [S2 4 (.alc [.i .i64 0,.i .u64 0,.i .u64 0,.i .u64 0,.i .u64 0,.nil,.i .i64 0,.i .i64 0])])
 (.sq (.sq (.rg [S7 5 1,
  S1 6 (.len (.t 5))])
 (.bk 0 (.sq (.rg [S1 8 (.bin .eql (.t 6) (.k (.i .i64 0))),
  S7 7 8])
 (.cd (.t 7)
  (.sq (.rg [S1 9 (.bld [.i .i64 0,.i .u64 0,.i .u64 0,.i .u64 0,.i .u64 0,.nil,.i .i64 0,.i .i64 0] []),
    S3 (.sto 8 (.t 4) (.t 9))])
   (.rt))
  (.sq (.rg [S1 11 (.bin .eql (.t 6) (.k (.i .i64 1))),
    S7 10 11])
   (.cd (.t 10)
    (.sq (.rg [S7 12 1,
      S1 13 (.ixp 8 (.t 12) (.k (.i .i64 0))),
      S2 14 (.ld 8 true (.t 13)),
      S3 (.sto 8 (.t 4) (.t 14))])
     (.rt))
    (.sk)))))))
 (.sq (.rg [S7 15 0,
  S7 16 1,
  S1 17 (.bld [.i .i64 0,.i .u64 0,.i .u64 0,.i .u64 0,.i .u64 0,.nil,.i .i64 0,.i .i64 0] [(0,1,(.t 15)),(5,1,(.t 16))]),
  S3 (.sto 8 (.t 4) (.t 17))])
 (.rt)))
def fn79:Fn:={ n:=18,np:=2,res:=[.c 4 8 true],body:=c79 }
theorem e79:F 79=some fn79:=by kernel_rfl
def b80_0:C :=
 .sq (.rg [S1 12 (.bin .lss (.t 11) (.t 10))])
 (.sq (.cd (.t 12)
  (.sk)
  (.ex 0))
 (.sq (.bk 1 (.sq (.rg [S1 13 (.ixp 8 (.t 9) (.t 11)),
  S2 14 (.ld 8 true (.t 13)),
  S2 8 (.alc [.i .i64 0,.i .u64 0,.i .u64 0,.i .u64 0,.i .u64 0,.nil,.i .i64 0,.i .i64 0]),
  S3 (.sto 8 (.t 8) (.t 14))])
 (.bk 2 (.sq (.rg [S8 20 0 8,
  S6 21 20,
  S7 22 0,
  S1 23 (.bin .eql (.t 21) (.t 22)),
  S7 19 23])
 (.cd (.t 19)
  (.rg [S7 24 0,
    S7 25 1,
    S8 26 5 8,
    S6 27 26,
    S2 28 (.nc 80 [(.t 24),(.t 25),(.t 27)]),
    S7 1 28])
  (.sq (.rg [S7 30 0,
    S1 31 (.bin .eql (.t 30) (.k (.i .i64 2))),
    S7 32 31,
    S5 33 32 true (.adr 0 (.t 8)),
    S4 34 32 true (.ld 1 false (.t 33)),
    S5 35 32 true (.bin .eql (.t 34) (.k (.i .i64 0))),
    S1 36 (.pick (.t 32) (.t 35) (.k (.bo false))),
    S7 29 36])
   (.cd (.t 29)
    (.sk)
    (.sq (.rg [S7 38 0,
      S1 39 (.bin .eql (.t 38) (.k (.i .i64 3))),
      S7 40 39,
      S4 41 40 true (.ld 8 true (.t 8)),
      S4 42 40 true (.pc 78 [(.t 41)]),
      S5 43 40 true (.mov (.t 42)),
      S5 44 43 false (.mov (.t 1)),
      S5 45 43 false (.mkf 94 [(.t 8)]),
      S4 46 43 false (.pc 76 [(.t 44),(.t 45)]),
      S5 47 40 true (.pick (.t 43) (.k (.bo true)) (.t 46)),
      S1 48 (.pick (.t 40) (.t 47) (.k (.bo false))),
      S7 37 48])
     (.cd (.t 37)
      (.sk)
      (.rg [S7 15 1,
        S2 16 (.ld 8 true (.t 8)),
        S2 17 (.bsl 8 1 [.i .i64 0,.i .u64 0,.i .u64 0,.i .u64 0,.i .u64 0,.nil,.i .i64 0,.i .i64 0] [(0,(.t 16))]),
        S2 18 (.app 8 80 (.t 15) (.t 17)),
        S7 1 18]))))))))))
 (.rg [S1 49 (.bin .add (.t 11) (.k (.i .i64 1))),
  S7 11 49])))
def c80:C :=
 .sq (.rg [S1 6 (.mov (.k (.nil)))])
 (.sq (.sq (.rg [S7 9 2,
  S1 10 (.len (.t 9)),
  S1 11 (.mov (.k (.i .i64 0)))])
 (.bk 0 (.lp b80_0)))
 (.sq (.rg [S7 50 1,
  S7 6 50])
 (.rt)))
def fn80:Fn:={ n:=51,np:=3,res:=[.t 6],body:=c80 }
theorem e80:F 80=some fn80:=by kernel_rfl
def c81:C :=
 .sq (.rg [S2 3 (.box (.t 0)),
  S2 6 (.alc [.i .i64 0,.i .u64 0,.i .u64 0,.i .u64 0,.i .u64 0,.nil,.i .i64 0,.i .i64 0])])
 (.sq (.bk 0 (.sq (.rg [S7 8 2,
  S1 9 (.bin .eql (.t 8) (.k (.i .i64 0))),
  S7 10 9,
  S5 11 10 false (.adr 0 (.t 3)),
  S4 12 10 false (.ld 1 false (.t 11)),
  S5 13 10 false (.bin .eql (.t 12) (.k (.i .i64 0))),
  S1 14 (.pick (.t 10) (.k (.bo true)) (.t 13)),
  S7 15 14,
  S4 16 15 false (.ld 8 true (.t 3)),
  S4 17 15 false (.pc 78 [(.t 16)]),
  S1 18 (.pick (.t 15) (.k (.bo true)) (.t 17)),
  S7 7 18])
 (.cd (.t 7)
  (.sq (.rg [S1 19 (.bld [.i .i64 0,.i .u64 0,.i .u64 0,.i .u64 0,.i .u64 0,.nil,.i .i64 0,.i .i64 0] []),
    S3 (.sto 8 (.t 6) (.t 19))])
   (.rt))
  (.sq (.rg [S7 21 1,
    S1 22 (.bin .eql (.t 21) (.k (.i .i64 1))),
    S7 23 22,
    S5 24 23 true (.mov (.t 2)),
    S5 25 23 true (.bin .eql (.t 24) (.k (.i .i64 1))),
    S1 26 (.pick (.t 23) (.t 25) (.k (.bo false))),
    S7 20 26])
   (.cd (.t 20)
    (.sq (.rg [S2 27 (.ld 8 true (.t 3)),
      S3 (.sto 8 (.t 6) (.t 27))])
     (.rt))
    (.sq (.rg [S2 29 (.ld 8 true (.t 3)),
      S2 30 (.pc 83 [(.t 29)]),
      S7 28 30])
     (.cd (.t 28)
      (.rg [S1 1 (.mov (.k (.i .i64 0)))])
      (.sk))))))))
 (.sq (.rg [S2 31 (.ld 8 true (.t 3)),
  S2 32 (.bsl 8 1 [.i .i64 0,.i .u64 0,.i .u64 0,.i .u64 0,.i .u64 0,.nil,.i .i64 0,.i .i64 0] [(0,(.t 31))]),
  S7 33 1,
  S7 34 2,
  S1 35 (.bld [.i .i64 0,.i .u64 0,.i .u64 0,.i .u64 0,.i .u64 0,.nil,.i .i64 0,.i .i64 0] [(0,1,(.k (.i .i64 4))),(5,1,(.t 32)),(6,1,(.t 33)),(7,1,(.t 34))]),
  S3 (.sto 8 (.t 6) (.t 35))])
 (.rt)))
def fn81:Fn:={ n:=36,np:=3,res:=[.c 6 8 true],body:=c81 }
theorem e81:F 81=some fn81:=by kernel_rfl
def c82:C :=
 .sq (.rg [S1 4 (.mov (.k (.nil)))])
 (.sq (.sq (.rg [S7 5 1,
  S1 6 (.bin .lss (.t 5) (.k (.i .i64 0)))])
 (.cd (.t 6)
  (.rg [S2 7 (.bad),
    S3 (.bad)])
  (.sk)))
 (.sq (.sq (.rg [S7 8 1,
  S7 9 0,
  S1 10 (.cap (.t 9)),
  S7 11 0,
  S1 12 (.len (.t 11)),
  S1 13 (.bin .sub (.t 10) (.t 12)),
  S1 14 (.bin .sub (.t 8) (.t 13)),
  S7 1 14])
 (.sq (.rg [S7 15 1,
  S1 16 (.bin .gtr (.t 15) (.k (.i .i64 0)))])
 (.cd (.t 16)
  (.rg [S7 17 0,
    S7 18 0,
    S1 19 (.cap (.t 18)),
    S1 20 (.slc 1 (.t 17) none (some (.t 19)) none),
    S7 21 1,
    S2 22 (.apz 1 8 [.i .i64 0] (.t 20) (.t 21)),
    S7 23 0,
    S1 24 (.len (.t 23)),
    S1 25 (.slc 1 (.t 22) none (some (.t 24)) none),
    S7 0 25])
  (.sk))))
 (.sq (.rg [S7 26 0,
  S7 4 26])
 (.rt))))
def fn82:Fn:={ n:=27,np:=2,res:=[.t 4],body:=c82 }
theorem e82:F 82=some fn82:=by kernel_rfl
def c83:C :=
 .sq (.rg [S2 1 (.box (.t 0)),
  S1 2 (.mov (.k (.bo false)))])
 (.sq (.sq (.rg [S8 3 0 1,
  S6 4 3])
 (.bk 0 (.sq (.rg [S1 6 (.bin .eql (.t 4) (.k (.i .i64 1))),
  S7 5 6])
 (.cd (.t 5)
  (.sq (.rg [S1 2 (.mov (.k (.bo false)))])
   (.rt))
  (.sq (.rg [S1 8 (.bin .eql (.t 4) (.k (.i .i64 2))),
    S7 7 8])
   (.cd (.t 7)
    (.sq (.rg [S8 9 5 1,
      S6 10 9,
      S2 11 (.pc 76 [(.t 10),(.k (.fn 96 []))]),
      S1 12 (.un .not (.t 11)),
      S7 2 12])
     (.rt))
    (.sq (.rg [S1 14 (.bin .eql (.t 4) (.k (.i .i64 3))),
      S7 13 14])
     (.cd (.t 13)
      (.sq (.rg [S8 15 5 1,
        S6 16 15,
        S2 17 (.pc 76 [(.t 16),(.k (.fn 83 []))]),
        S7 2 17])
       (.rt))
      (.sq (.rg [S1 19 (.bin .eql (.t 4) (.k (.i .i64 4))),
        S7 18 19])
       (.cd (.t 18)
        (.sq (.rg [S8 20 6 1,
          S6 21 20,
          S1 22 (.bin .eql (.t 21) (.k (.i .i64 0))),
          S7 23 22,
          S5 24 23 false (.adr 5 (.t 1)),
          S4 25 23 false (.ld 1 false (.t 24)),
          S5 26 23 false (.ixp 8 (.t 25) (.k (.i .i64 0))),
          S4 27 23 false (.ld 8 true (.t 26)),
          S4 28 23 false (.pc 83 [(.t 27)]),
          S1 29 (.pick (.t 23) (.k (.bo true)) (.t 28)),
          S7 2 29])
         (.rt))
        (.sk)))))))))))
 (.sq (.rg [S1 2 (.mov (.k (.bo true)))])
 (.rt)))
def fn83:Fn:={ n:=30,np:=1,res:=[.t 2],body:=c83 }
theorem e83:F 83=some fn83:=by kernel_rfl
def b92_0:C :=
 .sq (.rg [S1 9 (.bin .lss (.t 8) (.t 7))])
 (.sq (.cd (.t 9)
  (.sk)
  (.ex 0))
 (.sq (.bk 1 (.sq (.rg [S7 10 8,
  S7 5 10])
 (.sq (.rg [S7 11 1,
  S7 12 0,
  S7 13 5,
  S1 14 (.ixp 8 (.t 12) (.t 13)),
  S2 15 (.ld 8 true (.t 14)),
  S2 16 (.pv (.t 11) [(.t 15)])])
 (.cd (.t 16)
  (.sq (.rg [S7 17 5,
    S7 4 17])
   (.rt))
  (.sk)))))
 (.rg [S1 18 (.bin .add (.t 8) (.k (.i .i64 1))),
  S7 8 18])))
def c92:C :=
 .sq (.rg [S1 4 (.mov (.k (.i .i64 0)))])
 (.sq (.sq (.rg [S7 6 0,
  S1 7 (.len (.t 6)),
  S1 8 (.mov (.k (.i .i64 0)))])
 (.bk 0 (.lp b92_0)))
 (.sq (.rg [S1 4 (.mov (.k (.i .i64 (-1))))])
 (.rt)))
def fn92:Fn:={ n:=19,np:=2,res:=[.t 4],body:=c92 }
theorem e92:F 92=some fn92:=by kernel_rfl
def c93:C :=
 .sq (.rg [S2 1 (.box (.t 0)),
  S1 2 (.mov (.k (.bo false)))])
 (.sq (.rg [S2 3 (.ld 8 true (.t 1)),
  S2 4 (.pc 78 [(.t 3)]),
  S1 5 (.un .not (.t 4)),
  S7 2 5])
 (.rt))
def fn93:Fn:={ n:=6,np:=1,res:=[.t 2],body:=c93 }
theorem e93:F 93=some fn93:=by kernel_rfl
def c94:C :=
 .sq (.rg [S2 2 (.box (.t 0)),
  S1 3 (.mov (.k (.bo false)))])
 (.sq (.rg [S2 4 (.ld 8 true (.t 1)),
  S2 5 (.ld 8 true (.t 2)),
  S2 6 (.pc 95 [(.t 4),(.t 5)]),
  S7 3 6])
 (.rt))
def fn94:Fn:={ n:=7,np:=2,res:=[.t 3],body:=c94 }
theorem e94:F 94=some fn94:=by kernel_rfl
def c95:C :=
 .sq (.rg [S2 2 (.box (.t 0)),
  S2 3 (.box (.t 1)),
  S1 4 (.mov (.k (.bo false)))])
 (.sq (.rg [S8 5 0 2,
  S6 6 5,
  S8 7 0 3,
  S6 8 7,
  S1 9 (.bin .eql (.t 6) (.t 8)),
  S7 10 9,
  S5 11 10 true (.adr 1 (.t 2)),
  S4 12 10 true (.ld 4 true (.t 11)),
  S5 13 10 true (.adr 1 (.t 3)),
  S4 14 10 true (.ld 4 true (.t 13)),
  S5 15 10 true (.eqp false true [.i .u64,.i .u64,.i .u64,.i .u64] (.t 12) (.t 14)),
  S1 16 (.pick (.t 10) (.t 15) (.k (.bo false))),
  S7 17 16,
  S5 18 17 true (.adr 6 (.t 2)),
  S4 19 17 true (.ld 1 false (.t 18)),
  S5 20 17 true (.adr 6 (.t 3)),
  S4 21 17 true (.ld 1 false (.t 20)),
  S5 22 17 true (.bin .eql (.t 19) (.t 21)),
  S1 23 (.pick (.t 17) (.t 22) (.k (.bo false))),
  S7 24 23,
  S5 25 24 true (.adr 7 (.t 2)),
  S4 26 24 true (.ld 1 false (.t 25)),
  S5 27 24 true (.adr 7 (.t 3)),
  S4 28 24 true (.ld 1 false (.t 27)),
  S5 29 24 true (.bin .eql (.t 26) (.t 28)),
  S1 30 (.pick (.t 24) (.t 29) (.k (.bo false))),
  S7 31 30,
  S5 32 31 true (.adr 5 (.t 2)),
  S4 33 31 true (.ld 1 false (.t 32)),
  S5 34 31 true (.adr 5 (.t 3)),
  S4 35 31 true (.ld 1 false (.t 34)),
  S4 36 31 true (.pc 99 [(.t 33),(.t 35),(.k (.fn 95 []))]),
  S1 37 (.pick (.t 31) (.t 36) (.k (.bo false))),
  S7 4 37])
 (.rt))
def fn95:Fn:={ n:=38,np:=2,res:=[.t 4],body:=c95 }
theorem e95:F 95=some fn95:=by kernel_rfl
def c96:C :=
 .sq (.rg [S2 1 (.box (.t 0)),
  S1 2 (.mov (.k (.bo false)))])
 (.sq (.rg [S2 3 (.ld 8 true (.t 1)),
  S2 4 (.pc 83 [(.t 3)]),
  S1 5 (.un .not (.t 4)),
  S7 2 5])
 (.rt))
def fn96:Fn:={ n:=6,np:=1,res:=[.t 2],body:=c96 }
theorem e96:F 96=some fn96:=by kernel_rfl
def b99_0:C :=
 .sq (.rg [S1 18 (.bin .lss (.t 17) (.t 16))])
 (.sq (.cd (.t 18)
  (.sk)
  (.ex 0))
 (.sq (.bk 1 (.sq (.rg [S7 19 17,
  S1 20 (.ixp 8 (.t 15) (.t 17)),
  S2 21 (.ld 8 true (.t 20)),
  S2 8 (.alc [.i .i64 0,.i .u64 0,.i .u64 0,.i .u64 0,.i .u64 0,.nil,.i .i64 0,.i .i64 0]),
  S7 7 19,
  S3 (.sto 8 (.t 8) (.t 21))])
 (.sq (.rg [S7 22 1,
  S7 23 7,
  S1 24 (.ixp 8 (.t 22) (.t 23)),
  S2 25 (.ld 8 true (.t 24)),
  S2 9 (.alc [.i .i64 0,.i .u64 0,.i .u64 0,.i .u64 0,.i .u64 0,.nil,.i .i64 0,.i .i64 0]),
  S3 (.sto 8 (.t 9) (.t 25))])
 (.sq (.rg [S7 26 2,
  S2 27 (.ld 8 true (.t 8)),
  S2 28 (.ld 8 true (.t 9)),
  S2 29 (.pv (.t 26) [(.t 27),(.t 28)]),
  S1 30 (.un .not (.t 29))])
 (.cd (.t 30)
  (.sq (.rg [S1 6 (.mov (.k (.bo false)))])
   (.rt))
  (.sk))))))
 (.rg [S1 31 (.bin .add (.t 17) (.k (.i .i64 1))),
  S7 17 31])))
def c99:C :=
 .sq (.rg [S1 6 (.mov (.k (.bo false)))])
 (.sq (.sq (.rg [S7 10 0,
  S1 11 (.len (.t 10)),
  S7 12 1,
  S1 13 (.len (.t 12)),
  S1 14 (.bin .neq (.t 11) (.t 13))])
 (.cd (.t 14)
  (.sq (.rg [S1 6 (.mov (.k (.bo false)))])
   (.rt))
  (.sk)))
 (.sq (.sq (.rg [S7 15 0,
  S1 16 (.len (.t 15)),
  S1 17 (.mov (.k (.i .i64 0)))])
 (.bk 0 (.lp b99_0)))
 (.sq (.rg [S1 6 (.mov (.k (.bo true)))])
 (.rt))))
def fn99:Fn:={ n:=32,np:=3,res:=[.t 6],body:=c99 }
theorem e99:F 99=some fn99:=by kernel_rfl
end Go.Proofs.YtpkmfoinpdnifaaDoor
