import Derived.Test.YtocmjakchgcioaaGreatBs

namespace Go.Proofs.YtocmjakchgcioaaGreat
set_option linter.all false
def imL:List (Nat × Nat × Nat):=[(10,(1,2)),(10,(2,1)),(10,(2,2)),(11,(3,4)),(19,(5,3)),(19,(7,2)),(19,(20,1)),(20,(6,4)),(20,(7,3)),(22,(1,1)),(22,(2,2)),(25,(1,2)),(34,(5,2)),(35,(8,4)),(35,(10,4)),(35,(12,3)),(40,(8,1)),(41,(5,5)),(54,(3,6)),(54,(6,1)),(54,(11,3)),(58,(5,3)),(58,(6,6)),(58,(8,5)),(58,(10,5)),(59,(5,3)),(59,(6,5)),(59,(7,5)),(60,(5,6)),(60,(7,7)),(66,(1,1)),(66,(2,1)),(67,(12,1)),(75,(12,5)),(75,(12,6)),(80,(9,1)),(102,(2,4)),(117,(6,4)),(54,(6,7)),(20,(8,2)),(8,(2,9)),(8,(2,14)),(4,(5,2))]
def im (f r i:Nat):Bool:=imL.contains (f,r,i)
noncomputable def F:En:=enOf Tryz.prog im bsL Bas
abbrev S1 (d:Nat) (q:Q):Stp:=⟨some d,none,.q q,[]⟩
abbrev S2 (d:Nat) (i:I):Stp:=⟨some d,none,i,[]⟩
abbrev S3 (i:I):Stp:=⟨none,none,i,[]⟩
abbrev S4 (d t:Nat) (p:Bool) (i:I):Stp:=⟨some d,some (t,p),i,[]⟩
abbrev S5 (d t:Nat) (p:Bool) (q:Q):Stp:=⟨some d,some (t,p),.q q,[]⟩
abbrev S6 (d x:Nat):Stp:=⟨some d,none,.ld 1 false (.t x),[]⟩
abbrev S7 (d x:Nat):Stp:=⟨some d,none,.q (.mov (.t x)),[]⟩
abbrev S8 (d a x:Nat):Stp:=⟨some d,none,.q (.adr a (.t x)),[]⟩
abbrev S10 (d:Nat) (o:BinOp) (a b:Nat):Stp:=⟨some d,none,.q (.bin o (.t a) (.t b)),[]⟩
abbrev S11 (d:Nat) (o:BinOp) (a:Nat) (n:Int):Stp:=⟨some d,none,.q (.bin o (.t a) (.k (.i .i64 n))),[]⟩
abbrev S12 (d a:Nat):Stp:=⟨some d,none,.q (.len (.t a)),[]⟩
abbrev S13 (d a n:Nat):Stp:=⟨some d,none,.q (.ext (.t a) n),[]⟩
abbrev S14 (d n a b:Nat):Stp:=⟨some d,none,.q (.ixp n (.t a) (.t b)),[]⟩
abbrev S15 (d n a:Nat):Stp:=⟨some d,none,.ld n true (.t a),[]⟩
abbrev S16 (n a b:Nat):Stp:=⟨none,none,.sto n (.t a) (.t b),[]⟩
abbrev S17 (d g a:Nat):Stp:=⟨some d,none,.pc g [.t a],[]⟩
abbrev S18 (d g a b:Nat):Stp:=⟨some d,none,.pc g [.t a,.t b],[]⟩
abbrev S19 (d g a b c:Nat):Stp:=⟨some d,none,.pc g [.t a,.t b,.t c],[]⟩
abbrev S20 (d g a b:Nat):Stp:=⟨some d,none,.nc g [.t a,.t b],[]⟩
abbrev S21 (d a:Nat):Stp:=⟨some d,none,.q (.un .not (.t a)),[]⟩
abbrev S22 (d:Nat) (n:Int):Stp:=⟨some d,none,.q (.mov (.k (.i .i64 n))),[]⟩
abbrev S23 (d:Nat) (p:Bool):Stp:=⟨some d,none,.q (.mov (.k (.bo p))),[]⟩
abbrev S24 (d a b:Nat):Stp:=⟨some d,none,.q (.pick (.t a) (.k (.bo true)) (.t b)),[]⟩
abbrev S25 (d a b:Nat):Stp:=⟨some d,none,.q (.pick (.t a) (.t b) (.k (.bo false))),[]⟩
abbrev S26 (d t:Nat) (p:Bool) (o:BinOp) (a b:Nat):Stp:=⟨some d,some (t,p),.q (.bin o (.t a) (.t b)),[]⟩
abbrev S27 (d t:Nat) (p:Bool) (o:BinOp) (a:Nat) (n:Int):Stp:=⟨some d,some (t,p),.q (.bin o (.t a) (.k (.i .i64 n))),[]⟩
abbrev S28 (d t:Nat) (p:Bool) (a:Nat):Stp:=⟨some d,some (t,p),.q (.mov (.t a)),[]⟩
abbrev S29 (d t:Nat) (p:Bool) (a:Nat):Stp:=⟨some d,some (t,p),.q (.len (.t a)),[]⟩
abbrev S30 (d a:Nat):Stp:=⟨some d,none,.box (.t a),[]⟩
abbrev S31 (d t n a:Nat):Stp:=⟨some d,some (t,true),.ld n false (.t a),[]⟩
abbrev S32 (d t:Nat) (p:Bool) (n a:Nat):Stp:=⟨some d,some (t,p),.q (.adr n (.t a)),[]⟩
abbrev S33 (d t n a:Nat):Stp:=⟨some d,some (t,true),.ld n true (.t a),[]⟩
abbrev S34 (d:Nat):Stp:=⟨some d,none,.q (.mov (.k .nil)),[]⟩
abbrev S35 (d n m a b:Nat):Stp:=⟨some d,none,.app n m (.t a) (.t b),[]⟩
abbrev S36 (d n m a b:Nat):Stp:=⟨some d,none,.q (.ixq n m (.t a) (.t b)),[]⟩
def c4:C :=.sq (.rg [S30 3 0,S30 4 1,S23 6 false]) (.sq (.sq (.rg [S2 13 (.pc 8 []),S21 14 13,S7 15 14,S28 16 15 false 2,S29 17 15 false 16,S27 18 15 false .gtr 17 20,S24 19 15 18]) (.cd (.t 19) (.sq (.rg [S2 20 (.pc 8 []),S7 6 20]) (.rt)) (.sk))) (.sq (.rg [S15 22 8 3,S17 23 9 22,S7 21 23,S13 24 21 0,S13 25 21 1,S2 7 (.alc [.i .i64 0,.i .u64 0,.i .u64 0,.i .u64 0,.i .u64 0,.nil,.i .i64 0,.i .i64 0,.nil,.nil,.nil,.nil,.nil,.nil,.bo false]),S16 15 7 24,S7 8 25]) (.sq (.rg [S15 27 8 4,S17 28 9 27,S7 26 28,S13 29 26 0,S13 30 26 1,S2 9 (.alc [.i .i64 0,.i .u64 0,.i .u64 0,.i .u64 0,.i .u64 0,.nil,.i .i64 0,.i .i64 0,.nil,.nil,.nil,.nil,.nil,.nil,.bo false]),S16 15 9 29,S7 10 30]) (.sq (.rg [S15 32 8 3,S15 33 8 4,S1 34 (.lit 8 2 [.i .i64 0,.i .u64 0,.i .u64 0,.i .u64 0,.i .u64 0,.nil,.i .i64 0,.i .i64 0] [(0,(.t 32)),(1,(.t 33))]),S1 35 (.bld [.i .i64 0,.i .u64 0,.i .u64 0,.i .u64 0,.i .u64 0,.nil,.i .i64 0,.i .i64 0] [(0,1,(.k (.i .i64 3))),(5,1,(.t 34))]),S17 36 9 35,S7 31 36,S13 37 31 0,S13 38 31 1,S2 11 (.alc [.i .i64 0,.i .u64 0,.i .u64 0,.i .u64 0,.i .u64 0,.nil,.i .i64 0,.i .i64 0,.nil,.nil,.nil,.nil,.nil,.nil,.bo false]),S16 15 11 37,S7 12 38]) (.sq (.rg [S7 39 8,S21 40 39,S7 41 40,S28 42 41 false 10,S5 43 41 false (.un .not (.t 42)),S24 44 41 43,S7 45 44,S28 46 45 false 12,S5 47 45 false (.un .not (.t 46)),S24 48 45 47,S7 49 48,S28 51 49 false 2,S28 54 49 false 2,S4 50 49 false (.ld 15 true (.t 11)),S4 53 49 false (.ld 15 true (.t 7)),S4 52 49 false (.pc 11 [(.t 50),(.t 51)]),S4 55 49 false (.pc 11 [(.t 53),(.t 54)]),S28 56 49 false 55,S28 58 56 false 2,S4 57 56 false (.ld 15 true (.t 9)),S4 59 56 false (.pc 11 [(.t 57),(.t 58)]),S5 60 49 false (.pick (.t 56) (.k (.bo true)) (.t 59)),S5 61 49 false (.eqb false (.t 52) (.t 60)),S24 62 49 61,S7 6 62]) (.rt))))))
def fn4:Fn:={ n:=63,np:=3,res:=[.t 6],body:=c4 }
def e4:F 4=some fn4:=by kernel_rfl
def c8:C :=.sq (.rg [S23 0 false]) (.sq (.rg [S1 4 (.bld [.i .u64 0,.i .u64 0,.i .u64 0,.i .u64 0] [(0,1,(.k (.i .u64 2)))]),S1 5 (.bld [.i .i64 0,.i .u64 0,.i .u64 0,.i .u64 0,.i .u64 0,.nil,.i .i64 0,.i .i64 0] [(0,1,(.k (.i .i64 1))),(1,4,(.t 4))]),S17 6 9 5,S7 3 6,S13 7 3 0,S13 8 3 1,S2 1 (.alc [.i .i64 0,.i .u64 0,.i .u64 0,.i .u64 0,.i .u64 0,.nil,.i .i64 0,.i .i64 0,.nil,.nil,.nil,.nil,.nil,.nil,.bo false]),S16 15 1 7,S7 2 8]) (.sq (.rg [S7 9 2,S7 10 9,S32 11 10 true 11 1,S31 12 10 1 11,S29 13 10 true 12,S27 14 10 true .eql 13 1,S25 15 10 14,S7 16 15,S33 17 16 15 1,S5 18 16 true (.lit 1 1 [.i .u8 0] [(0,(.k (.i .u8 1)))]),S4 19 16 true (.pc 11 [(.t 17),(.t 18)]),S25 20 16 19,S7 21 20,S33 22 21 15 1,S5 23 21 true (.lit 1 1 [.i .u8 0] [(0,(.k (.i .u8 1)))]),S4 24 21 true (.pc 10 [(.t 22),(.t 23)]),S29 25 21 true 24,S27 26 21 true .eql 25 1,S25 27 21 26,S7 0 27]) (.rt)))
def fn8:Fn:={ n:=28,np:=0,res:=[.t 0],body:=c8 }
def e8:F 8=some fn8:=by kernel_rfl
def c9:C :=.sq (.rg [S30 1 0,S2 2 (.alc [.i .i64 0,.i .u64 0,.i .u64 0,.i .u64 0,.i .u64 0,.nil,.i .i64 0,.i .i64 0,.nil,.nil,.nil,.nil,.nil,.nil,.bo false]),S23 3 false]) (.sq (.sq (.rg [S15 6 8 1,S2 7 (.pc 18 [(.t 6),(.k (.i .i64 80))]),S11 8 .gtr 7 80]) (.cd (.t 8) (.sq (.rg [S1 9 (.bld [.i .i64 0,.i .u64 0,.i .u64 0,.i .u64 0,.i .u64 0,.nil,.i .i64 0,.i .i64 0,.nil,.nil,.nil,.nil,.nil,.nil,.bo false] []),S16 15 2 9,S23 3 false]) (.rt)) (.sk))) (.sq (.rg [S15 11 8 1,S17 12 19 11,S7 10 12,S13 13 10 0,S13 14 10 1,S2 4 (.alc [.i .i64 0,.i .u64 0,.i .u64 0,.i .u64 0,.i .u64 0,.nil,.i .i64 0,.i .i64 0,.nil,.nil,.nil,.nil,.nil,.nil,.bo false]),S16 15 4 13,S7 5 14]) (.sq (.rg [S15 15 15 4,S7 16 5,S11 17 .eql 16 0,S16 15 2 15,S7 3 17]) (.rt))))
def fn9:Fn:={ n:=18,np:=1,res:=[.c 2 15 true,.t 3],body:=c9 }
def e9:F 9=some fn9:=by kernel_rfl
def c10:C :=.sq (.rg [S30 2 0,S34 4]) (.sq (.rg [S15 6 15 2,S7 7 1,S2 8 (.nc 20 [(.t 6),(.t 7),(.k (.fn 21 []))]),S7 5 8]) (.sq (.rg [S7 9 5,S2 10 (.nc 23 [(.t 9)]),S2 11 (.nc 22 [(.t 10),(.k (.fn 24 []))]),S7 4 11]) (.rt)))
def fn10:Fn:={ n:=12,np:=2,res:=[.t 4],body:=c10 }
def e10:F 10=some fn10:=by kernel_rfl
def c11:C :=.sq (.rg [S30 2 0,S23 4 false]) (.sq (.sq (.rg [S7 5 1,S12 6 5,S11 7 .eql 6 0]) (.cd (.t 7) (.sq (.rg [S8 8 14 2,S6 9 8,S7 4 9]) (.rt)) (.sk))) (.sq (.rg [S15 10 15 2,S7 11 1,S18 12 10 10 11,S1 13 (.mkf 26 [(.t 2)]),S20 14 25 12 13,S7 4 14]) (.rt)))
def fn11:Fn:={ n:=15,np:=2,res:=[.t 4],body:=c11 }
def e11:F 11=some fn11:=by kernel_rfl
def QjL:C :=.sq (.sq (.rg [S7 7 6,S8 8 5 2,S6 9 8,S12 10 9,S10 11 .lss 7 10,S7 12 11,S28 13 12 true 5,S28 14 12 true 1,S26 15 12 true .leq 13 14,S25 16 12 15]) (.cd (.t 16) (.sk) (.ex 0))) (.sq (.bk 1 (.rg [S7 19 5,S8 20 5 2,S6 21 20,S7 22 6,S14 23 8 21 22,S15 24 8 23,S7 25 1,S7 26 5,S10 27 .sub 25 26,S18 28 18 24 27,S10 29 .add 19 28,S7 5 29])) (.rg [S7 17 6,S11 18 .add 17 1,S7 6 18]))
def c18:C :=.sq (.rg [S30 2 0,S22 4 0]) (.sq (.rg [S22 5 1]) (.sq (.sq (.rg [S22 6 0]) (.bk 0 (.lp QjL))) (.sq (.rg [S7 30 5,S7 4 30]) (.rt))))
def fn18:Fn:={ n:=31,np:=2,res:=[.t 4],body:=c18 }
def e18:F 18=some fn18:=by kernel_rfl
def Qkx:C :=.sq (.rg [S10 51 .lss 50 49]) (.sq (.cd (.t 51) (.sk) (.ex 0)) (.sq (.bk 1 (.sq (.rg [S14 52 1 48 50,S6 53 52,S7 10 53]) (.rg [S8 54 13 8,S6 55 54,S7 56 10,S14 57 1 55 56,S3 (.sto 1 (.t 57) (.k (.bo true)))]))) (.rg [S11 58 .add 50 1,S7 50 58])))
def QjE:C :=.sq (.rg [S2 64 (.nxt (.t 63)),S13 65 64 0]) (.sq (.cd (.t 65) (.sk) (.ex 2)) (.bk 3 (.sq (.rg [S2 66 (.ent (.t 63)),S13 67 66 0,S2 11 (.alc [.i .i64 0,.i .i64 0,.i .i64 0,.bo false]),S16 4 11 67]) (.rg [S8 68 12 8,S8 70 0 11,S8 72 12 8,S8 74 0 11,S8 78 1 11,S6 69 68,S6 71 70,S6 73 72,S6 75 74,S14 76 1 73 75,S6 77 76,S15 79 3 78,S2 80 (.bsl 3 1 [.i .i64 0,.i .i64 0,.bo false] [(0,(.t 79))]),⟨some 81,none,.app 3 24 (.t 77) (.t 80),[.ld 1 false (.t 68),.ld 1 false (.t 70)]⟩,S14 82 1 69 71,S16 1 82 81]))))
def Qlm:C :=.sq (.rg [S10 87 .lss 86 85]) (.sq (.cd (.t 87) (.sk) (.ex 4)) (.sq (.bk 5 (.sq (.rg [S14 88 1 84 86,S6 89 88,S7 13 89]) (.rg [S7 90 13,S2 91 (.nc 37 [(.t 90),(.k (.fn 38 []))])]))) (.rg [S11 92 .add 86 1,S7 86 92])))
def c19:C :=.sq (.rg [S30 1 0,S2 2 (.alc [.i .i64 0,.i .u64 0,.i .u64 0,.i .u64 0,.i .u64 0,.nil,.i .i64 0,.i .i64 0,.nil,.nil,.nil,.nil,.nil,.nil,.bo false]),S22 3 0]) (.sq (.rg [S15 15 8 1,S17 16 34 15,S7 14 16,S13 17 14 0,S13 18 14 1,S2 4 (.alc [.i .i64 0,.i .u64 0,.i .u64 0,.i .u64 0,.i .u64 0,.nil,.i .i64 0,.i .i64 0,.nil,.nil,.nil]),S16 11 4 17,S7 5 18]) (.sq (.sq (.rg [S7 19 5,S11 20 .neq 19 0]) (.cd (.t 20) (.sq (.rg [S1 21 (.bld [.i .i64 0,.i .u64 0,.i .u64 0,.i .u64 0,.i .u64 0,.nil,.i .i64 0,.i .i64 0,.nil,.nil,.nil,.nil,.nil,.nil,.bo false] []),S7 22 5,S16 15 2 21,S7 3 22]) (.rt)) (.sk))) (.sq (.rg [S2 23 (.mkm),S1 24 (.bld [.i .i64 0,.nm] [(1,1,(.t 23))]),S30 25 24,S7 6 25]) (.sq (.rg [S7 26 6,S8 27 0 4,S15 28 8 27,S2 29 (.nc 35 [(.t 26),(.t 28),(.k (.i .i64 0))]),S2 7 (.alc [.nil,.nil,.bo false]),S16 3 7 29]) (.sq (.rg [S8 31 0 7,S8 33 8 4,S8 37 8 4,S8 41 2 7,S15 30 11 4,S6 32 31,S6 34 33,S12 35 34,S6 38 37,S12 39 38,S6 42 41,S2 36 (.mks 1 24 [.nil] (.t 35) (.t 35)),S2 40 (.mks 1 1 [.bo false] (.t 39) (.t 39)),S1 43 (.bld [.i .i64 0,.i .u64 0,.i .u64 0,.i .u64 0,.i .u64 0,.nil,.i .i64 0,.i .i64 0,.nil,.nil,.nil,.nil,.nil,.nil,.bo false] [(0,11,(.t 30)),(11,1,(.t 32)),(12,1,(.t 36)),(13,1,(.t 40)),(14,1,(.t 42))]),S2 8 (.alc [.i .i64 0,.i .u64 0,.i .u64 0,.i .u64 0,.i .u64 0,.nil,.i .i64 0,.i .i64 0,.nil,.nil,.nil,.nil,.nil,.nil,.bo false]),S16 15 8 43]) (.sq (.rg [S8 44 11 8,S6 45 44,S2 46 (.nc 36 [(.t 45)])]) (.sq (.sq (.rg [S8 47 1 7,S6 48 47,S12 49 48,S22 50 0]) (.bk 0 (.lp Qkx))) (.sq (.sq (.rg [S7 59 6,S1 60 (.nck (.t 59)),S8 61 1 60,S6 62 61,S2 63 (.rng (.t 62))]) (.bk 2 (.lp QjE))) (.sq (.sq (.rg [S8 83 12 8,S6 84 83,S12 85 84,S22 86 0]) (.bk 4 (.lp Qlm))) (.sq (.rg [S15 93 15 8,S16 15 2 93,S22 3 0]) (.rt)))))))))))
def fn19:Fn:={ n:=94,np:=1,res:=[.c 2 15 true,.t 3],body:=c19 }
def e19:F 19=some fn19:=by kernel_rfl
def Qjx:C :=.sq (.rg [S10 14 .lss 13 12]) (.sq (.cd (.t 14) (.sk) (.ex 0)) (.sq (.bk 1 (.sq (.rg [S7 15 13,S14 16 1 11 13,S6 17 16,S7 8 15,S7 9 17]) (.sq (.sq (.rg [S7 18 8,S11 19 .eql 18 0]) (.cd (.t 19) (.rg [S7 20 7,S15 21 15 3,S7 22 9,S18 23 40 21 22,S20 24 39 20 23]) (.rg [S7 25 7,S15 26 15 3,S7 27 9,S2 28 (.nc 41 [(.t 25),(.t 26),(.t 27)]),S7 7 28]))) (.rg [S7 29 2,S7 30 7,S2 31 (.nv (.t 29) [(.t 30)])])))) (.rg [S11 32 .add 13 1,S7 13 32])))
def c20:C :=.sq (.rg [S30 3 0,S1 6 (.mov (.k (.nm)))]) (.sq (.rg [S2 10 (.mkm),S7 7 10]) (.sq (.sq (.rg [S7 11 1,S12 12 11,S22 13 0]) (.bk 0 (.lp Qjx))) (.sq (.rg [S7 33 7,S7 6 33]) (.rt))))
def fn20:Fn:={ n:=34,np:=3,res:=[.t 6],body:=c20 }
def e20:F 20=some fn20:=by kernel_rfl
def c21:C :=.sk
def fn21:Fn:={ n:=2,np:=1,res:=[],body:=c21 }
def e21:F 21=some fn21:=by kernel_rfl
def c22:C :=.sq (.rg [S34 4]) (.sq (.rg [S7 6 0,S2 7 (.nc 42 [(.t 6)]),S7 5 7]) (.sq (.rg [S7 8 5,S7 9 1,S20 10 43 8 9]) (.sq (.rg [S7 11 5,S7 4 11]) (.rt))))
def fn22:Fn:={ n:=12,np:=2,res:=[.t 4],body:=c22 }
def e22:F 22=some fn22:=by kernel_rfl
def c23:C :=.sq (.rg [S30 1 0,S1 2 (.mov (.k (.nf)))]) (.sq (.rg [S1 3 (.mkf 44 [(.t 1)]),S7 2 3]) (.rt))
def fn23:Fn:={ n:=4,np:=1,res:=[.t 2],body:=c23 }
def e23:F 23=some fn23:=by kernel_rfl
def c24:C :=.sq (.rg [S30 2 0,S30 3 1,S22 4 0]) (.sq (.rg [S8 5 0 2,S8 7 0 3,S8 10 1 2,S1 11 (.sla 4 (.t 10) none none),S8 12 1 3,S1 13 (.sla 4 (.t 12) none none),S6 6 5,S6 8 7,S18 9 46 6 8,S18 14 47 11 13,S2 15 (.bsl 1 2 [.i .i64 0] [(0,(.t 9)),(1,(.t 14))]),S17 16 45 15,S7 4 16]) (.rt))
def fn24:Fn:={ n:=17,np:=2,res:=[.t 4],body:=c24 }
def e24:F 24=some fn24:=by kernel_rfl
def c25:C :=.sq (.rg [S23 4 false]) (.sq (.rg [S7 5 0,S7 6 1,S20 7 48 5 6,S11 8 .geq 7 0,S7 4 8]) (.rt))
def fn25:Fn:={ n:=9,np:=2,res:=[.t 4],body:=c25 }
def e25:F 25=some fn25:=by kernel_rfl
def c26:C :=.sq (.rg [S30 2 0,S23 3 false]) (.sq (.rg [S15 4 15 1,S15 5 5 2,S18 6 27 4 5,S7 3 6]) (.rt))
def fn26:Fn:={ n:=7,np:=2,res:=[.t 3],body:=c26 }
def e26:F 26=some fn26:=by kernel_rfl
def c27:C :=.sq (.rg [S30 2 0,S30 3 1,S23 4 false]) (.sq (.rg [S15 5 15 2,S15 6 5 3,S18 7 49 5 6,S7 8 7,S32 9 8 true 13 2,S32 11 8 true 0 3,S31 10 8 1 9,S31 12 8 1 11,S5 13 8 true (.ixp 1 (.t 10) (.t 12)),S31 14 8 1 13,S25 15 8 14,S7 16 15,S32 18 16 true 0 3,S32 21 16 true 1 3,S5 22 16 true (.sla 4 (.t 21) none none),S33 17 16 15 2,S31 19 16 1 18,S4 20 16 true (.pc 51 [(.t 17),(.t 19)]),S4 23 16 true (.pc 50 [(.t 20),(.t 22)]),S25 24 16 23,S7 4 24]) (.rt))
def fn27:Fn:={ n:=25,np:=2,res:=[.t 4],body:=c27 }
def e27:F 27=some fn27:=by kernel_rfl
def c34:C :=.sq (.rg [S30 1 0,S2 2 (.alc [.i .i64 0,.i .u64 0,.i .u64 0,.i .u64 0,.i .u64 0,.nil,.i .i64 0,.i .i64 0,.nil,.nil,.nil]),S22 3 0]) (.sq (.rg [S15 8 8 1,S17 9 53 8,S7 7 9,S13 10 7 0,S13 11 7 1,S2 4 (.alc [.i .i64 0,.i .u64 0,.i .u64 0,.i .u64 0,.i .u64 0,.nil,.i .i64 0,.i .i64 0]),S16 8 4 10,S7 5 11]) (.sq (.sq (.rg [S7 12 5,S11 13 .neq 12 0]) (.cd (.t 13) (.sq (.rg [S1 14 (.bld [.i .i64 0,.i .u64 0,.i .u64 0,.i .u64 0,.i .u64 0,.nil,.i .i64 0,.i .i64 0,.nil,.nil,.nil] []),S7 15 5,S16 11 2 14,S7 3 15]) (.rt)) (.sk))) (.sq (.rg [S15 16 8 4,S2 17 (.mks 4 32 [.i .u64 0,.i .u64 0,.i .u64 0,.i .u64 0] (.k (.i .i64 1)) (.k (.i .i64 1))),S2 18 (.mks 1 24 [.nil] (.k (.i .i64 1)) (.k (.i .i64 1))),S1 19 (.bld [.i .i64 0,.i .u64 0,.i .u64 0,.i .u64 0,.i .u64 0,.nil,.i .i64 0,.i .i64 0,.nil,.nil,.nil] [(0,8,(.t 16)),(8,1,(.t 17)),(10,1,(.t 18))]),S30 20 19,S7 6 20]) (.sq (.rg [S7 21 6,S15 22 8 4,S2 23 (.nc 54 [(.t 21),(.t 22),(.k (.nil))])]) (.sq (.sq (.rg [S7 24 6,S1 25 (.nck (.t 24)),S8 26 8 25,S6 27 26,S12 28 27,S11 29 .gtr 28 41,S7 30 29,S28 31 30 false 6,S5 32 30 false (.nck (.t 31)),S32 33 30 false 10 32,S4 34 30 false (.ld 1 false (.t 33)),S4 35 30 false (.pc 55 [(.t 34),(.k (.fn 56 []))]),S24 36 30 35]) (.cd (.t 36) (.sq (.rg [S1 37 (.bld [.i .i64 0,.i .u64 0,.i .u64 0,.i .u64 0,.i .u64 0,.nil,.i .i64 0,.i .i64 0,.nil,.nil,.nil] []),S16 11 2 37,S22 3 3]) (.rt)) (.sk))) (.sq (.rg [S7 38 6,S1 39 (.nck (.t 38)),S15 40 11 39,S16 11 2 40,S22 3 0]) (.rt)))))))
def fn34:Fn:={ n:=41,np:=1,res:=[.c 2 11 true,.t 3],body:=c34 }
def e34:F 34=some fn34:=by kernel_rfl
def c35:C :=.sq (.rg [S30 4 1,S2 6 (.alc [.nil,.nil,.bo false])]) (.sq (.sq (.rg [S8 7 0 4,S6 8 7]) (.bk 0 (.sq (.rg [S11 10 .eql 8 1,S7 9 10]) (.cd (.t 9) (.sq (.sq (.rg [S8 11 1 4,S15 12 4 11,S17 13 57 12]) (.cd (.t 13) (.sq (.rg [S1 14 (.bld [.nil,.nil,.bo false] []),S16 3 6 14]) (.rt)) (.sk))) (.sq (.rg [S7 15 0,S1 16 (.nck (.t 15)),S8 17 0 16,S6 18 17,S11 19 .add 18 1,S1 20 (.nck (.t 15)),S8 21 0 20,S16 1 21 19]) (.sq (.rg [S7 22 0,S1 23 (.nck (.t 22)),S8 24 0 23,S7 27 0,S1 28 (.nck (.t 27)),S8 29 0 28,S6 25 24,S6 30 29,S2 26 (.bsl 1 1 [.i .i64 0] [(0,(.t 25))]),S2 31 (.bsl 1 1 [.i .i64 0] [(0,(.t 30))]),S1 32 (.bld [.nil,.nil,.bo false] [(0,1,(.t 26)),(1,1,(.t 31))]),S16 3 6 32]) (.rt)))) (.sq (.rg [S11 34 .eql 8 2,S7 33 34]) (.cd (.t 33) (.sq (.rg [S7 35 0,S8 36 5 4,S6 37 36,S7 38 2,S2 39 (.nc 58 [(.t 35),(.t 37),(.t 38)]),S16 3 6 39]) (.rt)) (.sq (.rg [S11 41 .eql 8 3,S7 40 41]) (.cd (.t 40) (.sq (.rg [S7 42 0,S8 43 5 4,S6 44 43,S7 45 2,S2 46 (.nc 59 [(.t 42),(.t 44),(.t 45)]),S16 3 6 46]) (.rt)) (.sq (.rg [S11 48 .eql 8 4,S7 47 48]) (.cd (.t 47) (.sq (.rg [S7 49 0,S15 50 8 4,S7 51 2,S2 52 (.nc 60 [(.t 49),(.t 50),(.t 51)]),S16 3 6 52]) (.rt)) (.sk))))))))))) (.sq (.rg [S1 53 (.bld [.nil,.nil,.bo false] [(2,1,(.k (.bo true)))]),S16 3 6 53]) (.rt)))
def fn35:Fn:={ n:=54,np:=3,res:=[.c 6 3 true],body:=c35 }
def e35:F 35=some fn35:=by kernel_rfl
def c38:C :=.sq (.rg [S30 2 0,S30 3 1,S22 4 0]) (.sq (.rg [S8 6 0 2,S8 8 0 3,S8 11 1 2,S8 13 1 3,S6 7 6,S6 9 8,S6 12 11,S6 14 13,S18 10 46 7 9,S18 15 46 12 14,S2 16 (.bsl 1 2 [.i .i64 0] [(0,(.t 10)),(1,(.t 15))]),S17 17 45 16,S7 5 17]) (.sq (.sq (.rg [S7 18 5,S11 19 .eql 18 0,S7 20 19,S32 21 20 true 2 2,S31 22 20 1 21,S32 23 20 true 2 3,S31 24 20 1 23,S5 25 20 true (.eqb true (.t 22) (.t 24)),S25 26 20 25]) (.cd (.t 26) (.sq (.rg [S22 5 1]) (.sq (.rg [S8 27 2 3,S6 28 27]) (.cd (.t 28) (.rg [S1 5 (.mov (.k (.i .i64 (-1))))]) (.sk)))) (.sk))) (.sq (.rg [S7 29 5,S7 4 29]) (.rt))))
def fn38:Fn:={ n:=30,np:=2,res:=[.t 4],body:=c38 }
def e38:F 38=some fn38:=by kernel_rfl
def Qjg:C :=.sq (.rg [S10 9 .lss 8 7]) (.sq (.cd (.t 9) (.sk) (.ex 0)) (.sq (.bk 1 (.sq (.rg [S14 10 5 6 8,S15 11 5 10,S2 5 (.alc [.i .i64 0,.i .i64 0,.i .i64 0,.i .i64 0,.i .i64 0]),S16 5 5 11]) (.rg [S7 12 0,S15 13 5 5,S2 14 (.lkp true [.i .i64,.i .i64,.i .i64,.i .i64,.i .i64] (.i .i64 0) false (.t 12) (.t 13)),S11 15 .add 14 1,⟨some 16,none,.men true [.i .i64,.i .i64,.i .i64,.i .i64,.i .i64] (.i .i64 0) (.t 12) (.t 13),[.lkp true [.i .i64,.i .i64,.i .i64,.i .i64,.i .i64] (.i .i64 0) false (.t 12) (.t 13)]⟩,S13 17 16 1,S3 (.est (.t 12) (.t 17) (.t 15))]))) (.rg [S11 18 .add 8 1,S7 8 18])))
def c39:C :=.sq (.rg [S7 6 1,S12 7 6,S22 8 0]) (.bk 0 (.lp Qjg))
def fn39:Fn:={ n:=19,np:=2,res:=[],body:=c39 }
def e39:F 39=some fn39:=by kernel_rfl
def Qma:C :=.sq (.rg [S10 12 .lss 11 10]) (.sq (.cd (.t 12) (.sk) (.ex 0)) (.sq (.bk 1 (.sq (.rg [S14 13 1 9 11,S6 14 13,S7 7 14]) (.sq (.rg [S8 15 0 2,S8 16 8 15,S6 17 16,S7 18 7,S14 19 4 17 18,S15 20 4 19,S7 21 1,S18 22 64 20 21]) (.cd (.t 22) (.rg [S7 23 5,S15 24 15 2,S7 25 7,S2 26 (.pc 65 [(.t 24),(.t 25),(.k (.nil))]),S2 27 (.bsl 5 1 [.i .i64 0,.i .i64 0,.i .i64 0,.i .i64 0,.i .i64 0] [(0,(.t 26))]),S35 28 5 40 23 27,S7 5 28]) (.sk))))) (.rg [S11 29 .add 11 1,S7 11 29])))
def c40:C :=.sq (.rg [S30 2 0,S34 4]) (.sq (.rg [S34 5]) (.sq (.sq (.rg [S8 8 11 2,S6 9 8,S12 10 9,S22 11 0]) (.bk 0 (.lp Qma))) (.sq (.rg [S7 30 5,S2 31 (.nc 66 [(.t 30)]),S7 4 31]) (.rt))))
def fn40:Fn:={ n:=32,np:=2,res:=[.t 4],body:=c40 }
def e40:F 40=some fn40:=by kernel_rfl
def QlC:C :=.sq (.rg [S2 12 (.nxt (.t 11)),S13 13 12 0]) (.sq (.cd (.t 13) (.sk) (.ex 0)) (.bk 1 (.sq (.rg [S2 14 (.ent (.t 11)),S13 15 14 0,S2 8 (.alc [.i .i64 0,.i .i64 0,.i .i64 0,.i .i64 0,.i .i64 0]),S16 5 8 15]) (.rg [S7 16 7,S15 17 15 4,S15 18 5 8,S7 19 2,S19 20 67 17 18 19,S20 21 39 16 20]))))
def c41:C :=.sq (.rg [S30 4 1,S1 6 (.mov (.k (.nm)))]) (.sq (.rg [S2 9 (.mkm),S7 7 9]) (.sq (.sq (.rg [S7 10 0,S2 11 (.rng (.t 10))]) (.bk 0 (.lp QlC))) (.sq (.rg [S7 22 7,S7 6 22]) (.rt))))
def fn41:Fn:={ n:=23,np:=3,res:=[.t 6],body:=c41 }
def e41:F 41=some fn41:=by kernel_rfl
def Wj:C :=.sq (.rg [S10 9 .lss 8 7]) (.sq (.cd (.t 9) (.sk) (.ex 0)) (.sq (.bk 1 (.sq (.rg [S14 10 1 6 8,S6 11 10,S7 5 11]) (.sq (.rg [S7 12 5,S7 13 3,S10 14 .neq 12 13]) (.cd (.t 14) (.sq (.rg [S7 15 5,S7 2 15]) (.rt)) (.sk))))) (.rg [S11 16 .add 8 1,S7 8 16])))
def c45:C :=.sq (.rg [S22 2 0]) (.sq (.rg [S22 3 0]) (.sq (.sq (.rg [S7 6 0,S12 7 6,S22 8 0]) (.bk 0 (.lp Wj))) (.sq (.rg [S7 17 3,S7 2 17]) (.rt))))
def fn45:Fn:={ n:=18,np:=1,res:=[.t 2],body:=c45 }
def e45:F 45=some fn45:=by kernel_rfl
def c46:C :=.sq (.rg [S22 4 0]) (.sq (.rg [S7 7 0,S17 8 70 7,S7 5 8]) (.sq (.rg [S7 9 1,S17 10 70 9,S7 6 10]) (.sq (.sq (.rg [S7 11 5]) (.cd (.t 11) (.sq (.sq (.rg [S7 12 6]) (.cd (.t 12) (.sq (.rg [S22 4 0]) (.rt)) (.sk))) (.sq (.rg [S1 4 (.mov (.k (.i .i64 (-1))))]) (.rt))) (.sk))) (.sq (.sq (.rg [S7 13 6]) (.cd (.t 13) (.sq (.rg [S22 4 1]) (.rt)) (.sk))) (.sq (.sq (.rg [S7 14 0,S7 15 1,S10 16 .lss 14 15]) (.cd (.t 16) (.sq (.rg [S1 4 (.mov (.k (.i .i64 (-1))))]) (.rt)) (.sk))) (.sq (.sq (.rg [S7 17 0,S7 18 1,S10 19 .gtr 17 18]) (.cd (.t 19) (.sq (.rg [S22 4 1]) (.rt)) (.sk))) (.sq (.rg [S22 4 0]) (.rt))))))))
def fn46:Fn:={ n:=20,np:=2,res:=[.t 4],body:=c46 }
def e46:F 46=some fn46:=by kernel_rfl
def Qkh:C :=.sq (.rg [S10 12 .lss 11 10]) (.sq (.cd (.t 12) (.sk) (.ex 0)) (.sq (.bk 1 (.sq (.rg [S7 13 11,S14 14 1 9 11,S6 15 14,S7 5 13,S7 6 15]) (.sq (.sq (.rg [S7 16 5,S7 17 1,S12 18 17,S10 19 .geq 16 18]) (.cd (.t 19) (.sq (.rg [S22 4 1]) (.rt)) (.sk))) (.sq (.rg [S7 20 1,S7 21 5,S14 22 1 20 21,S6 23 22,S7 7 23]) (.sq (.rg [S7 24 6,S7 25 7,S18 26 71 24 25,S7 8 26]) (.sq (.rg [S7 27 8,S11 28 .neq 27 0]) (.cd (.t 28) (.sq (.rg [S7 29 8,S7 4 29]) (.rt)) (.sk)))))))) (.rg [S11 30 .add 11 1,S7 11 30])))
def c47:C :=.sq (.rg [S22 4 0]) (.sq (.sq (.rg [S7 9 0,S12 10 9,S22 11 0]) (.bk 0 (.lp Qkh))) (.sq (.sq (.rg [S7 31 0,S12 32 31,S7 33 1,S12 34 33,S10 35 .lss 32 34]) (.cd (.t 35) (.sq (.rg [S1 4 (.mov (.k (.i .i64 (-1))))]) (.rt)) (.sk))) (.sq (.rg [S22 4 0]) (.rt))))
def fn47:Fn:={ n:=36,np:=2,res:=[.t 4],body:=c47 }
def e47:F 47=some fn47:=by kernel_rfl
def Qmv:C :=.sq (.rg [S10 9 .lss 8 7]) (.sq (.cd (.t 9) (.sk) (.ex 0)) (.sq (.bk 1 (.sq (.rg [S7 10 8,S7 5 10]) (.sq (.rg [S7 11 1,S7 12 0,S7 13 5,S14 14 5 12 13,S15 15 5 14,S2 16 (.pv (.t 11) [(.t 15)])]) (.cd (.t 16) (.sq (.rg [S7 17 5,S7 4 17]) (.rt)) (.sk))))) (.rg [S11 18 .add 8 1,S7 8 18])))
def c48:C :=.sq (.rg [S22 4 0]) (.sq (.sq (.rg [S7 6 0,S12 7 6,S22 8 0]) (.bk 0 (.lp Qmv))) (.sq (.rg [S1 4 (.mov (.k (.i .i64 (-1))))]) (.rt)))
def fn48:Fn:={ n:=19,np:=2,res:=[.t 4],body:=c48 }
def e48:F 48=some fn48:=by kernel_rfl
def QkI:C :=.sq (.rg [S11 27 .lss 26 4]) (.sq (.cd (.t 27) (.sk) (.ex 0)) (.sq (.bk 1 (.sq (.rg [S7 28 26,S1 29 (.ixa 4 1 false (.t 25) (.t 26)),S7 6 28,S7 7 29]) (.sq (.rg [S7 30 6,S7 31 5,S12 32 31,S10 33 .lss 30 32,S7 34 33,S28 35 34 true 5,S28 36 34 true 6,S5 37 34 true (.ixp 2 (.t 35) (.t 36)),S33 38 34 2 37,S28 39 34 true 7,S4 40 34 true (.pc 72 [(.t 38),(.t 39)]),S5 41 34 true (.un .not (.t 40)),S25 42 34 41,S7 43 42,S28 44 43 false 6,S28 45 43 false 5,S29 46 43 false 45,S26 47 43 false .geq 44 46,S28 48 43 false 47,S28 49 48 true 7,S27 50 48 true .neq 49 0,S5 51 43 false (.pick (.t 48) (.t 50) (.k (.bo false))),S24 52 43 51]) (.cd (.t 52) (.sq (.rg [S23 4 false]) (.rt)) (.sk))))) (.rg [S11 53 .add 26 1,S7 26 53])))
def c49:C :=.sq (.rg [S30 2 0,S30 3 1,S23 4 false]) (.sq (.sq (.rg [S8 8 0 3,S6 9 8,S11 10 .lss 9 1,S7 11 10,S32 12 11 false 0 3,S4 13 11 false (.ld 1 false (.t 12)),S32 14 11 false 0 2,S32 15 11 false 10 14,S4 16 11 false (.ld 1 false (.t 15)),S29 17 11 false 16,S26 18 11 false .geq 13 17,S24 19 11 18]) (.cd (.t 19) (.sq (.rg [S23 4 false]) (.rt)) (.sk))) (.sq (.rg [S15 20 15 2,S8 21 0 3,S6 22 21,S18 23 51 20 22,S7 5 23]) (.sq (.sq (.rg [S8 24 1 3,S15 25 4 24,S22 26 0]) (.bk 0 (.lp QkI))) (.sq (.rg [S23 4 true]) (.rt)))))
def fn49:Fn:={ n:=54,np:=2,res:=[.t 4],body:=c49 }
def e49:F 49=some fn49:=by kernel_rfl
def Qjk:C :=.sq (.rg [S10 10 .lss 9 8]) (.sq (.cd (.t 10) (.sk) (.ex 0)) (.sq (.bk 1 (.sq (.rg [S7 11 9,S14 12 2 7 9,S15 13 2 12,S2 6 (.alc [.i .i64 0,.i .i64 0]),S7 5 11,S16 2 6 13]) (.sq (.rg [S7 15 1,S7 16 5,S14 17 1 15 16,S15 14 2 6,S6 18 17,S18 19 73 14 18,S21 20 19]) (.cd (.t 20) (.sq (.rg [S23 4 false]) (.rt)) (.sk))))) (.rg [S11 21 .add 9 1,S7 9 21])))
def c50:C :=.sq (.rg [S23 4 false]) (.sq (.sq (.rg [S7 7 0,S12 8 7,S22 9 0]) (.bk 0 (.lp Qjk))) (.sq (.rg [S23 4 true]) (.rt)))
def fn50:Fn:={ n:=22,np:=2,res:=[.t 4],body:=c50 }
def e50:F 50=some fn50:=by kernel_rfl
def QlM:C :=.sq (.rg [S10 16 .lss 15 14]) (.sq (.cd (.t 16) (.sk) (.ex 0)) (.sq (.bk 1 (.sq (.rg [S14 17 1 13 15,S6 18 17,S7 7 18]) (.rg [S7 19 5,S8 20 0 2,S8 21 9 20,S6 22 21,S7 23 7,S14 24 2 22 23,S15 25 2 24,S2 26 (.bsl 2 1 [.i .i64 0,.i .i64 0] [(0,(.t 25))]),S35 27 2 16 19 26,S7 5 27]))) (.rg [S11 28 .add 15 1,S7 15 28])))
def c51:C :=.sq (.rg [S30 2 0,S34 4]) (.sq (.rg [S34 5]) (.sq (.sq (.rg [S8 8 0 2,S8 9 10 8,S6 10 9,S7 11 1,S14 12 1 10 11,S6 13 12,S12 14 13,S22 15 0]) (.bk 0 (.lp QlM))) (.sq (.rg [S7 29 5,S7 4 29]) (.rt))))
def fn51:Fn:={ n:=30,np:=2,res:=[.t 4],body:=c51 }
def e51:F 51=some fn51:=by kernel_rfl
def c53:C :=.sq (.rg [S30 1 0,S2 2 (.alc [.i .i64 0,.i .u64 0,.i .u64 0,.i .u64 0,.i .u64 0,.nil,.i .i64 0,.i .i64 0]),S22 3 0]) (.sq (.sq (.rg [S15 4 8 1,S17 5 74 4,S21 6 5]) (.cd (.t 6) (.sq (.rg [S1 7 (.bld [.i .i64 0,.i .u64 0,.i .u64 0,.i .u64 0,.i .u64 0,.nil,.i .i64 0,.i .i64 0] []),S16 8 2 7,S22 3 1]) (.rt)) (.sk))) (.sq (.rg [S15 8 8 1,S17 9 75 8,S16 8 2 9,S22 3 0]) (.rt)))
def fn53:Fn:={ n:=10,np:=1,res:=[.c 2 8 true,.t 3],body:=c53 }
def e53:F 53=some fn53:=by kernel_rfl
def Qmf:C :=.sq (.rg [S10 70 .lss 69 68]) (.sq (.cd (.t 70) (.sk) (.ex 0)) (.sq (.bk 1 (.sq (.rg [S14 71 8 67 69,S15 72 8 71,S2 9 (.alc [.i .i64 0,.i .u64 0,.i .u64 0,.i .u64 0,.i .u64 0,.nil,.i .i64 0,.i .i64 0]),S16 8 9 72]) (.rg [S7 73 0,S15 74 8 9,S7 75 2,S2 76 (.nc 54 [(.t 73),(.t 74),(.t 75)])]))) (.rg [S11 77 .add 69 1,S7 69 77])))
def c54:C :=.sq (.rg [S30 4 1]) (.sq (.sq (.rg [S8 10 0 4,S6 11 10,S11 12 .eql 11 1,S7 13 12,S32 14 13 true 1 4,S33 15 13 4 14,S4 16 13 true (.pc 57 [(.t 15)]),S5 17 13 true (.un .not (.t 16)),S25 18 13 17]) (.cd (.t 18) (.sq (.rg [S7 19 0,S7 20 0,S1 21 (.nck (.t 20)),S8 22 8 21,S8 24 1 4,S6 23 22,S15 25 4 24,S2 26 (.bsl 4 1 [.i .u64 0,.i .u64 0,.i .u64 0,.i .u64 0] [(0,(.t 25))]),S35 27 4 32 23 26,S1 28 (.nck (.t 19)),S8 29 8 28,S16 1 29 27]) (.rg [S7 30 0,S7 31 0,S1 32 (.nck (.t 31)),S8 33 10 32,S7 35 2,S6 34 33,⟨some 36,none,.nc 76 [(.t 35)],[.ld 1 false (.t 33)]⟩,S2 37 (.bsl 1 1 [.nil] [(0,(.t 36))]),S35 38 1 24 34 37,S1 39 (.nck (.t 30)),S8 40 10 39,S16 1 40 38])) (.sk))) (.sq (.sq (.rg [S15 42 8 4,S17 43 77 42,S7 41 43,S13 44 41 0,S13 45 41 1,S2 6 (.alc [.i .i64 0,.i .i64 0]),S16 2 6 44,S7 7 45]) (.sq (.rg [S7 46 7]) (.cd (.t 46) (.sq (.rg [S7 47 2,S7 49 0,S1 50 (.nck (.t 49)),S8 51 9 50,S6 52 51,S12 53 52,S1 54 (.lit 1 1 [.i .i64 0] [(0,(.t 53))]),⟨some 48,none,.nc 76 [(.t 47)],[.ld 1 false (.t 51)]⟩,S35 55 1 8 48 54,S7 2 55]) (.rg [S7 56 0,S7 57 0,S1 58 (.nck (.t 57)),S8 59 9 58,S6 60 59,S15 61 2 6,S2 62 (.bsl 2 1 [.i .i64 0,.i .i64 0] [(0,(.t 61))]),S35 63 2 16 60 62,S1 64 (.nck (.t 56)),S8 65 9 64,S16 1 65 63])) (.sk)))) (.sq (.rg [S8 66 5 4,S6 67 66,S12 68 67,S22 69 0]) (.bk 0 (.lp Qmf)))))
def fn54:Fn:={ n:=78,np:=3,res:=[],body:=c54 }
def e54:F 54=some fn54:=by kernel_rfl
def c55:C :=.sq (.rg [S23 4 false]) (.sq (.rg [S7 5 0,S7 6 1,S18 7 78 5 6,S11 8 .geq 7 0,S7 4 8]) (.rt))
def fn55:Fn:={ n:=9,np:=2,res:=[.t 4],body:=c55 }
def e55:F 55=some fn55:=by kernel_rfl
def c56:C :=.sq (.rg [S23 2 false]) (.sq (.rg [S7 3 0,S12 4 3,S11 5 .gtr 4 4,S7 2 5]) (.rt))
def fn56:Fn:={ n:=6,np:=1,res:=[.t 2],body:=c56 }
def e56:F 56=some fn56:=by kernel_rfl
def c57:C :=.sq (.rg [S30 1 0,S23 2 false]) (.sq (.rg [S15 3 4 1,S1 4 (.bld [.i .u64 0,.i .u64 0,.i .u64 0,.i .u64 0] []),S1 5 (.eqp false true [.i .u64,.i .u64,.i .u64,.i .u64] (.t 3) (.t 4)),S7 2 5]) (.rt))
def fn57:Fn:={ n:=6,np:=1,res:=[.t 2],body:=c57 }
def e57:F 57=some fn57:=by kernel_rfl
def Qlt:C :=.sq (.rg [S10 15 .lss 14 13]) (.sq (.cd (.t 15) (.sk) (.ex 0)) (.sq (.bk 1 (.sq (.rg [S14 16 8 12 14,S15 17 8 16,S2 9 (.alc [.i .i64 0,.i .u64 0,.i .u64 0,.i .u64 0,.i .u64 0,.nil,.i .i64 0,.i .i64 0]),S16 8 9 17]) (.sq (.rg [S7 18 0,S15 19 8 9,S7 20 2,S2 21 (.nc 35 [(.t 18),(.t 19),(.t 20)]),S2 10 (.alc [.nil,.nil,.bo false]),S16 3 10 21]) (.sq (.rg [S7 22 0,S8 23 1 7,S6 24 23,S8 25 0 10,S6 26 25,S7 27 2,S2 28 (.nc 79 [(.t 22),(.t 24),(.t 26),(.t 27),(.k (.bo false))])]) (.sq (.sq (.rg [S8 29 2 7,S6 30 29]) (.cd (.t 30) (.rg [S8 31 0 7,S6 32 31,S8 33 0 10,S6 34 33,S2 35 (.bsl 1 2 [.nil] [(0,(.t 32)),(1,(.t 34))]),S2 36 (.nc 80 [(.t 35)]),S8 37 0 7,S16 1 37 36]) (.sk))) (.sq (.sq (.rg [S8 38 2 10,S6 39 38]) (.cd (.t 39) (.rg [S8 40 1 7,S6 41 40,S8 42 1 10,S6 43 42,S2 44 (.bsl 1 2 [.nil] [(0,(.t 41)),(1,(.t 43))]),S2 45 (.nc 80 [(.t 44)]),S8 46 1 7,S16 1 46 45]) (.rg [S8 47 1 10,S6 48 47,S8 49 1 7,S16 1 49 48]))) (.rg [S8 50 2 7,S6 51 50,S7 52 51,S32 53 52 true 2 10,S31 54 52 1 53,S25 55 52 54,S8 56 2 7,S16 1 56 55]))))))) (.rg [S11 57 .add 14 1,S7 14 57])))
def c58:C :=.sq (.rg [S2 6 (.alc [.nil,.nil,.bo false])]) (.sq (.rg [S1 11 (.bld [.nil,.nil,.bo false] [(2,1,(.k (.bo true)))]),S2 7 (.alc [.nil,.nil,.bo false]),S16 3 7 11]) (.sq (.sq (.rg [S7 12 1,S12 13 12,S22 14 0]) (.bk 0 (.lp Qlt))) (.sq (.rg [S15 58 3 7,S16 3 6 58]) (.rt))))
def fn58:Fn:={ n:=59,np:=3,res:=[.c 6 3 true],body:=c58 }
def e58:F 58=some fn58:=by kernel_rfl
def QkB:C :=.sq (.rg [S10 14 .lss 13 12]) (.sq (.cd (.t 14) (.sk) (.ex 0)) (.sq (.bk 1 (.sq (.rg [S14 15 8 11 13,S15 16 8 15,S2 9 (.alc [.i .i64 0,.i .u64 0,.i .u64 0,.i .u64 0,.i .u64 0,.nil,.i .i64 0,.i .i64 0]),S16 8 9 16]) (.sq (.rg [S7 17 0,S15 18 8 9,S7 19 2,S2 20 (.nc 35 [(.t 17),(.t 18),(.t 19)]),S2 10 (.alc [.nil,.nil,.bo false]),S16 3 10 20]) (.sq (.rg [S8 21 0 7,S6 22 21,S8 23 0 10,S6 24 23,S2 25 (.bsl 1 2 [.nil] [(0,(.t 22)),(1,(.t 24))]),S2 26 (.nc 80 [(.t 25)]),S8 27 0 7,S16 1 27 26]) (.sq (.rg [S8 28 1 7,S6 29 28,S8 30 1 10,S6 31 30,S2 32 (.bsl 1 2 [.nil] [(0,(.t 29)),(1,(.t 31))]),S2 33 (.nc 80 [(.t 32)]),S8 34 1 7,S16 1 34 33]) (.rg [S8 35 2 7,S6 36 35,S7 37 36,S32 38 37 false 2 10,S4 39 37 false (.ld 1 false (.t 38)),S24 40 37 39,S8 41 2 7,S16 1 41 40])))))) (.rg [S11 42 .add 13 1,S7 13 42])))
def c59:C :=.sq (.rg [S2 6 (.alc [.nil,.nil,.bo false])]) (.sq (.rg [S2 7 (.alc [.nil,.nil,.bo false])]) (.sq (.sq (.rg [S7 11 1,S12 12 11,S22 13 0]) (.bk 0 (.lp QkB))) (.sq (.rg [S15 43 3 7,S16 3 6 43]) (.rt))))
def fn59:Fn:={ n:=44,np:=3,res:=[.c 6 3 true],body:=c59 }
def e59:F 59=some fn59:=by kernel_rfl
def c60:C :=.sq (.rg [S30 4 1,S2 6 (.alc [.nil,.nil,.bo false])]) (.sq (.rg [S15 12 8 4,S17 13 77 12,S7 11 13,S13 14 11 0,S13 15 11 1,S2 7 (.alc [.i .i64 0,.i .i64 0]),S16 2 7 14,S7 8 15]) (.sq (.rg [S7 16 2,S7 9 16]) (.sq (.sq (.rg [S7 17 8]) (.cd (.t 17) (.rg [S7 18 9,S11 19 .add 18 1,S7 9 19]) (.sk))) (.sq (.rg [S7 20 0,S8 21 5 4,S6 22 21,S1 23 (.ixp 8 (.t 22) (.k (.i .i64 0))),S15 24 8 23,S7 25 9,S2 26 (.nc 35 [(.t 20),(.t 24),(.t 25)]),S2 10 (.alc [.nil,.nil,.bo false]),S16 3 10 26]) (.sq (.sq (.rg [S8 27 7 4,S6 28 27,S11 29 .neq 28 1]) (.cd (.t 29) (.rg [S7 30 0,S8 31 1 10,S6 32 31,S8 33 0 10,S6 34 33,S7 35 2,S7 36 8,S2 37 (.nc 79 [(.t 30),(.t 32),(.t 34),(.t 35),(.t 36)])]) (.sk))) (.sq (.rg [S15 38 8 4,S17 39 81 38,S8 40 2 10,S16 1 40 39]) (.sq (.rg [S15 41 3 10,S16 3 6 41]) (.rt))))))))
def fn60:Fn:={ n:=42,np:=3,res:=[.c 6 3 true],body:=c60 }
def e60:F 60=some fn60:=by kernel_rfl
def c64:C :=.sq (.rg [S30 2 0,S23 4 false]) (.sq (.rg [S7 5 1,S1 6 (.bin .shr (.t 5) (.k (.i .u64 6))),S36 7 4 1 2 6,S6 8 7,S7 9 1,S1 10 (.bin .and (.t 9) (.k (.i .u8 63))),S10 11 .shr 8 10,S1 12 (.bin .and (.t 11) (.k (.i .u64 1))),S1 13 (.bin .eql (.t 12) (.k (.i .u64 1))),S7 4 13]) (.rt))
def fn64:Fn:={ n:=14,np:=2,res:=[.t 4],body:=c64 }
def e64:F 64=some fn64:=by kernel_rfl
def QlN:C :=.sq (.rg [S10 19 .lss 18 17]) (.sq (.cd (.t 19) (.sk) (.ex 0)) (.sq (.bk 1 (.sq (.rg [S7 20 18,S7 8 20]) (.rg [S7 21 8,S8 22 1 7,S36 23 4 1 22 21,S3 (.sto 1 (.t 23) (.k (.i .i64 1)))]))) (.rg [S11 24 .add 18 1,S7 18 24])))
def c65:C :=.sq (.rg [S30 3 0,S2 6 (.alc [.i .i64 0,.i .i64 0,.i .i64 0,.i .i64 0,.i .i64 0])]) (.sq (.rg [S7 9 1,S1 10 (.bld [.i .i64 0,.i .i64 0,.i .i64 0,.i .i64 0,.i .i64 0] [(0,1,(.t 9))]),S2 7 (.alc [.i .i64 0,.i .i64 0,.i .i64 0,.i .i64 0,.i .i64 0]),S16 5 7 10]) (.sq (.sq (.rg [S8 11 0 3,S8 12 10 11,S6 13 12,S7 14 1,S14 15 1 13 14,S6 16 15,S12 17 16,S22 18 0]) (.bk 0 (.lp QlN))) (.sq (.rg [S8 25 1 7,S1 26 (.sla 4 (.t 25) none none),S7 27 2,S2 28 (.cpy 1 (.t 26) (.t 27))]) (.sq (.rg [S15 29 5 7,S16 5 6 29]) (.rt)))))
def fn65:Fn:={ n:=30,np:=3,res:=[.c 6 5 true],body:=c65 }
def e65:F 65=some fn65:=by kernel_rfl
def c66:C :=.sq (.rg [S34 2]) (.sq (.rg [S7 3 0,S2 4 (.nc 43 [(.t 3),(.k (.fn 24 []))])]) (.sq (.rg [S7 5 0,S2 6 (.nc 101 [(.t 5)]),S7 2 6]) (.rt)))
def fn66:Fn:={ n:=7,np:=1,res:=[.t 2],body:=c66 }
def e66:F 66=some fn66:=by kernel_rfl
def Qmb:C :=.sq (.rg [S10 24 .lss 23 22]) (.sq (.cd (.t 24) (.sk) (.ex 0)) (.sq (.bk 1 (.sq (.rg [S14 25 3 21 23,S15 26 3 25,S2 9 (.alc [.i .i64 0,.i .i64 0,.bo false]),S16 3 9 26]) (.sq (.sq (.rg [S8 27 0 3,S8 28 8 27,S6 29 28,S8 30 0 9,S6 31 30,S14 32 4 29 31,S15 33 4 32,S7 34 2,S18 35 64 33 34,S21 36 35]) (.cd (.t 36) (.ex 1) (.sk))) (.sq (.rg [S15 38 15 3,S15 39 5 4,S15 40 3 9,S19 41 102 38 39 40,S7 37 41,S13 42 37 0,S13 43 37 1,S2 10 (.alc [.i .i64 0,.i .i64 0,.i .i64 0,.i .i64 0,.i .i64 0]),S16 5 10 42,S7 11 43]) (.sq (.rg [S7 44 11]) (.cd (.t 44) (.rg [S7 45 7,S15 46 5 10,S2 47 (.bsl 5 1 [.i .i64 0,.i .i64 0,.i .i64 0,.i .i64 0,.i .i64 0] [(0,(.t 46))]),S35 48 5 40 45 47,S7 7 48]) (.sk))))))) (.rg [S11 49 .add 23 1,S7 23 49])))
def c67:C :=.sq (.rg [S30 3 0,S30 4 1,S34 6]) (.sq (.sq (.rg [S15 12 15 3,S15 13 5 4,S18 14 49 12 13,S21 15 14]) (.cd (.t 15) (.sq (.rg [S34 6]) (.rt)) (.sk))) (.sq (.rg [S34 7]) (.sq (.sq (.rg [S8 16 12 3,S6 17 16,S8 18 0 4,S6 19 18,S14 20 1 17 19,S6 21 20,S12 22 21,S22 23 0]) (.bk 0 (.lp Qmb))) (.sq (.rg [S7 50 7,S2 51 (.nc 66 [(.t 50)]),S7 6 51]) (.rt)))))
def fn67:Fn:={ n:=52,np:=3,res:=[.t 6],body:=c67 }
def e67:F 67=some fn67:=by kernel_rfl
def c70:C :=.sq (.rg [S23 2 false]) (.sq (.rg [S7 3 0,S7 4 0,S10 5 .neq 3 4,S7 2 5]) (.rt))
def fn70:Fn:={ n:=6,np:=1,res:=[.t 2],body:=c70 }
def e70:F 70=some fn70:=by kernel_rfl
def c71:C :=.sq (.rg [S22 4 0]) (.sq (.rg [S7 7 0,S17 8 111 7,S7 5 8]) (.sq (.rg [S7 9 1,S17 10 111 9,S7 6 10]) (.sq (.sq (.rg [S7 11 5]) (.cd (.t 11) (.sq (.sq (.rg [S7 12 6]) (.cd (.t 12) (.sq (.rg [S22 4 0]) (.rt)) (.sk))) (.sq (.rg [S1 4 (.mov (.k (.i .i64 (-1))))]) (.rt))) (.sk))) (.sq (.sq (.rg [S7 13 6]) (.cd (.t 13) (.sq (.rg [S22 4 1]) (.rt)) (.sk))) (.sq (.sq (.rg [S7 14 0,S7 15 1,S10 16 .lss 14 15]) (.cd (.t 16) (.sq (.rg [S1 4 (.mov (.k (.i .i64 (-1))))]) (.rt)) (.sk))) (.sq (.sq (.rg [S7 17 0,S7 18 1,S10 19 .gtr 17 18]) (.cd (.t 19) (.sq (.rg [S22 4 1]) (.rt)) (.sk))) (.sq (.rg [S22 4 0]) (.rt))))))))
def fn71:Fn:={ n:=20,np:=2,res:=[.t 4],body:=c71 }
def e71:F 71=some fn71:=by kernel_rfl
def c72:C :=.sq (.rg [S30 2 0,S23 4 false]) (.sq (.sq (.rg [S8 5 1 2,S6 6 5,S1 7 (.bin .eql (.t 6) (.k (.i .i64 (-1))))]) (.cd (.t 7) (.sq (.rg [S7 8 1,S11 9 .geq 8 1,S7 10 9,S28 11 10 true 1,S32 12 10 true 0 2,S31 13 10 1 12,S26 14 10 true .leq 11 13,S25 15 10 14,S7 4 15]) (.rt)) (.sk))) (.sq (.rg [S7 16 1,S11 17 .geq 16 1,S7 18 17,S28 19 18 true 1,S32 20 18 true 1 2,S31 21 18 1 20,S26 22 18 true .leq 19 21,S25 23 18 22,S7 4 23]) (.rt)))
def fn72:Fn:={ n:=24,np:=2,res:=[.t 4],body:=c72 }
def e72:F 72=some fn72:=by kernel_rfl
def c73:C :=.sq (.rg [S30 2 0,S23 4 false]) (.sq (.rg [S7 5 1,S8 6 0 2,S6 7 6,S10 8 .geq 5 7,S7 4 8]) (.rt))
def fn73:Fn:={ n:=9,np:=2,res:=[.t 4],body:=c73 }
def e73:F 73=some fn73:=by kernel_rfl
def c74:C :=.sq (.rg [S30 1 0,S23 2 false]) (.sq (.rg [S15 3 8 1,S17 4 112 3,S7 5 4,S32 6 5 true 5 1,S31 7 5 1 6,S4 8 5 true (.pc 113 [(.t 7),(.k (.fn 114 []))]),S5 9 5 true (.un .not (.t 8)),S25 10 5 9,S7 2 10]) (.rt))
def fn74:Fn:={ n:=11,np:=1,res:=[.t 2],body:=c74 }
def e74:F 74=some fn74:=by kernel_rfl
def Qlc:C :=.sq (.rg [S10 13 .lss 12 11]) (.sq (.cd (.t 13) (.sk) (.ex 0)) (.sq (.bk 1 (.sq (.rg [S14 14 8 10 12,S15 15 8 14,S2 5 (.alc [.i .i64 0,.i .u64 0,.i .u64 0,.i .u64 0,.i .u64 0,.nil,.i .i64 0,.i .i64 0]),S16 8 5 15]) (.rg [S7 16 3,S15 17 8 5,S17 18 75 17,S2 19 (.bsl 8 1 [.i .i64 0,.i .u64 0,.i .u64 0,.i .u64 0,.i .u64 0,.nil,.i .i64 0,.i .i64 0] [(0,(.t 18))]),S35 20 8 80 16 19,S7 3 20]))) (.rg [S11 21 .add 12 1,S7 12 21])))
def c75:C :=.sq (.rg [S30 1 0,S2 2 (.alc [.i .i64 0,.i .u64 0,.i .u64 0,.i .u64 0,.i .u64 0,.nil,.i .i64 0,.i .i64 0])]) (.sq (.sq (.rg [S15 6 8 1,S17 7 115 6]) (.cd (.t 7) (.sq (.rg [S1 8 (.bld [.i .i64 0,.i .u64 0,.i .u64 0,.i .u64 0,.i .u64 0,.nil,.i .i64 0,.i .i64 0] [(0,1,(.k (.i .i64 1)))]),S16 8 2 8]) (.rt)) (.sk))) (.sq (.rg [S34 3]) (.sq (.sq (.rg [S8 9 5 1,S6 10 9,S12 11 10,S22 12 0]) (.bk 0 (.lp Qlc))) (.sq (.sq (.rg [S8 22 0 1,S6 23 22]) (.bk 2 (.sq (.sq (.rg [S11 25 .eql 23 2,S7 24 25]) (.cd (.t 24) (.sk) (.rg [S11 26 .eql 23 3,S7 24 26]))) (.cd (.t 24) (.sq (.rg [S8 27 0 1,S8 29 0 1,S7 31 3,S6 28 27,S6 30 29,⟨some 32,none,.nc 117 [(.t 30),(.k (.nil)),(.t 31)],[.ld 1 false (.t 27)]⟩,S20 33 116 28 32,S16 8 2 33]) (.rt)) (.sq (.rg [S11 35 .eql 23 4,S7 34 35]) (.cd (.t 34) (.sq (.rg [S7 36 3,S1 37 (.ixp 8 (.t 36) (.k (.i .i64 0))),S8 39 6 1,S8 41 7 1,S15 38 8 37,S6 40 39,S6 42 41,S19 43 118 38 40 42,S16 8 2 43]) (.rt)) (.sk))))))) (.sq (.rg [S15 44 8 1,S16 8 2 44]) (.rt))))))
def fn75:Fn:={ n:=45,np:=1,res:=[.c 2 8 true],body:=c75 }
def e75:F 75=some fn75:=by kernel_rfl
def c76:C :=.sq (.rg [S34 2]) (.sq (.sq (.rg [S7 3 0,S2 4 (.isz false (.t 3))]) (.cd (.t 4) (.sq (.rg [S34 2]) (.rt)) (.sk))) (.sq (.rg [S2 5 (.bsl 1 0 [.i .i64 0] []),S7 6 0,S35 7 1 8 5 6,S7 2 7]) (.rt)))
def fn76:Fn:={ n:=8,np:=1,res:=[.t 2],body:=c76 }
def e76:F 76=some fn76:=by kernel_rfl
def c77:C :=.sq (.rg [S30 1 0,S2 2 (.alc [.i .i64 0,.i .i64 0]),S23 3 false]) (.sq (.rg [S8 5 6 1,S6 6 5,S1 7 (.mx true (.k (.i .i64 1)) (.t 6)),S8 8 7 1,S6 9 8,S1 10 (.bld [.i .i64 0,.i .i64 0] [(0,1,(.t 7)),(1,1,(.t 9))]),S2 4 (.alc [.i .i64 0,.i .i64 0]),S16 2 4 10]) (.sq (.rg [S8 12 0 1,S15 11 2 4,S6 13 12,S11 14 .eql 13 4,S7 15 14,S32 16 15 true 1 4,S31 17 15 1 16,S27 18 15 true .gtr 17 1,S28 19 15 true 18,S32 20 19 false 1 4,S4 21 19 false (.ld 1 false (.t 20)),S5 22 19 false (.bin .eql (.t 21) (.k (.i .i64 (-1)))),S28 23 19 false 22,S32 24 23 true 0 4,S31 25 23 1 24,S27 26 23 true .gtr 25 1,S5 27 19 false (.pick (.t 23) (.t 26) (.k (.bo false))),S5 28 15 true (.pick (.t 19) (.k (.bo true)) (.t 27)),S25 29 15 28,⟨none,none,.sto 2 (.t 2) (.t 11),[.ld 1 false (.t 24)]⟩,S7 3 29]) (.rt)))
def fn77:Fn:={ n:=30,np:=1,res:=[.c 2 2 true,.t 3],body:=c77 }
def e77:F 77=some fn77:=by kernel_rfl
def QkH:C :=.sq (.rg [S10 9 .lss 8 7]) (.sq (.cd (.t 9) (.sk) (.ex 0)) (.sq (.bk 1 (.sq (.rg [S7 10 8,S7 5 10]) (.sq (.rg [S7 11 1,S7 12 0,S7 13 5,S14 14 1 12 13,S6 15 14,S2 16 (.pv (.t 11) [(.t 15)])]) (.cd (.t 16) (.sq (.rg [S7 17 5,S7 4 17]) (.rt)) (.sk))))) (.rg [S11 18 .add 8 1,S7 8 18])))
def c78:C :=.sq (.rg [S22 4 0]) (.sq (.sq (.rg [S7 6 0,S12 7 6,S22 8 0]) (.bk 0 (.lp QkH))) (.sq (.rg [S1 4 (.mov (.k (.i .i64 (-1))))]) (.rt)))
def fn78:Fn:={ n:=19,np:=2,res:=[.t 4],body:=c78 }
def e78:F 78=some fn78:=by kernel_rfl
def QlJ:C :=.sq (.rg [S10 23 .lss 22 21]) (.sq (.cd (.t 23) (.sk) (.ex 2)) (.sq (.bk 3 (.sq (.rg [S14 24 1 20 22,S6 25 24,S7 13 25]) (.rg [S7 26 0,S1 27 (.nck (.t 26)),S8 28 1 27,S7 30 11,S7 31 13,S7 32 3,S7 33 4,S1 34 (.bld [.i .i64 0,.i .i64 0,.bo false] [(0,1,(.t 31)),(1,1,(.t 32)),(2,1,(.t 33))]),S1 35 (.bld [.i .i64 0,.i .i64 0,.i .i64 0,.bo false] [(0,1,(.t 30)),(1,3,(.t 34))]),S6 29 28,S2 36 (.lkp true [.i .i64,.i .i64,.i .i64,.b] (.i .i64 0) false (.t 29) (.t 35)),S11 37 .add 36 1,⟨some 38,none,.men true [.i .i64,.i .i64,.i .i64,.b] (.i .i64 0) (.t 29) (.t 35),[.lkp true [.i .i64,.i .i64,.i .i64,.b] (.i .i64 0) false (.t 29) (.t 35)]⟩,S13 39 38 1,S3 (.est (.t 29) (.t 39) (.t 37))]))) (.rg [S11 40 .add 22 1,S7 22 40])))
def QlD:C :=.sq (.rg [S10 17 .lss 16 15]) (.sq (.cd (.t 17) (.sk) (.ex 0)) (.sq (.bk 1 (.sq (.rg [S14 18 1 14 16,S6 19 18,S7 11 19]) (.sq (.rg [S7 20 2,S12 21 20,S22 22 0]) (.bk 2 (.lp QlJ))))) (.rg [S11 41 .add 16 1,S7 16 41])))
def c79:C :=.sq (.rg [S7 14 1,S12 15 14,S22 16 0]) (.bk 0 (.lp QlD))
def fn79:Fn:={ n:=42,np:=5,res:=[],body:=c79 }
def e79:F 79=some fn79:=by kernel_rfl
def Dh:C :=.sq (.rg [S10 12 .lss 11 10]) (.sq (.cd (.t 12) (.sk) (.ex 0)) (.sq (.bk 1 (.sq (.rg [S14 13 1 9 11,S6 14 13,S7 5 14]) (.sq (.rg [S7 15 3,S7 16 5,S12 17 16,S10 18 .add 15 17,S7 3 18]) (.sq (.rg [S7 19 3,S11 20 .lss 19 0]) (.cd (.t 20) (.rg [S2 21 (.bad),S3 (.bad)]) (.sk)))))) (.rg [S11 22 .add 11 1,S7 11 22])))
def YE:C :=.sq (.rg [S10 28 .lss 27 26]) (.sq (.cd (.t 28) (.sk) (.ex 2)) (.sq (.bk 3 (.sq (.rg [S14 29 1 25 27,S6 30 29,S7 8 30]) (.rg [S7 31 6,S7 32 8,S35 33 1 8 31 32,S7 6 33]))) (.rg [S11 34 .add 27 1,S7 27 34])))
def c80:C :=.sq (.rg [S34 2]) (.sq (.rg [S22 3 0]) (.sq (.sq (.rg [S7 9 0,S12 10 9,S22 11 0]) (.bk 0 (.lp Dh))) (.sq (.rg [S7 23 3,S2 24 (.nc 119 [(.k (.nil)),(.t 23)]),S7 6 24]) (.sq (.sq (.rg [S7 25 0,S12 26 25,S22 27 0]) (.bk 2 (.lp YE))) (.sq (.rg [S7 35 6,S7 2 35]) (.rt))))))
def fn80:Fn:={ n:=36,np:=1,res:=[.t 2],body:=c80 }
def e80:F 80=some fn80:=by kernel_rfl
def c81:C :=.sq (.rg [S30 1 0,S23 2 false]) (.sq (.rg [S15 3 8 1,S17 4 74 3,S7 5 4,S33 6 5 8 1,S4 7 5 true (.pc 120 [(.t 6)]),S25 8 5 7,S7 2 8]) (.rt))
def fn81:Fn:={ n:=9,np:=1,res:=[.t 2],body:=c81 }
def e81:F 81=some fn81:=by kernel_rfl
def Qf0:C :=.sq (.sq (.rg [S7 29 5,S7 30 4,S12 31 30,S10 32 .lss 29 31]) (.cd (.t 32) (.sk) (.ex 2))) (.sq (.bk 3 (.sq (.rg [S7 35 4,S7 36 5,S14 37 5 35 36,S7 39 4,S7 40 5,S11 41 .sub 40 1,S14 42 5 39 41,S15 38 5 37,S15 43 5 42,S1 44 (.eqp true true [.i .i64,.i .i64,.i .i64,.i .i64,.i .i64] (.t 38) (.t 43))]) (.cd (.t 44) (.sq (.rg [S7 45 0,S7 46 3,S7 47 4,S7 48 5,S14 49 5 47 48,S15 50 5 49,S14 51 5 45 46,S16 5 51 50]) (.rg [S7 52 3,S11 53 .add 52 1,S7 3 53])) (.sk)))) (.rg [S7 33 5,S11 34 .add 33 1,S7 5 34]))
def Qgz:C :=.sq (.sq (.rg [S7 10 3,S7 11 0,S12 12 11,S10 13 .lss 10 12]) (.cd (.t 13) (.sk) (.ex 0))) (.sq (.bk 1 (.sq (.rg [S7 16 0,S7 17 3,S14 18 5 16 17,S7 20 0,S7 21 3,S11 22 .sub 21 1,S14 23 5 20 22,S15 19 5 18,S15 24 5 23,S1 25 (.eqp false true [.i .i64,.i .i64,.i .i64,.i .i64,.i .i64] (.t 19) (.t 24))]) (.cd (.t 25) (.sq (.rg [S7 26 0,S7 27 3,S1 28 (.slc 5 (.t 26) (some (.t 27)) none none),S7 4 28]) (.sq (.sq (.rg [S22 5 1]) (.bk 2 (.lp Qf0))) (.sq (.rg [S7 54 0,S7 55 3,S1 56 (.slc 5 (.t 54) (some (.t 55)) none none),S3 (.clr [.i .i64 0,.i .i64 0,.i .i64 0,.i .i64 0,.i .i64 0] (.t 56))]) (.sq (.rg [S7 57 0,S7 58 3,S1 59 (.slc 5 (.t 57) none (some (.t 58)) none),S7 2 59]) (.rt))))) (.sk)))) (.rg [S7 14 3,S11 15 .add 14 1,S7 3 15]))
def c101:C :=.sq (.rg [S34 2]) (.sq (.sq (.rg [S7 6 0,S12 7 6,S11 8 .lss 7 2]) (.cd (.t 8) (.sq (.rg [S7 9 0,S7 2 9]) (.rt)) (.sk))) (.sq (.sq (.rg [S22 3 1]) (.bk 0 (.lp Qgz))) (.sq (.rg [S7 60 0,S7 2 60]) (.rt))))
def Qhc:Fn:={ n:=61,np:=1,res:=[.t 2],body:=c101 }
def e101:F 101=some Qhc:=by kernel_rfl
def c102:C :=.sq (.rg [S30 3 0,S30 4 1,S30 5 2,S2 6 (.alc [.i .i64 0,.i .i64 0,.i .i64 0,.i .i64 0,.i .i64 0]),S23 7 false]) (.sq (.rg [S15 13 15 3,S8 14 0 4,S6 15 14,S18 16 51 13 15,S7 8 16]) (.sq (.rg [S8 17 1 4,S8 18 1 5,S6 19 18,S1 20 (.sla 4 (.t 17) none (some (.t 19))),S2 21 (.nc 129 [(.t 20)]),S7 9 21]) (.sq (.rg [S8 22 1 5,S6 23 22,S7 10 23]) (.sq (.sq (.rg [S8 24 2 5,S6 25 24]) (.cd (.t 25) (.sq (.rg [S7 27 8,S8 28 1 5,S8 32 1 5,S8 34 1 4,S6 29 28,S14 30 2 27 29,S15 31 2 30,S6 33 32,S36 35 4 1 34 33,S6 36 35,S18 37 130 31 36,S7 26 37,S13 38 26 0,S13 39 26 1,S7 11 38,S7 12 39]) (.sq (.sq (.rg [S7 40 12,S21 41 40]) (.cd (.t 41) (.sq (.rg [S1 42 (.bld [.i .i64 0,.i .i64 0,.i .i64 0,.i .i64 0,.i .i64 0] []),S16 5 6 42,S23 7 false]) (.rt)) (.sk))) (.sq (.rg [S7 43 9,S7 44 11,S2 45 (.bsl 1 1 [.i .i64 0] [(0,(.t 44))]),S35 46 1 8 43 45,S7 9 46]) (.rg [S7 47 10,S11 48 .add 47 1,S7 10 48])))) (.sk))) (.sq (.sq (.rg [S7 49 8,S7 50 10,S1 51 (.slc 2 (.t 49) (some (.t 50)) none none),S8 52 1 4,S7 53 10,S1 54 (.sla 4 (.t 52) (some (.t 53)) none),S18 55 50 51 54,S21 56 55]) (.cd (.t 56) (.sq (.rg [S1 57 (.bld [.i .i64 0,.i .i64 0,.i .i64 0,.i .i64 0,.i .i64 0] []),S16 5 6 57,S23 7 false]) (.rt)) (.sk))) (.sq (.rg [S15 58 15 3,S8 59 0 5,S6 60 59,S7 61 9,S19 62 65 58 60 61,S16 5 6 62,S23 7 true]) (.rt)))))))
def Qjf:Fn:={ n:=63,np:=3,res:=[.c 6 5 true,.t 7],body:=c102 }
def e102:F 102=some Qjf:=by kernel_rfl
def c111:C :=.sq (.rg [S23 2 false]) (.sq (.rg [S7 3 0,S7 4 0,S10 5 .neq 3 4,S7 2 5]) (.rt))
def Qj2:Fn:={ n:=6,np:=1,res:=[.t 2],body:=c111 }
def e111:F 111=some Qj2:=by kernel_rfl
def c112:C :=.sq (.rg [S30 1 0,S23 2 false]) (.sq (.rg [S8 4 6 1,S6 5 4,S11 6 .eql 5 0,S7 7 6,S32 8 7 true 7 1,S31 9 7 1 8,S27 10 7 true .eql 9 0,S25 11 7 10,S7 3 11]) (.sq (.sq (.rg [S8 12 0 1,S6 13 12]) (.bk 0 (.sq (.rg [S11 15 .eql 13 0,S7 14 15]) (.cd (.t 14) (.sq (.rg [S7 16 3,S7 17 16,S32 18 17 true 1 1,S33 19 17 4 18,S4 20 17 true (.pc 57 [(.t 19)]),S25 21 17 20,S7 22 21,S32 23 22 true 5 1,S31 24 22 1 23,S29 25 22 true 24,S27 26 22 true .eql 25 0,S25 27 22 26,S7 2 27]) (.rt)) (.sq (.rg [S11 29 .eql 13 1,S7 28 29]) (.cd (.t 28) (.sq (.rg [S7 30 3,S7 31 30,S32 32 31 true 5 1,S31 33 31 1 32,S29 34 31 true 33,S27 35 31 true .eql 34 0,S25 36 31 35,S7 2 36]) (.rt)) (.sq (.sq (.rg [S11 38 .eql 13 2,S7 37 38]) (.cd (.t 37) (.sk) (.rg [S11 39 .eql 13 3,S7 37 39]))) (.cd (.t 37) (.sq (.rg [S7 40 3,S7 41 40,S32 42 41 true 1 1,S33 43 41 4 42,S4 44 41 true (.pc 57 [(.t 43)]),S25 45 41 44,S7 46 45,S32 47 46 true 5 1,S31 48 46 1 47,S29 49 46 true 48,S27 50 46 true .geq 49 2,S25 51 46 50,S7 2 51]) (.rt)) (.sq (.rg [S11 53 .eql 13 4,S7 52 53]) (.cd (.t 52) (.sq (.rg [S8 54 1 1,S15 55 4 54,S17 56 57 55,S7 57 56,S32 58 57 true 5 1,S31 59 57 1 58,S29 60 57 true 59,S27 61 57 true .eql 60 1,S25 62 57 61,S7 63 62,S32 64 63 true 6 1,S31 65 63 1 64,S27 66 63 true .geq 65 0,S25 67 63 66,S7 68 67,S32 69 68 true 6 1,S31 70 68 1 69,S27 71 68 true .leq 70 2147483647,S25 72 68 71,S7 73 72,S32 74 73 true 7 1,S31 75 73 1 74,S5 76 73 true (.bin .eql (.t 75) (.k (.i .i64 (-1)))),S28 77 73 true 76,S32 78 77 false 7 1,S4 79 77 false (.ld 1 false (.t 78)),S32 80 77 false 6 1,S4 81 77 false (.ld 1 false (.t 80)),S26 82 77 false .geq 79 81,S28 83 77 false 82,S32 84 83 true 7 1,S31 85 83 1 84,S27 86 83 true .leq 85 2147483647,S5 87 77 false (.pick (.t 83) (.t 86) (.k (.bo false))),S5 88 73 true (.pick (.t 77) (.k (.bo true)) (.t 87)),S25 89 73 88,S7 2 89]) (.rt)) (.sk))))))))))) (.sq (.rg [S23 2 false]) (.rt))))
def QkU:Fn:={ n:=90,np:=1,res:=[.t 2],body:=c112 }
def e112:F 112=some QkU:=by kernel_rfl
def c113:C :=.sq (.rg [S23 4 false]) (.sq (.rg [S7 5 0,S7 6 1,S18 7 134 5 6,S11 8 .geq 7 0,S7 4 8]) (.rt))
def QjR:Fn:={ n:=9,np:=2,res:=[.t 4],body:=c113 }
def e113:F 113=some QjR:=by kernel_rfl
def c114:C :=.sq (.rg [S30 1 0,S23 2 false]) (.sq (.rg [S15 3 8 1,S17 4 74 3,S21 5 4,S7 2 5]) (.rt))
def QlR:Fn:={ n:=6,np:=1,res:=[.t 2],body:=c114 }
def e114:F 114=some QlR:=by kernel_rfl
def c115:C :=.sq (.rg [S30 1 0,S23 2 false]) (.sq (.sq (.rg [S8 3 0 1,S6 4 3]) (.bk 0 (.sq (.rg [S11 6 .eql 4 1,S7 5 6]) (.cd (.t 5) (.sq (.rg [S8 7 1 1,S15 8 4 7,S17 9 57 8,S7 2 9]) (.rt)) (.sq (.rg [S11 11 .eql 4 2,S7 10 11]) (.cd (.t 10) (.sq (.rg [S8 12 5 1,S6 13 12,S2 14 (.pc 113 [(.t 13),(.k (.fn 115 []))]),S7 2 14]) (.rt)) (.sq (.rg [S11 16 .eql 4 3,S7 15 16]) (.cd (.t 15) (.sq (.rg [S8 17 5 1,S6 18 17,S2 19 (.pc 113 [(.t 18),(.k (.fn 135 []))]),S21 20 19,S7 2 20]) (.rt)) (.sq (.rg [S11 22 .eql 4 4,S7 21 22]) (.cd (.t 21) (.sq (.rg [S8 23 6 1,S6 24 23,S11 25 .gtr 24 0,S7 26 25,S32 27 26 true 5 1,S31 28 26 1 27,S5 29 26 true (.ixp 8 (.t 28) (.k (.i .i64 0))),S33 30 26 8 29,S4 31 26 true (.pc 115 [(.t 30)]),S25 32 26 31,S7 2 32]) (.rt)) (.sk))))))))))) (.sq (.rg [S23 2 false]) (.rt)))
def QiG:Fn:={ n:=33,np:=1,res:=[.t 2],body:=c115 }
def e115:F 115=some QiG:=by kernel_rfl
def c116:C :=.sq (.rg [S2 4 (.alc [.i .i64 0,.i .u64 0,.i .u64 0,.i .u64 0,.i .u64 0,.nil,.i .i64 0,.i .i64 0])]) (.sq (.sq (.rg [S7 5 1,S12 6 5]) (.bk 0 (.sq (.rg [S11 8 .eql 6 0,S7 7 8]) (.cd (.t 7) (.sq (.rg [S1 9 (.bld [.i .i64 0,.i .u64 0,.i .u64 0,.i .u64 0,.i .u64 0,.nil,.i .i64 0,.i .i64 0] []),S16 8 4 9]) (.rt)) (.sq (.rg [S11 11 .eql 6 1,S7 10 11]) (.cd (.t 10) (.sq (.rg [S7 12 1,S1 13 (.ixp 8 (.t 12) (.k (.i .i64 0))),S15 14 8 13,S16 8 4 14]) (.rt)) (.sk))))))) (.sq (.rg [S7 15 0,S7 16 1,S1 17 (.bld [.i .i64 0,.i .u64 0,.i .u64 0,.i .u64 0,.i .u64 0,.nil,.i .i64 0,.i .i64 0] [(0,1,(.t 15)),(5,1,(.t 16))]),S16 8 4 17]) (.rt)))
def Qkp:Fn:={ n:=18,np:=2,res:=[.c 4 8 true],body:=c116 }
def e116:F 116=some Qkp:=by kernel_rfl
def QgH:C :=.sq (.rg [S10 12 .lss 11 10]) (.sq (.cd (.t 12) (.sk) (.ex 0)) (.sq (.bk 1 (.sq (.rg [S14 13 8 9 11,S15 14 8 13,S2 8 (.alc [.i .i64 0,.i .u64 0,.i .u64 0,.i .u64 0,.i .u64 0,.nil,.i .i64 0,.i .i64 0]),S16 8 8 14]) (.bk 2 (.sq (.rg [S8 20 0 8,S6 21 20,S7 22 0,S10 23 .eql 21 22,S7 19 23]) (.cd (.t 19) (.rg [S7 24 0,S7 25 1,S8 26 5 8,S6 27 26,S2 28 (.nc 117 [(.t 24),(.t 25),(.t 27)]),S7 1 28]) (.sq (.rg [S7 30 0,S11 31 .eql 30 2,S7 32 31,S32 33 32 true 0 8,S31 34 32 1 33,S27 35 32 true .eql 34 0,S25 36 32 35,S7 29 36]) (.cd (.t 29) (.sk) (.sq (.rg [S7 38 0,S11 39 .eql 38 3,S7 40 39,S33 41 40 8 8,S4 42 40 true (.pc 115 [(.t 41)]),S28 43 40 true 42,S28 44 43 false 1,S5 45 43 false (.mkf 136 [(.t 8)]),S4 46 43 false (.pc 113 [(.t 44),(.t 45)]),S5 47 40 true (.pick (.t 43) (.k (.bo true)) (.t 46)),S25 48 40 47,S7 37 48]) (.cd (.t 37) (.sk) (.rg [S7 15 1,S15 16 8 8,S2 17 (.bsl 8 1 [.i .i64 0,.i .u64 0,.i .u64 0,.i .u64 0,.i .u64 0,.nil,.i .i64 0,.i .i64 0] [(0,(.t 16))]),S35 18 8 80 15 17,S7 1 18])))))))))) (.rg [S11 49 .add 11 1,S7 11 49])))
def c117:C :=.sq (.rg [S34 6]) (.sq (.sq (.rg [S7 9 2,S12 10 9,S22 11 0]) (.bk 0 (.lp QgH))) (.sq (.rg [S7 50 1,S7 6 50]) (.rt)))
def QlG:Fn:={ n:=51,np:=3,res:=[.t 6],body:=c117 }
def e117:F 117=some QlG:=by kernel_rfl
def c118:C :=.sq (.rg [S30 3 0,S2 6 (.alc [.i .i64 0,.i .u64 0,.i .u64 0,.i .u64 0,.i .u64 0,.nil,.i .i64 0,.i .i64 0])]) (.sq (.bk 0 (.sq (.rg [S7 8 2,S11 9 .eql 8 0,S7 10 9,S32 11 10 false 0 3,S4 12 10 false (.ld 1 false (.t 11)),S27 13 10 false .eql 12 0,S24 14 10 13,S7 15 14,S4 16 15 false (.ld 8 true (.t 3)),S4 17 15 false (.pc 115 [(.t 16)]),S24 18 15 17,S7 7 18]) (.cd (.t 7) (.sq (.rg [S1 19 (.bld [.i .i64 0,.i .u64 0,.i .u64 0,.i .u64 0,.i .u64 0,.nil,.i .i64 0,.i .i64 0] []),S16 8 6 19]) (.rt)) (.sq (.rg [S7 21 1,S11 22 .eql 21 1,S7 23 22,S28 24 23 true 2,S27 25 23 true .eql 24 1,S25 26 23 25,S7 20 26]) (.cd (.t 20) (.sq (.rg [S15 27 8 3,S16 8 6 27]) (.rt)) (.sq (.rg [S15 29 8 3,S17 30 120 29,S7 28 30]) (.cd (.t 28) (.rg [S22 1 0]) (.sk)))))))) (.sq (.rg [S15 31 8 3,S2 32 (.bsl 8 1 [.i .i64 0,.i .u64 0,.i .u64 0,.i .u64 0,.i .u64 0,.nil,.i .i64 0,.i .i64 0] [(0,(.t 31))]),S7 33 1,S7 34 2,S1 35 (.bld [.i .i64 0,.i .u64 0,.i .u64 0,.i .u64 0,.i .u64 0,.nil,.i .i64 0,.i .i64 0] [(0,1,(.k (.i .i64 4))),(5,1,(.t 32)),(6,1,(.t 33)),(7,1,(.t 34))]),S16 8 6 35]) (.rt)))
def Qmp:Fn:={ n:=36,np:=3,res:=[.c 6 8 true],body:=c118 }
def e118:F 118=some Qmp:=by kernel_rfl
def c119:C :=.sq (.rg [S34 4]) (.sq (.sq (.rg [S7 5 1,S11 6 .lss 5 0]) (.cd (.t 6) (.rg [S2 7 (.bad),S3 (.bad)]) (.sk))) (.sq (.sq (.rg [S7 8 1,S7 9 0,S1 10 (.cap (.t 9)),S7 11 0,S12 12 11,S10 13 .sub 10 12,S10 14 .sub 8 13,S7 1 14]) (.sq (.rg [S7 15 1,S11 16 .gtr 15 0]) (.cd (.t 16) (.rg [S7 17 0,S7 18 0,S1 19 (.cap (.t 18)),S1 20 (.slc 1 (.t 17) none (some (.t 19)) none),S7 21 1,S2 22 (.apz 1 8 [.i .i64 0] (.t 20) (.t 21)),S7 23 0,S12 24 23,S1 25 (.slc 1 (.t 22) none (some (.t 24)) none),S7 0 25]) (.sk)))) (.sq (.rg [S7 26 0,S7 4 26]) (.rt))))
def QgK:Fn:={ n:=27,np:=2,res:=[.t 4],body:=c119 }
def e119:F 119=some QgK:=by kernel_rfl
def c120:C :=.sq (.rg [S30 1 0,S23 2 false]) (.sq (.sq (.rg [S8 3 0 1,S6 4 3]) (.bk 0 (.sq (.rg [S11 6 .eql 4 1,S7 5 6]) (.cd (.t 5) (.sq (.rg [S23 2 false]) (.rt)) (.sq (.rg [S11 8 .eql 4 2,S7 7 8]) (.cd (.t 7) (.sq (.rg [S8 9 5 1,S6 10 9,S2 11 (.pc 113 [(.t 10),(.k (.fn 138 []))]),S21 12 11,S7 2 12]) (.rt)) (.sq (.rg [S11 14 .eql 4 3,S7 13 14]) (.cd (.t 13) (.sq (.rg [S8 15 5 1,S6 16 15,S2 17 (.pc 113 [(.t 16),(.k (.fn 120 []))]),S7 2 17]) (.rt)) (.sq (.rg [S11 19 .eql 4 4,S7 18 19]) (.cd (.t 18) (.sq (.rg [S8 20 6 1,S6 21 20,S11 22 .eql 21 0,S7 23 22,S32 24 23 false 5 1,S4 25 23 false (.ld 1 false (.t 24)),S5 26 23 false (.ixp 8 (.t 25) (.k (.i .i64 0))),S4 27 23 false (.ld 8 true (.t 26)),S4 28 23 false (.pc 120 [(.t 27)]),S24 29 23 28,S7 2 29]) (.rt)) (.sk))))))))))) (.sq (.rg [S23 2 true]) (.rt)))
def Qia:Fn:={ n:=30,np:=1,res:=[.t 2],body:=c120 }
def e120:F 120=some Qia:=by kernel_rfl
def c129:C :=.sq (.rg [S34 2]) (.sq (.sq (.rg [S7 3 0,S2 4 (.isz false (.t 3))]) (.cd (.t 4) (.sq (.rg [S34 2]) (.rt)) (.sk))) (.sq (.rg [S2 5 (.bsl 1 0 [.i .i64 0] []),S7 6 0,S35 7 1 8 5 6,S7 2 7]) (.rt)))
def Qk9:Fn:={ n:=8,np:=1,res:=[.t 2],body:=c129 }
def e129:F 129=some Qk9:=by kernel_rfl
def c130:C :=.sq (.rg [S30 2 0,S22 4 0,S23 5 false]) (.sq (.bk 0 (.sq (.rg [S8 7 1 2,S6 8 7,S1 9 (.bin .eql (.t 8) (.k (.i .i64 (-1)))),S7 6 9]) (.cd (.t 6) (.sq (.rg [S7 10 1,S8 11 0 2,S6 12 11,S11 13 .sub 12 1,S1 14 (.mx false (.t 10) (.t 13)),S11 15 .add 14 1,S7 4 15,S23 5 true]) (.rt)) (.sq (.rg [S7 17 1,S8 18 1 2,S6 19 18,S10 20 .geq 17 19,S7 16 20]) (.cd (.t 16) (.sq (.rg [S22 4 0,S23 5 false]) (.rt)) (.sk)))))) (.sq (.rg [S7 21 1,S11 22 .add 21 1,S7 4 22,S23 5 true]) (.rt)))
def QjH:Fn:={ n:=23,np:=2,res:=[.t 4,.t 5],body:=c130 }
def e130:F 130=some QjH:=by kernel_rfl
def QfQ:C :=.sq (.rg [S10 9 .lss 8 7]) (.sq (.cd (.t 9) (.sk) (.ex 0)) (.sq (.bk 1 (.sq (.rg [S7 10 8,S7 5 10]) (.sq (.rg [S7 11 1,S7 12 0,S7 13 5,S14 14 8 12 13,S15 15 8 14,S2 16 (.pv (.t 11) [(.t 15)])]) (.cd (.t 16) (.sq (.rg [S7 17 5,S7 4 17]) (.rt)) (.sk))))) (.rg [S11 18 .add 8 1,S7 8 18])))
def c134:C :=.sq (.rg [S22 4 0]) (.sq (.sq (.rg [S7 6 0,S12 7 6,S22 8 0]) (.bk 0 (.lp QfQ))) (.sq (.rg [S1 4 (.mov (.k (.i .i64 (-1))))]) (.rt)))
def Ql2:Fn:={ n:=19,np:=2,res:=[.t 4],body:=c134 }
def e134:F 134=some Ql2:=by kernel_rfl
def c135:C :=.sq (.rg [S30 1 0,S23 2 false]) (.sq (.rg [S15 3 8 1,S17 4 115 3,S21 5 4,S7 2 5]) (.rt))
def Qki:Fn:={ n:=6,np:=1,res:=[.t 2],body:=c135 }
def e135:F 135=some Qki:=by kernel_rfl
def c136:C :=.sq (.rg [S30 2 0,S23 3 false]) (.sq (.rg [S15 4 8 1,S15 5 8 2,S18 6 137 4 5,S7 3 6]) (.rt))
def Qjv:Fn:={ n:=7,np:=2,res:=[.t 3],body:=c136 }
def e136:F 136=some Qjv:=by kernel_rfl
def c137:C :=.sq (.rg [S30 2 0,S30 3 1,S23 4 false]) (.sq (.rg [S8 5 0 2,S6 6 5,S8 7 0 3,S6 8 7,S10 9 .eql 6 8,S7 10 9,S32 11 10 true 1 2,S33 12 10 4 11,S32 13 10 true 1 3,S33 14 10 4 13,S5 15 10 true (.eqp false true [.i .u64,.i .u64,.i .u64,.i .u64] (.t 12) (.t 14)),S25 16 10 15,S7 17 16,S32 18 17 true 6 2,S31 19 17 1 18,S32 20 17 true 6 3,S31 21 17 1 20,S26 22 17 true .eql 19 21,S25 23 17 22,S7 24 23,S32 25 24 true 7 2,S31 26 24 1 25,S32 27 24 true 7 3,S31 28 24 1 27,S26 29 24 true .eql 26 28,S25 30 24 29,S7 31 30,S32 32 31 true 5 2,S31 33 31 1 32,S32 34 31 true 5 3,S31 35 31 1 34,S4 36 31 true (.pc 142 [(.t 33),(.t 35),(.k (.fn 137 []))]),S25 37 31 36,S7 4 37]) (.rt))
def Qjl:Fn:={ n:=38,np:=2,res:=[.t 4],body:=c137 }
def e137:F 137=some Qjl:=by kernel_rfl
def c138:C :=.sq (.rg [S30 1 0,S23 2 false]) (.sq (.rg [S15 3 8 1,S17 4 120 3,S21 5 4,S7 2 5]) (.rt))
def Qlp:Fn:={ n:=6,np:=1,res:=[.t 2],body:=c138 }
def e138:F 138=some Qlp:=by kernel_rfl
def QfT:C :=.sq (.rg [S10 18 .lss 17 16]) (.sq (.cd (.t 18) (.sk) (.ex 0)) (.sq (.bk 1 (.sq (.rg [S7 19 17,S14 20 8 15 17,S15 21 8 20,S2 8 (.alc [.i .i64 0,.i .u64 0,.i .u64 0,.i .u64 0,.i .u64 0,.nil,.i .i64 0,.i .i64 0]),S7 7 19,S16 8 8 21]) (.sq (.rg [S7 22 1,S7 23 7,S14 24 8 22 23,S15 25 8 24,S2 9 (.alc [.i .i64 0,.i .u64 0,.i .u64 0,.i .u64 0,.i .u64 0,.nil,.i .i64 0,.i .i64 0]),S16 8 9 25]) (.sq (.rg [S7 26 2,S15 27 8 8,S15 28 8 9,S2 29 (.pv (.t 26) [(.t 27),(.t 28)]),S21 30 29]) (.cd (.t 30) (.sq (.rg [S23 6 false]) (.rt)) (.sk)))))) (.rg [S11 31 .add 17 1,S7 17 31])))
def c142:C :=.sq (.rg [S23 6 false]) (.sq (.sq (.rg [S7 10 0,S12 11 10,S7 12 1,S12 13 12,S10 14 .neq 11 13]) (.cd (.t 14) (.sq (.rg [S23 6 false]) (.rt)) (.sk))) (.sq (.sq (.rg [S7 15 0,S12 16 15,S22 17 0]) (.bk 0 (.lp QfT))) (.sq (.rg [S23 6 true]) (.rt))))
def Qlh:Fn:={ n:=32,np:=3,res:=[.t 6],body:=c142 }
def e142:F 142=some Qlh:=by kernel_rfl
end Go.Proofs.YtocmjakchgcioaaGreat
