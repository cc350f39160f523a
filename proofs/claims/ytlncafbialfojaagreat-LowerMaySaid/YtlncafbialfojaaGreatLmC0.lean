/- Functions as code of the abstract machine (part 4). No conditions. -/
import Derived.Test.YtlncafbialfojaaGreatLmA3
set_option linter.unusedVariables false
set_option linter.unusedSimpArgs false
namespace Go.Ab
@[simp] abbrev om (i d s : Nat) : AOper := ⟨i, some d, none, .op (.mv (.t s)), []⟩
@[simp] abbrev ol (i d s : Nat) : AOper := ⟨i, some d, none, .op (.ld false 1 (.t s)), []⟩
@[simp] abbrev oa (i d k s : Nat) : AOper := ⟨i, some d, none, .op (.fa k (.t s)), []⟩
@[simp] abbrev on (i d s : Nat) : AOper := ⟨i, some d, none, .op (.nck (.t s)), []⟩
@[simp] abbrev oq (i d : Nat) (a : AOp) : AOper := ⟨i, some d, none, .op a, []⟩
@[simp] abbrev og (i d g : Nat) (b : Bool) (a : AOp) : AOper := ⟨i, some d, some (g, b), .op a, []⟩
@[simp] abbrev ci (k : Int) : Opd := .c (.int .i64 k)
@[simp] abbrev sr (l : List AOper) (c : ACode) : ACode := .seq (.reg false l) c
@[simp] abbrev z7 : List AV := [.int .i64 0, .int .i64 0, .int .i64 0, .int .i64 0, .int .i64 0, .int .i64 0, .int .i64 0]
def c5_1 : ACode := (.keep [4,7,9,10,11] (.seq (.block 3
 (.reg false [om 0 50 10,om 1 51 7,om 2 52 9,oq 3 53 (.ixa 1 (.t 51) (.t 52)),ol 4 54 53,om 5 55 11,oq 6 56 (.ixa 7 (.t 54) (.t 55)),oq 7 57 (.ld true 7 (.t 56)),⟨8,(some 58),none,.call 20 [.t 57],[]⟩,oq 9 59 (.bin .add .num (.t 58) (ci 1)),oq 10 60 (.mx false (.t 50) (.t 59)),om 11 10 60]))
(.keep [4,7,9,10,11] (.reg false [om 0 48 11,oq 1 49 (.bin .add .num (.t 48) (ci 1)),om 2 11 49]))))
def c5_2 : ACode := (.keep [4,7,9,10] (.seq (.reg true [om 0 61 7,om 1 62 9,oq 2 63 (.ixa 1 (.t 61) (.t 62)),ol 3 64 63,om 4 65 10,oa 5 66 1 4,ol 6 67 66,oq 7 68 (.len .l (.t 67)),⟨8,(some 69),none,.call 21 [.t 64,.t 65,.t 68],[]⟩,oq 9 70 (.un .not (.t 69))])
(.keep [4,7,9,70] (.cond (.t 70)
 (sr [oq 0 2 (.mv (.c (.bool false)))]
 (.keep [2] .ret))
 .skip))))
def c5_3 : ACode := (.keep [4,7,9] (.reg false [om 0 39 9,oq 1 40 (.bin .add .num (.t 39) (ci 1)),om 2 9 40]))
def c5_4 : ACode := (.keep [4,7,9] (.seq (.block 1
 (sr [oq 0 10 (.mv (ci 0))]
 (.keep [4,7,9,10] (.seq (sr [oq 0 11 (.mv (ci 0))]
 (.keep [4,7,9,10,11] (.block 2
 (.loop
 (.keep [4,7,9,10,11] (.seq (sr [om 0 41 11,om 1 42 7,om 2 43 9,oq 3 44 (.ixa 1 (.t 42) (.t 43)),ol 4 45 44,oq 5 46 (.len .l (.t 45)),oq 6 47 (.bin .lss .num (.t 41) (.t 46))]
 (.keep [4,7,9,10,11,47] (.cond (.t 47)
 .skip
 (.exit 2)))) c5_1)))))) c5_2)))) c5_3))
def c5_5 : ACode := (.keep [4,7] (sr [om 0 71 7,oq 1 72 (.len .l (.t 71)),oa 2 73 3 4,ol 3 74 73,oq 4 75 (.len .l (.t 74)),oq 5 76 (.bin .eql .num (.t 72) (.t 75)),om 6 2 76]
(.keep [2] .ret)))
def c5_6 : ACode := (.keep [4,7] (.seq (sr [oq 0 9 (.mv (ci 0))]
(.keep [4,7,9] (.block 0
 (.loop
 (.keep [4,7,9] (.seq (sr [om 0 35 9,om 1 36 7,oq 2 37 (.len .l (.t 36)),oq 3 38 (.bin .lss .num (.t 35) (.t 37))]
 (.keep [4,7,9,38] (.cond (.t 38)
 .skip
 (.exit 0)))) c5_4)))))) c5_5))
def c5_7 : ACode := (.keep [0] (sr [om 0 19 0,⟨1,(some 20),none,.call 9 [.t 19],[]⟩,om 2 18 20,oq 3 21 (.ext (.t 18) 0),oq 4 22 (.ext (.t 18) 1),oq 5 23 (.ext (.t 18) 2),oq 6 4 (.allocL [.nils,.nils,.nils,.nils]),⟨7,none,none,.op (.st 4 (.t 4) (.t 21)),[]⟩,om 8 5 22,om 9 6 23]
(.keep [4,5] (sr [oq 0 25 (.ld true 4 (.t 4)),⟨1,(some 26),none,.call 13 [.t 25],[]⟩,om 2 24 26,oq 3 27 (.ext (.t 24) 0),oq 4 28 (.ext (.t 24) 1),om 5 7 27,om 6 8 28]
(.keep [4,5,7,8] (.seq (sr [om 0 29 5,oq 1 30 (.bin .neq .num (.t 29) (ci 0)),om 2 31 30,og 3 32 31 false (.mv (.t 8)),og 4 33 31 false (.un .not (.t 32)),oq 5 34 (.pick (.t 31) (.c (.bool true)) (.t 33))]
(.keep [4,7,34] (.cond (.t 34)
 (sr [oq 0 2 (.mv (.c (.bool true)))]
 (.keep [2] .ret))
 .skip))) c5_6))))))
def c5_8 : ACode := (.keep [0] (.seq (sr [om 0 15 0,oq 1 16 (.len .s (.t 15)),oq 2 17 (.bin .gtr .num (.t 16) (ci 6000))]
(.keep [0,17] (.cond (.t 17)
 (sr [oq 0 2 (.mv (.c (.bool true)))]
 (.keep [2] .ret))
 .skip))) c5_7))
def c5 : AFn := ⟨1, 77, (sr [oq 0 2 (.mv (.c (.bool false)))]
(.keep [0] (sr [⟨0,(some 12),none,.call 8 [],[]⟩,om 1 3 12]
(.keep [0,3] (.seq (sr [om 0 13 3,oq 1 14 (.un .not (.t 13))]
(.keep [0,14] (.cond (.t 14)
 (sr [oq 0 2 (.mv (.c (.bool false)))]
 (.keep [2] .ret))
 .skip))) c5_8))))), [.tmp 2]⟩
def c8 : AFn := ⟨0, 55, (sr [oq 0 0 (.mv (.c (.bool false)))]
(.keep [] (sr [⟨0,(some 11),none,.call 9 [(.c (.str [116,104,114,101,97,100,32,123,32,111,117,116,32,49,32,47,32,50,59,32,125,32,116,104,114,101,97,100,32,123,32,125]))],[]⟩,om 1 10 11,oq 2 12 (.ext (.t 10) 0),oq 3 13 (.ext (.t 10) 1),oq 4 14 (.ext (.t 10) 2),oq 5 1 (.allocL [.nils,.nils,.nils,.nils]),⟨6,none,none,.op (.st 4 (.t 1) (.t 12)),[]⟩,om 7 2 13,om 8 3 14]
(.keep [1] (sr [oq 0 16 (.ld true 4 (.t 1)),⟨1,(some 17),none,.call 10 [.t 16,ci 0],[]⟩,om 2 15 17,oq 3 18 (.ext (.t 15) 0),oq 4 19 (.ext (.t 15) 1),om 5 4 18,om 6 5 19]
(.keep [1,4,5] (sr [oq 0 21 (.ld true 4 (.t 1)),⟨1,(some 22),none,.call 13 [.t 21],[]⟩,om 2 20 22,oq 3 23 (.ext (.t 20) 0),oq 4 24 (.ext (.t 20) 1),om 5 6 23,om 6 7 24]
(.keep [1,4,5,6,7] (sr [oq 0 26 (.ld true 4 (.t 1)),⟨1,(some 27),none,.call 10 [.t 26,ci 2],[]⟩,om 2 25 27,oq 3 28 (.ext (.t 25) 0),oq 4 29 (.ext (.t 25) 1),om 5 8 28,om 6 9 29]
(.keep [4,5,6,7,9] (sr [om 0 30 5,om 1 31 30,og 2 32 31 true (.mv (.t 4)),⟨3,(some 33),(some (31,true)),.call 22 [.t 32],[]⟩,og 4 34 31 true (.bin .eql .num (.t 33) (.c (.str [48,32,115,101,116,32,114,48,32,49,10,49,32,115,101,116,32,114,49,32,50,10,50,32,122,101,114,111,32,114,49,32,54,10,51,32,99,97,108,99,32,114,50,32,114,48,32,47,32,114,49,10,52,32,111,117,116,32,114,50,10,53,32,104,97,108,116,10,54,32,116,114,97,112,32,49,10]))),oq 5 35 (.pick (.t 31) (.t 34) (.c (.bool false))),om 6 36 35,og 7 37 36 true (.mv (.t 7)),oq 8 38 (.pick (.t 36) (.t 37) (.c (.bool false))),om 9 39 38,og 10 40 39 true (.mv (.t 6)),og 11 41 39 true (.len .l (.t 40)),og 12 42 39 true (.bin .eql .num (.t 41) (ci 2)),oq 13 43 (.pick (.t 39) (.t 42) (.c (.bool false))),om 14 44 43,og 15 45 44 true (.mv (.t 6)),og 16 46 44 true (.ixa 1 (.t 45) (ci 1)),og 17 47 44 true (.ld false 1 (.t 46)),og 18 48 44 true (.len .l (.t 47)),og 19 49 44 true (.bin .eql .num (.t 48) (ci 1)),oq 20 50 (.pick (.t 44) (.t 49) (.c (.bool false))),om 21 51 50,og 22 52 51 true (.mv (.t 9)),og 23 53 51 true (.un .not (.t 52)),oq 24 54 (.pick (.t 51) (.t 53) (.c (.bool false))),om 25 0 54]
(.keep [0] .ret)))))))))))), [.tmp 0]⟩
def c9_1 : ACode := (.keep [2,5] (sr [oq 0 26 (.ld true 4 (.t 5)),⟨1,none,none,.op (.st 4 (.t 2) (.t 26)),[]⟩,oq 2 3 (.mv (ci 0)),oq 3 4 (.mv (ci 0))]
(.keep [2,3,4] .ret)))
def c9_2 : ACode := (.keep [2,5,6,7] (.seq (sr [om 0 21 6,oq 1 22 (.bin .neq .num (.t 21) (ci 0))]
(.keep [2,5,6,7,22] (.cond (.t 22)
 (sr [oq 0 23 (.build [.nils,.nils,.nils,.nils] []),om 1 24 6,om 2 25 7,⟨3,none,none,.op (.st 4 (.t 2) (.t 23)),[]⟩,om 4 3 24,om 5 4 25]
 (.keep [2,3,4] .ret))
 .skip))) c9_1))
def c9 : AFn := ⟨1, 27, (sr [oq 0 2 (.allocL [.nils,.nils,.nils,.nils]),oq 1 3 (.mv (ci 0)),oq 2 4 (.mv (ci 0))]
(.keep [0,2] (sr [om 0 9 0,⟨1,(some 10),none,.call 23 [.t 9],[]⟩,om 2 8 10,oq 3 11 (.ext (.t 8) 0),oq 4 12 (.ext (.t 8) 1),oq 5 13 (.ext (.t 8) 2),oq 6 5 (.allocL [.nils,.nils,.nils,.nils]),⟨7,none,none,.op (.st 4 (.t 5) (.t 11)),[]⟩,om 8 6 12,om 9 7 13]
(.keep [2,5,6,7] (.seq (sr [om 0 14 6,oq 1 15 (.bin .eql .num (.t 14) (ci 0))]
(.keep [2,5,6,7,15] (.cond (.t 15)
 (.reg false [oq 0 17 (.ld true 4 (.t 5)),⟨1,(some 18),none,.call 24 [.t 17],[]⟩,om 2 16 18,oq 3 19 (.ext (.t 16) 0),oq 4 20 (.ext (.t 16) 1),om 5 6 19,om 6 7 20])
 .skip))) c9_2))))), [.cell 2 true 4,.tmp 3,.tmp 4]⟩
def c10_1 : ACode := (.keep [4,5,6,8,33,34,35,44,45,46] (.seq (.block 3
 (sr [oq 0 48 (.ixa 1 (.t 44) (.t 46)),ol 1 49 48,om 2 10 49]
 (.keep [4,5,6,8,10,33,34,35,44,45,46] (.reg false [om 0 50 10,om 1 51 6,⟨2,(some 52),none,.call 29 [.t 51],[]⟩,⟨3,(some 53),none,.callv (.t 50) [.t 52],[]⟩]))))
(.keep [4,5,6,8,33,34,35,44,45,46] (.reg false [oq 0 54 (.bin .add .num (.t 46) (ci 1)),om 1 46 54]))))
def c10_2 : ACode := (.keep [4,5,6,8,33,34,35] (sr [om 0 55 6,on 1 56 55,oa 2 57 6 56,ol 3 58 57,om 4 59 8,oq 5 60 (.lkp .i .nils false (.t 58) (.t 59)),oq 6 61 (.len .l (.t 60)),oq 7 62 (.bin .gtr .num (.t 61) (ci 0))]
(.keep [4,5,6,8,33,34,35,62] (.cond (.t 62)
 (.reg false [om 0 63 6,om 1 64 8,oq 2 65 (.build z7 [(0,1,(ci 12)),(5,1,(.t 64))]),⟨3,(some 66),none,.call 28 [.t 63,.t 65],[]⟩])
 .skip))))
def c10_3 : ACode := (.keep [4,5,6,33,34,35] (.reg false [oq 0 67 (.bin .add .num (.t 35) (ci 1)),om 1 35 67]))
def c10_4 : ACode := (.keep [4,5,6,33,34,35] (.seq (.block 1
 (sr [oq 0 37 (.ixa 1 (.t 33) (.t 35)),ol 1 38 37,om 2 8 38]
 (.keep [4,5,6,8,33,34,35] (.seq (sr [om 0 39 6,on 1 40 39,oa 2 41 6 40,ol 3 42 41,om 4 43 8,oq 5 44 (.lkp .i .nils false (.t 42) (.t 43)),oq 6 45 (.len .l (.t 44)),oq 7 46 (.mv (ci 0))]
 (.keep [4,5,6,8,33,34,35,44,45,46] (.block 2
 (.loop
 (.keep [4,5,6,8,33,34,35,44,45,46] (sr [oq 0 47 (.bin .lss .num (.t 46) (.t 45))]
 (.keep [4,5,6,8,33,34,35,44,45,46,47] (.seq (.cond (.t 47)
 .skip
 (.exit 2)) c10_1)))))))) c10_2)))) c10_3))
def c10_5 : ACode := (.keep [4,5,6] (sr [om 0 68 6,on 1 69 68,oa 2 70 3 69,ol 3 71 70,⟨4,none,none,.op (.st 1 (.t 4) (.t 71)),[]⟩,⟨5,none,none,.op (.st 1 (.t 5) (.c (.bool true))),[]⟩]
(.keep [4,5] .ret)))
def c10_6 : ACode := (.keep [1,2,4,5] (sr [oq 0 20 (.mkf (.func 25) [] [.t 4,.t 5]),⟨1,none,none,.dfr (.t 20) [],[]⟩]
(.keep [1,2,4,5] (sr [oq 0 21 (.ld true 4 (.t 2)),⟨1,(some 22),none,.call 26 [.t 21],[]⟩,om 2 6 22]
(.keep [1,2,4,5,6] (sr [om 0 23 6,oa 1 24 3 2,ol 2 25 24,om 3 26 1,oq 4 27 (.ixa 1 (.t 25) (.t 26)),ol 5 28 27,⟨6,(some 29),none,.call 27 [.t 23,.t 28],[]⟩]
(.keep [4,5,6] (sr [om 0 30 6,oq 1 31 (.build z7 [(0,1,(ci 13))]),⟨2,(some 32),none,.call 28 [.t 30,.t 31],[]⟩]
(.keep [4,5,6] (.seq (sr [oq 0 33 (.bsl 1 true [ci 1,ci 2]),oq 1 34 (.len .l (.t 33)),oq 2 35 (.mv (ci 0))]
(.keep [4,5,6,33,34,35] (.block 0
 (.loop
 (.keep [4,5,6,33,34,35] (sr [oq 0 36 (.bin .lss .num (.t 35) (.t 34))]
 (.keep [4,5,6,33,34,35,36] (.seq (.cond (.t 36)
 .skip
 (.exit 0)) c10_4)))))))) c10_5))))))))))
def c10 : AFn := ⟨2, 72, (sr [oq 0 2 (.boxL (.t 0)),oq 1 4 (.allocH [.nils]),oq 2 5 (.allocH [(.bool false)])]
(.keep [1,2,4,5] (.seq (sr [om 0 11 1,oq 1 12 (.bin .lss .num (.t 11) (ci 0)),om 2 13 12,og 3 14 13 false (.mv (.t 1)),og 4 15 13 false (.fa 3 (.t 2)),og 5 16 13 false (.ld false 1 (.t 15)),og 6 17 13 false (.len .l (.t 16)),og 7 18 13 false (.bin .geq .num (.t 14) (.t 17)),oq 8 19 (.pick (.t 13) (.c (.bool true)) (.t 18))]
(.keep [1,2,4,5,19] (.cond (.t 19)
 (sr [⟨0,none,none,.op (.st 1 (.t 4) (.c .nils)),[]⟩,⟨1,none,none,.op (.st 1 (.t 5) (.c (.bool false))),[]⟩]
 (.keep [4,5] .ret))
 .skip))) c10_6))), [.cell 4 false 1,.cell 5 false 1]⟩
def c13_1 : ACode := (.keep [1,4,6,10,11] (.reg false [om 0 22 4,om 1 23 6,oq 2 24 (.bsl 1 false [.t 23]),oq 3 25 (.app 1 24 false (.t 22) (.t 24)),om 4 4 25]))
def c13_2 : ACode := (.keep [1,4,10,11] (.reg false [oq 0 26 (.bin .add .num (.t 11) (ci 1)),om 1 11 26]))
def c13_3 : ACode := (.keep [1,4,10,11] (.seq (.block 1
 (sr [om 0 13 11,om 1 5 13]
 (.keep [1,4,5,10,11] (sr [oq 0 15 (.ld true 4 (.t 1)),om 1 16 5,⟨2,(some 17),none,.call 10 [.t 15,.t 16],[]⟩,om 3 14 17,oq 4 18 (.ext (.t 14) 0),oq 5 19 (.ext (.t 14) 1),om 6 6 18,om 7 7 19]
 (.keep [1,4,6,7,10,11] (.seq (sr [om 0 20 7,oq 1 21 (.un .not (.t 20))]
 (.keep [1,4,6,10,11,21] (.cond (.t 21)
 (sr [oq 0 2 (.mv (.c .nils)),oq 1 3 (.mv (.c (.bool false)))]
 (.keep [2,3] .ret))
 .skip))) c13_1)))))) c13_2))
def c13_4 : ACode := (.keep [4] (sr [om 0 27 4,om 1 2 27,oq 2 3 (.mv (.c (.bool true)))]
(.keep [2,3] .ret)))
def c13 : AFn := ⟨1, 28, (sr [oq 0 1 (.boxL (.t 0)),oq 1 2 (.mv (.c .nils)),oq 2 3 (.mv (.c (.bool false)))]
(.keep [1] (sr [oq 0 4 (.mv (.c .nils))]
(.keep [1,4] (.seq (sr [oa 0 8 3 1,ol 1 9 8,oq 2 10 (.len .l (.t 9)),oq 3 11 (.mv (ci 0))]
(.keep [1,4,10,11] (.block 0
 (.loop
 (.keep [1,4,10,11] (sr [oq 0 12 (.bin .lss .num (.t 11) (.t 10))]
 (.keep [1,4,10,11,12] (.seq (.cond (.t 12)
 .skip
 (.exit 0)) c13_3)))))))) c13_4))))), [.tmp 2,.tmp 3]⟩
def c20_1 : ACode := (.keep [] (sr [oq 0 2 (.mv (.c (.int .i64 (-1))))]
(.keep [2] .ret)))
def c20 : AFn := ⟨1, 9, (sr [oq 0 1 (.boxL (.t 0)),oq 1 2 (.mv (ci 0))]
(.keep [1] (.seq (sr [oa 0 3 0 1,ol 1 4 3,⟨2,(some 5),none,.call 43 [.t 4],[]⟩,⟨3,(some 6),none,.call 42 [.t 5,(.c (.int .u8 68))],[]⟩]
(.keep [1,6] (.cond (.t 6)
 (sr [oa 0 7 2 1,ol 1 8 7,om 2 2 8]
 (.keep [2] .ret))
 .skip))) c20_1))), [.tmp 2]⟩
def c21_1 : ACode := (.keep [0,1,2,7] (.reg false [om 0 22 7,oq 1 23 (.bin .add .num (.t 22) (ci 1)),om 2 7 23]))
def c21_2 : ACode := (.keep [0,1,2,7] (.seq (.block 1
 (sr [om 0 24 0,om 1 25 7,oq 2 26 (.ixa 7 (.t 24) (.t 25)),oq 3 27 (.ld true 7 (.t 26)),om 4 28 0,oq 5 29 (.len .l (.t 28)),om 6 30 1,om 7 31 2,⟨8,(some 32),none,.call 44 [.t 27,.t 29,.t 30,.t 31],[]⟩,om 9 8 32]
 (.keep [0,1,2,7,8] (sr [om 0 33 8,oq 1 34 (.un .not (.t 33))]
 (.keep [0,1,2,7,34] (.cond (.t 34)
 (sr [oq 0 6 (.mv (.c (.bool false)))]
 (.keep [6] .ret))
 .skip)))))) c21_1))
def c21_3 : ACode := (.keep [0] (sr [om 0 35 0,om 1 36 0,oq 2 37 (.len .l (.t 36)),oq 3 38 (.bin .sub .num (.t 37) (ci 1)),oq 4 39 (.ixa 7 (.t 35) (.t 38)),oa 5 40 0 39,ol 6 41 40,om 7 9 41]
(.keep [9] (sr [om 0 42 9,oq 1 43 (.bin .eql .num (.t 42) (ci 6)),om 2 44 43,og 3 45 44 false (.mv (.t 9)),og 4 46 44 false (.bin .eql .num (.t 45) (ci 12)),oq 5 47 (.pick (.t 44) (.c (.bool true)) (.t 46)),om 6 48 47,og 7 49 48 false (.mv (.t 9)),og 8 50 48 false (.bin .eql .num (.t 49) (ci 13)),oq 9 51 (.pick (.t 48) (.c (.bool true)) (.t 50)),om 10 6 51]
(.keep [6] .ret)))))
def c21_4 : ACode := (.keep [0,1,2] (.seq (sr [oq 0 7 (.mv (ci 0))]
(.keep [0,1,2,7] (.block 0
 (.loop
 (.keep [0,1,2,7] (.seq (sr [om 0 18 7,om 1 19 0,oq 2 20 (.len .l (.t 19)),oq 3 21 (.bin .lss .num (.t 18) (.t 20))]
 (.keep [0,1,2,7,21] (.cond (.t 21)
 .skip
 (.exit 0)))) c21_2)))))) c21_3))
def c21 : AFn := ⟨3, 52, (sr [oq 0 6 (.mv (.c (.bool false)))]
(.keep [0,1,2] (.seq (sr [om 0 10 0,oq 1 11 (.len .l (.t 10)),oq 2 12 (.bin .lss .num (.t 11) (ci 1)),om 3 13 12,og 4 14 13 false (.mv (.t 0)),og 5 15 13 false (.len .l (.t 14)),og 6 16 13 false (.bin .gtr .num (.t 15) (ci 4096)),oq 7 17 (.pick (.t 13) (.c (.bool true)) (.t 16))]
(.keep [0,1,2,17] (.cond (.t 17)
 (sr [oq 0 6 (.mv (.c (.bool false)))]
 (.keep [6] .ret))
 .skip))) c21_4))), [.tmp 6]⟩
def c22_1 : ACode := (.keep [0,3,4] (.seq (.block 1
 (.reg true [om 0 11 3,om 1 12 4,om 4 15 0,om 5 16 4,oq 6 17 (.ixa 7 (.t 15) (.t 16)),oq 7 18 (.ld true 7 (.t 17)),⟨2,(some 13),none,.call 45 [.t 12],[5]⟩,oq 3 14 (.bin .add .num (.t 13) (.c (.str [32]))),⟨8,(some 19),none,.call 46 [.t 18],[]⟩,oq 9 20 (.bin .add .num (.t 14) (.t 19)),oq 10 21 (.bin .add .num (.t 20) (.c (.str [10]))),oq 11 22 (.bin .add .num (.t 11) (.t 21)),om 12 3 22]))
(.keep [0,3,4] (.reg false [om 0 9 4,oq 1 10 (.bin .add .num (.t 9) (ci 1)),om 2 4 10]))))
def c22_2 : ACode := (.keep [3] (sr [om 0 23 3,om 1 2 23]
(.keep [2] .ret)))
def c22 : AFn := ⟨1, 24, (sr [oq 0 2 (.mv (.c (.str [])))]
(.keep [0] (sr [oq 0 3 (.mv (.c (.str [])))]
(.keep [0,3] (.seq (sr [oq 0 4 (.mv (ci 0))]
(.keep [0,3,4] (.block 0
 (.loop
 (.keep [0,3,4] (.seq (sr [om 0 5 4,om 1 6 0,oq 2 7 (.len .l (.t 6)),oq 3 8 (.bin .lss .num (.t 5) (.t 7))]
 (.keep [0,3,4,8] (.cond (.t 8)
 .skip
 (.exit 0)))) c22_1)))))) c22_2))))), [.tmp 2]⟩
def c23_1 : ACode := (.keep [2,8] (.block 1
 (.reg false [om 0 33 8,⟨1,(some 34),none,.call 50 [.t 33],[]⟩])))
def c23_2 : ACode := (.keep [2,8] (sr [om 0 53 8,on 1 54 53,oa 2 55 2 54,oq 3 56 (.ld true 4 (.t 55)),⟨4,none,none,.op (.st 4 (.t 2) (.t 56)),[]⟩,oq 5 3 (.mv (ci 0)),oq 6 4 (.mv (ci 0))]
(.keep [2,3,4] .ret)))
def c23_3 : ACode := (.keep [2,8] (.seq (sr [om 0 35 8,⟨1,(some 36),none,.call 48 [.t 35],[]⟩,oq 2 37 (.un .not (.t 36))]
(.keep [2,8,37] (.cond (.t 37)
 (.seq (.reg true [oq 0 38 (.build [.nils,.nils,.nils,.nils] []),om 1 39 8,on 2 40 39,oa 3 41 0 40,ol 4 42 41,on 5 43 42,oa 6 44 3 43,ol 7 45 44,om 8 46 8,on 9 47 46,oa 10 48 0 47,ol 11 49 48,on 12 50 49,oa 13 51 4 50,ol 14 52 51,⟨15,none,none,.op (.st 4 (.t 2) (.t 38)),[4,7,11,14]⟩,om 16 3 45,om 17 4 52])
 (.keep [2,3,4] .ret))
 .skip))) c23_2))
def c23_4 : ACode := (.keep [2,5] (sr [om 0 20 5,oq 1 21 (.build [.nils,(.int .i64 0),(.int .i64 0),(.int .i64 0),(.int .i64 0)] [(0,1,(.t 20))]),oq 2 22 (.boxH (.t 21)),oq 3 23 (.build [.nilp,(.int .i64 0),.nils,.nils,.nils,.nils] [(0,1,(.t 22))]),oq 4 24 (.boxH (.t 23)),om 5 8 24]
(.keep [2,8] (.seq (.block 0
 (.loop
 (.keep [2,8] (.seq (sr [om 0 25 8,⟨1,(some 26),none,.call 48 [.t 25],[]⟩,om 2 27 26,og 3 28 27 true (.mv (.t 8)),⟨4,(some 29),(some (27,true)),.call 49 [.t 28],[]⟩,og 5 30 27 true (.fld false 0 1 (.t 29)),og 6 31 27 true (.bin .neq .num (.t 30) (ci 3)),oq 7 32 (.pick (.t 27) (.t 31) (.c (.bool false)))]
 (.keep [2,8,32] (.cond (.t 32)
 .skip
 (.exit 0)))) c23_1)))) c23_3))))
def c23 : AFn := ⟨1, 57, (sr [oq 0 2 (.allocL [.nils,.nils,.nils,.nils]),oq 1 3 (.mv (ci 0)),oq 2 4 (.mv (ci 0))]
(.keep [0,2] (sr [om 0 10 0,⟨1,(some 11),none,.call 47 [.t 10],[]⟩,om 2 9 11,oq 3 12 (.ext (.t 9) 0),oq 4 13 (.ext (.t 9) 1),oq 5 14 (.ext (.t 9) 2),om 6 5 12,om 7 6 13,om 8 7 14]
(.keep [2,5,6,7] (.seq (sr [om 0 15 6,oq 1 16 (.bin .neq .num (.t 15) (ci 0))]
(.keep [2,5,6,7,16] (.cond (.t 16)
 (sr [oq 0 17 (.build [.nils,.nils,.nils,.nils] []),om 1 18 6,om 2 19 7,⟨3,none,none,.op (.st 4 (.t 2) (.t 17)),[]⟩,om 4 3 18,om 5 4 19]
 (.keep [2,3,4] .ret))
 .skip))) c23_4))))), [.cell 2 true 4,.tmp 3,.tmp 4]⟩
def c24 : AFn := ⟨1, 15, (sr [oq 0 1 (.boxL (.t 0)),oq 1 2 (.mv (ci 0)),oq 2 3 (.mv (ci 0))]
(.keep [1] (sr [oq 0 5 (.ld true 4 (.t 1)),⟨1,(some 6),none,.call 51 [.t 5],[]⟩,om 2 4 6]
(.keep [4] (.seq (.reg true [om 0 7 4,on 1 8 7,oa 2 9 10 8,ol 3 10 9,om 4 11 4,on 5 12 11,oa 6 13 11 12,ol 7 14 13,om 8 2 10,om 9 3 14])
(.keep [2,3] .ret)))))), [.tmp 2,.tmp 3]⟩
def c26_1 : ACode := (.keep [1,3,4,21,22,23] (.seq (.block 1
 (sr [om 0 25 23,oq 1 26 (.ixa 6 (.t 21) (.t 23)),oq 2 27 (.ld true 6 (.t 26)),oq 3 6 (.allocL [(.int .i64 0),(.str []),(.bool false),(.bool false),(.int .i64 0),(.str [])]),om 4 5 25,⟨5,none,none,.op (.st 6 (.t 6) (.t 27)),[]⟩]
 (.keep [1,3,4,5,6,21,22,23] (.reg true [om 0 28 3,on 1 29 28,oa 2 30 0 29,ol 3 31 30,oa 4 32 1 6,ol 5 33 32,om 6 34 4,om 7 35 5,oq 8 36 (.ixa 4 (.t 34) (.t 35)),oq 9 37 (.ld true 4 (.t 36)),⟨10,none,none,.op (.mup .s (.t 31) (.t 33) (.t 37)),[]⟩]))))
(.keep [1,3,4,21,22,23] (.reg false [oq 0 38 (.bin .add .num (.t 23) (ci 1)),om 1 23 38]))))
def c26_2 : ACode := (.keep [1,3,40,41,42] (.seq (.block 3
 (sr [oq 0 44 (.ixa 12 (.t 40) (.t 42)),oq 1 45 (.ld true 12 (.t 44)),oq 2 8 (.allocL [(.int .i64 0),(.str []),.nils,(.bool false),(.bool false),.nils,(.int .i64 0),(.int .i64 0),(.int .i64 0),(.str []),.nils,(.int .i64 0)]),⟨3,none,none,.op (.st 12 (.t 8) (.t 45)),[]⟩]
 (.keep [1,3,8,40,41,42] (.reg true [om 0 46 3,on 1 47 46,oa 2 48 1 47,ol 3 49 48,oa 4 50 1 8,ol 5 51 50,oq 6 52 (.ld true 12 (.t 8)),⟨7,none,none,.op (.mup .s (.t 49) (.t 51) (.t 52)),[]⟩]))))
(.keep [1,3,40,41,42] (.reg false [oq 0 53 (.bin .add .num (.t 42) (ci 1)),om 1 42 53]))))
def c26_3 : ACode := (.keep [3,55,56,57] (.seq (.block 5
 (sr [om 0 59 57,oq 1 60 (.ixa 2 (.t 55) (.t 57)),oq 2 61 (.ld true 2 (.t 60)),oq 3 10 (.allocL [(.int .i64 0),(.str [])]),om 4 9 59,⟨5,none,none,.op (.st 2 (.t 10) (.t 61)),[]⟩]
 (.keep [3,9,10,55,56,57] (.reg true [om 0 62 3,on 1 63 62,oa 2 64 2 63,ol 3 65 64,oa 4 66 1 10,ol 5 67 66,om 6 68 9,⟨7,none,none,.op (.mup .s (.t 65) (.t 67) (.t 68)),[]⟩]))))
(.keep [3,55,56,57] (.reg false [oq 0 69 (.bin .add .num (.t 57) (ci 1)),om 1 57 69]))))
def c26_4 : ACode := (.keep [3] (sr [om 0 70 3,om 1 2 70]
(.keep [2] .ret)))
def c26_5 : ACode := (.keep [1,3] (.seq (sr [oa 0 54 1 1,ol 1 55 54,oq 2 56 (.len .l (.t 55)),oq 3 57 (.mv (ci 0))]
(.keep [3,55,56,57] (.block 4
 (.loop
 (.keep [3,55,56,57] (sr [oq 0 58 (.bin .lss .num (.t 57) (.t 56))]
 (.keep [3,55,56,57,58] (.seq (.cond (.t 58)
 .skip
 (.exit 4)) c26_3)))))))) c26_4))
def c26_6 : ACode := (.keep [1,3] (.seq (sr [oa 0 39 2 1,ol 1 40 39,oq 2 41 (.len .l (.t 40)),oq 3 42 (.mv (ci 0))]
(.keep [1,3,40,41,42] (.block 2
 (.loop
 (.keep [1,3,40,41,42] (sr [oq 0 43 (.bin .lss .num (.t 42) (.t 41))]
 (.keep [1,3,40,41,42,43] (.seq (.cond (.t 43)
 .skip
 (.exit 2)) c26_2)))))))) c26_5))
def c26 : AFn := ⟨1, 71, (sr [oq 0 1 (.boxL (.t 0)),oq 1 2 (.mv (.c .nilp))]
(.keep [1] (sr [oq 0 11 (.mkmap),oq 1 12 (.mkmap),oq 2 13 (.mkmap),oq 3 14 (.mkmap),oq 4 15 (.mkmap),oq 5 16 (.build [.nilm,.nilm,.nilm,.nils,(.int .i64 0),.nilm,.nilm] [(0,1,(.t 11)),(1,1,(.t 12)),(2,1,(.t 13)),(5,1,(.t 14)),(6,1,(.t 15))]),oq 6 17 (.boxH (.t 16)),om 7 3 17]
(.keep [1,3] (sr [oq 0 18 (.ld true 4 (.t 1)),⟨1,(some 19),none,.call 52 [.t 18],[]⟩,om 2 4 19]
(.keep [1,3,4] (.seq (sr [oa 0 20 0 1,ol 1 21 20,oq 2 22 (.len .l (.t 21)),oq 3 23 (.mv (ci 0))]
(.keep [1,3,4,21,22,23] (.block 0
 (.loop
 (.keep [1,3,4,21,22,23] (sr [oq 0 24 (.bin .lss .num (.t 23) (.t 22))]
 (.keep [1,3,4,21,22,23,24] (.seq (.cond (.t 24)
 .skip
 (.exit 0)) c26_1)))))))) c26_6))))))), [.tmp 2]⟩
def c27 : AFn := ⟨2, 17, (sr [om 0 5 0,on 1 6 5,oa 2 7 5 6,ol 3 8 7,⟨4,(some 9),none,.call 53 [.t 8],[]⟩,om 5 4 9]
(.keep [0,1,4] (sr [om 0 10 0,om 1 11 1,⟨2,(some 12),none,.call 54 [.t 10,.t 11],[]⟩]
(.keep [0,4] (.reg false [om 0 13 0,om 1 14 4,on 2 15 13,oa 3 16 5 15,⟨4,none,none,.op (.st 1 (.t 16) (.t 14)),[]⟩]))))), []⟩
def c28_1 : ACode := (.keep [2,3] (sr [ol 0 14 2,on 1 15 14,oa 2 16 3 15,ol 3 17 16,oq 4 18 (.len .l (.t 17)),oq 5 5 (.allocH [(.int .i64 0)]),⟨6,none,none,.op (.st 1 (.t 5) (.t 18)),[]⟩]
(.keep [2,3,5] (.seq (.reg true [ol 0 19 2,ol 1 20 2,on 2 21 20,oa 3 22 3 21,ol 4 23 22,oq 5 24 (.ld true 7 (.t 3)),⟨6,(some 25),none,.op (.bsl 7 true [.t 24]),[0,1,4]⟩,⟨7,(some 26),none,.op (.app 7 56 true (.t 23) (.t 25)),[0]⟩,on 8 27 19,oa 9 28 3 27,⟨10,none,none,.op (.st 1 (.t 28) (.t 26)),[]⟩])
(.keep [2,5] (sr [oq 0 29 (.mkf (.func 55) [] [.t 2,.t 5]),om 1 4 29]
(.keep [4] .ret)))))))
def c28 : AFn := ⟨2, 30, (sr [oq 0 2 (.boxH (.t 0)),oq 1 3 (.boxL (.t 1)),oq 2 4 (.mv (.c .nilf))]
(.keep [2,3] (.seq (sr [ol 0 6 2,on 1 7 6,oa 2 8 3 7,ol 3 9 8,oq 4 10 (.len .l (.t 9)),oq 5 11 (.bin .eql .num (.t 10) (ci 4096))]
(.keep [2,3,11] (.cond (.t 11)
 (.reg false [oq 0 12 (.build [] []),oq 1 13 (.mki 75 (.t 12)),⟨2,none,none,.pan (.t 13),[]⟩])
 .skip))) c28_1))), [.tmp 4]⟩
def c29 : AFn := ⟨1, 8, (sr [oq 0 2 (.mv (ci 0))]
(.keep [0] (sr [om 0 3 0,on 1 4 3,oa 2 5 3 4,ol 3 6 5,oq 4 7 (.len .l (.t 6)),om 5 2 7]
(.keep [2] .ret)))), [.tmp 2]⟩
def c30_1 : ACode := (.keep [1,2,5,6,7,8] (.reg false [om 0 21 8,oq 1 22 (.bin .add .num (.t 21) (ci 1)),om 2 8 22]))
def c30_2 : ACode := (.keep [1,2,5,6,7,8] (.seq (.block 3
 (.seq (.reg true [om 0 23 5,om 1 24 7,oq 2 25 (.ixa 2 (.t 23) (.t 24)),oa 3 26 0 25,ol 4 27 26,om 5 28 5,om 6 29 8,oq 7 30 (.ixa 2 (.t 28) (.t 29)),oa 8 31 0 30,ol 9 32 31,oq 10 33 (.bin .eql .num (.t 27) (.t 32)),om 11 34 33,og 12 35 34 true (.mv (.t 5)),og 13 36 34 true (.mv (.t 8)),og 14 37 34 true (.ixa 2 (.t 35) (.t 36)),og 15 38 34 true (.fa 1 (.t 37)),og 16 39 34 true (.ld false 1 (.t 38)),og 17 40 34 true (.mv (.t 5)),og 18 41 34 true (.mv (.t 7)),og 19 42 34 true (.ixa 2 (.t 40) (.t 41)),og 20 43 34 true (.fa 1 (.t 42)),og 21 44 34 true (.ld false 1 (.t 43)),og 22 45 34 true (.bin .lss .num (.t 39) (.t 44)),oq 23 46 (.pick (.t 34) (.t 45) (.c (.bool false))),om 24 47 46,og 25 48 47 true (.mv (.t 6)),og 26 49 47 true (.bin .lss .num (.t 48) (ci 0)),og 27 50 47 true (.mv (.t 49)),og 28 51 50 false (.mv (.t 5)),og 29 52 50 false (.mv (.t 7)),og 30 53 50 false (.ixa 2 (.t 51) (.t 52)),og 31 54 50 false (.fa 1 (.t 53)),og 32 55 50 false (.ld false 1 (.t 54)),og 33 56 50 false (.mv (.t 6)),og 34 57 50 false (.bin .lss .num (.t 55) (.t 56)),og 35 58 47 true (.pick (.t 50) (.c (.bool true)) (.t 57)),oq 36 59 (.pick (.t 47) (.t 58) (.c (.bool false)))])
 (.keep [1,2,5,6,7,8,59] (.cond (.t 59)
 (.reg false [om 0 60 5,om 1 61 7,oq 2 62 (.ixa 2 (.t 60) (.t 61)),oa 3 63 1 62,ol 4 64 63,om 5 6 64])
 .skip)))) c30_1))
def c30_3 : ACode := (.keep [1,2,5,6,7] (.reg false [om 0 15 7,oq 1 16 (.bin .add .num (.t 15) (ci 1)),om 2 7 16]))
def c30_4 : ACode := (.keep [1,2,5,6,7] (.seq (.block 1
 (sr [oq 0 8 (.mv (ci 0))]
 (.keep [1,2,5,6,7,8] (.block 2
 (.loop
 (.keep [1,2,5,6,7,8] (.seq (sr [om 0 17 8,om 1 18 5,oq 2 19 (.len .l (.t 18)),oq 3 20 (.bin .lss .num (.t 17) (.t 19))]
 (.keep [1,2,5,6,7,8,20] (.cond (.t 20)
 .skip
 (.exit 2)))) c30_2))))))) c30_3))
def c30_5 : ACode := (.keep [1,2] (sr [oq 0 69 (.ld true 4 (.t 1)),oq 1 70 (.build [.nils,.nils,.nils,.nils,(.int .i64 0),.nils] [(0,4,(.t 69))]),⟨2,none,none,.op (.st 6 (.t 2) (.t 70)),[]⟩,oq 3 3 (.mv (ci 0)),oq 4 4 (.mv (ci 0))]
(.keep [2,3,4] .ret)))
def c30_6 : ACode := (.keep [1,2,6] (.seq (sr [om 0 65 6,oq 1 66 (.bin .geq .num (.t 65) (ci 0))]
(.keep [1,2,6,66] (.cond (.t 66)
 (sr [oq 0 67 (.build [.nils,.nils,.nils,.nils,(.int .i64 0),.nils] []),om 1 68 6,⟨2,none,none,.op (.st 6 (.t 2) (.t 67)),[]⟩,oq 3 3 (.mv (ci 12)),om 4 4 68]
 (.keep [2,3,4] .ret))
 .skip))) c30_5))
def c30 : AFn := ⟨1, 71, (sr [oq 0 1 (.boxL (.t 0)),oq 1 2 (.allocL [.nils,.nils,.nils,.nils,(.int .i64 0),.nils]),oq 2 3 (.mv (ci 0)),oq 3 4 (.mv (ci 0))]
(.keep [1,2] (sr [oq 0 9 (.ld true 4 (.t 1)),⟨1,(some 10),none,.call 56 [.t 9],[]⟩,om 2 5 10]
(.keep [1,2,5] (sr [oq 0 6 (.mv (.c (.int .i64 (-1))))]
(.keep [1,2,5,6] (.seq (sr [oq 0 7 (.mv (ci 0))]
(.keep [1,2,5,6,7] (.block 0
 (.loop
 (.keep [1,2,5,6,7] (.seq (sr [om 0 11 7,om 1 12 5,oq 2 13 (.len .l (.t 12)),oq 3 14 (.bin .lss .num (.t 11) (.t 13))]
 (.keep [1,2,5,6,7,14] (.cond (.t 14)
 .skip
 (.exit 0)))) c30_4)))))) c30_6))))))), [.cell 2 true 6,.tmp 3,.tmp 4]⟩
def c42_1 : ACode := (.keep [0,1,5] (.reg false [om 0 10 5,oq 1 11 (.bin .add .num (.t 10) (ci 1)),om 2 5 11]))
def c42_2 : ACode := (.keep [0,1,5] (.seq (.block 1
 (sr [om 0 12 0,om 1 13 5,oq 2 14 (.ixs (.t 12) (.t 13)),om 3 15 1,oq 4 16 (.bin .eql .num (.t 14) (.t 15))]
 (.keep [0,1,5,16] (.cond (.t 16)
 (sr [oq 0 4 (.mv (.c (.bool true)))]
 (.keep [4] .ret))
 .skip)))) c42_1))
def c42_3 : ACode := (.keep [] (sr [oq 0 4 (.mv (.c (.bool false)))]
(.keep [4] .ret)))
def c42 : AFn := ⟨2, 17, (sr [oq 0 4 (.mv (.c (.bool false)))]
(.keep [0,1] (.seq (sr [oq 0 5 (.mv (ci 0))]
(.keep [0,1,5] (.block 0
 (.loop
 (.keep [0,1,5] (.seq (sr [om 0 6 5,om 1 7 0,oq 2 8 (.len .s (.t 7)),oq 3 9 (.bin .lss .num (.t 6) (.t 8))]
 (.keep [0,1,5,9] (.cond (.t 9)
 .skip
 (.exit 0)))) c42_2)))))) c42_3))), [.tmp 4]⟩
def c43_1 : ACode := (.keep [0,3] (sr [om 0 13 3,om 1 14 0,oq 2 15 (.ixa 1 (.t 13) (.t 14)),ol 3 16 15,om 4 2 16]
(.keep [2] .ret)))
def c43 : AFn := ⟨1, 17, (sr [oq 0 2 (.mv (.c (.str [])))]
(.keep [0] (sr [oq 0 4 (.bsl 1 false [(.c (.str [68,78])),(.c (.str [68,65])),(.c (.str [68,79,65,66])),(.c (.str [68,65,66])),(.c (.str [68,65,78])),(.c (.str [65,66,78])),(.c (.str [84])),(.c (.str [65,84])),(.c (.str [46])),(.c (.str [78])),(.c (.str [78])),(.c (.str [65])),(.c (.str [78])),(.c (.str [46]))]),om 1 3 4]
(.keep [0,3] (.seq (sr [om 0 5 0,oq 1 6 (.bin .lss .num (.t 5) (ci 0)),om 2 7 6,og 3 8 7 false (.mv (.t 0)),og 4 9 7 false (.mv (.t 3)),og 5 10 7 false (.len .l (.t 9)),og 6 11 7 false (.bin .geq .num (.t 8) (.t 10)),oq 7 12 (.pick (.t 7) (.c (.bool true)) (.t 11))]
(.keep [0,3,12] (.cond (.t 12)
 (sr [oq 0 2 (.mv (.c (.str [])))]
 (.keep [2] .ret))
 .skip))) c43_1))))), [.tmp 2]⟩
def c44_1 : ACode := (.keep [1,3,4] (sr [oq 0 90 (.ld true 7 (.t 4)),om 1 91 3,⟨2,(some 92),none,.call 71 [.t 90,.t 91],[]⟩,om 3 93 92,og 4 94 93 true (.fa 6 (.t 4)),og 5 95 93 true (.ld false 1 (.t 94)),og 6 96 93 true (.bin .geq .num (.t 95) (ci 0)),oq 7 97 (.pick (.t 93) (.t 96) (.c (.bool false))),om 8 98 97,og 9 99 98 true (.fa 6 (.t 4)),og 10 100 98 true (.ld false 1 (.t 99)),og 11 101 98 true (.mv (.t 1)),og 12 102 98 true (.bin .lss .num (.t 100) (.t 101)),oq 13 103 (.pick (.t 98) (.t 102) (.c (.bool false))),om 14 8 103]
(.keep [8] .ret)))
def c44_2 : ACode := (.keep [1,3,4,9] (.seq (sr [om 0 52 9,⟨1,(some 53),none,.call 42 [.t 52,(.c (.int .u8 79))],[]⟩,oq 2 54 (.un .not (.t 53)),om 3 55 54,og 4 56 55 true (.fa 1 (.t 4)),og 5 57 55 true (.ld false 1 (.t 56)),og 6 58 55 true (.bin .neq .num (.t 57) (ci 0)),oq 7 59 (.pick (.t 55) (.t 58) (.c (.bool false))),om 8 60 59,og 9 61 60 false (.fa 1 (.t 4)),og 10 62 60 false (.ld false 1 (.t 61)),og 11 63 60 false (.bin .lss .num (.t 62) (ci 0)),oq 12 64 (.pick (.t 60) (.c (.bool true)) (.t 63)),om 13 65 64,og 14 66 65 false (.fa 1 (.t 4)),og 15 67 65 false (.ld false 1 (.t 66)),og 16 68 65 false (.bin .gtr .num (.t 67) (ci 18)),oq 17 69 (.pick (.t 65) (.c (.bool true)) (.t 68)),om 18 70 69,og 19 71 70 false (.mv (.t 9)),⟨20,(some 72),(some (70,false)),.call 42 [.t 71,(.c (.int .u8 78))],[]⟩,og 21 73 70 false (.un .not (.t 72)),og 22 74 70 false (.mv (.t 73)),og 23 75 74 true (.fa 5 (.t 4)),og 24 76 74 true (.ld false 1 (.t 75)),og 25 77 74 true (.bin .neq .num (.t 76) (ci 0)),og 26 78 70 false (.pick (.t 74) (.t 77) (.c (.bool false))),oq 27 79 (.pick (.t 70) (.c (.bool true)) (.t 78)),om 28 80 79,og 29 81 80 false (.mv (.t 9)),⟨30,(some 82),(some (80,false)),.call 42 [.t 81,(.c (.int .u8 84))],[]⟩,og 31 83 80 false (.un .not (.t 82)),og 32 84 80 false (.mv (.t 83)),og 33 85 84 true (.fa 6 (.t 4)),og 34 86 84 true (.ld false 1 (.t 85)),og 35 87 84 true (.bin .neq .num (.t 86) (ci 0)),og 36 88 80 false (.pick (.t 84) (.t 87) (.c (.bool false))),oq 37 89 (.pick (.t 80) (.c (.bool true)) (.t 88))]
(.keep [1,3,4,89] (.cond (.t 89)
 (sr [oq 0 8 (.mv (.c (.bool false)))]
 (.keep [8] .ret))
 .skip))) c44_1))
def c44 : AFn := ⟨4, 104, (sr [oq 0 4 (.boxL (.t 0)),oq 1 8 (.mv (.c (.bool false)))]
(.keep [1,2,3,4] (sr [oa 0 11 0 4,ol 1 12 11,⟨2,(some 13),none,.call 43 [.t 12],[]⟩,om 3 9 13]
(.keep [1,2,3,4,9] (sr [oa 0 14 0 4,ol 1 15 14,oq 2 16 (.bin .eql .num (.t 15) (ci 4)),om 3 17 16,og 4 18 17 false (.fa 0 (.t 4)),og 5 19 17 false (.ld false 1 (.t 18)),og 6 20 17 false (.bin .eql .num (.t 19) (ci 5)),oq 7 21 (.pick (.t 17) (.c (.bool true)) (.t 20)),om 8 10 21]
(.keep [1,2,3,4,9,10] (.seq (.seq (.reg true [om 0 22 9,oq 1 23 (.bin .eql .num (.t 22) (.c (.str []))),om 2 24 23,og 3 25 24 false (.fa 2 (.t 4)),og 4 26 24 false (.ld false 1 (.t 25)),og 5 27 24 false (.mv (.t 2)),og 6 28 24 false (.mv (.t 9)),⟨7,(some 29),(some (24,false)),.call 42 [.t 28,(.c (.int .u8 68))],[4]⟩,⟨8,(some 30),(some (24,false)),.call 70 [.t 26,.t 27,.t 29,(.c (.bool false))],[]⟩,og 9 31 24 false (.un .not (.t 30)),oq 10 32 (.pick (.t 24) (.c (.bool true)) (.t 31)),om 11 33 32,og 12 34 33 false (.fa 3 (.t 4)),og 13 35 33 false (.ld false 1 (.t 34)),og 14 36 33 false (.mv (.t 2)),og 15 37 33 false (.mv (.t 9)),og 17 39 33 false (.mv (.t 10)),⟨16,(some 38),(some (33,false)),.call 42 [.t 37,(.c (.int .u8 65))],[13]⟩,⟨18,(some 40),(some (33,false)),.call 70 [.t 35,.t 36,.t 38,.t 39],[]⟩,og 19 41 33 false (.un .not (.t 40)),oq 20 42 (.pick (.t 33) (.c (.bool true)) (.t 41)),om 21 43 42,og 22 44 43 false (.fa 4 (.t 4)),og 23 45 43 false (.ld false 1 (.t 44)),og 24 46 43 false (.mv (.t 2)),og 25 47 43 false (.mv (.t 9)),⟨26,(some 48),(some (43,false)),.call 42 [.t 47,(.c (.int .u8 66))],[23]⟩,⟨27,(some 49),(some (43,false)),.call 70 [.t 45,.t 46,.t 48,(.c (.bool false))],[]⟩,og 28 50 43 false (.un .not (.t 49)),oq 29 51 (.pick (.t 43) (.c (.bool true)) (.t 50))])
(.keep [1,3,4,9,51] (.cond (.t 51)
 (sr [oq 0 8 (.mv (.c (.bool false)))]
 (.keep [8] .ret))
 .skip))) c44_2))))))), [.tmp 8]⟩
def c45_1 : ACode := (.keep [0,3,4,5] (sr [om 0 14 5,om 1 15 5,oq 2 16 (.bin .add .num (.t 15) (ci 1)),oq 3 17 (.sls (.c (.str [48,49,50,51,52,53,54,55,56,57])) (some (.t 14)) (some (.t 16))),om 4 18 3,oq 5 19 (.bin .add .num (.t 17) (.t 18)),om 6 3 19]
(.keep [0,3,4] (sr [om 0 20 0,oq 1 21 (.bin .quo .num (.t 20) (ci 10)),om 2 0 21]
(.keep [0,3,4] (sr [om 0 22 0,oq 1 23 (.bin .eql .num (.t 22) (ci 0))]
(.keep [0,3,4,23] (.cond (.t 23)
 (.exit 0)
 .skip))))))))
def c45_2 : ACode := (.keep [3] (sr [om 0 27 3,om 1 2 27]
(.keep [2] .ret)))
def c45_3 : ACode := (.keep [3,4] (.seq (sr [om 0 24 4]
(.keep [3,24] (.cond (.t 24)
 (sr [om 0 25 3,oq 1 26 (.bin .add .num (.c (.str [45])) (.t 25)),om 2 2 26]
 (.keep [2] .ret))
 .skip))) c45_2))
def c45 : AFn := ⟨1, 28, (sr [oq 0 2 (.mv (.c (.str [])))]
(.keep [0] (sr [oq 0 3 (.mv (.c (.str [])))]
(.keep [0,3] (sr [om 0 6 0,oq 1 7 (.bin .lss .num (.t 6) (ci 0)),om 2 4 7]
(.keep [0,3,4] (.seq (.block 0
 (.loop
 (.keep [0,3,4] (.block 1
 (sr [om 0 8 0,oq 1 9 (.bin .rem .num (.t 8) (ci 10)),om 2 5 9]
 (.keep [0,3,4,5] (.seq (sr [om 0 10 5,oq 1 11 (.bin .lss .num (.t 10) (ci 0))]
 (.keep [0,3,4,5,11] (.cond (.t 11)
 (.reg false [om 0 12 5,oq 1 13 (.un .neg (.t 12)),om 2 5 13])
 .skip))) c45_1))))))) c45_3))))))), [.tmp 2]⟩
def c46_1 : ACode := (.keep [] (sr [oq 0 2 (.mv (.c (.str [])))]
(.keep [2] .ret)))
def c46_2 : ACode := (.keep [1,3,4,5,6] (.seq (sr [oa 0 26 0 1,ol 1 27 26]
(.keep [1,3,4,5,6,27] (.block 0
 (sr [oq 0 29 (.bin .eql .num (.t 27) (ci 0)),om 1 28 29]
 (.keep [1,3,4,5,6,27,28] (.cond (.t 28)
 (sr [oa 0 30 2 1,ol 1 31 30,⟨2,(some 32),none,.call 72 [.t 31],[]⟩,oq 3 33 (.bin .add .num (.c (.str [115,101,116])) (.t 32)),om 4 34 3,oq 5 35 (.bin .add .num (.t 33) (.t 34)),om 6 2 35]
 (.keep [2] .ret))
 (sr [oq 0 37 (.bin .eql .num (.t 27) (ci 1)),om 1 36 37]
 (.keep [1,3,4,5,6,27,36] (.cond (.t 36)
 (.seq (.reg true [oa 0 38 2 1,ol 1 39 38,oa 4 42 3 1,ol 5 43 42,⟨2,(some 40),none,.call 72 [.t 39],[3]⟩,oq 3 41 (.bin .add .num (.c (.str [109,111,118,101])) (.t 40)),⟨6,(some 44),none,.call 72 [.t 43],[]⟩,oq 7 45 (.bin .add .num (.t 41) (.t 44)),om 8 2 45])
 (.keep [2] .ret))
 (sr [oq 0 47 (.bin .eql .num (.t 27) (ci 2)),om 1 46 47]
 (.keep [1,3,4,5,6,27,46] (.cond (.t 46)
 (.seq (.reg true [oa 0 48 2 1,ol 1 49 48,oa 4 52 3 1,ol 5 53 52,om 9 57 6,oa 11 59 4 1,ol 12 60 59,⟨2,(some 50),none,.call 72 [.t 49],[3,6]⟩,oq 3 51 (.bin .add .num (.c (.str [99,97,108,99])) (.t 50)),⟨6,(some 54),none,.call 72 [.t 53],[6]⟩,oq 7 55 (.bin .add .num (.t 51) (.t 54)),oq 8 56 (.bin .add .num (.t 55) (.c (.str [32]))),oq 10 58 (.bin .add .num (.t 56) (.t 57)),⟨13,(some 61),none,.call 72 [.t 60],[]⟩,oq 14 62 (.bin .add .num (.t 58) (.t 61)),om 15 2 62])
 (.keep [2] .ret))
 (sr [oq 0 64 (.bin .eql .num (.t 27) (ci 3)),om 1 63 64]
 (.keep [1,3,4,5,27,63] (.cond (.t 63)
 (.seq (.reg true [oa 0 65 2 1,ol 1 66 65,oa 4 69 3 1,ol 5 70 69,oa 8 73 4 1,ol 9 74 73,⟨2,(some 67),none,.call 72 [.t 66],[3,5]⟩,oq 3 68 (.bin .add .num (.c (.str [112,105,99,107])) (.t 67)),⟨6,(some 71),none,.call 72 [.t 70],[5]⟩,oq 7 72 (.bin .add .num (.t 68) (.t 71)),⟨10,(some 75),none,.call 72 [.t 74],[]⟩,oq 11 76 (.bin .add .num (.t 72) (.t 75)),om 12 2 76])
 (.keep [2] .ret))
 (sr [oq 0 78 (.bin .eql .num (.t 27) (ci 4)),om 1 77 78]
 (.keep [1,3,4,5,27,77] (.cond (.t 77)
 (sr [oa 0 79 2 1,ol 1 80 79,⟨2,(some 81),none,.call 72 [.t 80],[]⟩,oq 3 82 (.bin .add .num (.c (.str [108,111,97,100])) (.t 81)),om 4 83 3,oq 5 84 (.bin .add .num (.t 82) (.t 83)),om 6 85 5,oq 7 86 (.bin .add .num (.t 84) (.t 85)),om 8 2 86]
 (.keep [2] .ret))
 (sr [oq 0 88 (.bin .eql .num (.t 27) (ci 5)),om 1 87 88]
 (.keep [1,3,4,5,27,87] (.cond (.t 87)
 (sr [om 0 89 3,oq 1 90 (.bin .add .num (.c (.str [115,116,111,114,101])) (.t 89)),oa 2 91 4 1,ol 3 92 91,⟨4,(some 93),none,.call 72 [.t 92],[]⟩,oq 5 94 (.bin .add .num (.t 90) (.t 93)),om 6 95 5,oq 7 96 (.bin .add .num (.t 94) (.t 95)),om 8 2 96]
 (.keep [2] .ret))
 (sr [oq 0 98 (.bin .eql .num (.t 27) (ci 6)),om 1 97 98]
 (.keep [1,3,4,27,97] (.cond (.t 97)
 (sr [om 0 99 4,oq 1 100 (.bin .add .num (.c (.str [106,117,109,112])) (.t 99)),om 2 2 100]
 (.keep [2] .ret))
 (sr [oq 0 102 (.bin .eql .num (.t 27) (ci 7)),om 1 101 102]
 (.keep [1,3,4,27,101] (.cond (.t 101)
 (sr [oa 0 103 3 1,ol 1 104 103,⟨2,(some 105),none,.call 72 [.t 104],[]⟩,oq 3 106 (.bin .add .num (.c (.str [122,101,114,111])) (.t 105)),om 4 107 4,oq 5 108 (.bin .add .num (.t 106) (.t 107)),om 6 2 108]
 (.keep [2] .ret))
 (sr [oq 0 110 (.bin .eql .num (.t 27) (ci 8)),om 1 109 110]
 (.keep [1,3,27,109] (.cond (.t 109)
 (sr [oq 0 2 (.mv (.c (.str [102,101,110,99,101])))]
 (.keep [2] .ret))
 (sr [oq 0 112 (.bin .eql .num (.t 27) (ci 9)),om 1 111 112]
 (.keep [1,3,27,111] (.cond (.t 111)
 (sr [om 0 113 3,oq 1 114 (.bin .add .num (.c (.str [116,97,107,101])) (.t 113)),om 2 2 114]
 (.keep [2] .ret))
 (sr [oq 0 116 (.bin .eql .num (.t 27) (ci 10)),om 1 115 116]
 (.keep [1,3,27,115] (.cond (.t 115)
 (sr [om 0 117 3,oq 1 118 (.bin .add .num (.c (.str [103,105,118,101])) (.t 117)),om 2 2 118]
 (.keep [2] .ret))
 (sr [oq 0 120 (.bin .eql .num (.t 27) (ci 11)),om 1 119 120]
 (.keep [1,3,27,119] (.cond (.t 119)
 (sr [oa 0 121 3 1,ol 1 122 121,⟨2,(some 123),none,.call 72 [.t 122],[]⟩,oq 3 124 (.bin .add .num (.c (.str [111,117,116])) (.t 123)),om 4 2 124]
 (.keep [2] .ret))
 (sr [oq 0 126 (.bin .eql .num (.t 27) (ci 12)),om 1 125 126]
 (.keep [3,27,125] (.cond (.t 125)
 (sr [om 0 127 3,oq 1 128 (.bin .add .num (.c (.str [116,114,97,112])) (.t 127)),om 2 2 128]
 (.keep [2] .ret))
 (sr [oq 0 130 (.bin .eql .num (.t 27) (ci 13)),om 1 129 130]
 (.keep [129] (.cond (.t 129)
 (sr [oq 0 2 (.mv (.c (.str [104,97,108,116])))]
 (.keep [2] .ret))
 .skip))))))))))))))))))))))))))))))))))))))))))))) c46_1))
def c46_3 : ACode := (.keep [1,3,4,5] (sr [oa 0 21 1 1,ol 1 22 21,⟨2,(some 23),none,.call 73 [.t 22],[]⟩,om 3 6 23]
(.keep [1,3,4,5,6] (.seq (sr [om 0 24 6,oq 1 25 (.bin .eql .num (.t 24) (.c (.str [])))]
(.keep [1,3,4,5,6,25] (.cond (.t 25)
 (.reg false [oq 0 6 (.mv (.c (.str [98,101,108,111,119])))])
 .skip))) c46_2))))
def c46 : AFn := ⟨1, 131, (sr [oq 0 1 (.boxL (.t 0)),oq 1 2 (.mv (.c (.str [])))]
(.keep [1] (sr [oa 0 7 5 1,ol 1 8 7,⟨2,(some 9),none,.call 45 [.t 8],[]⟩,oq 3 10 (.bin .add .num (.c (.str [32])) (.t 9)),om 4 3 10]
(.keep [1,3] (sr [oa 0 11 6 1,ol 1 12 11,⟨2,(some 13),none,.call 45 [.t 12],[]⟩,oq 3 14 (.bin .add .num (.c (.str [32])) (.t 13)),om 4 4 14]
(.keep [1,3,4] (sr [oq 0 5 (.mv (.c (.str [])))]
(.keep [1,3,4,5] (.seq (sr [oa 0 15 3 1,ol 1 16 15,oq 2 17 (.bin .geq .num (.t 16) (ci 0))]
(.keep [1,3,4,5,17] (.cond (.t 17)
 (.reg false [oa 0 18 3 1,ol 1 19 18,⟨2,(some 20),none,.call 72 [.t 19],[]⟩,om 3 5 20])
 .skip))) c46_3))))))))), [.tmp 2]⟩
def c47_1 : ACode := (.keep [0,5,6] (.block 3
 (.reg false [om 0 52 6,oq 1 53 (.bin .add .num (.t 52) (ci 1)),om 2 6 53])))
def c47_2 : ACode := (.keep [0,5,6] (.exit 1))
def c47_3 : ACode := (.keep [0,5,6,7,8] (.block 5
 (.reg false [om 0 71 8,oq 1 72 (.bin .add .num (.t 71) (ci 1)),om 2 8 72])))
def c47_4 : ACode := (.keep [0,5,8,9,10] (sr [oa 0 114 0 9,⟨1,none,none,.op (.st 1 (.t 114) (ci 1)),[]⟩]
(.keep [0,5,8,9,10] (.reg false [om 0 115 10,oa 1 116 2 9,⟨2,none,none,.op (.st 1 (.t 116) (.t 115)),[]⟩]))))
def c47_5 : ACode := (.keep [0,5,6,9] (.reg false [om 0 89 6,oa 1 90 1 9,ol 2 91 90,oq 3 92 (.len .s (.t 91)),oq 4 93 (.bin .add .num (.t 89) (.t 92)),om 5 8 93]))
def c47_6 : ACode := (.keep [0,5,8,9] (sr [om 0 117 5,oq 1 118 (.ld true 4 (.t 9)),oq 2 119 (.bsl 4 false [.t 118]),oq 3 120 (.app 4 40 false (.t 117) (.t 119)),om 4 5 120]
(.keep [0,5,8] (.reg false [om 0 121 8,om 1 6 121]))))
def c47_7 : ACode := (.keep [0,5,6,7,8] (sr [om 0 73 6,om 1 74 0,om 2 75 6,om 3 76 8,oq 4 77 (.sls (.t 74) (some (.t 75)) (some (.t 76))),oq 5 78 (.build [(.int .i64 0),(.str []),(.int .i64 0),(.int .i64 0)] [(3,1,(.t 73)),(1,1,(.t 77))]),oq 6 9 (.allocL [(.int .i64 0),(.str []),(.int .i64 0),(.int .i64 0)]),⟨7,none,none,.op (.st 4 (.t 9) (.t 78)),[]⟩]
(.keep [0,5,6,7,8,9] (.seq (.block 6
 (sr [om 0 95 7,⟨1,(some 96),none,.call 75 [.t 95],[]⟩,om 2 94 96]
 (.keep [0,5,6,7,8,9,94] (.cond (.t 94)
 (sr [om 0 97 8,om 1 98 6,oq 2 99 (.bin .sub .num (.t 97) (.t 98)),oq 3 100 (.bin .gtr .num (.t 99) (ci 24))]
 (.keep [0,5,6,8,9,100] (.cond (.t 100)
 (sr [om 0 101 6,oq 1 2 (.mv (.c .nils)),oq 2 3 (.mv (ci 2)),om 3 4 101]
 (.keep [2,3,4] .ret))
 .skip)))
 (sr [om 0 103 7,⟨1,(some 104),none,.call 76 [.t 103],[]⟩,om 2 102 104]
 (.keep [0,5,6,8,9,102] (.cond (.t 102)
 (sr [oa 0 106 1 9,ol 1 107 106,⟨2,(some 108),none,.call 77 [.t 107],[]⟩,om 3 105 108,oq 4 109 (.ext (.t 105) 0),oq 5 110 (.ext (.t 105) 1),om 6 10 109,om 7 11 110]
 (.keep [0,5,6,8,9,10,11] (.seq (sr [om 0 111 11,oq 1 112 (.un .not (.t 111))]
 (.keep [0,5,6,8,9,10,112] (.cond (.t 112)
 (sr [om 0 113 6,oq 1 2 (.mv (.c .nils)),oq 2 3 (.mv (ci 10)),om 3 4 113]
 (.keep [2,3,4] .ret))
 .skip))) c47_4)))
 (sr [om 0 79 0,om 1 80 6,oq 2 81 (.sls (.t 79) (some (.t 80)) none),⟨3,(some 82),none,.call 78 [.t 81],[]⟩,oa 4 83 1 9,⟨5,none,none,.op (.st 1 (.t 83) (.t 82)),[]⟩]
 (.keep [0,5,6,9] (sr [oa 0 84 0 9,⟨1,none,none,.op (.st 1 (.t 84) (ci 2)),[]⟩]
 (.keep [0,5,6,9] (.seq (sr [oa 0 85 1 9,ol 1 86 85,oq 2 87 (.bin .eql .num (.t 86) (.c (.str [])))]
 (.keep [0,5,6,9,87] (.cond (.t 87)
 (sr [om 0 88 6,oq 1 2 (.mv (.c .nils)),oq 2 3 (.mv (ci 10)),om 3 4 88]
 (.keep [2,3,4] .ret))
 .skip))) c47_5)))))))))))) c47_6))))
def c47_8 : ACode := (.keep [0,5,6,7] (sr [om 0 54 6,om 1 8 54]
(.keep [0,5,6,7,8] (.seq (.block 4
 (.loop
 (.keep [0,5,6,7,8] (.seq (sr [om 0 55 8,om 1 56 0,oq 2 57 (.len .s (.t 56)),oq 3 58 (.bin .lss .num (.t 55) (.t 57)),om 4 59 58,og 5 60 59 true (.mv (.t 0)),og 6 61 59 true (.mv (.t 8)),og 7 62 59 true (.ixs (.t 60) (.t 61)),⟨8,(some 63),(some (59,true)),.call 75 [.t 62],[]⟩,og 9 64 59 true (.mv (.t 63)),og 10 65 64 false (.mv (.t 0)),og 11 66 64 false (.mv (.t 8)),og 12 67 64 false (.ixs (.t 65) (.t 66)),⟨13,(some 68),(some (64,false)),.call 76 [.t 67],[]⟩,og 14 69 59 true (.pick (.t 64) (.c (.bool true)) (.t 68)),oq 15 70 (.pick (.t 59) (.t 69) (.c (.bool false)))]
 (.keep [0,5,6,7,8,70] (.cond (.t 70)
 .skip
 (.exit 4)))) c47_3)))) c47_7))))
def c47_9 : ACode := (.keep [0,5,6,7] (.seq (sr [om 0 26 7,oq 1 27 (.bin .eql .num (.t 26) (.c (.int .u8 47))),om 2 28 27,og 3 29 28 true (.mv (.t 6)),og 4 30 28 true (.bin .add .num (.t 29) (ci 1)),og 5 31 28 true (.mv (.t 0)),og 6 32 28 true (.len .s (.t 31)),og 7 33 28 true (.bin .lss .num (.t 30) (.t 32)),oq 8 34 (.pick (.t 28) (.t 33) (.c (.bool false))),om 9 35 34,og 10 36 35 true (.mv (.t 0)),og 11 37 35 true (.mv (.t 6)),og 12 38 35 true (.bin .add .num (.t 37) (ci 1)),og 13 39 35 true (.ixs (.t 36) (.t 38)),og 14 40 35 true (.bin .eql .num (.t 39) (.c (.int .u8 47))),oq 15 41 (.pick (.t 35) (.t 40) (.c (.bool false)))]
(.keep [0,5,6,7,41] (.cond (.t 41)
 (.seq (.block 2
 (.loop
 (.keep [0,5,6] (.seq (sr [om 0 42 6,om 1 43 0,oq 2 44 (.len .s (.t 43)),oq 3 45 (.bin .lss .num (.t 42) (.t 44)),om 4 46 45,og 5 47 46 true (.mv (.t 0)),og 6 48 46 true (.mv (.t 6)),og 7 49 46 true (.ixs (.t 47) (.t 48)),og 8 50 46 true (.bin .neq .num (.t 49) (.c (.int .u8 10))),oq 9 51 (.pick (.t 46) (.t 50) (.c (.bool false)))]
 (.keep [0,5,6,51] (.cond (.t 51)
 .skip
 (.exit 2)))) c47_1)))) c47_2)
 .skip))) c47_8))
def c47_10 : ACode := (.keep [0,5,6] (.block 1
 (sr [om 0 19 0,om 1 20 6,oq 2 21 (.ixs (.t 19) (.t 20)),om 3 7 21]
 (.keep [0,5,6,7] (.seq (sr [om 0 22 7,⟨1,(some 23),none,.call 74 [(.c (.str [32,9,10,13])),.t 22],[]⟩]
 (.keep [0,5,6,7,23] (.cond (.t 23)
 (sr [om 0 24 6,oq 1 25 (.bin .add .num (.t 24) (ci 1)),om 2 6 25]
 (.keep [0,5,6] (.exit 1)))
 .skip))) c47_9)))))
def c47_11 : ACode := (.keep [0,5] (sr [om 0 122 5,om 1 123 0,oq 2 124 (.len .s (.t 123)),oq 3 125 (.build [(.int .i64 0),(.str []),(.int .i64 0),(.int .i64 0)] [(0,1,(ci 3)),(3,1,(.t 124))]),oq 4 126 (.bsl 4 false [.t 125]),oq 5 127 (.app 4 40 false (.t 122) (.t 126)),om 6 2 127,oq 7 3 (.mv (ci 0)),oq 8 4 (.mv (ci 0))]
(.keep [2,3,4] .ret)))
def c47_12 : ACode := (.keep [0] (sr [oq 0 5 (.mv (.c .nils))]
(.keep [0,5] (.seq (sr [oq 0 6 (.mv (ci 0))]
(.keep [0,5,6] (.block 0
 (.loop
 (.keep [0,5,6] (.seq (sr [om 0 15 6,om 1 16 0,oq 2 17 (.len .s (.t 16)),oq 3 18 (.bin .lss .num (.t 15) (.t 17))]
 (.keep [0,5,6,18] (.cond (.t 18)
 .skip
 (.exit 0)))) c47_10)))))) c47_11))))
def c47 : AFn := ⟨1, 128, (sr [oq 0 2 (.mv (.c .nils)),oq 1 3 (.mv (ci 0)),oq 2 4 (.mv (ci 0))]
(.keep [0] (.seq (sr [om 0 12 0,oq 1 13 (.len .s (.t 12)),oq 2 14 (.bin .gtr .num (.t 13) (ci 16384))]
(.keep [0,14] (.cond (.t 14)
 (sr [oq 0 2 (.mv (.c .nils)),oq 1 3 (.mv (ci 2)),oq 2 4 (.mv (ci 0))]
 (.keep [2,3,4] .ret))
 .skip))) c47_12))), [.tmp 2,.tmp 3,.tmp 4]⟩
def c48 : AFn := ⟨1, 11, (sr [oq 0 2 (.mv (.c (.bool false)))]
(.keep [0] (sr [om 0 3 0,on 1 4 3,oa 2 5 0 4,ol 3 6 5,on 4 7 6,oa 5 8 3 7,ol 6 9 8,oq 7 10 (.bin .eql .num (.t 9) (ci 0)),om 8 2 10]
(.keep [2] .ret)))), [.tmp 2]⟩
def c49 : AFn := ⟨1, 19, (sr [oq 0 2 (.allocL [(.int .i64 0),(.str []),(.int .i64 0),(.int .i64 0)])]
(.keep [0,2] (.seq (.reg true [om 0 3 0,on 1 4 3,oa 2 5 0 4,ol 3 6 5,on 4 7 6,oa 5 8 0 7,ol 6 9 8,om 7 10 0,on 8 11 10,oa 9 12 0 11,ol 10 13 12,on 11 14 13,oa 12 15 1 14,ol 13 16 15,oq 14 17 (.ixa 4 (.t 9) (.t 16)),oq 15 18 (.ld true 4 (.t 17)),⟨16,none,none,.op (.st 4 (.t 2) (.t 18)),[]⟩])
(.keep [2] .ret)))), [.cell 2 true 4]⟩
def c50_1 : ACode := (.keep [0] (.reg false [om 0 12 0,om 1 13 0,⟨2,(some 14),none,.call 49 [.t 13],[]⟩,oq 3 15 (.fld false 3 1 (.t 14)),⟨4,(some 16),none,.call 86 [.t 12,ci 11,.t 15],[]⟩]))
def c50 : AFn := ⟨1, 103, (.block 0
 (sr [om 0 18 0,⟨1,(some 19),none,.call 79 [.t 18,(.c (.str [108,111,99,107]))],[]⟩,om 2 17 19]
 (.keep [0,17] (.cond (.t 17)
 (sr [om 0 20 0,om 1 21 0,on 2 22 21,oa 3 23 2 22,oa 4 24 1 23,ol 5 25 24,oq 6 26 (.len .l (.t 25)),⟨7,(some 27),none,.call 80 [.t 20,.t 26,ci 8],[]⟩]
 (.keep [0] (sr [om 0 28 0,⟨1,(some 29),none,.call 48 [.t 28],[]⟩]
 (.keep [0,29] (.cond (.t 29)
 (sr [om 0 30 0,on 1 31 30,oa 2 32 0 31,ol 3 33 32,on 4 34 33,oa 5 35 1 34,ol 6 36 35,oq 7 37 (.bin .add .num (.t 36) (ci 1)),on 8 38 33,oa 9 39 1 38,⟨10,none,none,.op (.st 1 (.t 39) (.t 37)),[]⟩]
 (.keep [0] (sr [oq 0 2 (.allocL [(.int .i64 0),(.str [])])]
 (.keep [0,2] (sr [om 0 40 0,⟨1,(some 41),none,.call 81 [.t 40],[]⟩,oq 2 3 (.allocL [(.str []),(.int .i64 0)]),⟨3,none,none,.op (.st 2 (.t 3) (.t 41)),[]⟩]
 (.keep [0,2,3] (sr [oa 0 42 0 3,ol 1 43 42,oa 2 44 1 2,⟨3,none,none,.op (.st 1 (.t 44) (.t 43)),[]⟩]
 (.keep [0,2,3] (sr [oa 0 45 1 3,ol 1 46 45,oa 2 47 0 2,⟨3,none,none,.op (.st 1 (.t 47) (.t 46)),[]⟩]
 (.keep [0,2] (sr [om 0 48 0,⟨1,(some 49),none,.call 82 [.t 48,(.c (.str [59]))],[]⟩]
 (.keep [0,2] (.reg true [om 0 50 0,om 1 51 0,on 2 52 51,oa 3 53 2 52,oa 4 54 1 53,ol 5 55 54,oq 6 56 (.ld true 2 (.t 2)),⟨7,(some 57),none,.op (.bsl 2 false [.t 56]),[5]⟩,oq 8 58 (.app 2 24 false (.t 55) (.t 57)),on 9 59 50,oa 10 60 2 59,oa 11 61 1 60,⟨12,none,none,.op (.st 1 (.t 61) (.t 58)),[]⟩])))))))))))))
 .skip)))))
 (sr [om 0 63 0,⟨1,(some 64),none,.call 79 [.t 63,(.c (.str [102,117,110,99]))],[]⟩,om 2 62 64]
 (.keep [0,62] (.cond (.t 62)
 (.reg false [om 0 65 0,⟨1,(some 66),none,.call 83 [.t 65],[]⟩])
 (sr [om 0 68 0,⟨1,(some 69),none,.call 79 [.t 68,(.c (.str [116,104,114,101,97,100]))],[]⟩,om 2 67 69]
 (.keep [0,67] (.cond (.t 67)
 (sr [om 0 70 0,om 1 71 0,on 2 72 71,oa 3 73 2 72,oa 4 74 3 73,ol 5 75 74,oq 6 76 (.len .l (.t 75)),⟨7,(some 77),none,.call 80 [.t 70,.t 76,ci 4],[]⟩]
 (.keep [0] (sr [om 0 78 0,⟨1,(some 79),none,.call 48 [.t 78],[]⟩]
 (.keep [0,79] (.cond (.t 79)
 (sr [om 0 80 0,on 1 81 80,oa 2 82 0 81,ol 3 83 82,on 4 84 83,oa 5 85 1 84,ol 6 86 85,oq 7 87 (.bin .add .num (.t 86) (ci 1)),on 8 88 83,oa 9 89 1 88,⟨10,none,none,.op (.st 1 (.t 89) (.t 87)),[]⟩]
 (.keep [0] (.reg true [om 0 90 0,om 1 91 0,on 2 92 91,oa 3 93 2 92,oa 4 94 3 93,ol 5 95 94,om 6 96 0,⟨7,(some 97),none,.call 84 [.t 96],[5]⟩,⟨8,(some 98),none,.op (.bsl 1 false [.t 97]),[5]⟩,oq 9 99 (.app 1 24 false (.t 95) (.t 98)),on 10 100 90,oa 11 101 2 100,oa 12 102 3 101,⟨13,none,none,.op (.st 1 (.t 102) (.t 99)),[]⟩])))
 .skip)))))
 (.seq (sr [om 0 4 0,⟨1,(some 5),none,.call 79 [.t 4,(.c (.str [112,117,98,108,105,99]))],[]⟩,om 2 6 5,og 3 7 6 false (.mv (.t 0)),⟨4,(some 8),(some (6,false)),.call 79 [.t 7,(.c (.str [115,101,99,114,101,116]))],[]⟩,oq 5 9 (.pick (.t 6) (.c (.bool true)) (.t 8))]
 (.keep [0,9] (.cond (.t 9)
 (sr [om 0 10 0,⟨1,(some 11),none,.call 85 [.t 10],[]⟩]
 (.keep [] .ret))
 .skip))) c50_1))))))))))), []⟩
def c51_1 : ACode := (.keep [1,3,6,7] (.reg false [om 0 38 7,oq 1 39 (.bin .add .num (.t 38) (ci 1)),om 2 7 39]))
def c51_2 : ACode := (.keep [1,3,6,7] (.seq (.block 1
 (.seq (.reg true [oa 0 40 0 1,ol 1 41 40,om 2 42 7,oq 3 43 (.ixa 6 (.t 41) (.t 42)),oa 4 44 5 43,ol 5 45 44,oq 6 46 (.bin .neq .num (.t 45) (.c (.str []))),om 7 47 46,og 8 48 47 true (.ld true 6 (.t 3)),og 9 49 47 true (.fa 0 (.t 1)),og 10 50 47 true (.ld false 1 (.t 49)),og 11 51 47 true (.mv (.t 7)),og 12 52 47 true (.ixa 6 (.t 50) (.t 51)),og 13 53 47 true (.fa 5 (.t 52)),og 14 54 47 true (.ld false 1 (.t 53)),⟨15,(some 55),(some (47,true)),.call 58 [.t 48,.t 54],[]⟩,og 16 56 47 true (.bin .lss .num (.t 55) (ci 0)),oq 17 57 (.pick (.t 47) (.t 56) (.c (.bool false)))])
 (.keep [1,3,6,7,57] (.cond (.t 57)
 (.reg false [om 0 58 6,oa 1 59 0 1,ol 2 60 59,om 3 61 7,oq 4 62 (.ixa 6 (.t 60) (.t 61)),oa 5 63 0 62,ol 6 64 63,⟨7,(some 65),none,.call 87 [.t 58,ci 12,.t 64],[]⟩])
 .skip)))) c51_1))
def c51_3 : ACode := (.keep [1,6,8] (.seq (.block 3
 (sr [om 0 80 6,om 1 81 8,on 2 82 80,oa 3 83 6 82,⟨4,none,none,.op (.st 1 (.t 83) (.t 81)),[]⟩]
 (.keep [1,6,8] (.reg false [om 0 84 6,oa 1 85 2 1,ol 2 86 85,om 3 87 8,oq 4 88 (.ixa 12 (.t 86) (.t 87)),oq 5 89 (.ld true 12 (.t 88)),⟨6,(some 90),none,.call 88 [.t 84,.t 89],[]⟩]))))
(.keep [1,6,8] (.reg false [om 0 78 8,oq 1 79 (.bin .add .num (.t 78) (ci 1)),om 2 8 79]))))
def c51_4 : ACode := (.keep [1,6,9] (.seq (.block 5
 (sr [om 0 108 6,om 1 109 9,on 2 110 108,oa 3 111 7 110,⟨4,none,none,.op (.st 1 (.t 111) (.t 109)),[]⟩]
 (.keep [1,6,9] (.reg false [om 0 112 6,oa 1 113 3 1,ol 2 114 113,om 3 115 9,oq 4 116 (.ixa 1 (.t 114) (.t 115)),ol 5 117 116,⟨6,(some 118),none,.call 89 [.t 112,.t 117],[]⟩]))))
(.keep [1,6,9] (.reg false [om 0 106 9,oq 1 107 (.bin .add .num (.t 106) (ci 1)),om 2 9 107]))))
def c51_5 : ACode := (.keep [1,6,10] (.reg false [om 0 131 10,oq 1 132 (.bin .add .num (.t 131) (ci 1)),om 2 10 132]))
def c51_6 : ACode := (.keep [1,6,10] (.seq (.block 7
 (sr [oa 0 133 0 1,ol 1 134 133,om 2 135 10,oq 3 136 (.ixa 6 (.t 134) (.t 135)),oa 4 137 5 136,ol 5 138 137,oq 6 139 (.bin .eql .num (.t 138) (.c (.str []))),om 7 140 139,og 8 141 140 true (.mv (.t 6)),og 9 142 140 true (.nck (.t 141)),og 10 143 140 true (.fa 9 (.t 142)),og 11 144 140 true (.ld false 1 (.t 143)),og 12 145 140 true (.mv (.t 10)),og 13 146 140 true (.ixa 2 (.t 144) (.t 145)),og 14 147 140 true (.fa 1 (.t 146)),og 15 148 140 true (.ld false 1 (.t 147)),og 16 149 140 true (.len .l (.t 148)),og 17 150 140 true (.bin .gtr .num (.t 149) (ci 0)),oq 18 151 (.pick (.t 140) (.t 150) (.c (.bool false))),om 19 152 151,og 20 153 152 true (.mv (.t 6)),og 21 154 152 true (.nck (.t 153)),og 22 155 152 true (.fa 9 (.t 154)),og 23 156 152 true (.ld false 1 (.t 155)),og 24 157 152 true (.mv (.t 10)),og 25 158 152 true (.ixa 2 (.t 156) (.t 157)),og 26 159 152 true (.fa 0 (.t 158)),og 27 160 152 true (.ld false 1 (.t 159)),og 28 161 152 true (.len .l (.t 160)),og 29 162 152 true (.bin .gtr .num (.t 161) (ci 1)),oq 30 163 (.pick (.t 152) (.t 162) (.c (.bool false)))]
 (.keep [1,6,10,163] (.cond (.t 163)
 (.reg false [om 0 164 6,oa 1 165 0 1,ol 2 166 165,om 3 167 10,oq 4 168 (.ixa 6 (.t 166) (.t 167)),oa 5 169 0 168,ol 6 170 169,⟨7,(some 171),none,.call 87 [.t 164,ci 15,.t 170],[]⟩])
 .skip)))) c51_5))
def c51_7 : ACode := (.keep [6] (sr [om 0 172 6,om 1 2 172]
(.keep [2] .ret)))
def c51_8 : ACode := (.keep [1,6] (.seq (sr [oq 0 10 (.mv (ci 0))]
(.keep [1,6,10] (.block 6
 (.loop
 (.keep [1,6,10] (.seq (sr [om 0 119 10,oa 1 120 0 1,ol 2 121 120,oq 3 122 (.len .l (.t 121)),oq 4 123 (.bin .lss .num (.t 119) (.t 122)),om 5 124 123,og 6 125 124 true (.mv (.t 6)),og 7 126 124 true (.nck (.t 125)),og 8 127 124 true (.fa 10 (.t 126)),og 9 128 124 true (.ld false 1 (.t 127)),og 10 129 124 true (.bin .eql .num (.t 128) (ci 0)),oq 11 130 (.pick (.t 124) (.t 129) (.c (.bool false)))]
 (.keep [1,6,10,130] (.cond (.t 130)
 .skip
 (.exit 6)))) c51_6)))))) c51_7))
def c51_9 : ACode := (.keep [1,6] (sr [om 0 91 6,on 1 92 91,oa 2 93 6 92,⟨3,none,none,.op (.st 1 (.t 93) (.c (.int .i64 (-1)))),[]⟩]
(.keep [1,6] (.seq (sr [oq 0 9 (.mv (ci 0))]
(.keep [1,6,9] (.block 4
 (.loop
 (.keep [1,6,9] (.seq (sr [om 0 94 9,oa 1 95 3 1,ol 2 96 95,oq 3 97 (.len .l (.t 96)),oq 4 98 (.bin .lss .num (.t 94) (.t 97)),om 5 99 98,og 6 100 99 true (.mv (.t 6)),og 7 101 99 true (.nck (.t 100)),og 8 102 99 true (.fa 10 (.t 101)),og 9 103 99 true (.ld false 1 (.t 102)),og 10 104 99 true (.bin .eql .num (.t 103) (ci 0)),oq 11 105 (.pick (.t 99) (.t 104) (.c (.bool false)))]
 (.keep [1,6,9,105] (.cond (.t 105)
 .skip
 (.exit 4)))) c51_4)))))) c51_8))))
def c51_10 : ACode := (.keep [1,6] (.seq (sr [oq 0 8 (.mv (ci 0))]
(.keep [1,6,8] (.block 2
 (.loop
 (.keep [1,6,8] (.seq (sr [om 0 66 8,oa 1 67 2 1,ol 2 68 67,oq 3 69 (.len .l (.t 68)),oq 4 70 (.bin .lss .num (.t 66) (.t 69)),om 5 71 70,og 6 72 71 true (.mv (.t 6)),og 7 73 71 true (.nck (.t 72)),og 8 74 71 true (.fa 10 (.t 73)),og 9 75 71 true (.ld false 1 (.t 74)),og 10 76 71 true (.bin .eql .num (.t 75) (ci 0)),oq 11 77 (.pick (.t 71) (.t 76) (.c (.bool false)))]
 (.keep [1,6,8,77] (.cond (.t 77)
 .skip
 (.exit 2)))) c51_3)))))) c51_9))
def c51 : AFn := ⟨1, 173, (sr [oq 0 1 (.boxL (.t 0)),oq 1 2 (.mv (.c .nilp))]
(.keep [1] (sr [oq 0 12 (.ld true 4 (.t 1)),⟨1,(some 13),none,.call 30 [.t 12],[]⟩,om 2 11 13,oq 3 14 (.ext (.t 11) 0),oq 4 15 (.ext (.t 11) 1),oq 5 16 (.ext (.t 11) 2),oq 6 3 (.allocL [.nils,.nils,.nils,.nils,(.int .i64 0),.nils]),⟨7,none,none,.op (.st 6 (.t 3) (.t 14)),[]⟩,om 8 4 15,om 9 5 16]
(.keep [1,3,4,5] (.seq (.reg true [oq 0 17 (.ld true 6 (.t 3)),om 1 18 4,om 2 19 5,oa 3 20 0 1,ol 4 21 20,oq 5 22 (.len .l (.t 21)),⟨6,(some 23),none,.op (.mks 2 48 true (.agg [.nils,.nils]) (.t 22)),[0]⟩,oq 7 24 (.build [.nils,.nils,.nils,.nils,(.int .i64 0),.nils,(.int .i64 0),(.int .i64 0),.nils,.nils,(.int .i64 0),(.int .i64 0)] [(0,6,(.t 17)),(10,1,(.t 18)),(11,1,(.t 19)),(9,1,(.t 23))]),oq 8 25 (.boxH (.t 24)),om 9 6 25])
(.keep [1,3,6] (.seq (sr [oq 0 7 (.mv (ci 0))]
(.keep [1,3,6,7] (.block 0
 (.loop
 (.keep [1,3,6,7] (.seq (sr [om 0 26 7,oa 1 27 0 1,ol 2 28 27,oq 3 29 (.len .l (.t 28)),oq 4 30 (.bin .lss .num (.t 26) (.t 29)),om 5 31 30,og 6 32 31 true (.mv (.t 6)),og 7 33 31 true (.nck (.t 32)),og 8 34 31 true (.fa 10 (.t 33)),og 9 35 31 true (.ld false 1 (.t 34)),og 10 36 31 true (.bin .eql .num (.t 35) (ci 0)),oq 11 37 (.pick (.t 31) (.t 36) (.c (.bool false)))]
 (.keep [1,3,6,7,37] (.cond (.t 37)
 .skip
 (.exit 0)))) c51_2)))))) c51_10))))))), [.tmp 2]⟩
def c54_1 : ACode := (.keep [0,6,7,8] (.seq (.block 1
 (sr [oq 0 10 (.ixa 9 (.t 6) (.t 8)),oq 1 11 (.ld true 9 (.t 10)),oq 2 5 (.allocL [(.int .i64 0),(.int .i64 0),(.bool false),(.bool false),(.str []),.nils,.nils,.nils,.nils]),⟨3,none,none,.op (.st 9 (.t 5) (.t 11)),[]⟩]
 (.keep [0,5,6,7,8] (.reg false [om 0 12 0,oq 1 13 (.ld true 9 (.t 5)),⟨2,(some 14),none,.call 92 [.t 12,.t 13],[]⟩]))))
(.keep [0,6,7,8] (.reg false [oq 0 15 (.bin .add .num (.t 8) (ci 1)),om 1 8 15]))))
def c54 : AFn := ⟨2, 16, (sr [om 0 6 1,oq 1 7 (.len .l (.t 6)),oq 2 8 (.mv (ci 0))]
(.keep [0,6,7,8] (.block 0
 (.loop
 (.keep [0,6,7,8] (sr [oq 0 9 (.bin .lss .num (.t 8) (.t 7))]
 (.keep [0,6,7,8,9] (.seq (.cond (.t 9)
 .skip
 (.exit 0)) c54_1)))))))), []⟩
def c55 : AFn := ⟨3, 12, (.reg true [ol 0 4 1,on 1 5 4,oa 2 6 3 5,ol 3 7 6,ol 4 8 2,om 5 9 0,oq 6 10 (.ixa 7 (.t 7) (.t 8)),oa 7 11 6 10,⟨8,none,none,.op (.st 1 (.t 11) (.t 9)),[]⟩]), []⟩
def c56_1 : ACode := (.keep [1,3,4] (.seq (.block 1
 (.reg true [om 0 14 3,oa 1 15 0 1,ol 2 16 15,om 3 17 4,oq 4 18 (.ixa 6 (.t 16) (.t 17)),oa 5 19 1 18,ol 6 20 19,oa 7 21 0 1,ol 8 22 21,om 9 23 4,oq 10 24 (.ixa 6 (.t 22) (.t 23)),oa 11 25 0 24,ol 12 26 25,oq 13 27 (.build [(.str []),(.int .i64 0)] [(0,1,(.t 20)),(1,1,(.t 26))]),oq 14 28 (.bsl 2 false [.t 27]),oq 15 29 (.app 2 24 false (.t 14) (.t 28)),om 16 3 29]))
(.keep [1,3,4] (.reg false [om 0 12 4,oq 1 13 (.bin .add .num (.t 12) (ci 1)),om 2 4 13]))))
def c56_2 : ACode := (.keep [1,3,5] (.seq (.block 3
 (.reg true [om 0 37 3,oa 1 38 1 1,ol 2 39 38,om 3 40 5,oq 4 41 (.ixa 2 (.t 39) (.t 40)),oa 5 42 1 41,ol 6 43 42,oa 7 44 1 1,ol 8 45 44,om 9 46 5,oq 10 47 (.ixa 2 (.t 45) (.t 46)),oa 11 48 0 47,ol 12 49 48,oq 13 50 (.build [(.str []),(.int .i64 0)] [(0,1,(.t 43)),(1,1,(.t 49))]),oq 14 51 (.bsl 2 false [.t 50]),oq 15 52 (.app 2 24 false (.t 37) (.t 51)),om 16 3 52]))
(.keep [1,3,5] (.reg false [om 0 35 5,oq 1 36 (.bin .add .num (.t 35) (ci 1)),om 2 5 36]))))
def c56_3 : ACode := (.keep [1,3,6] (.seq (.block 5
 (.reg true [om 0 60 3,oa 1 61 2 1,ol 2 62 61,om 3 63 6,oq 4 64 (.ixa 12 (.t 62) (.t 63)),oa 5 65 1 64,ol 6 66 65,oa 7 67 2 1,ol 8 68 67,om 9 69 6,oq 10 70 (.ixa 12 (.t 68) (.t 69)),oa 11 71 0 70,ol 12 72 71,oq 13 73 (.build [(.str []),(.int .i64 0)] [(0,1,(.t 66)),(1,1,(.t 72))]),oq 14 74 (.bsl 2 false [.t 73]),oq 15 75 (.app 2 24 false (.t 60) (.t 74)),om 16 3 75]))
(.keep [1,3,6] (.reg false [om 0 58 6,oq 1 59 (.bin .add .num (.t 58) (ci 1)),om 2 6 59]))))
def c56_4 : ACode := (.keep [3] (sr [om 0 76 3,om 1 2 76]
(.keep [2] .ret)))
def c56_5 : ACode := (.keep [1,3] (.seq (sr [oq 0 6 (.mv (ci 0))]
(.keep [1,3,6] (.block 4
 (.loop
 (.keep [1,3,6] (.seq (sr [om 0 53 6,oa 1 54 2 1,ol 2 55 54,oq 3 56 (.len .l (.t 55)),oq 4 57 (.bin .lss .num (.t 53) (.t 56))]
 (.keep [1,3,6,57] (.cond (.t 57)
 .skip
 (.exit 4)))) c56_3)))))) c56_4))
def c56_6 : ACode := (.keep [1,3] (.seq (sr [oq 0 5 (.mv (ci 0))]
(.keep [1,3,5] (.block 2
 (.loop
 (.keep [1,3,5] (.seq (sr [om 0 30 5,oa 1 31 1 1,ol 2 32 31,oq 3 33 (.len .l (.t 32)),oq 4 34 (.bin .lss .num (.t 30) (.t 33))]
 (.keep [1,3,5,34] (.cond (.t 34)
 .skip
 (.exit 2)))) c56_2)))))) c56_5))
def c56 : AFn := ⟨1, 77, (sr [oq 0 1 (.boxL (.t 0)),oq 1 2 (.mv (.c .nils))]
(.keep [1] (sr [oq 0 3 (.mv (.c .nils))]
(.keep [1,3] (.seq (sr [oq 0 4 (.mv (ci 0))]
(.keep [1,3,4] (.block 0
 (.loop
 (.keep [1,3,4] (.seq (sr [om 0 7 4,oa 1 8 0 1,ol 2 9 8,oq 3 10 (.len .l (.t 9)),oq 4 11 (.bin .lss .num (.t 7) (.t 10))]
 (.keep [1,3,4,11] (.cond (.t 11)
 .skip
 (.exit 0)))) c56_1)))))) c56_6))))), [.tmp 2]⟩
def c58_1 : ACode := (.keep [1,2,5] (.reg false [om 0 12 5,oq 1 13 (.bin .add .num (.t 12) (ci 1)),om 2 5 13]))
def c58_2 : ACode := (.keep [1,2,5] (.seq (.block 1
 (sr [oa 0 14 0 2,oa 1 15 1 14,ol 2 16 15,om 3 17 5,oq 4 18 (.ixa 2 (.t 16) (.t 17)),oa 5 19 1 18,ol 6 20 19,om 7 21 1,oq 8 22 (.bin .eql .num (.t 20) (.t 21))]
 (.keep [1,2,5,22] (.cond (.t 22)
 (sr [om 0 23 5,om 1 4 23]
 (.keep [4] .ret))
 .skip)))) c58_1))
def c58_3 : ACode := (.keep [] (sr [oq 0 4 (.mv (.c (.int .i64 (-1))))]
(.keep [4] .ret)))
def c58 : AFn := ⟨2, 24, (sr [oq 0 2 (.boxL (.t 0)),oq 1 4 (.mv (ci 0))]
(.keep [1,2] (.seq (sr [oq 0 5 (.mv (ci 0))]
(.keep [1,2,5] (.block 0
 (.loop
 (.keep [1,2,5] (.seq (sr [om 0 6 5,oa 1 7 0 2,oa 2 8 1 7,ol 3 9 8,oq 4 10 (.len .l (.t 9)),oq 5 11 (.bin .lss .num (.t 6) (.t 10))]
 (.keep [1,2,5,11] (.cond (.t 11)
 .skip
 (.exit 0)))) c58_2)))))) c58_3))), [.tmp 4]⟩
def c70_1 : ACode := (.keep [0,1,3] (sr [om 0 13 0,oq 1 14 (.bin .geq .num (.t 13) (ci 0)),om 2 15 14,og 3 16 15 true (.mv (.t 0)),og 4 17 15 true (.mv (.t 1)),og 5 18 15 true (.bin .lss .num (.t 16) (.t 17)),oq 6 19 (.pick (.t 15) (.t 18) (.c (.bool false))),om 7 20 19,og 8 21 20 false (.mv (.t 3)),og 9 22 20 false (.mv (.t 21)),og 10 23 22 true (.mv (.t 0)),og 11 24 22 true (.bin .eql .num (.t 23) (.c (.int .i64 (-1)))),og 12 25 20 false (.pick (.t 22) (.t 24) (.c (.bool false))),oq 13 26 (.pick (.t 20) (.c (.bool true)) (.t 25)),om 14 8 26]
(.keep [8] .ret)))
def c70 : AFn := ⟨4, 27, (sr [oq 0 8 (.mv (.c (.bool false)))]
(.keep [0,1,2,3] (.seq (sr [om 0 9 2,oq 1 10 (.un .not (.t 9))]
(.keep [0,1,3,10] (.cond (.t 10)
 (sr [om 0 11 0,oq 1 12 (.bin .eql .num (.t 11) (ci 0)),om 2 8 12]
 (.keep [8] .ret))
 .skip))) c70_1))), [.tmp 8]⟩
def c71_1 : ACode := (.keep [1,2,6,18] (.cond (.t 18)
 (sr [oa 0 21 5 2,ol 1 22 21,oq 2 23 (.bin .geq .num (.t 22) (ci 0)),om 3 24 23,og 4 25 24 true (.fa 5 (.t 2)),og 5 26 24 true (.ld false 1 (.t 25)),og 6 27 24 true (.mv (.t 1)),og 7 28 24 true (.bin .lss .num (.t 26) (.t 27)),oq 8 29 (.pick (.t 24) (.t 28) (.c (.bool false))),om 9 4 29]
 (.keep [4] .ret))
 (sr [oq 0 31 (.bin .eql .num (.t 6) (ci 12)),om 1 30 31]
 (.keep [2,30] (.cond (.t 30)
 (sr [oa 0 32 5 2,ol 1 33 32,oq 2 34 (.bin .eql .num (.t 33) (ci 1)),om 3 35 34,og 4 36 35 false (.fa 5 (.t 2)),og 5 37 35 false (.ld false 1 (.t 36)),og 6 38 35 false (.bin .eql .num (.t 37) (ci 2)),oq 7 39 (.pick (.t 35) (.c (.bool true)) (.t 38)),om 8 4 39]
 (.keep [4] .ret))
 .skip)))))
def c71_2 : ACode := (.keep [1,2,6,7] (.cond (.t 7)
 (sr [oa 0 10 5 2,ol 1 11 10,oq 2 12 (.bin .geq .num (.t 11) (ci 0)),om 3 13 12,og 4 14 13 true (.fa 5 (.t 2)),og 5 15 13 true (.ld false 1 (.t 14)),og 6 16 13 true (.bin .leq .num (.t 15) (ci 65535)),oq 7 17 (.pick (.t 13) (.t 16) (.c (.bool false))),om 8 4 17]
 (.keep [4] .ret))
 (.seq (sr [oq 0 19 (.bin .eql .num (.t 6) (ci 9)),om 1 18 19]
 (.keep [1,2,6,18] (.cond (.t 18)
 .skip
 (.reg false [oq 0 20 (.bin .eql .num (.t 6) (ci 10)),om 1 18 20])))) c71_1)))
def c71_3 : ACode := (.keep [] (sr [oq 0 4 (.mv (.c (.bool true)))]
(.keep [4] .ret)))
def c71 : AFn := ⟨2, 40, (sr [oq 0 2 (.boxL (.t 0)),oq 1 4 (.mv (.c (.bool false)))]
(.keep [1,2] (.seq (sr [oa 0 5 0 2,ol 1 6 5]
(.keep [1,2,6] (.block 0
 (.seq (sr [oq 0 8 (.bin .eql .num (.t 6) (ci 4)),om 1 7 8]
 (.keep [1,2,6,7] (.cond (.t 7)
 .skip
 (.reg false [oq 0 9 (.bin .eql .num (.t 6) (ci 5)),om 1 7 9])))) c71_2)))) c71_3))), [.tmp 4]⟩
def c72 : AFn := ⟨1, 6, (sr [oq 0 2 (.mv (.c (.str [])))]
(.keep [0] (sr [om 0 3 0,⟨1,(some 4),none,.call 45 [.t 3],[]⟩,oq 2 5 (.bin .add .num (.c (.str [32,114])) (.t 4)),om 3 2 5]
(.keep [2] .ret)))), [.tmp 2]⟩
def c73_1 : ACode := (.keep [0,3] (sr [om 0 13 3,om 1 14 0,oq 2 15 (.ixa 1 (.t 13) (.t 14)),ol 3 16 15,om 4 2 16]
(.keep [2] .ret)))
def c73 : AFn := ⟨1, 17, (sr [oq 0 2 (.mv (.c (.str [])))]
(.keep [0] (sr [oq 0 4 (.bsl 1 false [(.c (.str [43])),(.c (.str [45])),(.c (.str [42])),(.c (.str [47])),(.c (.str [37])),(.c (.str [38])),(.c (.str [124])),(.c (.str [94])),(.c (.str [60,60])),(.c (.str [62,62])),(.c (.str [61,61])),(.c (.str [33,61])),(.c (.str [60])),(.c (.str [60,61])),(.c (.str [62])),(.c (.str [62,61])),(.c (.str [])),(.c (.str [38,38])),(.c (.str [124,124]))]),om 1 3 4]
(.keep [0,3] (.seq (sr [om 0 5 0,oq 1 6 (.bin .lss .num (.t 5) (ci 0)),om 2 7 6,og 3 8 7 false (.mv (.t 0)),og 4 9 7 false (.mv (.t 3)),og 5 10 7 false (.len .l (.t 9)),og 6 11 7 false (.bin .geq .num (.t 8) (.t 10)),oq 7 12 (.pick (.t 7) (.c (.bool true)) (.t 11))]
(.keep [0,3,12] (.cond (.t 12)
 (sr [oq 0 2 (.mv (.c (.str [])))]
 (.keep [2] .ret))
 .skip))) c73_1))))), [.tmp 2]⟩
def c74_1 : ACode := (.keep [0,1,5] (.reg false [om 0 10 5,oq 1 11 (.bin .add .num (.t 10) (ci 1)),om 2 5 11]))
def c74_2 : ACode := (.keep [0,1,5] (.seq (.block 1
 (sr [om 0 12 0,om 1 13 5,oq 2 14 (.ixs (.t 12) (.t 13)),om 3 15 1,oq 4 16 (.bin .eql .num (.t 14) (.t 15))]
 (.keep [0,1,5,16] (.cond (.t 16)
 (sr [oq 0 4 (.mv (.c (.bool true)))]
 (.keep [4] .ret))
 .skip)))) c74_1))
def c74_3 : ACode := (.keep [] (sr [oq 0 4 (.mv (.c (.bool false)))]
(.keep [4] .ret)))
def c74 : AFn := ⟨2, 17, (sr [oq 0 4 (.mv (.c (.bool false)))]
(.keep [0,1] (.seq (sr [oq 0 5 (.mv (ci 0))]
(.keep [0,1,5] (.block 0
 (.loop
 (.keep [0,1,5] (.seq (sr [om 0 6 5,om 1 7 0,oq 2 8 (.len .s (.t 7)),oq 3 9 (.bin .lss .num (.t 6) (.t 8))]
 (.keep [0,1,5,9] (.cond (.t 9)
 .skip
 (.exit 0)))) c74_2)))))) c74_3))), [.tmp 4]⟩
def c75 : AFn := ⟨1, 21, (sr [oq 0 2 (.mv (.c (.bool false)))]
(.keep [0] (sr [om 0 3 0,oq 1 4 (.bin .geq .num (.t 3) (.c (.int .u8 97))),om 2 5 4,og 3 6 5 true (.mv (.t 0)),og 4 7 5 true (.bin .leq .num (.t 6) (.c (.int .u8 122))),oq 5 8 (.pick (.t 5) (.t 7) (.c (.bool false))),om 6 9 8,og 7 10 9 false (.mv (.t 0)),og 8 11 9 false (.bin .geq .num (.t 10) (.c (.int .u8 65))),og 9 12 9 false (.mv (.t 11)),og 10 13 12 true (.mv (.t 0)),og 11 14 12 true (.bin .leq .num (.t 13) (.c (.int .u8 90))),og 12 15 9 false (.pick (.t 12) (.t 14) (.c (.bool false))),oq 13 16 (.pick (.t 9) (.c (.bool true)) (.t 15)),om 14 17 16,og 15 18 17 false (.mv (.t 0)),og 16 19 17 false (.bin .eql .num (.t 18) (.c (.int .u8 95))),oq 17 20 (.pick (.t 17) (.c (.bool true)) (.t 19)),om 18 2 20]
(.keep [2] .ret)))), [.tmp 2]⟩
def c76 : AFn := ⟨1, 9, (sr [oq 0 2 (.mv (.c (.bool false)))]
(.keep [0] (sr [om 0 3 0,oq 1 4 (.bin .geq .num (.t 3) (.c (.int .u8 48))),om 2 5 4,og 3 6 5 true (.mv (.t 0)),og 4 7 5 true (.bin .leq .num (.t 6) (.c (.int .u8 57))),oq 5 8 (.pick (.t 5) (.t 7) (.c (.bool false))),om 6 2 8]
(.keep [2] .ret)))), [.tmp 2]⟩
def c77_1 : ACode := (.keep [0,4,5,6] (.reg false [om 0 38 4,oq 1 39 (.bin .mul .num (ci 10) (.t 38)),om 2 40 6,oq 3 41 (.bin .add .num (.t 39) (.t 40)),om 4 4 41]))
def c77_2 : ACode := (.keep [0,4,5] (.reg false [om 0 18 5,oq 1 19 (.bin .add .num (.t 18) (ci 1)),om 2 5 19]))
def c77_3 : ACode := (.keep [0,4,5] (.seq (.block 1
 (sr [om 0 20 0,om 1 21 5,oq 2 22 (.ixs (.t 20) (.t 21)),oq 3 23 (.cvi .i64 (.t 22)),oq 4 24 (.bin .sub .num (.t 23) (ci 48)),om 5 6 24]
 (.keep [0,4,5,6] (.seq (sr [om 0 25 6,oq 1 26 (.bin .lss .num (.t 25) (ci 0)),om 2 27 26,og 3 28 27 false (.mv (.t 6)),og 4 29 27 false (.bin .gtr .num (.t 28) (ci 9)),oq 5 30 (.pick (.t 27) (.c (.bool true)) (.t 29)),om 6 31 30,og 7 32 31 false (.mv (.t 4)),og 8 33 31 false (.mv (.t 6)),og 9 34 31 false (.bin .sub .num (ci 9223372036854775807) (.t 33)),og 10 35 31 false (.bin .quo .num (.t 34) (ci 10)),og 11 36 31 false (.bin .gtr .num (.t 32) (.t 35)),oq 12 37 (.pick (.t 31) (.c (.bool true)) (.t 36))]
 (.keep [0,4,5,6,37] (.cond (.t 37)
 (sr [oq 0 2 (.mv (ci 0)),oq 1 3 (.mv (.c (.bool false)))]
 (.keep [2,3] .ret))
 .skip))) c77_1)))) c77_2))
def c77_4 : ACode := (.keep [0,4] (sr [om 0 42 4,om 1 43 4,⟨2,(some 44),none,.call 45 [.t 43],[]⟩,om 3 45 0,oq 4 46 (.bin .eql .num (.t 44) (.t 45)),om 5 2 42,om 6 3 46]
(.keep [2,3] .ret)))
def c77_5 : ACode := (.keep [0] (sr [oq 0 4 (.mv (ci 0))]
(.keep [0,4] (.seq (sr [oq 0 5 (.mv (ci 0))]
(.keep [0,4,5] (.block 0
 (.loop
 (.keep [0,4,5] (.seq (sr [om 0 14 5,om 1 15 0,oq 2 16 (.len .s (.t 15)),oq 3 17 (.bin .lss .num (.t 14) (.t 16))]
 (.keep [0,4,5,17] (.cond (.t 17)
 .skip
 (.exit 0)))) c77_3)))))) c77_4))))
def c77 : AFn := ⟨1, 47, (sr [oq 0 2 (.mv (ci 0)),oq 1 3 (.mv (.c (.bool false)))]
(.keep [0] (.seq (sr [om 0 7 0,oq 1 8 (.bin .eql .num (.t 7) (.c (.str []))),om 2 9 8,og 3 10 9 false (.mv (.t 0)),og 4 11 9 false (.len .s (.t 10)),og 5 12 9 false (.bin .gtr .num (.t 11) (ci 19)),oq 6 13 (.pick (.t 9) (.c (.bool true)) (.t 12))]
(.keep [0,13] (.cond (.t 13)
 (sr [oq 0 2 (.mv (ci 0)),oq 1 3 (.mv (.c (.bool false)))]
 (.keep [2,3] .ret))
 .skip))) c77_5))), [.tmp 2,.tmp 3]⟩
def c78_1 : ACode := (.keep [0,3,4] (.reg false [om 0 10 4,oq 1 11 (.bin .add .num (.t 10) (ci 1)),om 2 4 11]))
def c78_2 : ACode := (.keep [0,3,4] (.seq (.block 1
 (.seq (.reg true [om 0 12 0,oq 1 13 (.len .s (.t 12)),oq 2 14 (.bin .gtr .num (.t 13) (ci 1)),om 3 15 14,og 4 16 15 true (.mv (.t 0)),og 5 17 15 true (.sls (.t 16) none (some (ci 2))),og 6 18 15 true (.mv (.t 3)),og 7 19 15 true (.mv (.t 4)),og 8 20 15 true (.ixa 1 (.t 18) (.t 19)),og 9 21 15 true (.ld false 1 (.t 20)),og 10 22 15 true (.bin .eql .num (.t 17) (.t 21)),oq 11 23 (.pick (.t 15) (.t 22) (.c (.bool false)))])
 (.keep [0,3,4,23] (.cond (.t 23)
 (sr [om 0 24 3,om 1 25 4,oq 2 26 (.ixa 1 (.t 24) (.t 25)),ol 3 27 26,om 4 2 27]
 (.keep [2] .ret))
 .skip)))) c78_1))
def c78_3 : ACode := (.keep [] (sr [oq 0 2 (.mv (.c (.str [])))]
(.keep [2] .ret)))
def c78_4 : ACode := (.keep [0] (.seq (sr [om 0 28 0,oq 1 29 (.ixs (.t 28) (ci 0)),⟨2,(some 30),none,.call 74 [(.c (.str [43,45,42,47,37,38,124,94,60,62,33,61,40,41,91,93,123,125,59,44])),.t 29],[]⟩]
(.keep [0,30] (.cond (.t 30)
 (sr [om 0 31 0,oq 1 32 (.sls (.t 31) none (some (ci 1))),om 2 2 32]
 (.keep [2] .ret))
 .skip))) c78_3))
def c78 : AFn := ⟨1, 33, (sr [oq 0 2 (.mv (.c (.str [])))]
(.keep [0] (sr [oq 0 5 (.bsl 1 false [(.c (.str [38,38])),(.c (.str [124,124])),(.c (.str [61,61])),(.c (.str [33,61])),(.c (.str [60,61])),(.c (.str [62,61])),(.c (.str [60,60])),(.c (.str [62,62]))]),om 1 3 5]
(.keep [0,3] (.seq (sr [oq 0 4 (.mv (ci 0))]
(.keep [0,3,4] (.block 0
 (.loop
 (.keep [0,3,4] (.seq (sr [om 0 6 4,om 1 7 3,oq 2 8 (.len .l (.t 7)),oq 3 9 (.bin .lss .num (.t 6) (.t 8))]
 (.keep [0,3,4,9] (.cond (.t 9)
 .skip
 (.exit 0)))) c78_2)))))) c78_4))))), [.tmp 2]⟩
def c79 : AFn := ⟨2, 11, (sr [oq 0 4 (.mv (.c (.bool false)))]
(.keep [0,1] (sr [om 0 5 0,on 1 6 5,oa 2 7 0 6,ol 3 8 7,om 4 9 1,⟨5,(some 10),none,.call 98 [.t 8,.t 9],[]⟩,om 6 4 10]
(.keep [4] .ret)))), [.tmp 4]⟩
def c80 : AFn := ⟨3, 14, (sr [om 0 6 1,om 1 7 2,oq 2 8 (.bin .geq .num (.t 6) (.t 7))]
(.keep [0,8] (.cond (.t 8)
 (.reg false [om 0 9 0,om 1 10 0,⟨2,(some 11),none,.call 49 [.t 10],[]⟩,oq 3 12 (.fld false 3 1 (.t 11)),⟨4,(some 13),none,.call 86 [.t 9,ci 2,.t 12],[]⟩])
 .skip))), []⟩
def c81_1 : ACode := (.keep [0,2,3] (sr [om 0 23 0,on 1 24 23,oa 2 25 0 24,ol 3 26 25,on 4 27 26,oa 5 28 1 27,ol 6 29 28,oq 7 30 (.bin .add .num (.t 29) (ci 1)),on 8 31 26,oa 9 32 1 31,⟨10,none,none,.op (.st 1 (.t 32) (.t 30)),[]⟩]
(.keep [2,3] (sr [oa 0 33 1 3,ol 1 34 33,oa 2 35 3 3,ol 3 36 35,oq 4 37 (.build [(.str []),(.int .i64 0)] [(0,1,(.t 34)),(1,1,(.t 36))]),⟨5,none,none,.op (.st 2 (.t 2) (.t 37)),[]⟩]
(.keep [2] .ret)))))
def c81_2 : ACode := (.keep [0,2,3] (.seq (sr [oa 0 10 0 3,ol 1 11 10,oq 2 12 (.bin .neq .num (.t 11) (ci 0)),om 3 13 12,og 4 14 13 false (.fa 1 (.t 3)),og 5 15 13 false (.ld false 1 (.t 14)),⟨6,(some 16),(some (13,false)),.call 99 [.t 15],[]⟩,oq 7 17 (.pick (.t 13) (.c (.bool true)) (.t 16))]
(.keep [0,2,3,17] (.cond (.t 17)
 (sr [om 0 18 0,oa 1 19 3 3,ol 2 20 19,⟨3,(some 21),none,.call 86 [.t 18,ci 11,.t 20],[]⟩]
 (.keep [2] (sr [oq 0 22 (.build [(.str []),(.int .i64 0)] []),⟨1,none,none,.op (.st 2 (.t 2) (.t 22)),[]⟩]
 (.keep [2] .ret))))
 .skip))) c81_1))
def c81 : AFn := ⟨1, 38, (sr [oq 0 2 (.allocL [(.str []),(.int .i64 0)])]
(.keep [0,2] (sr [om 0 4 0,⟨1,(some 5),none,.call 49 [.t 4],[]⟩,oq 2 3 (.allocL [(.int .i64 0),(.str []),(.int .i64 0),(.int .i64 0)]),⟨3,none,none,.op (.st 4 (.t 3) (.t 5)),[]⟩]
(.keep [0,2,3] (.seq (sr [om 0 6 0,⟨1,(some 7),none,.call 48 [.t 6],[]⟩,oq 2 8 (.un .not (.t 7))]
(.keep [0,2,3,8] (.cond (.t 8)
 (sr [oq 0 9 (.build [(.str []),(.int .i64 0)] []),⟨1,none,none,.op (.st 2 (.t 2) (.t 9)),[]⟩]
 (.keep [2] .ret))
 .skip))) c81_2))))), [.cell 2 true 2]⟩
def c82 : AFn := ⟨2, 10, (.reg false [om 0 4 0,on 1 5 4,oa 2 6 0 5,ol 3 7 6,om 4 8 1,⟨5,(some 9),none,.call 100 [.t 7,.t 8],[]⟩]), []⟩
def c83_1 : ACode := (.keep [0] (sr [om 0 15 0,on 1 16 15,oa 2 17 0 16,ol 3 18 17,on 4 19 18,oa 5 20 1 19,ol 6 21 20,oq 7 22 (.bin .add .num (.t 21) (ci 1)),on 8 23 18,oa 9 24 1 23,⟨10,none,none,.op (.st 1 (.t 24) (.t 22)),[]⟩]
(.keep [0] (sr [oq 0 2 (.allocL [(.int .i64 0),(.str []),.nils,(.bool false),(.bool false),.nils,(.int .i64 0),(.int .i64 0),(.int .i64 0),(.str []),.nils,(.int .i64 0)])]
(.keep [0,2] (sr [om 0 25 0,⟨1,(some 26),none,.call 81 [.t 25],[]⟩,oq 2 3 (.allocL [(.str []),(.int .i64 0)]),⟨3,none,none,.op (.st 2 (.t 3) (.t 26)),[]⟩]
(.keep [0,2,3] (sr [oa 0 27 0 3,ol 1 28 27,oa 2 29 1 2,⟨3,none,none,.op (.st 1 (.t 29) (.t 28)),[]⟩]
(.keep [0,2,3] (sr [oa 0 30 1 3,ol 1 31 30,oa 2 32 0 2,⟨3,none,none,.op (.st 1 (.t 32) (.t 31)),[]⟩]
(.keep [0,2] (sr [om 0 33 0,⟨1,(some 34),none,.call 101 [.t 33],[]⟩,oa 2 35 2 2,⟨3,none,none,.op (.st 1 (.t 35) (.t 34)),[]⟩]
(.keep [0,2] (sr [om 0 36 0,⟨1,(some 37),none,.call 102 [.t 36],[]⟩,oa 2 38 3 2,⟨3,none,none,.op (.st 2 (.t 38) (.t 37)),[]⟩]
(.keep [0,2] (sr [om 0 39 0,⟨1,(some 40),none,.call 82 [.t 39,(.c (.str [123]))],[]⟩]
(.keep [0,2] (sr [om 0 41 0,on 1 42 41,oa 2 43 1 42,ol 3 44 43,oq 4 45 (.bin .add .num (.t 44) (ci 1)),on 5 46 41,oa 6 47 1 46,⟨7,none,none,.op (.st 1 (.t 47) (.t 45)),[]⟩]
(.keep [0,2] (sr [om 0 48 0,⟨1,(some 49),none,.call 103 [.t 48,(.c (.str [114,101,116,117,114,110]))],[]⟩,oa 2 50 5 2,⟨3,none,none,.op (.st 1 (.t 50) (.t 49)),[]⟩]
(.keep [0,2] (sr [om 0 51 0,⟨1,(some 52),none,.call 82 [.t 51,(.c (.str [114,101,116,117,114,110]))],[]⟩]
(.keep [0,2] (sr [om 0 53 0,⟨1,(some 54),none,.call 104 [.t 53],[]⟩,oa 2 55 6 2,⟨3,none,none,.op (.st 6 (.t 55) (.t 54)),[]⟩]
(.keep [0,2] (sr [om 0 56 0,⟨1,(some 57),none,.call 82 [.t 56,(.c (.str [59]))],[]⟩]
(.keep [0,2] (sr [om 0 58 0,⟨1,(some 59),none,.call 82 [.t 58,(.c (.str [125]))],[]⟩]
(.keep [0,2] (sr [om 0 60 0,on 1 61 60,oa 2 62 1 61,ol 3 63 62,oq 4 64 (.bin .sub .num (.t 63) (ci 1)),on 5 65 60,oa 6 66 1 65,⟨7,none,none,.op (.st 1 (.t 66) (.t 64)),[]⟩]
(.keep [0,2] (.reg true [om 0 67 0,om 1 68 0,on 2 69 68,oa 3 70 2 69,oa 4 71 2 70,ol 5 72 71,oq 6 73 (.ld true 12 (.t 2)),⟨7,(some 74),none,.op (.bsl 12 false [.t 73]),[5]⟩,oq 8 75 (.app 12 152 false (.t 72) (.t 74)),on 9 76 67,oa 10 77 2 76,oa 11 78 2 77,⟨12,none,none,.op (.st 1 (.t 78) (.t 75)),[]⟩]))))))))))))))))))))))))))))))))
def c83 : AFn := ⟨1, 79, (sr [om 0 4 0,om 1 5 0,on 2 6 5,oa 3 7 2 6,oa 4 8 2 7,ol 5 9 8,oq 6 10 (.len .l (.t 9)),⟨7,(some 11),none,.call 80 [.t 4,.t 10,ci 16],[]⟩]
(.keep [0] (.seq (sr [om 0 12 0,⟨1,(some 13),none,.call 48 [.t 12],[]⟩,oq 2 14 (.un .not (.t 13))]
(.keep [0,14] (.cond (.t 14)
 .ret
 .skip))) c83_1))), []⟩
def c84_1 : ACode := (.keep [0] (sr [om 0 22 0,⟨1,(some 23),none,.call 82 [.t 22,(.c (.str [123]))],[]⟩]
(.keep [0] (sr [om 0 24 0,on 1 25 24,oa 2 26 1 25,ol 3 27 26,oq 4 28 (.bin .add .num (.t 27) (ci 1)),on 5 29 24,oa 6 30 1 29,⟨7,none,none,.op (.st 1 (.t 30) (.t 28)),[]⟩]
(.keep [0] (sr [om 0 31 0,⟨1,(some 32),none,.call 103 [.t 31,(.c (.str [125]))],[]⟩,om 2 3 32]
(.keep [0,3] (sr [om 0 33 0,⟨1,(some 34),none,.call 82 [.t 33,(.c (.str [125]))],[]⟩]
(.keep [0,3] (sr [om 0 35 0,on 1 36 35,oa 2 37 1 36,ol 3 38 37,oq 4 39 (.bin .sub .num (.t 38) (ci 1)),on 5 40 35,oa 6 41 1 40,⟨7,none,none,.op (.st 1 (.t 41) (.t 39)),[]⟩]
(.keep [3] (sr [om 0 42 3,om 1 2 42]
(.keep [2] .ret)))))))))))))
def c84 : AFn := ⟨1, 43, (sr [oq 0 2 (.mv (.c .nils))]
(.keep [0] (.seq (sr [om 0 4 0,⟨1,(some 5),none,.call 48 [.t 4],[]⟩,om 2 6 5,og 3 7 6 true (.mv (.t 0)),⟨4,(some 8),(some (6,true)),.call 79 [.t 7,(.c (.str [123]))],[]⟩,oq 5 9 (.pick (.t 6) (.t 8) (.c (.bool false))),om 6 10 9,og 7 11 10 true (.mv (.t 0)),og 8 12 10 true (.nck (.t 11)),og 9 13 10 true (.fa 1 (.t 12)),og 10 14 10 true (.ld false 1 (.t 13)),og 11 15 10 true (.bin .eql .num (.t 14) (ci 32)),oq 12 16 (.pick (.t 10) (.t 15) (.c (.bool false)))]
(.keep [0,16] (.cond (.t 16)
 (.reg false [om 0 17 0,om 1 18 0,⟨2,(some 19),none,.call 49 [.t 18],[]⟩,oq 3 20 (.fld false 3 1 (.t 19)),⟨4,(some 21),none,.call 86 [.t 17,ci 2,.t 20],[]⟩])
 .skip))) c84_1))), [.tmp 2]⟩
def c85_1 : ACode := (.keep [0,2] (.reg false [om 0 73 0,⟨1,(some 74),none,.call 82 [.t 73,(.c (.str [93]))],[]⟩]))
def c85_2 : ACode := (.keep [0,2,4] (.seq (sr [om 0 58 0,⟨1,(some 59),none,.call 48 [.t 58],[]⟩]
(.keep [0,2,4,59] (.cond (.t 59)
 (sr [oa 0 60 2 4,ol 1 61 60,oa 2 62 4 2,⟨3,none,none,.op (.st 1 (.t 62) (.t 61)),[]⟩]
 (.keep [0,2] (.reg false [om 0 63 0,on 1 64 63,oa 2 65 0 64,ol 3 66 65,on 4 67 66,oa 5 68 1 67,ol 6 69 68,oq 7 70 (.bin .add .num (.t 69) (ci 1)),on 8 71 66,oa 9 72 1 71,⟨10,none,none,.op (.st 1 (.t 72) (.t 70)),[]⟩])))
 .skip))) c85_1))
def c85_3 : ACode := (.keep [0,2] (sr [om 0 92 0,⟨1,(some 93),none,.call 82 [.t 92,(.c (.str [59]))],[]⟩]
(.keep [0,2] (.reg true [om 0 94 0,om 1 95 0,on 2 96 95,oa 3 97 2 96,oa 4 98 0 97,ol 5 99 98,oq 6 100 (.ld true 6 (.t 2)),⟨7,(some 101),none,.op (.bsl 6 false [.t 100]),[5]⟩,oq 8 102 (.app 6 56 false (.t 99) (.t 101)),on 9 103 94,oa 10 104 2 103,oa 11 105 0 104,⟨12,none,none,.op (.st 1 (.t 105) (.t 102)),[]⟩]))))
def c85_4 : ACode := (.keep [0,2] (.seq (sr [om 0 75 0,⟨1,(some 76),none,.call 79 [.t 75,(.c (.str [98,121]))],[]⟩]
(.keep [0,2,76] (.cond (.t 76)
 (sr [om 0 77 0,on 1 78 77,oa 2 79 0 78,ol 3 80 79,on 4 81 80,oa 5 82 1 81,ol 6 83 82,oq 7 84 (.bin .add .num (.t 83) (ci 1)),on 8 85 80,oa 9 86 1 85,⟨10,none,none,.op (.st 1 (.t 86) (.t 84)),[]⟩]
 (.keep [0,2] (sr [om 0 87 0,⟨1,(some 88),none,.call 81 [.t 87],[]⟩,oq 2 5 (.allocL [(.str []),(.int .i64 0)]),⟨3,none,none,.op (.st 2 (.t 5) (.t 88)),[]⟩]
 (.keep [0,2,5] (.reg false [oa 0 89 0 5,ol 1 90 89,oa 2 91 5 2,⟨3,none,none,.op (.st 1 (.t 91) (.t 90)),[]⟩])))))
 .skip))) c85_3))
def c85 : AFn := ⟨1, 106, (sr [om 0 6 0,om 1 7 0,on 2 8 7,oa 3 9 2 8,oa 4 10 0 9,ol 5 11 10,oq 6 12 (.len .l (.t 11)),⟨7,(some 13),none,.call 80 [.t 6,.t 12,ci 32],[]⟩]
(.keep [0] (sr [om 0 14 0,⟨1,(some 15),none,.call 102 [.t 14],[]⟩,oq 2 16 (.build [(.int .i64 0),(.str []),(.bool false),(.bool false),(.int .i64 0),(.str [])] [(2,2,(.t 15))]),oq 3 2 (.allocL [(.int .i64 0),(.str []),(.bool false),(.bool false),(.int .i64 0),(.str [])]),⟨4,none,none,.op (.st 6 (.t 2) (.t 16)),[]⟩]
(.keep [0,2] (sr [om 0 17 0,⟨1,(some 18),none,.call 81 [.t 17],[]⟩,oq 2 3 (.allocL [(.str []),(.int .i64 0)]),⟨3,none,none,.op (.st 2 (.t 3) (.t 18)),[]⟩]
(.keep [0,2,3] (sr [oa 0 19 0 3,ol 1 20 19,oa 2 21 1 2,⟨3,none,none,.op (.st 1 (.t 21) (.t 20)),[]⟩]
(.keep [0,2,3] (sr [oa 0 22 1 3,ol 1 23 22,oa 2 24 0 2,⟨3,none,none,.op (.st 1 (.t 24) (.t 23)),[]⟩]
(.keep [0,2] (.seq (sr [om 0 25 0,⟨1,(some 26),none,.call 79 [.t 25,(.c (.str [91]))],[]⟩]
(.keep [0,2,26] (.cond (.t 26)
 (sr [om 0 27 0,on 1 28 27,oa 2 29 0 28,ol 3 30 29,on 4 31 30,oa 5 32 1 31,ol 6 33 32,oq 7 34 (.bin .add .num (.t 33) (ci 1)),on 8 35 30,oa 9 36 1 35,⟨10,none,none,.op (.st 1 (.t 36) (.t 34)),[]⟩]
 (.keep [0,2] (sr [om 0 37 0,⟨1,(some 38),none,.call 49 [.t 37],[]⟩,oq 2 4 (.allocL [(.int .i64 0),(.str []),(.int .i64 0),(.int .i64 0)]),⟨3,none,none,.op (.st 4 (.t 4) (.t 38)),[]⟩]
 (.keep [0,2,4] (.seq (sr [oa 0 39 0 4,ol 1 40 39,oq 2 41 (.bin .neq .num (.t 40) (ci 1))]
 (.keep [0,2,4,41] (.cond (.t 41)
 (.reg false [om 0 42 0,oa 1 43 3 4,ol 2 44 43,⟨3,(some 45),none,.call 86 [.t 42,ci 11,.t 44],[]⟩])
 (sr [oa 0 46 2 4,ol 1 47 46,oq 2 48 (.bin .lss .num (.t 47) (ci 1)),om 3 49 48,og 4 50 49 false (.fa 2 (.t 4)),og 5 51 49 false (.ld false 1 (.t 50)),og 6 52 49 false (.bin .gtr .num (.t 51) (ci 64)),oq 7 53 (.pick (.t 49) (.c (.bool true)) (.t 52))]
 (.keep [0,2,4,53] (.cond (.t 53)
 (.reg false [om 0 54 0,oa 1 55 3 4,ol 2 56 55,⟨3,(some 57),none,.call 86 [.t 54,ci 2,.t 56],[]⟩])
 .skip)))))) c85_2)))))
 .skip))) c85_4))))))))))), []⟩
def c86 : AFn := ⟨3, 28, (sr [om 0 6 0,on 1 7 6,oa 2 8 0 7,ol 3 9 8,on 4 10 9,oa 5 11 3 10,ol 6 12 11,oq 7 13 (.bin .eql .num (.t 12) (ci 0))]
(.keep [0,1,2,13] (.cond (.t 13)
 (sr [om 0 14 0,on 1 15 14,oa 2 16 0 15,ol 3 17 16,om 4 18 1,on 5 19 17,oa 6 20 3 19,⟨7,none,none,.op (.st 1 (.t 20) (.t 18)),[]⟩]
 (.keep [0,2] (.reg false [om 0 21 0,on 1 22 21,oa 2 23 0 22,ol 3 24 23,om 4 25 2,on 5 26 24,oa 6 27 4 26,⟨7,none,none,.op (.st 1 (.t 27) (.t 25)),[]⟩])))
 .skip))), []⟩
def c87 : AFn := ⟨3, 23, (sr [om 0 6 0,on 1 7 6,oa 2 8 10 7,ol 3 9 8,oq 4 10 (.bin .eql .num (.t 9) (ci 0)),om 5 11 10,og 6 12 11 true (.mv (.t 1)),og 7 13 11 true (.bin .neq .num (.t 12) (ci 0)),oq 8 14 (.pick (.t 11) (.t 13) (.c (.bool false)))]
(.keep [0,1,2,14] (.cond (.t 14)
 (sr [om 0 15 0,om 1 16 1,on 2 17 15,oa 3 18 10 17,⟨4,none,none,.op (.st 1 (.t 18) (.t 16)),[]⟩]
 (.keep [0,2] (.reg false [om 0 19 0,om 1 20 2,on 2 21 19,oa 3 22 11 21,⟨4,none,none,.op (.st 1 (.t 22) (.t 20)),[]⟩])))
 .skip))), []⟩
def c88_1 : ACode := (.keep [0,3,4] (.seq (.block 1
 (.reg true [om 0 23 0,oa 1 24 2 3,ol 2 25 24,om 3 26 4,oq 4 27 (.ixa 3 (.t 25) (.t 26)),oa 5 28 0 27,ol 6 29 28,oa 7 30 2 3,ol 8 31 30,om 9 32 4,oq 10 33 (.ixa 3 (.t 31) (.t 32)),oa 11 34 1 33,oq 12 35 (.ld true 2 (.t 34)),oa 13 36 0 3,ol 14 37 36,⟨15,(some 38),none,.call 105 [.t 23,.t 29,.t 35,.t 37],[]⟩]))
(.keep [0,3,4] (.reg false [om 0 21 4,oq 1 22 (.bin .add .num (.t 21) (ci 1)),om 2 4 22]))))
def c88_2 : ACode := (.keep [0,3,5] (.seq (.block 3
 (.reg false [om 0 53 0,oa 1 54 5 3,ol 2 55 54,om 3 56 5,oq 4 57 (.ixa 9 (.t 55) (.t 56)),oq 5 58 (.ld true 9 (.t 57)),⟨6,(some 59),none,.call 106 [.t 53,.t 58],[]⟩]))
(.keep [0,3,5] (.reg false [om 0 51 5,oq 1 52 (.bin .add .num (.t 51) (ci 1)),om 2 5 52]))))
def c88_3 : ACode := (.keep [0] (.reg false [om 0 78 0,om 1 79 0,on 2 80 79,oa 3 81 0 80,oq 4 82 (.ld true 6 (.t 81)),⟨5,(some 83),none,.call 109 [.t 82],[]⟩,on 6 84 78,oa 7 85 0 84,⟨8,none,none,.op (.st 6 (.t 85) (.t 83)),[]⟩]))
def c88_4 : ACode := (.keep [0,3] (.seq (sr [om 0 60 0,on 1 61 60,oa 2 62 10 61,ol 3 63 62,oq 4 64 (.bin .eql .num (.t 63) (ci 0))]
(.keep [0,3,64] (.cond (.t 64)
 (sr [om 0 65 0,oa 1 66 6 3,oq 2 67 (.ld true 6 (.t 66)),⟨3,(some 68),none,.call 107 [.t 65,.t 67],[]⟩,oq 4 6 (.allocL [(.bool false),(.bool false)]),⟨5,none,none,.op (.st 2 (.t 6) (.t 68)),[]⟩]
 (.keep [0,3,6] (.reg true [om 0 69 0,oq 1 70 (.ld true 2 (.t 6)),oa 2 71 3 3,oq 3 72 (.ld true 2 (.t 71)),oa 5 74 6 3,oa 6 75 5 74,ol 7 76 75,⟨4,(some 73),none,.call 108 [.t 70,.t 72],[6]⟩,⟨8,(some 77),none,.call 87 [.t 69,.t 73,.t 76],[]⟩])))
 .skip))) c88_3))
def c88_5 : ACode := (.keep [0,3] (.seq (sr [oq 0 5 (.mv (ci 0))]
(.keep [0,3,5] (.block 2
 (.loop
 (.keep [0,3,5] (.seq (sr [om 0 39 5,oa 1 40 5 3,ol 2 41 40,oq 3 42 (.len .l (.t 41)),oq 4 43 (.bin .lss .num (.t 39) (.t 42)),om 5 44 43,og 6 45 44 true (.mv (.t 0)),og 7 46 44 true (.nck (.t 45)),og 8 47 44 true (.fa 10 (.t 46)),og 9 48 44 true (.ld false 1 (.t 47)),og 10 49 44 true (.bin .eql .num (.t 48) (ci 0)),oq 11 50 (.pick (.t 44) (.t 49) (.c (.bool false)))]
 (.keep [0,3,5,50] (.cond (.t 50)
 .skip
 (.exit 2)))) c88_2)))))) c88_4))
def c88 : AFn := ⟨2, 86, (sr [oq 0 3 (.boxL (.t 1))]
(.keep [0,3] (sr [om 0 7 0,on 1 8 7,oa 2 9 0 8,oa 3 10 4 9,ol 4 11 10,oq 5 12 (.bin .add .num (.t 11) (ci 1)),on 6 13 7,oa 7 14 0 13,oa 8 15 4 14,⟨9,none,none,.op (.st 1 (.t 15) (.t 12)),[]⟩]
(.keep [0,3] (.seq (sr [oq 0 4 (.mv (ci 0))]
(.keep [0,3,4] (.block 0
 (.loop
 (.keep [0,3,4] (.seq (sr [om 0 16 4,oa 1 17 2 3,ol 2 18 17,oq 3 19 (.len .l (.t 18)),oq 4 20 (.bin .lss .num (.t 16) (.t 19))]
 (.keep [0,3,4,20] (.cond (.t 20)
 .skip
 (.exit 0)))) c88_1)))))) c88_5))))), []⟩
def c89_1 : ACode := (.keep [0,1,4] (.seq (.block 1
 (.reg false [om 0 27 0,om 1 28 1,om 2 29 4,oq 3 30 (.ixa 9 (.t 28) (.t 29)),oq 4 31 (.ld true 9 (.t 30)),⟨5,(some 32),none,.call 106 [.t 27,.t 31],[]⟩]))
(.keep [0,1,4] (.reg false [om 0 25 4,oq 1 26 (.bin .add .num (.t 25) (ci 1)),om 2 4 26]))))
def c89_2 : ACode := (.keep [0] (.reg false [om 0 33 0,om 1 34 0,on 2 35 34,oa 3 36 0 35,oq 4 37 (.ld true 6 (.t 36)),⟨5,(some 38),none,.call 109 [.t 37],[]⟩,on 6 39 33,oa 7 40 0 39,⟨8,none,none,.op (.st 6 (.t 40) (.t 38)),[]⟩]))
def c89 : AFn := ⟨2, 41, (sr [om 0 5 0,on 1 6 5,oa 2 7 0 6,oa 3 8 4 7,ol 4 9 8,oq 5 10 (.bin .add .num (.t 9) (ci 1)),on 6 11 5,oa 7 12 0 11,oa 8 13 4 12,⟨9,none,none,.op (.st 1 (.t 13) (.t 10)),[]⟩]
(.keep [0,1] (.seq (sr [oq 0 4 (.mv (ci 0))]
(.keep [0,1,4] (.block 0
 (.loop
 (.keep [0,1,4] (.seq (sr [om 0 14 4,om 1 15 1,oq 2 16 (.len .l (.t 15)),oq 3 17 (.bin .lss .num (.t 14) (.t 16)),om 4 18 17,og 5 19 18 true (.mv (.t 0)),og 6 20 18 true (.nck (.t 19)),og 7 21 18 true (.fa 10 (.t 20)),og 8 22 18 true (.ld false 1 (.t 21)),og 9 23 18 true (.bin .eql .num (.t 22) (ci 0)),oq 10 24 (.pick (.t 18) (.t 23) (.c (.bool false)))]
 (.keep [0,1,4,24] (.cond (.t 24)
 .skip
 (.exit 0)))) c89_1)))))) c89_2))), []⟩
def c90 : AFn := ⟨2, 6, (sr [oq 0 2 (.boxH (.t 0)),oq 1 3 (.boxH (.t 1)),oq 2 4 (.mv (.c .nilf))]
(.keep [2,3] (sr [oq 0 5 (.mkf (.func 110) [] [.t 2,.t 3]),om 1 4 5]
(.keep [4] .ret)))), [.tmp 4]⟩
def c92 : AFn := ⟨2, 74, (sr [oq 0 3 (.boxL (.t 1))]
(.keep [0,3] (sr [oa 0 7 0 3,ol 1 8 7]
(.keep [0,3,8] (.block 0
 (sr [oq 0 10 (.bin .eql .num (.t 8) (ci 0)),om 1 9 10]
 (.keep [0,3,8,9] (.cond (.t 9)
 (sr [om 0 11 0,oa 1 12 6 3,ol 2 13 12,oq 3 14 (.ixa 6 (.t 13) (ci 0)),oq 4 15 (.ld true 6 (.t 14)),⟨5,(some 16),none,.call 111 [.t 11,.t 15],[]⟩,om 6 4 16]
 (.keep [0,3,4] (sr [om 0 17 0,om 1 18 4,⟨2,(some 19),none,.call 112 [.t 17,.t 18],[]⟩,om 3 5 19]
 (.keep [0,3,5] (.reg true [om 0 20 0,on 1 21 20,oa 2 22 5 21,ol 3 23 22,oa 4 24 4 3,ol 5 25 24,om 6 26 5,⟨7,none,none,.op (.mup .s (.t 23) (.t 25) (.t 26)),[]⟩])))))
 (sr [oq 0 28 (.bin .eql .num (.t 8) (ci 1)),om 1 27 28]
 (.keep [0,3,8,27] (.cond (.t 27)
 (.reg false [om 0 29 0,oq 1 30 (.ld true 9 (.t 3)),⟨2,(some 31),none,.call 113 [.t 29,.t 30],[]⟩])
 (sr [oq 0 33 (.bin .eql .num (.t 8) (ci 2)),om 1 32 33]
 (.keep [0,3,8,32] (.cond (.t 32)
 (.reg false [om 0 34 0,oq 1 35 (.ld true 9 (.t 3)),⟨2,(some 36),none,.call 114 [.t 34,.t 35],[]⟩])
 (sr [oq 0 38 (.bin .eql .num (.t 8) (ci 3)),om 1 37 38]
 (.keep [0,3,8,37] (.cond (.t 37)
 (.reg false [om 0 39 0,oq 1 40 (.ld true 9 (.t 3)),⟨2,(some 41),none,.call 115 [.t 39,.t 40],[]⟩])
 (sr [oq 0 43 (.bin .eql .num (.t 8) (ci 4)),om 1 42 43]
 (.keep [0,3,8,42] (.cond (.t 42)
 (.seq (.reg true [om 0 44 0,on 1 45 44,oa 2 46 2 45,ol 3 47 46,oa 4 48 4 3,ol 5 49 48,oq 6 50 (.lkp .s (.int .i64 0) false (.t 47) (.t 49)),om 7 6 50])
 (.keep [0,3,6] (sr [om 0 51 0,om 1 52 6,oq 2 53 (.build z7 [(0,1,(ci 9)),(5,1,(.t 52))]),⟨3,(some 54),none,.call 28 [.t 51,.t 53],[]⟩]
 (.keep [0,3,6] (sr [om 0 55 0,oa 1 56 7 3,ol 2 57 56,⟨3,(some 58),none,.call 27 [.t 55,.t 57],[]⟩]
 (.keep [0,6] (.reg false [om 0 59 0,om 1 60 6,oq 2 61 (.build z7 [(0,1,(ci 10)),(5,1,(.t 60))]),⟨3,(some 62),none,.call 28 [.t 59,.t 61],[]⟩])))))))
 (sr [oq 0 64 (.bin .eql .num (.t 8) (ci 5)),om 1 63 64]
 (.keep [0,3,63] (.cond (.t 63)
 (.reg false [om 0 65 0,om 1 66 0,oa 2 67 6 3,ol 3 68 67,oq 4 69 (.ixa 6 (.t 68) (ci 0)),oq 5 70 (.ld true 6 (.t 69)),⟨6,(some 71),none,.call 111 [.t 66,.t 70],[]⟩,oq 7 72 (.build z7 [(0,1,(ci 11)),(3,1,(.t 71))]),⟨8,(some 73),none,.call 28 [.t 65,.t 72],[]⟩])
 .skip))))))))))))))))))))))), []⟩
def c94_1 : ACode := (.keep [1,2,4,6] (.reg false [om 0 13 6,oq 1 14 (.bin .add .num (.t 13) (ci 1)),om 2 6 14]))
def c94_2 : ACode := (.keep [1,2,4,6] (.seq (.block 1
 (sr [oa 0 15 0 2,oa 1 16 0 15,ol 2 17 16,om 3 18 6,oq 4 19 (.ixa 6 (.t 17) (.t 18)),oa 5 20 1 19,ol 6 21 20,om 7 22 1,oq 8 23 (.bin .eql .num (.t 21) (.t 22))]
 (.keep [1,2,4,6,23] (.cond (.t 23)
 (sr [oa 0 24 0 2,oa 1 25 0 24,ol 2 26 25,om 3 27 6,oq 4 28 (.ixa 6 (.t 26) (.t 27)),oq 5 29 (.ld true 6 (.t 28)),om 6 30 6,⟨7,none,none,.op (.st 6 (.t 4) (.t 29)),[]⟩,om 8 5 30]
 (.keep [4,5] .ret))
 .skip)))) c94_1))
def c94_3 : ACode := (.keep [4] (sr [oq 0 31 (.build [(.int .i64 0),(.str []),(.bool false),(.bool false),(.int .i64 0),(.str [])] []),⟨1,none,none,.op (.st 6 (.t 4) (.t 31)),[]⟩,oq 2 5 (.mv (.c (.int .i64 (-1))))]
(.keep [4,5] .ret)))
def c94 : AFn := ⟨2, 32, (sr [oq 0 2 (.boxL (.t 0)),oq 1 4 (.allocL [(.int .i64 0),(.str []),(.bool false),(.bool false),(.int .i64 0),(.str [])]),oq 2 5 (.mv (ci 0))]
(.keep [1,2,4] (.seq (sr [oq 0 6 (.mv (ci 0))]
(.keep [1,2,4,6] (.block 0
 (.loop
 (.keep [1,2,4,6] (.seq (sr [om 0 7 6,oa 1 8 0 2,oa 2 9 0 8,ol 3 10 9,oq 4 11 (.len .l (.t 10)),oq 5 12 (.bin .lss .num (.t 7) (.t 11))]
 (.keep [1,2,4,6,12] (.cond (.t 12)
 .skip
 (.exit 0)))) c94_2)))))) c94_3))), [.cell 4 true 6,.tmp 5]⟩
def c96_1 : ACode := (.keep [1,2,4,6] (.reg false [om 0 13 6,oq 1 14 (.bin .add .num (.t 13) (ci 1)),om 2 6 14]))
def c96_2 : ACode := (.keep [1,2,4,6] (.seq (.block 1
 (sr [oa 0 15 0 2,oa 1 16 2 15,ol 2 17 16,om 3 18 6,oq 4 19 (.ixa 12 (.t 17) (.t 18)),oa 5 20 1 19,ol 6 21 20,om 7 22 1,oq 8 23 (.bin .eql .num (.t 21) (.t 22))]
 (.keep [1,2,4,6,23] (.cond (.t 23)
 (sr [oa 0 24 0 2,oa 1 25 2 24,ol 2 26 25,om 3 27 6,oq 4 28 (.ixa 12 (.t 26) (.t 27)),oq 5 29 (.ld true 12 (.t 28)),om 6 30 6,⟨7,none,none,.op (.st 12 (.t 4) (.t 29)),[]⟩,om 8 5 30]
 (.keep [4,5] .ret))
 .skip)))) c96_1))
def c96_3 : ACode := (.keep [4] (sr [oq 0 31 (.build [(.int .i64 0),(.str []),.nils,(.bool false),(.bool false),.nils,(.int .i64 0),(.int .i64 0),(.int .i64 0),(.str []),.nils,(.int .i64 0)] []),⟨1,none,none,.op (.st 12 (.t 4) (.t 31)),[]⟩,oq 2 5 (.mv (.c (.int .i64 (-1))))]
(.keep [4,5] .ret)))
def c96 : AFn := ⟨2, 32, (sr [oq 0 2 (.boxL (.t 0)),oq 1 4 (.allocL [(.int .i64 0),(.str []),.nils,(.bool false),(.bool false),.nils,(.int .i64 0),(.int .i64 0),(.int .i64 0),(.str []),.nils,(.int .i64 0)]),oq 2 5 (.mv (ci 0))]
(.keep [1,2,4] (.seq (sr [oq 0 6 (.mv (ci 0))]
(.keep [1,2,4,6] (.block 0
 (.loop
 (.keep [1,2,4,6] (.seq (sr [om 0 7 6,oa 1 8 0 2,oa 2 9 2 8,ol 3 10 9,oq 4 11 (.len .l (.t 10)),oq 5 12 (.bin .lss .num (.t 7) (.t 11))]
 (.keep [1,2,4,6,12] (.cond (.t 12)
 .skip
 (.exit 0)))) c96_2)))))) c96_3))), [.cell 4 true 12,.tmp 5]⟩
def c98 : AFn := ⟨2, 37, (sr [oq 0 4 (.mv (.c (.bool false)))]
(.keep [0,1] (.seq (.reg true [om 0 6 0,on 1 7 6,oa 2 8 0 7,ol 3 9 8,om 4 10 0,on 5 11 10,oa 6 12 1 11,ol 7 13 12,oq 8 14 (.ixa 4 (.t 9) (.t 13)),oq 9 15 (.ld true 4 (.t 14)),oq 10 5 (.allocL [(.int .i64 0),(.str []),(.int .i64 0),(.int .i64 0)]),⟨11,none,none,.op (.st 4 (.t 5) (.t 15)),[]⟩])
(.keep [0,1,5] (sr [om 0 16 0,on 1 17 16,oa 2 18 3 17,ol 3 19 18,oq 4 20 (.bin .eql .num (.t 19) (ci 0)),om 5 21 20,og 6 22 21 true (.fa 0 (.t 5)),og 7 23 21 true (.ld false 1 (.t 22)),og 8 24 21 true (.bin .eql .num (.t 23) (ci 2)),og 9 25 21 true (.mv (.t 24)),og 10 26 25 false (.fa 0 (.t 5)),og 11 27 25 false (.ld false 1 (.t 26)),og 12 28 25 false (.bin .eql .num (.t 27) (ci 0)),og 13 29 21 true (.pick (.t 25) (.c (.bool true)) (.t 28)),oq 14 30 (.pick (.t 21) (.t 29) (.c (.bool false))),om 15 31 30,og 16 32 31 true (.fa 1 (.t 5)),og 17 33 31 true (.ld false 1 (.t 32)),og 18 34 31 true (.mv (.t 1)),og 19 35 31 true (.bin .eql .num (.t 33) (.t 34)),oq 20 36 (.pick (.t 31) (.t 35) (.c (.bool false))),om 21 4 36]
(.keep [4] .ret)))))), [.tmp 4]⟩
def c99_1 : ACode := (.keep [0,3,4] (.reg false [om 0 10 4,oq 1 11 (.bin .add .num (.t 10) (ci 1)),om 2 4 11]))
def c99_2 : ACode := (.keep [0,3,4] (.seq (.block 1
 (sr [om 0 12 3,om 1 13 4,oq 2 14 (.ixa 1 (.t 12) (.t 13)),ol 3 15 14,om 4 16 0,oq 5 17 (.bin .eql .num (.t 15) (.t 16))]
 (.keep [0,3,4,17] (.cond (.t 17)
 (sr [oq 0 2 (.mv (.c (.bool true)))]
 (.keep [2] .ret))
 .skip)))) c99_1))
def c99_3 : ACode := (.keep [] (sr [oq 0 2 (.mv (.c (.bool false)))]
(.keep [2] .ret)))
def c99 : AFn := ⟨1, 18, (sr [oq 0 2 (.mv (.c (.bool false)))]
(.keep [0] (sr [oq 0 5 (.bsl 1 false [(.c (.str [112,117,98,108,105,99])),(.c (.str [115,101,99,114,101,116])),(.c (.str [105,110,116])),(.c (.str [98,111,111,108])),(.c (.str [98,121])),(.c (.str [108,111,99,107])),(.c (.str [102,117,110,99])),(.c (.str [114,101,116,117,114,110])),(.c (.str [116,104,114,101,97,100])),(.c (.str [118,97,114])),(.c (.str [105,102])),(.c (.str [101,108,115,101])),(.c (.str [119,104,105,108,101])),(.c (.str [111,117,116])),(.c (.str [116,114,117,101])),(.c (.str [102,97,108,115,101]))]),om 1 3 5]
(.keep [0,3] (.seq (sr [oq 0 4 (.mv (ci 0))]
(.keep [0,3,4] (.block 0
 (.loop
 (.keep [0,3,4] (.seq (sr [om 0 6 4,om 1 7 3,oq 2 8 (.len .l (.t 7)),oq 3 9 (.bin .lss .num (.t 6) (.t 8))]
 (.keep [0,3,4,9] (.cond (.t 9)
 .skip
 (.exit 0)))) c99_2)))))) c99_3))))), [.tmp 2]⟩
def c100_1 : ACode := (.keep [0] (.reg false [om 0 12 0,on 1 13 12,oa 2 14 1 13,ol 3 15 14,oq 4 16 (.bin .add .num (.t 15) (ci 1)),on 5 17 12,oa 6 18 1 17,⟨7,none,none,.op (.st 1 (.t 18) (.t 16)),[]⟩]))
def c100 : AFn := ⟨2, 19, (sr [om 0 5 0,om 1 6 1,⟨2,(some 7),none,.call 98 [.t 5,.t 6],[]⟩,om 3 4 7]
(.keep [0,4] (.seq (sr [om 0 8 4,oq 1 9 (.un .not (.t 8))]
(.keep [0,9] (.cond (.t 9)
 (sr [om 0 10 0,⟨1,(some 11),none,.call 126 [.t 10,ci 11],[]⟩]
 (.keep [] .ret))
 .skip))) c100_1))), []⟩
def c101_1 : ACode := (.keep [0,3] (.reg false [om 0 41 0,on 1 42 41,oa 2 43 0 42,ol 3 44 43,on 4 45 44,oa 5 46 1 45,ol 6 47 46,oq 7 48 (.bin .add .num (.t 47) (ci 1)),on 8 49 44,oa 9 50 1 49,⟨10,none,none,.op (.st 1 (.t 50) (.t 48)),[]⟩]))
def c101_2 : ACode := (.keep [0,3] (.block 1
 (sr [om 0 22 0,om 1 23 3,oq 2 24 (.len .l (.t 23)),⟨3,(some 25),none,.call 80 [.t 22,.t 24,ci 6],[]⟩]
 (.keep [0,3] (sr [om 0 26 0,⟨1,(some 27),none,.call 102 [.t 26],[]⟩,oq 2 28 (.build [(.str []),(.bool false),(.bool false)] [(1,2,(.t 27))]),oq 3 4 (.allocL [(.str []),(.bool false),(.bool false)]),⟨4,none,none,.op (.st 3 (.t 4) (.t 28)),[]⟩]
 (.keep [0,3,4] (sr [om 0 29 0,⟨1,(some 30),none,.call 81 [.t 29],[]⟩,oq 2 5 (.allocL [(.str []),(.int .i64 0)]),⟨3,none,none,.op (.st 2 (.t 5) (.t 30)),[]⟩]
 (.keep [0,3,4,5] (sr [oa 0 31 0 5,ol 1 32 31,oa 2 33 0 4,⟨3,none,none,.op (.st 1 (.t 33) (.t 32)),[]⟩]
 (.keep [0,3,4] (sr [om 0 34 3,oq 1 35 (.ld true 3 (.t 4)),oq 2 36 (.bsl 3 false [.t 35]),oq 3 37 (.app 3 24 false (.t 34) (.t 36)),om 4 3 37]
 (.keep [0,3] (.seq (sr [om 0 38 0,⟨1,(some 39),none,.call 79 [.t 38,(.c (.str [44]))],[]⟩,oq 2 40 (.un .not (.t 39))]
 (.keep [0,3,40] (.cond (.t 40)
 (.exit 0)
 .skip))) c101_1)))))))))))))
def c101_3 : ACode := (.keep [0,3] (sr [om 0 51 0,⟨1,(some 52),none,.call 82 [.t 51,(.c (.str [41]))],[]⟩]
(.keep [3] (sr [om 0 53 3,om 1 2 53]
(.keep [2] .ret)))))
def c101_4 : ACode := (.keep [0,3] (.seq (.block 0
 (.loop
 (.keep [0,3] (.seq (sr [om 0 20 0,⟨1,(some 21),none,.call 48 [.t 20],[]⟩]
 (.keep [0,3,21] (.cond (.t 21)
 .skip
 (.exit 0)))) c101_2)))) c101_3))
def c101 : AFn := ⟨1, 54, (sr [oq 0 2 (.mv (.c .nils))]
(.keep [0] (sr [oq 0 3 (.mv (.c .nils))]
(.keep [0,3] (sr [om 0 6 0,⟨1,(some 7),none,.call 82 [.t 6,(.c (.str [40]))],[]⟩]
(.keep [0,3] (.seq (sr [om 0 8 0,⟨1,(some 9),none,.call 79 [.t 8,(.c (.str [41]))],[]⟩]
(.keep [0,3,9] (.cond (.t 9)
 (sr [om 0 10 0,on 1 11 10,oa 2 12 0 11,ol 3 13 12,on 4 14 13,oa 5 15 1 14,ol 6 16 15,oq 7 17 (.bin .add .num (.t 16) (ci 1)),on 8 18 13,oa 9 19 1 18,⟨10,none,none,.op (.st 1 (.t 19) (.t 17)),[]⟩]
 (.keep [] (sr [oq 0 2 (.mv (.c .nils))]
 (.keep [2] .ret))))
 .skip))) c101_4))))))), [.tmp 2]⟩
def c102 : AFn := ⟨1, 12, (sr [oq 0 2 (.allocL [(.bool false),(.bool false)])]
(.keep [0,2] (sr [om 0 5 0,⟨1,(some 6),none,.call 127 [.t 5,(.c (.str [112,117,98,108,105,99])),(.c (.str [115,101,99,114,101,116]))],[]⟩,om 2 3 6]
(.keep [0,2,3] (sr [om 0 7 0,⟨1,(some 8),none,.call 127 [.t 7,(.c (.str [105,110,116])),(.c (.str [98,111,111,108]))],[]⟩,om 2 4 8]
(.keep [2,3,4] (sr [om 0 9 4,om 1 10 3,oq 2 11 (.build [(.bool false),(.bool false)] [(0,1,(.t 9)),(1,1,(.t 10))]),⟨3,none,none,.op (.st 2 (.t 2) (.t 11)),[]⟩]
(.keep [2] .ret)))))))), [.cell 2 true 2]⟩
def c103_1 : ACode := (.keep [0,1,5] (.block 1
 (sr [om 0 15 0,⟨1,(some 16),none,.call 128 [.t 15],[]⟩,oq 2 6 (.allocL [(.int .i64 0),(.int .i64 0),(.bool false),(.bool false),(.str []),.nils,.nils,.nils,.nils]),⟨3,none,none,.op (.st 9 (.t 6) (.t 16)),[]⟩]
 (.keep [0,1,5,6] (.reg false [om 0 17 5,oq 1 18 (.ld true 9 (.t 6)),oq 2 19 (.bsl 9 false [.t 18]),oq 3 20 (.app 9 136 false (.t 17) (.t 19)),om 4 5 20])))))
def c103_2 : ACode := (.keep [5] (sr [om 0 21 5,om 1 4 21]
(.keep [4] .ret)))
def c103 : AFn := ⟨2, 22, (sr [oq 0 4 (.mv (.c .nils))]
(.keep [0,1] (sr [oq 0 5 (.mv (.c .nils))]
(.keep [0,1,5] (.seq (.block 0
 (.loop
 (.keep [0,1,5] (.seq (sr [om 0 7 0,⟨1,(some 8),none,.call 48 [.t 7],[]⟩,om 2 9 8,og 3 10 9 true (.mv (.t 0)),og 4 11 9 true (.mv (.t 1)),⟨5,(some 12),(some (9,true)),.call 79 [.t 10,.t 11],[]⟩,og 6 13 9 true (.un .not (.t 12)),oq 7 14 (.pick (.t 9) (.t 13) (.c (.bool false)))]
 (.keep [0,1,5,14] (.cond (.t 14)
 .skip
 (.exit 0)))) c103_1)))) c103_2))))), [.tmp 4]⟩
def c104_1 : ACode := (.keep [0,2] (sr [om 0 7 0,on 1 8 7,oa 2 9 0 8,ol 3 10 9,⟨4,(some 11),none,.call 129 [.t 10,ci 1],[]⟩,⟨5,none,none,.op (.st 6 (.t 2) (.t 11)),[]⟩]
(.keep [2] .ret)))
def c104 : AFn := ⟨1, 12, (sr [oq 0 2 (.allocL [(.int .i64 0),(.int .i64 0),(.int .i64 0),(.str []),.nils,(.int .i64 0)])]
(.keep [0,2] (.seq (sr [om 0 3 0,⟨1,(some 4),none,.call 48 [.t 3],[]⟩,oq 2 5 (.un .not (.t 4))]
(.keep [0,2,5] (.cond (.t 5)
 (sr [oq 0 6 (.build [(.int .i64 0),(.int .i64 0),(.int .i64 0),(.str []),.nils,(.int .i64 0)] []),⟨1,none,none,.op (.st 6 (.t 2) (.t 6)),[]⟩]
 (.keep [2] .ret))
 .skip))) c104_1))), [.cell 2 true 6]⟩
def c105 : AFn := ⟨4, 28, (sr [oq 0 6 (.boxL (.t 2))]
(.keep [0,1,3,6] (.seq (.reg true [om 0 11 0,on 1 12 11,oa 2 13 0 12,oq 3 14 (.ld true 6 (.t 13)),om 4 15 1,oq 5 16 (.ld true 2 (.t 6)),⟨6,(some 17),none,.call 130 [.t 14,.t 15,.t 16],[]⟩,om 7 10 17,oq 8 18 (.ext (.t 10) 0),oq 9 19 (.ext (.t 10) 1),oq 10 8 (.allocL [.nils,.nils,.nils,.nils,(.int .i64 0),.nils]),⟨11,none,none,.op (.st 6 (.t 8) (.t 18)),[]⟩,om 12 9 19])
(.keep [0,3,8,9] (sr [om 0 20 0,om 1 21 9,om 2 22 3,⟨3,(some 23),none,.call 87 [.t 20,.t 21,.t 22],[]⟩]
(.keep [0,8] (.reg false [om 0 24 0,oq 1 25 (.ld true 6 (.t 8)),on 2 26 24,oa 3 27 0 26,⟨4,none,none,.op (.st 6 (.t 27) (.t 25)),[]⟩]))))))), []⟩
def c106_1 : ACode := (.keep [0,3] (sr [om 0 17 0,oa 1 18 6 3,ol 2 19 18,oq 3 20 (.ixa 6 (.t 19) (ci 0)),oq 4 21 (.ld true 6 (.t 20)),⟨5,(some 22),none,.call 107 [.t 17,.t 21],[]⟩,oq 6 5 (.allocL [(.bool false),(.bool false)]),⟨7,none,none,.op (.st 2 (.t 5) (.t 22)),[]⟩]
(.keep [0,3,5] (sr [oa 0 23 1 5,ol 1 24 23]
(.keep [0,3,24] (.cond (.t 24)
 (.reg false [om 0 25 0,oa 1 26 6 3,ol 2 27 26,oq 3 28 (.ixa 6 (.t 27) (ci 0)),oa 4 29 5 28,ol 5 30 29,⟨6,(some 31),none,.call 87 [.t 25,ci 14,.t 30],[]⟩])
 .skip))))))
def c106_2 : ACode := (.keep [0,3,7,64] (.cond (.t 64)
 (sr [om 0 67 0,oa 1 68 6 3,ol 2 69 68,oq 3 70 (.ixa 6 (.t 69) (ci 0)),oq 4 71 (.ld true 6 (.t 70)),⟨5,(some 72),none,.call 132 [.t 67,.t 71,(.c (.bool true))],[]⟩]
 (.keep [0,3] (sr [om 0 73 0,on 1 74 73,oa 2 75 10 74,ol 3 76 75,oq 4 77 (.bin .eql .num (.t 76) (ci 0))]
 (.keep [0,3,77] (.cond (.t 77)
 (sr [om 0 78 0,oa 1 79 7 3,ol 2 80 79,⟨3,(some 81),none,.call 89 [.t 78,.t 80],[]⟩]
 (.keep [0,3] (.reg false [om 0 82 0,oa 1 83 8 3,ol 2 84 83,⟨3,(some 85),none,.call 89 [.t 82,.t 84],[]⟩])))
 .skip)))))
 (sr [oq 0 87 (.bin .eql .num (.t 7) (ci 4)),om 1 86 87]
 (.keep [0,3,86] (.cond (.t 86)
 (.reg false [om 0 88 0,oq 1 89 (.ld true 9 (.t 3)),⟨2,(some 90),none,.call 133 [.t 88,.t 89],[]⟩])
 (.seq (sr [om 0 8 0,on 1 9 8,oa 2 10 6 9,ol 3 11 10,oq 4 12 (.bin .geq .num (.t 11) (ci 0))]
 (.keep [0,3,12] (.cond (.t 12)
 (sr [om 0 13 0,oa 1 14 1 3,ol 2 15 14,⟨3,(some 16),none,.call 87 [.t 13,ci 15,.t 15],[]⟩]
 (.keep [] .ret))
 .skip))) c106_1))))))
def c106 : AFn := ⟨2, 91, (sr [oq 0 3 (.boxL (.t 1))]
(.keep [0,3] (sr [oa 0 6 0 3,ol 1 7 6]
(.keep [0,3,7] (.block 0
 (sr [oq 0 33 (.bin .eql .num (.t 7) (ci 0)),om 1 32 33]
 (.keep [0,3,7,32] (.cond (.t 32)
 (sr [om 0 34 0,oa 1 35 6 3,ol 2 36 35,oq 3 37 (.ixa 6 (.t 36) (ci 0)),oq 4 38 (.ld true 6 (.t 37)),⟨5,(some 39),none,.call 107 [.t 34,.t 38],[]⟩,oq 6 4 (.allocL [(.bool false),(.bool false)]),⟨7,none,none,.op (.st 2 (.t 4) (.t 39)),[]⟩]
 (.keep [0,3,4] (.seq (.reg true [om 0 40 0,oq 1 41 (.ld true 2 (.t 4)),oa 2 42 2 3,oq 3 43 (.ld true 2 (.t 42)),oa 5 45 6 3,ol 6 46 45,oq 7 47 (.ixa 6 (.t 46) (ci 0)),oa 8 48 5 47,ol 9 49 48,⟨4,(some 44),none,.call 108 [.t 41,.t 43],[5,8]⟩,⟨10,(some 50),none,.call 87 [.t 40,.t 44,.t 49],[]⟩])
 (.keep [0,3] (.reg false [om 0 51 0,oa 1 52 4 3,ol 2 53 52,oa 3 54 2 3,oq 4 55 (.ld true 2 (.t 54)),oa 5 56 1 3,ol 6 57 56,⟨7,(some 58),none,.call 105 [.t 51,.t 53,.t 55,.t 57],[]⟩])))))
 (sr [oq 0 60 (.bin .eql .num (.t 7) (ci 1)),om 1 59 60]
 (.keep [0,3,7,59] (.cond (.t 59)
 (.reg false [om 0 61 0,oq 1 62 (.ld true 9 (.t 3)),⟨2,(some 63),none,.call 131 [.t 61,.t 62],[]⟩])
 (.seq (sr [oq 0 65 (.bin .eql .num (.t 7) (ci 2)),om 1 64 65]
 (.keep [0,3,7,64] (.cond (.t 64)
 .skip
 (.reg false [oq 0 66 (.bin .eql .num (.t 7) (ci 3)),om 1 64 66])))) c106_2)))))))))))), []⟩
def c107 : AFn := ⟨2, 26, (sr [oq 0 3 (.boxL (.t 1)),oq 1 4 (.allocL [(.bool false),(.bool false)])]
(.keep [0,3,4] (.seq (.reg true [om 0 6 0,on 1 7 6,oa 2 8 0 7,oq 3 9 (.ld true 6 (.t 8)),oq 4 10 (.ld true 6 (.t 3)),⟨5,(some 11),none,.call 134 [.t 9,.t 10],[]⟩,oq 6 5 (.allocL [(.bool false),(.bool false),(.int .i64 0),(.int .i64 0)]),⟨7,none,none,.op (.st 4 (.t 5) (.t 11)),[]⟩])
(.keep [0,3,4,5] (sr [om 0 12 0,oa 1 13 2 5,ol 2 14 13,oa 3 15 3 5,ol 4 16 15,⟨5,(some 17),none,.call 87 [.t 12,.t 14,.t 16],[]⟩]
(.keep [0,3,4,5] (sr [om 0 18 0,oq 1 19 (.ld true 6 (.t 3)),⟨2,(some 20),none,.call 135 [.t 18,.t 19],[]⟩]
(.keep [0,3,4,5] (sr [om 0 21 0,oq 1 22 (.ld true 6 (.t 3)),⟨2,(some 23),none,.call 136 [.t 21,.t 22],[]⟩]
(.keep [4,5] (sr [oa 0 24 0 5,oq 1 25 (.ld true 2 (.t 24)),⟨2,none,none,.op (.st 2 (.t 4) (.t 25)),[]⟩]
(.keep [4] .ret)))))))))))), [.cell 4 true 2]⟩
def c108_1 : ACode := (.keep [] (sr [oq 0 4 (.mv (ci 0))]
(.keep [4] .ret)))
def c108_2 : ACode := (.keep [2,3] (.seq (sr [oa 0 10 1 2,ol 1 11 10,om 2 12 11,og 3 13 12 true (.fa 1 (.t 3)),og 4 14 12 true (.ld false 1 (.t 13)),og 5 15 12 true (.un .not (.t 14)),oq 6 16 (.pick (.t 12) (.t 15) (.c (.bool false)))]
(.keep [16] (.cond (.t 16)
 (sr [oq 0 4 (.mv (ci 14))]
 (.keep [4] .ret))
 .skip))) c108_1))
def c108 : AFn := ⟨2, 17, (sr [oq 0 2 (.boxL (.t 0)),oq 1 3 (.boxL (.t 1)),oq 2 4 (.mv (ci 0))]
(.keep [2,3] (.seq (sr [oa 0 5 0 2,ol 1 6 5,oa 2 7 0 3,ol 3 8 7,oq 4 9 (.bin .neq .bool (.t 6) (.t 8))]
(.keep [2,3,9] (.cond (.t 9)
 (sr [oq 0 4 (.mv (ci 13))]
 (.keep [4] .ret))
 .skip))) c108_2))), [.tmp 4]⟩
def c109_1 : ACode := (.keep [1,2,3,4] (.reg false [om 0 14 4,oq 1 15 (.bin .add .num (.t 14) (ci 1)),om 2 4 15]))
def c109_2 : ACode := (.keep [1,2,3,4] (.seq (.block 1
 (.seq (.reg true [oa 0 16 5 1,ol 1 17 16,om 2 18 4,oq 3 19 (.ixa 4 (.t 17) (.t 18)),oa 4 20 3 19,ol 5 21 20,oa 6 22 4 1,ol 7 23 22,oq 8 24 (.bin .lss .num (.t 21) (.t 23))])
 (.keep [1,2,3,4,24] (.cond (.t 24)
 (.reg false [om 0 25 3,oa 1 26 5 1,ol 2 27 26,om 3 28 4,oq 4 29 (.ixa 4 (.t 27) (.t 28)),oq 5 30 (.ld true 4 (.t 29)),oq 6 31 (.bsl 4 false [.t 30]),oq 7 32 (.app 4 32 false (.t 25) (.t 31)),om 8 3 32])
 .skip)))) c109_1))
def c109_3 : ACode := (.keep [1,2,3] (sr [om 0 33 3,oa 1 34 5 1,⟨2,none,none,.op (.st 1 (.t 34) (.t 33)),[]⟩]
(.keep [1,2] (sr [oa 0 35 4 1,ol 1 36 35,oq 2 37 (.bin .sub .num (.t 36) (ci 1)),oa 3 38 4 1,⟨4,none,none,.op (.st 1 (.t 38) (.t 37)),[]⟩]
(.keep [1,2] (sr [oq 0 39 (.ld true 6 (.t 1)),⟨1,none,none,.op (.st 6 (.t 2) (.t 39)),[]⟩]
(.keep [2] .ret)))))))
def c109_4 : ACode := (.keep [1,2] (sr [oq 0 3 (.mv (.c .nils))]
(.keep [1,2,3] (.seq (sr [oq 0 4 (.mv (ci 0))]
(.keep [1,2,3,4] (.block 0
 (.loop
 (.keep [1,2,3,4] (.seq (sr [om 0 9 4,oa 1 10 5 1,ol 2 11 10,oq 3 12 (.len .l (.t 11)),oq 4 13 (.bin .lss .num (.t 9) (.t 12))]
 (.keep [1,2,3,4,13] (.cond (.t 13)
 .skip
 (.exit 0)))) c109_2)))))) c109_3))))
def c109 : AFn := ⟨1, 40, (sr [oq 0 1 (.boxL (.t 0)),oq 1 2 (.allocL [.nils,.nils,.nils,.nils,(.int .i64 0),.nils])]
(.keep [1,2] (.seq (sr [oa 0 5 4 1,ol 1 6 5,oq 2 7 (.bin .eql .num (.t 6) (ci 0))]
(.keep [1,2,7] (.cond (.t 7)
 (sr [oq 0 8 (.ld true 6 (.t 1)),⟨1,none,none,.op (.st 6 (.t 2) (.t 8)),[]⟩]
 (.keep [2] .ret))
 .skip))) c109_4))), [.cell 2 true 6]⟩
def c110_1 : ACode := (.keep [0,2,6,7,8] (.reg false [oq 0 25 (.bin .add .num (.t 8) (ci 1)),om 1 8 25]))
def c110_2 : ACode := (.keep [0,2,6,7,8] (.seq (.block 1
 (sr [om 0 10 8,oq 1 11 (.ixa 6 (.t 6) (.t 8)),oq 2 12 (.ld true 6 (.t 11)),oq 3 5 (.allocL [(.int .i64 0),(.str []),(.bool false),(.bool false),(.int .i64 0),(.str [])]),om 4 4 10,⟨5,none,none,.op (.st 6 (.t 5) (.t 12)),[]⟩]
 (.keep [0,2,4,5,6,7,8] (sr [oa 0 13 2 5,oa 1 14 1 13,ol 2 15 14,ol 3 16 2,oq 4 17 (.bin .eql .bool (.t 15) (.t 16)),om 5 18 17,og 6 19 18 true (.mv (.t 0)),og 7 20 18 true (.mv (.t 4)),og 8 21 18 true (.ld true 6 (.t 5)),⟨9,(some 22),(some (18,true)),.callv (.t 19) [.t 20,.t 21],[]⟩,og 10 23 18 true (.un .not (.t 22)),oq 11 24 (.pick (.t 18) (.t 23) (.c (.bool false)))]
 (.keep [0,2,6,7,8,24] (.cond (.t 24)
 .ret
 .skip)))))) c110_1))
def c110 : AFn := ⟨3, 26, (sr [ol 0 6 1,oq 1 7 (.len .l (.t 6)),oq 2 8 (.mv (ci 0))]
(.keep [0,2,6,7,8] (.block 0
 (.loop
 (.keep [0,2,6,7,8] (sr [oq 0 9 (.bin .lss .num (.t 8) (.t 7))]
 (.keep [0,2,6,7,8,9] (.seq (.cond (.t 9)
 .skip
 (.exit 0)) c110_2)))))))), []⟩
def c111_1 : ACode := (.keep [0,3] (.seq (.reg true [om 0 26 0,om 1 27 0,on 2 28 27,oa 3 29 0 28,ol 4 30 29,oa 5 31 3 3,ol 6 32 31,oq 7 33 (.lkp .s (.agg [(.int .i64 0),(.int .i64 0),(.bool false),(.bool false)]) false (.t 30) (.t 32)),oq 8 34 (.fld false 0 1 (.t 33)),⟨9,(some 35),none,.call 137 [.t 26,(.c (.int .i64 (-1))),.t 34],[]⟩,om 10 4 35])
(.keep [4] .ret)))
def c111_2 : ACode := (.keep [0,3,8,9] (sr [om 0 83 0,oa 1 84 1 3,ol 2 85 84,om 3 86 8,om 4 87 9,⟨5,(some 88),none,.call 139 [.t 83,.t 85,.t 86,.t 87],[]⟩,om 6 4 88]
(.keep [4] .ret)))
def c111_3 : ACode := (.keep [0,3,11,41] (.cond (.t 41)
 (sr [om 0 44 0,oa 1 45 4 3,ol 2 46 45,oq 3 47 (.ixa 6 (.t 46) (ci 0)),oq 4 48 (.ld true 6 (.t 47)),⟨5,(some 49),none,.call 111 [.t 44,.t 48],[]⟩,om 6 7 49]
 (.keep [0,3,7] (sr [om 0 50 0,om 1 51 0,oa 2 52 0 3,ol 3 53 52,oq 4 54 (.bin .sub .num (.t 53) (ci 4)),⟨5,(some 55),none,.call 140 [.t 51,.t 54],[]⟩,om 6 56 7,⟨7,(some 57),none,.call 139 [.t 50,ci 1,.t 55,.t 56],[]⟩,om 8 4 57]
 (.keep [4] .ret))))
 (sr [oq 0 59 (.bin .eql .num (.t 11) (ci 6)),om 1 58 59]
 (.keep [0,3,11,58] (.cond (.t 58)
 (.seq (.reg true [om 0 60 0,oa 1 61 4 3,ol 2 62 61,oq 3 63 (.ixa 6 (.t 62) (ci 0)),oq 4 64 (.ld true 6 (.t 63)),om 6 66 0,oa 7 67 4 3,ol 8 68 67,oq 9 69 (.ixa 6 (.t 68) (ci 1)),oq 10 70 (.ld true 6 (.t 69)),⟨5,(some 65),none,.call 111 [.t 60,.t 64],[7,9]⟩,⟨11,(some 71),none,.call 111 [.t 66,.t 70],[]⟩,om 12 8 65,om 13 9 71])
 (.keep [0,3,8,9] (.seq (sr [oa 0 72 1 3,ol 1 73 72,oq 2 74 (.bin .eql .num (.t 73) (ci 3)),om 3 75 74,og 4 76 75 false (.fa 1 (.t 3)),og 5 77 75 false (.ld false 1 (.t 76)),og 6 78 75 false (.bin .eql .num (.t 77) (ci 4)),oq 7 79 (.pick (.t 75) (.c (.bool true)) (.t 78))]
 (.keep [0,3,8,9,79] (.cond (.t 79)
 (.reg false [om 0 80 0,om 1 81 9,⟨2,(some 82),none,.call 141 [.t 80,.t 81,ci 1],[]⟩])
 .skip))) c111_2)))
 (sr [oq 0 90 (.bin .eql .num (.t 11) (ci 7)),om 1 89 90]
 (.keep [0,3,89] (.cond (.t 89)
 (sr [om 0 91 0,oq 1 92 (.ld true 6 (.t 3)),⟨2,(some 93),none,.call 142 [.t 91,.t 92],[]⟩,om 3 4 93]
 (.keep [4] .ret))
 .skip))))))))
def c111_4 : ACode := (.keep [0,3] (sr [om 0 94 0,oa 1 95 2 3,ol 2 96 95,⟨3,(some 97),none,.call 140 [.t 94,.t 96],[]⟩,om 4 4 97]
(.keep [4] .ret)))
def c111 : AFn := ⟨2, 98, (sr [oq 0 3 (.boxL (.t 1)),oq 1 4 (.mv (ci 0))]
(.keep [0,3] (.seq (sr [oa 0 10 0 3,ol 1 11 10]
(.keep [0,3,11] (.block 0
 (sr [oq 0 13 (.bin .eql .num (.t 11) (ci 2)),om 1 12 13]
 (.keep [0,3,11,12] (.cond (.t 12)
 (.seq (.seq (.reg true [om 0 15 0,on 1 16 15,oa 2 17 5 16,ol 3 18 17,oa 4 19 3 3,ol 5 20 19,oq 6 21 (.lkp .s (.int .i64 0) true (.t 18) (.t 20)),om 7 14 21,oq 8 22 (.ext (.t 14) 0),oq 9 23 (.ext (.t 14) 1),om 10 5 22,om 11 6 23])
 (.keep [0,3,5,6] (sr [om 0 24 6]
 (.keep [0,3,5,24] (.cond (.t 24)
 (sr [om 0 25 5,om 1 4 25]
 (.keep [4] .ret))
 .skip))))) c111_1)
 (sr [oq 0 37 (.bin .eql .num (.t 11) (ci 3)),om 1 36 37]
 (.keep [0,3,11,36] (.cond (.t 36)
 (sr [om 0 38 0,oq 1 39 (.ld true 6 (.t 3)),⟨2,(some 40),none,.call 138 [.t 38,.t 39],[]⟩,om 3 4 40]
 (.keep [4] .ret))
 (.seq (sr [oq 0 42 (.bin .eql .num (.t 11) (ci 4)),om 1 41 42]
 (.keep [0,3,11,41] (.cond (.t 41)
 .skip
 (.reg false [oq 0 43 (.bin .eql .num (.t 11) (ci 5)),om 1 41 43])))) c111_3)))))))))) c111_4))), [.tmp 4]⟩
def c112 : AFn := ⟨2, 9, (sr [oq 0 4 (.mv (ci 0))]
(.keep [0,1] (sr [om 0 5 0,om 1 6 1,oq 2 7 (.build z7 [(0,1,(ci 1)),(3,1,(.t 6))]),⟨3,(some 8),none,.call 143 [.t 5,.t 7],[]⟩,om 4 4 8]
(.keep [4] .ret)))), [.tmp 4]⟩
def c113_1 : ACode := (.keep [0,3] (sr [om 0 14 0,oa 1 15 6 3,ol 2 16 15,oq 3 17 (.ixa 6 (.t 16) (ci 0)),oq 4 18 (.ld true 6 (.t 17)),⟨5,(some 19),none,.call 111 [.t 14,.t 18],[]⟩,om 6 4 19]
(.keep [0,3,4] (.seq (.reg true [om 0 21 0,on 1 22 21,oa 2 23 5 22,ol 3 24 23,oa 4 25 4 3,ol 5 26 25,oq 6 27 (.lkp .s (.int .i64 0) true (.t 24) (.t 26)),om 7 20 27,oq 8 28 (.ext (.t 20) 0),oq 9 29 (.ext (.t 20) 1),om 10 5 28,om 11 6 29])
(.keep [0,3,4,5,6] (sr [om 0 30 6]
(.keep [0,3,4,5,30] (.cond (.t 30)
 (.reg false [om 0 31 0,om 1 32 5,om 2 33 4,oq 3 34 (.build z7 [(0,1,(ci 1)),(2,1,(.t 32)),(3,1,(.t 33))]),⟨4,(some 35),none,.call 28 [.t 31,.t 34],[]⟩])
 (.reg true [om 0 36 0,om 1 37 4,om 2 38 0,on 3 39 38,oa 4 40 0 39,ol 5 41 40,oa 6 42 4 3,ol 7 43 42,oq 8 44 (.lkp .s (.agg [(.int .i64 0),(.int .i64 0),(.bool false),(.bool false)]) false (.t 41) (.t 43)),oq 9 45 (.fld false 0 1 (.t 44)),oq 10 46 (.build z7 [(0,1,(ci 5)),(3,1,(.c (.int .i64 (-1)))),(4,1,(.t 37)),(5,1,(.t 45))]),⟨11,(some 47),none,.call 28 [.t 36,.t 46],[]⟩])))))))))
def c113 : AFn := ⟨2, 48, (sr [oq 0 3 (.boxL (.t 1))]
(.keep [0,3] (.seq (sr [oa 0 7 5 3,ol 1 8 7,oq 2 9 (.len .l (.t 8)),oq 3 10 (.bin .gtr .num (.t 9) (ci 0))]
(.keep [0,3,10] (.cond (.t 10)
 (sr [om 0 11 0,oq 1 12 (.ld true 9 (.t 3)),⟨2,(some 13),none,.call 144 [.t 11,.t 12],[]⟩]
 (.keep [] .ret))
 .skip))) c113_1))), []⟩
def c114_1 : ACode := (.keep [0,3,4] (sr [om 0 27 0,oq 1 28 (.build z7 [(0,1,(ci 6))]),⟨2,(some 29),none,.call 28 [.t 27,.t 28],[]⟩,om 3 5 29]
(.keep [0,3,4,5] (sr [om 0 30 4,om 1 31 0,⟨2,(some 32),none,.call 29 [.t 31],[]⟩,⟨3,(some 33),none,.callv (.t 30) [.t 32],[]⟩]
(.keep [0,3,5] (sr [om 0 34 0,oa 1 35 8 3,ol 2 36 35,⟨3,(some 37),none,.call 27 [.t 34,.t 36],[]⟩]
(.keep [0,5] (.reg false [om 0 38 5,om 1 39 0,⟨2,(some 40),none,.call 29 [.t 39],[]⟩,⟨3,(some 41),none,.callv (.t 38) [.t 40],[]⟩]))))))))
def c114 : AFn := ⟨2, 42, (sr [oq 0 3 (.boxL (.t 1))]
(.keep [0,3] (sr [om 0 6 0,om 1 7 0,oa 2 8 6 3,ol 3 9 8,oq 4 10 (.ixa 6 (.t 9) (ci 0)),oq 5 11 (.ld true 6 (.t 10)),⟨6,(some 12),none,.call 111 [.t 7,.t 11],[]⟩,oq 7 13 (.build z7 [(0,1,(ci 7)),(3,1,(.t 12))]),⟨8,(some 14),none,.call 28 [.t 6,.t 13],[]⟩,om 9 4 14]
(.keep [0,3,4] (sr [om 0 15 0,oa 1 16 7 3,ol 2 17 16,⟨3,(some 18),none,.call 27 [.t 15,.t 17],[]⟩]
(.keep [0,3,4] (.seq (sr [oa 0 19 8 3,ol 1 20 19,oq 2 21 (.len .l (.t 20)),oq 3 22 (.bin .eql .num (.t 21) (ci 0))]
(.keep [0,3,4,22] (.cond (.t 22)
 (sr [om 0 23 4,om 1 24 0,⟨2,(some 25),none,.call 29 [.t 24],[]⟩,⟨3,(some 26),none,.callv (.t 23) [.t 25],[]⟩]
 (.keep [] .ret))
 .skip))) c114_1))))))), []⟩
def c115 : AFn := ⟨2, 29, (sr [oq 0 3 (.boxL (.t 1))]
(.keep [0,3] (sr [om 0 6 0,⟨1,(some 7),none,.call 29 [.t 6],[]⟩,om 2 4 7]
(.keep [0,3,4] (sr [om 0 8 0,om 1 9 0,oa 2 10 6 3,ol 3 11 10,oq 4 12 (.ixa 6 (.t 11) (ci 0)),oq 5 13 (.ld true 6 (.t 12)),⟨6,(some 14),none,.call 111 [.t 9,.t 13],[]⟩,oq 7 15 (.build z7 [(0,1,(ci 7)),(3,1,(.t 14))]),⟨8,(some 16),none,.call 28 [.t 8,.t 15],[]⟩,om 9 5 16]
(.keep [0,3,4,5] (sr [om 0 17 0,oa 1 18 7 3,ol 2 19 18,⟨3,(some 20),none,.call 27 [.t 17,.t 19],[]⟩]
(.keep [0,4,5] (sr [om 0 21 0,om 1 22 4,oq 2 23 (.build z7 [(0,1,(ci 6)),(6,1,(.t 22))]),⟨3,(some 24),none,.call 28 [.t 21,.t 23],[]⟩]
(.keep [0,5] (.reg false [om 0 25 5,om 1 26 0,⟨2,(some 27),none,.call 29 [.t 26],[]⟩,⟨3,(some 28),none,.callv (.t 25) [.t 27],[]⟩]))))))))))), []⟩
def c126 : AFn := ⟨2, 27, (sr [om 0 4 0,on 1 5 4,oa 2 6 3 5,ol 3 7 6,oq 4 8 (.bin .eql .num (.t 7) (ci 0))]
(.keep [0,1,8] (.cond (.t 8)
 (sr [om 0 9 0,om 1 10 1,on 2 11 9,oa 3 12 3 11,⟨4,none,none,.op (.st 1 (.t 12) (.t 10)),[]⟩]
 (.keep [0] (.reg true [om 0 13 0,om 1 14 0,on 2 15 14,oa 3 16 0 15,ol 4 17 16,om 5 18 0,on 6 19 18,oa 7 20 1 19,ol 8 21 20,oq 9 22 (.ixa 4 (.t 17) (.t 21)),oa 10 23 3 22,ol 11 24 23,on 12 25 13,oa 13 26 4 25,⟨14,none,none,.op (.st 1 (.t 26) (.t 24)),[]⟩])))
 .skip))), []⟩
def c127_1 : ACode := (.keep [0] (sr [om 0 16 0,on 1 17 16,oa 2 18 0 17,ol 3 19 18,on 4 20 19,oa 5 21 1 20,ol 6 22 21,oq 7 23 (.bin .add .num (.t 22) (ci 1)),on 8 24 19,oa 9 25 1 24,⟨10,none,none,.op (.st 1 (.t 25) (.t 23)),[]⟩]
(.keep [] (sr [oq 0 6 (.mv (.c (.bool true)))]
(.keep [6] .ret)))))
def c127 : AFn := ⟨3, 26, (sr [oq 0 6 (.mv (.c (.bool false)))]
(.keep [0,1,2] (sr [om 0 8 0,om 1 9 2,⟨2,(some 10),none,.call 79 [.t 8,.t 9],[]⟩,om 3 7 10]
(.keep [0,1,7] (.seq (sr [om 0 11 7,oq 1 12 (.un .not (.t 11))]
(.keep [0,1,12] (.cond (.t 12)
 (sr [om 0 13 0,om 1 14 1,⟨2,(some 15),none,.call 82 [.t 13,.t 14],[]⟩]
 (.keep [] (sr [oq 0 6 (.mv (.c (.bool false)))]
 (.keep [6] .ret))))
 .skip))) c127_1))))), [.tmp 6]⟩
def c128_1 : ACode := (.keep [0,2,3] (sr [om 0 83 0,on 1 84 83,oa 2 85 0 84,ol 3 86 85,on 4 87 86,oa 5 88 1 87,ol 6 89 88,oq 7 90 (.bin .add .num (.t 89) (ci 1)),on 8 91 86,oa 9 92 1 91,⟨10,none,none,.op (.st 1 (.t 92) (.t 90)),[]⟩]
(.keep [0,2,3] (sr [om 0 93 0,⟨1,(some 94),none,.call 154 [.t 93],[]⟩,oq 2 95 (.bsl 6 false [.t 94]),oa 3 96 6 3,⟨4,none,none,.op (.st 1 (.t 96) (.t 95)),[]⟩]
(.keep [0,2,3] (sr [om 0 97 0,⟨1,(some 98),none,.call 84 [.t 97],[]⟩,oa 2 99 7 3,⟨3,none,none,.op (.st 1 (.t 99) (.t 98)),[]⟩]
(.keep [0,2,3] (sr [oa 0 100 0 3,ol 1 101 100,oq 2 102 (.bin .eql .num (.t 101) (ci 2)),om 3 103 102,og 4 104 103 true (.mv (.t 0)),⟨5,(some 105),(some (103,true)),.call 79 [.t 104,(.c (.str [101,108,115,101]))],[]⟩,oq 6 106 (.pick (.t 103) (.t 105) (.c (.bool false)))]
(.keep [0,2,3,106] (.cond (.t 106)
 (sr [om 0 107 0,on 1 108 107,oa 2 109 0 108,ol 3 110 109,on 4 111 110,oa 5 112 1 111,ol 6 113 112,oq 7 114 (.bin .add .num (.t 113) (ci 1)),on 8 115 110,oa 9 116 1 115,⟨10,none,none,.op (.st 1 (.t 116) (.t 114)),[]⟩]
 (.keep [0,2,3] (.reg false [om 0 117 0,⟨1,(some 118),none,.call 84 [.t 117],[]⟩,oa 2 119 8 3,⟨3,none,none,.op (.st 1 (.t 119) (.t 118)),[]⟩])))
 .skip))))))))))
def c128_2 : ACode := (.keep [0,2,3] (sr [om 0 35 0,⟨1,(some 36),none,.call 82 [.t 35,(.c (.str [61]))],[]⟩]
(.keep [0,2,3] (sr [om 0 37 0,⟨1,(some 38),none,.call 104 [.t 37],[]⟩,oq 2 39 (.bsl 6 false [.t 38]),oa 3 40 6 3,⟨4,none,none,.op (.st 1 (.t 40) (.t 39)),[]⟩]
(.keep [0,2,3] (.reg false [om 0 41 0,⟨1,(some 42),none,.call 82 [.t 41,(.c (.str [59]))],[]⟩]))))))
def c128_3 : ACode := (.keep [2,3] (sr [oq 0 162 (.ld true 9 (.t 3)),⟨1,none,none,.op (.st 9 (.t 2) (.t 162)),[]⟩]
(.keep [2] .ret)))
def c128 : AFn := ⟨1, 163, (sr [oq 0 2 (.allocL [(.int .i64 0),(.int .i64 0),(.bool false),(.bool false),(.str []),.nils,.nils,.nils,.nils])]
(.keep [0,2] (sr [om 0 7 0,⟨1,(some 8),none,.call 49 [.t 7],[]⟩,oq 2 9 (.fld false 3 1 (.t 8)),oq 3 10 (.build [(.int .i64 0),(.int .i64 0),(.bool false),(.bool false),(.str []),.nils,.nils,.nils,.nils] [(1,1,(.t 9))]),oq 4 3 (.allocL [(.int .i64 0),(.int .i64 0),(.bool false),(.bool false),(.str []),.nils,.nils,.nils,.nils]),⟨5,none,none,.op (.st 9 (.t 3) (.t 10)),[]⟩]
(.keep [0,2,3] (.seq (.block 0
 (sr [om 0 44 0,⟨1,(some 45),none,.call 79 [.t 44,(.c (.str [118,97,114]))],[]⟩,om 2 43 45]
 (.keep [0,2,3,43] (.cond (.t 43)
 (sr [om 0 46 0,on 1 47 46,oa 2 48 0 47,ol 3 49 48,on 4 50 49,oa 5 51 1 50,ol 6 52 51,oq 7 53 (.bin .add .num (.t 52) (ci 1)),on 8 54 49,oa 9 55 1 54,⟨10,none,none,.op (.st 1 (.t 55) (.t 53)),[]⟩]
 (.keep [0,2,3] (sr [om 0 56 0,⟨1,(some 57),none,.call 102 [.t 56],[]⟩,oa 2 58 2 3,⟨3,none,none,.op (.st 2 (.t 58) (.t 57)),[]⟩]
 (.keep [0,2,3] (sr [om 0 59 0,⟨1,(some 60),none,.call 81 [.t 59],[]⟩,oq 2 4 (.allocL [(.str []),(.int .i64 0)]),⟨3,none,none,.op (.st 2 (.t 4) (.t 60)),[]⟩]
 (.keep [0,2,3,4] (sr [oa 0 61 0 4,ol 1 62 61,oa 2 63 4 3,⟨3,none,none,.op (.st 1 (.t 63) (.t 62)),[]⟩]
 (.keep [0,2,3] (sr [om 0 64 0,⟨1,(some 65),none,.call 82 [.t 64,(.c (.str [61]))],[]⟩]
 (.keep [0,2,3] (sr [om 0 66 0,⟨1,(some 67),none,.call 104 [.t 66],[]⟩,oq 2 68 (.bsl 6 false [.t 67]),oa 3 69 6 3,⟨4,none,none,.op (.st 1 (.t 69) (.t 68)),[]⟩]
 (.keep [0,2,3] (.reg false [om 0 70 0,⟨1,(some 71),none,.call 82 [.t 70,(.c (.str [59]))],[]⟩])))))))))))))
 (sr [om 0 73 0,⟨1,(some 74),none,.call 79 [.t 73,(.c (.str [105,102]))],[]⟩,om 2 75 74,og 3 76 75 false (.mv (.t 0)),⟨4,(some 77),(some (75,false)),.call 79 [.t 76,(.c (.str [119,104,105,108,101]))],[]⟩,oq 5 78 (.pick (.t 75) (.c (.bool true)) (.t 77)),om 6 72 78]
 (.keep [0,2,3,72] (.cond (.t 72)
 (sr [oa 0 79 0 3,⟨1,none,none,.op (.st 1 (.t 79) (ci 2)),[]⟩]
 (.keep [0,2,3] (.seq (sr [om 0 80 0,⟨1,(some 81),none,.call 79 [.t 80,(.c (.str [119,104,105,108,101]))],[]⟩]
 (.keep [0,2,3,81] (.cond (.t 81)
 (.reg false [oa 0 82 0 3,⟨1,none,none,.op (.st 1 (.t 82) (ci 3)),[]⟩])
 .skip))) c128_1)))
 (sr [om 0 121 0,⟨1,(some 122),none,.call 79 [.t 121,(.c (.str [108,111,99,107]))],[]⟩,om 2 120 122]
 (.keep [0,2,3,120] (.cond (.t 120)
 (sr [om 0 123 0,on 1 124 123,oa 2 125 0 124,ol 3 126 125,on 4 127 126,oa 5 128 1 127,ol 6 129 128,oq 7 130 (.bin .add .num (.t 129) (ci 1)),on 8 131 126,oa 9 132 1 131,⟨10,none,none,.op (.st 1 (.t 132) (.t 130)),[]⟩]
 (.keep [0,2,3] (sr [oa 0 133 0 3,⟨1,none,none,.op (.st 1 (.t 133) (ci 4)),[]⟩]
 (.keep [0,2,3] (sr [om 0 134 0,⟨1,(some 135),none,.call 81 [.t 134],[]⟩,oq 2 5 (.allocL [(.str []),(.int .i64 0)]),⟨3,none,none,.op (.st 2 (.t 5) (.t 135)),[]⟩]
 (.keep [0,2,3,5] (sr [oa 0 136 0 5,ol 1 137 136,oa 2 138 4 3,⟨3,none,none,.op (.st 1 (.t 138) (.t 137)),[]⟩]
 (.keep [0,2,3] (.reg false [om 0 139 0,⟨1,(some 140),none,.call 84 [.t 139],[]⟩,oa 2 141 7 3,⟨3,none,none,.op (.st 1 (.t 141) (.t 140)),[]⟩])))))))))
 (sr [om 0 143 0,⟨1,(some 144),none,.call 79 [.t 143,(.c (.str [111,117,116]))],[]⟩,om 2 142 144]
 (.keep [0,2,3,142] (.cond (.t 142)
 (sr [om 0 145 0,on 1 146 145,oa 2 147 0 146,ol 3 148 147,on 4 149 148,oa 5 150 1 149,ol 6 151 150,oq 7 152 (.bin .add .num (.t 151) (ci 1)),on 8 153 148,oa 9 154 1 153,⟨10,none,none,.op (.st 1 (.t 154) (.t 152)),[]⟩]
 (.keep [0,2,3] (sr [oa 0 155 0 3,⟨1,none,none,.op (.st 1 (.t 155) (ci 5)),[]⟩]
 (.keep [0,2,3] (sr [om 0 156 0,⟨1,(some 157),none,.call 104 [.t 156],[]⟩,oq 2 158 (.bsl 6 false [.t 157]),oa 3 159 6 3,⟨4,none,none,.op (.st 1 (.t 159) (.t 158)),[]⟩]
 (.keep [0,2,3] (.reg false [om 0 160 0,⟨1,(some 161),none,.call 82 [.t 160,(.c (.str [59]))],[]⟩])))))))
 (sr [oa 0 11 0 3,⟨1,none,none,.op (.st 1 (.t 11) (ci 1)),[]⟩]
 (.keep [0,2,3] (sr [om 0 12 0,⟨1,(some 13),none,.call 81 [.t 12],[]⟩,oq 2 6 (.allocL [(.str []),(.int .i64 0)]),⟨3,none,none,.op (.st 2 (.t 6) (.t 13)),[]⟩]
 (.keep [0,2,3,6] (sr [oa 0 14 0 6,ol 1 15 14,oa 2 16 4 3,⟨3,none,none,.op (.st 1 (.t 16) (.t 15)),[]⟩]
 (.keep [0,2,3] (.seq (sr [om 0 17 0,⟨1,(some 18),none,.call 79 [.t 17,(.c (.str [91]))],[]⟩]
 (.keep [0,2,3,18] (.cond (.t 18)
 (sr [om 0 19 0,on 1 20 19,oa 2 21 0 20,ol 3 22 21,on 4 23 22,oa 5 24 1 23,ol 6 25 24,oq 7 26 (.bin .add .num (.t 25) (ci 1)),on 8 27 22,oa 9 28 1 27,⟨10,none,none,.op (.st 1 (.t 28) (.t 26)),[]⟩]
 (.keep [0,2,3] (sr [om 0 29 0,⟨1,(some 30),none,.call 104 [.t 29],[]⟩,oq 2 31 (.bsl 6 false [.t 30]),oa 3 32 5 3,⟨4,none,none,.op (.st 1 (.t 32) (.t 31)),[]⟩]
 (.keep [0,2,3] (.reg false [om 0 33 0,⟨1,(some 34),none,.call 82 [.t 33,(.c (.str [93]))],[]⟩])))))
 .skip))) c128_2)))))))))))))))))))) c128_3))))), [.cell 2 true 9]⟩
def c129_1 : ACode := (.keep [0,1,4,5,6,7] (sr [om 0 52 0,on 1 53 52,oa 2 54 1 53,ol 3 55 54,oq 4 56 (.bin .add .num (.t 55) (ci 1)),on 5 57 52,oa 6 58 1 57,⟨7,none,none,.op (.st 1 (.t 58) (.t 56)),[]⟩]
(.keep [0,1,4,5,6,7] (sr [om 0 59 0,om 1 60 7,oq 2 61 (.bin .add .num (.t 60) (ci 1)),⟨3,(some 62),none,.call 129 [.t 59,.t 61],[]⟩,oq 4 8 (.allocL [(.int .i64 0),(.int .i64 0),(.int .i64 0),(.str []),.nils,(.int .i64 0)]),⟨5,none,none,.op (.st 6 (.t 8) (.t 62)),[]⟩]
(.keep [0,1,4,5,6,8] (.reg false [om 0 63 6,oq 1 64 (.ld true 6 (.t 5)),oq 2 65 (.ld true 6 (.t 8)),oq 3 66 (.bsl 6 false [.t 64,.t 65]),oa 4 67 5 5,ol 5 68 67,oq 6 69 (.build [(.int .i64 0),(.int .i64 0),(.int .i64 0),(.str []),.nils,(.int .i64 0)] [(0,1,(ci 6)),(1,1,(.t 63)),(4,1,(.t 66)),(5,1,(.t 68))]),⟨7,none,none,.op (.st 6 (.t 5) (.t 69)),[]⟩]))))))
def c129_2 : ACode := (.keep [0,1,4,5] (.block 1
 (.seq (.reg true [om 0 30 0,on 1 31 30,oa 2 32 0 31,ol 3 33 32,om 4 34 0,on 5 35 34,oa 6 36 1 35,ol 7 37 36,oq 8 38 (.ixa 4 (.t 33) (.t 37)),oa 9 39 1 38,ol 10 40 39,⟨11,(some 41),none,.call 156 [.t 40],[]⟩,om 12 6 41])
 (.keep [0,1,4,5,6] (sr [om 0 42 6,⟨1,(some 43),none,.call 157 [.t 42],[]⟩,om 2 7 43]
 (.keep [0,1,4,5,6,7] (.seq (sr [om 0 44 7,om 1 45 1,oq 2 46 (.bin .lss .num (.t 44) (.t 45)),om 3 47 46,og 4 48 47 false (.mv (.t 7)),og 5 49 47 false (.bin .eql .num (.t 48) (ci 0)),oq 6 50 (.pick (.t 47) (.c (.bool true)) (.t 49))]
 (.keep [0,1,4,5,6,7,50] (.cond (.t 50)
 (sr [oq 0 51 (.ld true 6 (.t 5)),⟨1,none,none,.op (.st 6 (.t 4) (.t 51)),[]⟩]
 (.keep [4] .ret))
 .skip))) c129_1)))))))
def c129_3 : ACode := (.keep [4,5] (sr [oq 0 70 (.ld true 6 (.t 5)),⟨1,none,none,.op (.st 6 (.t 4) (.t 70)),[]⟩]
(.keep [4] .ret)))
def c129 : AFn := ⟨2, 71, (sr [oq 0 4 (.allocL [(.int .i64 0),(.int .i64 0),(.int .i64 0),(.str []),.nils,(.int .i64 0)])]
(.keep [0,1,4] (sr [om 0 9 0,⟨1,(some 10),none,.call 155 [.t 9],[]⟩,oq 2 5 (.allocL [(.int .i64 0),(.int .i64 0),(.int .i64 0),(.str []),.nils,(.int .i64 0)]),⟨3,none,none,.op (.st 6 (.t 5) (.t 10)),[]⟩]
(.keep [0,1,4,5] (.seq (.block 0
 (.loop
 (.keep [0,1,4,5] (.seq (.seq (.reg true [om 0 11 0,on 1 12 11,oa 2 13 3 12,ol 3 14 13,oq 4 15 (.bin .eql .num (.t 14) (ci 0)),om 5 16 15,og 6 17 16 true (.mv (.t 0)),og 7 18 16 true (.nck (.t 17)),og 8 19 16 true (.fa 0 (.t 18)),og 9 20 16 true (.ld false 1 (.t 19)),og 10 21 16 true (.mv (.t 0)),og 11 22 16 true (.nck (.t 21)),og 12 23 16 true (.fa 1 (.t 22)),og 13 24 16 true (.ld false 1 (.t 23)),og 14 25 16 true (.ixa 4 (.t 20) (.t 24)),og 15 26 16 true (.fa 0 (.t 25)),og 16 27 16 true (.ld false 1 (.t 26)),og 17 28 16 true (.bin .eql .num (.t 27) (ci 2)),oq 18 29 (.pick (.t 16) (.t 28) (.c (.bool false)))])
 (.keep [0,1,4,5,29] (.cond (.t 29)
 .skip
 (.exit 0)))) c129_2)))) c129_3))))), [.cell 4 true 6]⟩
def c130_1 : ACode := (.keep [1,3,5,6] (sr [oq 0 8 (.mv (.c .nils))]
(.keep [1,3,5,6,8] (sr [om 0 23 8,oa 1 24 5 3,ol 2 25 24,oq 3 26 (.app 4 32 false (.t 23) (.t 25)),om 4 8 26]
(.keep [1,3,5,6,8] (sr [om 0 27 8,om 1 28 1,oq 2 29 (.ld true 2 (.t 5)),oa 3 30 4 3,ol 4 31 30,oq 5 32 (.build [(.str []),(.bool false),(.bool false),(.int .i64 0)] [(0,1,(.t 28)),(1,2,(.t 29)),(3,1,(.t 31))]),oq 6 33 (.bsl 4 false [.t 32]),oq 7 34 (.app 4 32 false (.t 27) (.t 33)),om 8 8 34]
(.keep [3,6,8] (sr [om 0 35 8,oa 1 36 5 3,⟨2,none,none,.op (.st 1 (.t 36) (.t 35)),[]⟩]
(.keep [3,6] (sr [oq 0 37 (.ld true 6 (.t 3)),⟨1,none,none,.op (.st 6 (.t 6) (.t 37)),[]⟩,oq 2 7 (.mv (ci 0))]
(.keep [6,7] .ret)))))))))))
def c130 : AFn := ⟨3, 38, (sr [oq 0 3 (.boxL (.t 0)),oq 1 5 (.boxL (.t 2)),oq 2 6 (.allocL [.nils,.nils,.nils,.nils,(.int .i64 0),.nils]),oq 3 7 (.mv (ci 0))]
(.keep [1,3,5,6] (.seq (sr [oa 0 9 4 3,ol 1 10 9,oq 2 11 (.bin .eql .num (.t 10) (ci 0)),om 3 12 11,og 4 13 12 false (.mv (.t 1)),og 5 14 12 false (.bin .eql .num (.t 13) (.c (.str []))),oq 6 15 (.pick (.t 12) (.c (.bool true)) (.t 14)),om 7 16 15,og 8 17 16 false (.ld true 6 (.t 3)),og 9 18 16 false (.mv (.t 1)),⟨10,(some 19),(some (16,false)),.call 158 [.t 17,.t 18],[]⟩,og 11 20 16 false (.bin .neq .num (.t 19) (ci 0)),oq 12 21 (.pick (.t 16) (.c (.bool true)) (.t 20))]
(.keep [1,3,5,6,21] (.cond (.t 21)
 (sr [oq 0 22 (.ld true 6 (.t 3)),⟨1,none,none,.op (.st 6 (.t 6) (.t 22)),[]⟩,oq 2 7 (.mv (ci 12))]
 (.keep [6,7] .ret))
 .skip))) c130_1))), [.cell 6 true 6,.tmp 7]⟩
def c131_1 : ACode := (.keep [0,3,7] (.seq (.block 1
 (.reg false [om 0 82 0,oa 1 83 5 3,ol 2 84 83,om 3 85 7,oq 4 86 (.ixa 6 (.t 84) (.t 85)),oq 5 87 (.ld true 6 (.t 86)),⟨6,(some 88),none,.call 132 [.t 82,.t 87,(.c (.bool false))],[]⟩]))
(.keep [0,3,7] (.reg false [om 0 80 7,oq 1 81 (.bin .add .num (.t 80) (ci 1)),om 2 7 81]))))
def c131_2 : ACode := (.keep [0,3] (sr [om 0 94 0,oa 1 95 6 3,ol 2 96 95,oq 3 97 (.ixa 6 (.t 96) (ci 0)),oq 4 98 (.ld true 6 (.t 97)),⟨5,(some 99),none,.call 107 [.t 94,.t 98],[]⟩,oq 6 8 (.allocL [(.bool false),(.bool false)]),⟨7,none,none,.op (.st 2 (.t 8) (.t 99)),[]⟩]
(.keep [0,3,8] (.seq (.reg true [om 0 100 0,oq 1 101 (.ld true 2 (.t 8)),om 2 102 0,on 3 103 102,oa 4 104 0 103,oq 5 105 (.ld true 6 (.t 104)),oa 6 106 4 3,ol 7 107 106,oa 10 110 6 3,ol 11 111 110,oq 12 112 (.ixa 6 (.t 111) (ci 0)),oa 13 113 5 112,ol 14 114 113,⟨8,(some 108),none,.call 159 [.t 105,.t 107],[1,9,12]⟩,⟨9,(some 109),none,.call 108 [.t 101,.t 108],[9,12]⟩,⟨15,(some 115),none,.call 87 [.t 100,.t 109,.t 114],[]⟩])
(.keep [0,3] (.reg false [om 0 116 0,oa 1 117 4 3,ol 2 118 117,oa 3 119 1 3,ol 4 120 119,⟨5,(some 121),none,.call 160 [.t 116,.t 118,.t 120,(.c (.bool true))],[]⟩]))))))
def c131_3 : ACode := (.keep [0,3] (.seq (sr [om 0 89 0,on 1 90 89,oa 2 91 10 90,ol 3 92 91,oq 4 93 (.bin .neq .num (.t 92) (ci 0))]
(.keep [0,3,93] (.cond (.t 93)
 .ret
 .skip))) c131_2))
def c131_4 : ACode := (.keep [0,3] (.seq (sr [oq 0 7 (.mv (ci 0))]
(.keep [0,3,7] (.block 0
 (.loop
 (.keep [0,3,7] (.seq (sr [om 0 68 7,oa 1 69 5 3,ol 2 70 69,oq 3 71 (.len .l (.t 70)),oq 4 72 (.bin .lss .num (.t 68) (.t 71)),om 5 73 72,og 6 74 73 true (.mv (.t 0)),og 7 75 73 true (.nck (.t 74)),og 8 76 73 true (.fa 10 (.t 75)),og 9 77 73 true (.ld false 1 (.t 76)),og 10 78 73 true (.bin .eql .num (.t 77) (ci 0)),oq 11 79 (.pick (.t 73) (.t 78) (.c (.bool false)))]
 (.keep [0,3,7,79] (.cond (.t 79)
 .skip
 (.exit 0)))) c131_1)))))) c131_3))
def c131_5 : ACode := (.keep [0,3,4,5] (.seq (sr [oa 0 32 5 3,ol 1 33 32,oq 2 34 (.len .l (.t 33)),oq 3 35 (.bin .gtr .num (.t 34) (ci 0)),om 4 36 35,og 5 37 36 true (.mv (.t 4)),og 6 38 36 true (.bin .neq .num (.t 37) (ci 1)),og 7 39 36 true (.mv (.t 38)),og 8 40 39 false (.fa 4 (.t 5)),og 9 41 39 false (.ld false 1 (.t 40)),og 10 42 39 false (.bin .eql .num (.t 41) (ci 0)),og 11 43 36 true (.pick (.t 39) (.c (.bool true)) (.t 42)),oq 12 44 (.pick (.t 36) (.t 43) (.c (.bool false))),om 13 45 44,og 14 46 45 false (.fa 5 (.t 3)),og 15 47 45 false (.ld false 1 (.t 46)),og 16 48 45 false (.len .l (.t 47)),og 17 49 45 false (.bin .eql .num (.t 48) (ci 0)),og 18 50 45 false (.mv (.t 49)),og 19 51 50 true (.mv (.t 4)),og 20 52 50 true (.bin .neq .num (.t 51) (ci 4)),og 21 53 45 false (.pick (.t 50) (.t 52) (.c (.bool false))),og 22 54 45 false (.mv (.t 53)),og 23 55 54 true (.mv (.t 4)),og 24 56 54 true (.bin .neq .num (.t 55) (ci 1)),og 25 57 54 true (.mv (.t 56)),og 26 58 57 false (.fa 4 (.t 5)),og 27 59 57 false (.ld false 1 (.t 58)),og 28 60 57 false (.bin .gtr .num (.t 59) (ci 0)),og 29 61 54 true (.pick (.t 57) (.c (.bool true)) (.t 60)),og 30 62 45 false (.pick (.t 54) (.t 61) (.c (.bool false))),oq 31 63 (.pick (.t 45) (.c (.bool true)) (.t 62))]
(.keep [0,3,63] (.cond (.t 63)
 (.reg false [om 0 64 0,oa 1 65 1 3,ol 2 66 65,⟨3,(some 67),none,.call 87 [.t 64,ci 13,.t 66],[]⟩])
 .skip))) c131_4))
def c131 : AFn := ⟨2, 122, (sr [oq 0 3 (.boxL (.t 1))]
(.keep [0,3] (.seq (.reg true [om 0 9 0,on 1 10 9,oa 2 11 0 10,oq 3 12 (.ld true 6 (.t 11)),oa 4 13 4 3,ol 5 14 13,⟨6,(some 15),none,.call 158 [.t 12,.t 14],[]⟩,om 7 4 15])
(.keep [0,3,4] (.seq (.reg true [om 0 17 0,on 1 18 17,oa 2 19 0 18,oq 3 20 (.ld true 6 (.t 19)),oa 4 21 4 3,ol 5 22 21,⟨6,(some 23),none,.call 94 [.t 20,.t 22],[]⟩,om 7 16 23,oq 8 24 (.ext (.t 16) 0),oq 9 25 (.ext (.t 16) 1),oq 10 5 (.allocL [(.int .i64 0),(.str []),(.bool false),(.bool false),(.int .i64 0),(.str [])]),⟨11,none,none,.op (.st 6 (.t 5) (.t 24)),[]⟩,om 12 6 25])
(.keep [0,3,4,5] (.seq (sr [om 0 26 4,oq 1 27 (.bin .eql .num (.t 26) (ci 0))]
(.keep [0,3,4,5,27] (.cond (.t 27)
 (.reg false [om 0 28 0,oa 1 29 1 3,ol 2 30 29,⟨3,(some 31),none,.call 87 [.t 28,ci 12,.t 30],[]⟩])
 .skip))) c131_5))))))), []⟩
def c132_1 : ACode := (.keep [0,4,6] (sr [oa 0 18 1 6,ol 1 19 18]
(.keep [0,4,19] (.cond (.t 19)
 (.reg false [om 0 20 0,oa 1 21 5 4,ol 2 22 21,⟨3,(some 23),none,.call 87 [.t 20,ci 14,.t 22],[]⟩])
 .skip))))
def c132 : AFn := ⟨3, 24, (sr [oq 0 4 (.boxL (.t 1))]
(.keep [0,2,4] (sr [om 0 7 0,oq 1 8 (.ld true 6 (.t 4)),⟨2,(some 9),none,.call 107 [.t 7,.t 8],[]⟩,oq 3 6 (.allocL [(.bool false),(.bool false)]),⟨4,none,none,.op (.st 2 (.t 6) (.t 9)),[]⟩]
(.keep [0,2,4,6] (.seq (sr [oa 0 10 0 6,ol 1 11 10,om 2 12 2,oq 3 13 (.bin .neq .bool (.t 11) (.t 12))]
(.keep [0,4,6,13] (.cond (.t 13)
 (.reg false [om 0 14 0,oa 1 15 5 4,ol 2 16 15,⟨3,(some 17),none,.call 87 [.t 14,ci 13,.t 16],[]⟩])
 .skip))) c132_1))))), []⟩
def c133_1 : ACode := (.keep [0,3,5] (.reg false [om 0 43 5,oq 1 44 (.bin .add .num (.t 43) (ci 1)),om 2 5 44]))
def c133_2 : ACode := (.keep [0,3,5] (.seq (.block 1
 (.seq (.reg true [om 0 45 0,on 1 46 45,oa 2 47 8 46,ol 3 48 47,om 4 49 5,oq 5 50 (.ixa 1 (.t 48) (.t 49)),ol 6 51 50,oa 7 52 4 3,ol 8 53 52,oq 9 54 (.bin .eql .num (.t 51) (.t 53))])
 (.keep [0,3,5,54] (.cond (.t 54)
 (.reg false [om 0 55 0,oa 1 56 1 3,ol 2 57 56,⟨3,(some 58),none,.call 87 [.t 55,ci 15,.t 57],[]⟩])
 .skip)))) c133_1))
def c133_3 : ACode := (.keep [0,3] (sr [om 0 64 0,on 1 65 64,oa 2 66 8 65,ol 3 67 66,om 4 6 67]
(.keep [0,3,6] (sr [oq 0 7 (.mv (.c .nils))]
(.keep [0,3,6,7] (sr [om 0 68 7,om 1 69 6,oq 2 70 (.app 1 16 false (.t 68) (.t 69)),om 3 7 70]
(.keep [0,3,6,7] (sr [om 0 71 7,oa 1 72 4 3,ol 2 73 72,oq 3 74 (.bsl 1 false [.t 73]),oq 4 75 (.app 1 16 false (.t 71) (.t 74)),om 5 7 75]
(.keep [0,3,6,7] (sr [om 0 76 0,om 1 77 7,on 2 78 76,oa 3 79 8 78,⟨4,none,none,.op (.st 1 (.t 79) (.t 77)),[]⟩]
(.keep [0,3,6] (sr [om 0 80 0,oa 1 81 7 3,ol 2 82 81,⟨3,(some 83),none,.call 89 [.t 80,.t 82],[]⟩]
(.keep [0,6] (.reg false [om 0 84 0,om 1 85 6,on 2 86 84,oa 3 87 8 86,⟨4,none,none,.op (.st 1 (.t 87) (.t 85)),[]⟩]))))))))))))))
def c133_4 : ACode := (.keep [0,3] (.seq (sr [om 0 59 0,on 1 60 59,oa 2 61 10 60,ol 3 62 61,oq 4 63 (.bin .neq .num (.t 62) (ci 0))]
(.keep [0,3,63] (.cond (.t 63)
 .ret
 .skip))) c133_3))
def c133_5 : ACode := (.keep [0,3] (.seq (sr [oq 0 5 (.mv (ci 0))]
(.keep [0,3,5] (.block 0
 (.loop
 (.keep [0,3,5] (.seq (sr [om 0 36 5,om 1 37 0,on 2 38 37,oa 3 39 8 38,ol 4 40 39,oq 5 41 (.len .l (.t 40)),oq 6 42 (.bin .lss .num (.t 36) (.t 41))]
 (.keep [0,3,5,42] (.cond (.t 42)
 .skip
 (.exit 0)))) c133_2)))))) c133_4))
def c133_6 : ACode := (.keep [0,3] (.seq (sr [om 0 27 0,on 1 28 27,oa 2 29 6 28,ol 3 30 29,oq 4 31 (.bin .geq .num (.t 30) (ci 0))]
(.keep [0,3,31] (.cond (.t 31)
 (.reg false [om 0 32 0,oa 1 33 1 3,ol 2 34 33,⟨3,(some 35),none,.call 87 [.t 32,ci 15,.t 34],[]⟩])
 .skip))) c133_5))
def c133_7 : ACode := (.keep [0,3,4] (.seq (sr [om 0 21 4,oq 1 22 (.bin .neq .num (.t 21) (ci 2))]
(.keep [0,3,22] (.cond (.t 22)
 (.reg false [om 0 23 0,oa 1 24 1 3,ol 2 25 24,⟨3,(some 26),none,.call 87 [.t 23,ci 13,.t 25],[]⟩])
 .skip))) c133_6))
def c133 : AFn := ⟨2, 88, (sr [oq 0 3 (.boxL (.t 1))]
(.keep [0,3] (.seq (.reg true [om 0 8 0,on 1 9 8,oa 2 10 0 9,oq 3 11 (.ld true 6 (.t 10)),oa 4 12 4 3,ol 5 13 12,⟨6,(some 14),none,.call 158 [.t 11,.t 13],[]⟩,om 7 4 14])
(.keep [0,3,4] (.seq (sr [om 0 15 4,oq 1 16 (.bin .eql .num (.t 15) (ci 0))]
(.keep [0,3,4,16] (.cond (.t 16)
 (.reg false [om 0 17 0,oa 1 18 1 3,ol 2 19 18,⟨3,(some 20),none,.call 87 [.t 17,ci 12,.t 19],[]⟩])
 .skip))) c133_7))))), []⟩
def c134_1 : ACode := (.keep [4,5] (sr [oq 0 48 (.ld true 4 (.t 5)),⟨1,none,none,.op (.st 4 (.t 4) (.t 48)),[]⟩]
(.keep [4] .ret)))
def c134_2 : ACode := (.keep [2,3,4,7,21] (.cond (.t 21)
 (.seq (.reg true [oq 0 24 (.ld true 6 (.t 2)),oa 1 25 4 3,ol 2 26 25,oq 3 27 (.ixa 6 (.t 26) (ci 0)),oq 4 28 (.ld true 6 (.t 27)),⟨5,(some 29),none,.call 134 [.t 24,.t 28],[]⟩,oq 6 5 (.allocL [(.bool false),(.bool false),(.int .i64 0),(.int .i64 0)]),⟨7,none,none,.op (.st 4 (.t 5) (.t 29)),[]⟩])
 (.keep [3,4,5] (.seq (sr [oa 0 30 2 5,ol 1 31 30,oq 2 32 (.bin .eql .num (.t 31) (ci 0)),om 3 33 32,og 4 34 33 true (.fa 0 (.t 5)),og 5 35 33 true (.fa 0 (.t 34)),og 6 36 33 true (.ld false 1 (.t 35)),og 7 37 33 true (.fa 0 (.t 3)),og 8 38 33 true (.ld false 1 (.t 37)),og 9 39 33 true (.bin .eql .num (.t 38) (ci 5)),og 10 40 33 true (.bin .neq .bool (.t 36) (.t 39)),oq 11 41 (.pick (.t 33) (.t 40) (.c (.bool false)))]
 (.keep [3,4,5,41] (.cond (.t 41)
 (sr [oa 0 42 4 3,ol 1 43 42,oq 2 44 (.ixa 6 (.t 43) (ci 0)),oa 3 45 5 44,ol 4 46 45,⟨5,(some 47),none,.call 162 [ci 13,.t 46],[]⟩,⟨6,none,none,.op (.st 4 (.t 4) (.t 47)),[]⟩]
 (.keep [4] .ret))
 .skip))) c134_1)))
 (sr [oq 0 50 (.bin .eql .num (.t 7) (ci 6)),om 1 49 50]
 (.keep [2,3,4,7,49] (.cond (.t 49)
 (sr [oq 0 51 (.ld true 6 (.t 2)),oq 1 52 (.ld true 6 (.t 3)),⟨2,(some 53),none,.call 163 [.t 51,.t 52],[]⟩,⟨3,none,none,.op (.st 4 (.t 4) (.t 53)),[]⟩]
 (.keep [4] .ret))
 (sr [oq 0 55 (.bin .eql .num (.t 7) (ci 7)),om 1 54 55]
 (.keep [2,3,4,54] (.cond (.t 54)
 (sr [oq 0 56 (.ld true 6 (.t 2)),oq 1 57 (.ld true 6 (.t 3)),⟨2,(some 58),none,.call 164 [.t 56,.t 57],[]⟩,⟨3,none,none,.op (.st 4 (.t 4) (.t 58)),[]⟩]
 (.keep [4] .ret))
 .skip))))))))
def c134_3 : ACode := (.keep [2,3,4,7,15] (.cond (.t 15)
 (sr [oq 0 18 (.ld true 6 (.t 2)),oq 1 19 (.ld true 6 (.t 3)),⟨2,(some 20),none,.call 161 [.t 18,.t 19],[]⟩,⟨3,none,none,.op (.st 4 (.t 4) (.t 20)),[]⟩]
 (.keep [4] .ret))
 (.seq (sr [oq 0 22 (.bin .eql .num (.t 7) (ci 4)),om 1 21 22]
 (.keep [2,3,4,7,21] (.cond (.t 21)
 .skip
 (.reg false [oq 0 23 (.bin .eql .num (.t 7) (ci 5)),om 1 21 23])))) c134_2)))
def c134_4 : ACode := (.keep [3,4] (sr [oa 0 59 5 3,ol 1 60 59,⟨2,(some 61),none,.call 162 [ci 13,.t 60],[]⟩,⟨3,none,none,.op (.st 4 (.t 4) (.t 61)),[]⟩]
(.keep [4] .ret)))
def c134 : AFn := ⟨2, 62, (sr [oq 0 2 (.boxL (.t 0)),oq 1 3 (.boxL (.t 1)),oq 2 4 (.allocL [(.bool false),(.bool false),(.int .i64 0),(.int .i64 0)])]
(.keep [2,3,4] (.seq (sr [oa 0 6 0 3,ol 1 7 6]
(.keep [2,3,4,7] (.block 0
 (sr [oq 0 9 (.bin .eql .num (.t 7) (ci 0)),om 1 8 9]
 (.keep [2,3,4,7,8] (.cond (.t 8)
 (sr [oq 0 10 (.build [(.bool false),(.bool false),(.int .i64 0),(.int .i64 0)] []),⟨1,none,none,.op (.st 4 (.t 4) (.t 10)),[]⟩]
 (.keep [4] .ret))
 (sr [oq 0 12 (.bin .eql .num (.t 7) (ci 1)),om 1 11 12]
 (.keep [2,3,4,7,11] (.cond (.t 11)
 (sr [oq 0 13 (.build [(.bool false),(.bool false)] [(0,1,(.c (.bool true)))]),oq 1 14 (.build [(.bool false),(.bool false),(.int .i64 0),(.int .i64 0)] [(0,2,(.t 13))]),⟨2,none,none,.op (.st 4 (.t 4) (.t 14)),[]⟩]
 (.keep [4] .ret))
 (.seq (sr [oq 0 16 (.bin .eql .num (.t 7) (ci 2)),om 1 15 16]
 (.keep [2,3,4,7,15] (.cond (.t 15)
 .skip
 (.reg false [oq 0 17 (.bin .eql .num (.t 7) (ci 3)),om 1 15 17])))) c134_3)))))))))) c134_4))), [.cell 4 true 4]⟩
def c135_1 : ACode := (.keep [0,3,6] (.seq (.block 1
 (.reg false [om 0 46 0,oa 1 47 4 3,ol 2 48 47,om 3 49 6,oq 4 50 (.ixa 6 (.t 48) (.t 49)),oq 5 51 (.ld true 6 (.t 50)),⟨6,(some 52),none,.call 135 [.t 46,.t 51],[]⟩]))
(.keep [0,3,6] (.reg false [om 0 44 6,oq 1 45 (.bin .add .num (.t 44) (ci 1)),om 2 6 45]))))
def c135_2 : ACode := (.keep [0,3] (sr [oq 0 6 (.mv (ci 0))]
(.keep [0,3,6] (.block 0
 (.loop
 (.keep [0,3,6] (.seq (sr [om 0 39 6,oa 1 40 4 3,ol 2 41 40,oq 3 42 (.len .l (.t 41)),oq 4 43 (.bin .lss .num (.t 39) (.t 42))]
 (.keep [0,3,6,43] (.cond (.t 43)
 .skip
 (.exit 0)))) c135_1)))))))
def c135 : AFn := ⟨2, 53, (sr [oq 0 3 (.boxL (.t 1))]
(.keep [0,3] (.seq (.reg true [om 0 8 0,on 1 9 8,oa 2 10 0 9,oq 3 11 (.ld true 6 (.t 10)),oa 4 12 3 3,ol 5 13 12,⟨6,(some 14),none,.call 96 [.t 11,.t 13],[]⟩,om 7 7 14,oq 8 15 (.ext (.t 7) 0),oq 9 16 (.ext (.t 7) 1),oq 10 4 (.allocL [(.int .i64 0),(.str []),.nils,(.bool false),(.bool false),.nils,(.int .i64 0),(.int .i64 0),(.int .i64 0),(.str []),.nils,(.int .i64 0)]),⟨11,none,none,.op (.st 12 (.t 4) (.t 15)),[]⟩,om 12 5 16])
(.keep [0,3,5] (.seq (sr [oa 0 17 0 3,ol 1 18 17,oq 2 19 (.bin .eql .num (.t 18) (ci 7)),om 3 20 19,og 4 21 20 true (.mv (.t 0)),og 5 22 20 true (.nck (.t 21)),og 6 23 20 true (.fa 6 (.t 22)),og 7 24 20 true (.ld false 1 (.t 23)),og 8 25 20 true (.bin .geq .num (.t 24) (ci 0)),oq 9 26 (.pick (.t 20) (.t 25) (.c (.bool false))),om 10 27 26,og 11 28 27 true (.mv (.t 5)),og 12 29 27 true (.mv (.t 0)),og 13 30 27 true (.nck (.t 29)),og 14 31 27 true (.fa 6 (.t 30)),og 15 32 27 true (.ld false 1 (.t 31)),og 16 33 27 true (.bin .geq .num (.t 28) (.t 32)),oq 17 34 (.pick (.t 27) (.t 33) (.c (.bool false)))]
(.keep [0,3,34] (.cond (.t 34)
 (.reg false [om 0 35 0,oa 1 36 5 3,ol 2 37 36,⟨3,(some 38),none,.call 87 [.t 35,ci 12,.t 37],[]⟩])
 .skip))) c135_2))))), []⟩
def c136_1 : ACode := (.keep [0,3,4] (.seq (.block 1
 (.reg false [om 0 26 0,oa 1 27 4 3,ol 2 28 27,om 3 29 4,oq 4 30 (.ixa 6 (.t 28) (.t 29)),oq 5 31 (.ld true 6 (.t 30)),⟨6,(some 32),none,.call 136 [.t 26,.t 31],[]⟩]))
(.keep [0,3,4] (.reg false [om 0 24 4,oq 1 25 (.bin .add .num (.t 24) (ci 1)),om 2 4 25]))))
def c136_2 : ACode := (.keep [0,3] (sr [oq 0 4 (.mv (ci 0))]
(.keep [0,3,4] (.block 0
 (.loop
 (.keep [0,3,4] (.seq (sr [om 0 19 4,oa 1 20 4 3,ol 2 21 20,oq 3 22 (.len .l (.t 21)),oq 4 23 (.bin .lss .num (.t 19) (.t 22))]
 (.keep [0,3,4,23] (.cond (.t 23)
 .skip
 (.exit 0)))) c136_1)))))))
def c136 : AFn := ⟨2, 33, (sr [oq 0 3 (.boxL (.t 1))]
(.keep [0,3] (.seq (sr [oa 0 5 0 3,ol 1 6 5,oq 2 7 (.bin .eql .num (.t 6) (ci 2)),om 3 8 7,og 4 9 8 false (.fa 0 (.t 3)),og 5 10 8 false (.ld false 1 (.t 9)),og 6 11 8 false (.bin .eql .num (.t 10) (ci 3)),oq 7 12 (.pick (.t 8) (.c (.bool true)) (.t 11))]
(.keep [0,3,12] (.cond (.t 12)
 (.reg false [om 0 13 0,oa 1 14 3 3,ol 2 15 14,oa 3 16 5 3,ol 4 17 16,⟨5,(some 18),none,.call 160 [.t 13,.t 15,.t 17,(.c (.bool false))],[]⟩])
 .skip))) c136_2))), []⟩
def c137 : AFn := ⟨3, 12, (sr [oq 0 6 (.mv (ci 0))]
(.keep [0,1,2] (sr [om 0 7 0,om 1 8 1,om 2 9 2,oq 3 10 (.build z7 [(0,1,(ci 4)),(3,1,(.t 8)),(5,1,(.t 9))]),⟨4,(some 11),none,.call 143 [.t 7,.t 10],[]⟩,om 5 6 11]
(.keep [6] .ret)))), [.tmp 6]⟩
def c138_1 : ACode := (.keep [0,5,6] (sr [om 0 38 0,om 1 39 6,⟨2,(some 40),none,.call 112 [.t 38,.t 39],[]⟩,om 3 7 40]
(.keep [0,5,7] (sr [om 0 41 0,om 1 42 7,oa 2 43 1 5,ol 3 44 43,⟨4,(some 45),none,.call 166 [.t 41,.t 42,.t 44],[]⟩]
(.keep [0,5,7] (sr [om 0 46 0,om 1 47 7,oa 2 48 0 5,ol 3 49 48,⟨4,(some 50),none,.call 137 [.t 46,.t 47,.t 49],[]⟩,om 5 4 50]
(.keep [4] .ret)))))))
def c138 : AFn := ⟨2, 51, (sr [oq 0 3 (.boxL (.t 1)),oq 1 4 (.mv (ci 0))]
(.keep [0,3] (.seq (.reg true [om 0 8 0,on 1 9 8,oa 2 10 0 9,ol 3 11 10,oa 4 12 3 3,ol 5 13 12,oq 6 14 (.lkp .s (.agg [(.int .i64 0),(.int .i64 0),(.bool false),(.bool false)]) false (.t 11) (.t 13)),oq 7 5 (.allocL [(.int .i64 0),(.int .i64 0),(.bool false),(.bool false)]),⟨8,none,none,.op (.st 4 (.t 5) (.t 14)),[]⟩])
(.keep [0,3,5] (sr [om 0 15 0,oa 1 16 4 3,ol 2 17 16,oq 3 18 (.ixa 6 (.t 17) (ci 0)),oq 4 19 (.ld true 6 (.t 18)),⟨5,(some 20),none,.call 111 [.t 15,.t 19],[]⟩,om 6 6 20]
(.keep [0,5,6] (.seq (sr [oa 0 21 1 5,ol 1 22 21,⟨2,(some 23),none,.call 165 [.t 22],[]⟩]
(.keep [0,5,6,23] (.cond (.t 23)
 (sr [om 0 24 0,om 1 25 6,oa 2 26 1 5,ol 3 27 26,⟨4,(some 28),none,.call 166 [.t 24,.t 25,.t 27],[]⟩]
 (.keep [0,5,6] (.seq (.reg true [om 0 29 0,om 1 30 0,om 2 31 6,oa 3 32 1 5,ol 4 33 32,oa 6 35 0 5,ol 7 36 35,⟨5,(some 34),none,.call 167 [.t 30,.t 31,.t 33],[6]⟩,⟨8,(some 37),none,.call 137 [.t 29,.t 34,.t 36],[]⟩,om 9 4 37])
 (.keep [4] .ret))))
 .skip))) c138_1))))))), [.tmp 4]⟩
def c139 : AFn := ⟨4, 15, (sr [oq 0 8 (.mv (ci 0))]
(.keep [0,1,2,3] (sr [om 0 9 0,om 1 10 1,om 2 11 2,om 3 12 3,oq 4 13 (.build z7 [(0,1,(ci 2)),(1,1,(.t 10)),(3,1,(.t 11)),(4,1,(.t 12))]),⟨5,(some 14),none,.call 143 [.t 9,.t 13],[]⟩,om 6 8 14]
(.keep [8] .ret)))), [.tmp 8]⟩
def c140 : AFn := ⟨2, 9, (sr [oq 0 4 (.mv (ci 0))]
(.keep [0,1] (sr [om 0 5 0,om 1 6 1,oq 2 7 (.build z7 [(0,1,(ci 0)),(5,1,(.t 6))]),⟨3,(some 8),none,.call 143 [.t 5,.t 7],[]⟩,om 4 4 8]
(.keep [4] .ret)))), [.tmp 4]⟩
def c141 : AFn := ⟨3, 23, (.reg true [om 0 6 0,on 1 7 6,oa 2 8 6 7,ol 3 9 8,om 4 10 2,om 5 11 0,on 6 12 11,oa 7 13 6 12,ol 8 14 13,om 9 15 2,oq 10 16 (.lkp .i .nils false (.t 14) (.t 15)),om 11 17 0,om 12 18 1,oq 13 19 (.build z7 [(0,1,(ci 7)),(3,1,(.t 18))]),⟨14,(some 20),none,.call 28 [.t 17,.t 19],[3,8,10]⟩,⟨15,(some 21),none,.op (.bsl 1 false [.t 20]),[3,8,10]⟩,⟨16,(some 22),none,.op (.app 1 8 false (.t 16) (.t 21)),[3]⟩,⟨17,none,none,.op (.mup .i (.t 9) (.t 10) (.t 22)),[]⟩]), []⟩
def c142_1 : ACode := (.keep [2,5,6,21,22,23] (.seq (.block 1
 (sr [oq 0 25 (.ixa 6 (.t 21) (.t 23)),oq 1 26 (.ld true 6 (.t 25)),oq 2 8 (.allocL [(.int .i64 0),(.int .i64 0),(.int .i64 0),(.str []),.nils,(.int .i64 0)]),⟨3,none,none,.op (.st 6 (.t 8) (.t 26)),[]⟩]
 (.keep [2,5,6,8,21,22,23] (.reg false [om 0 27 6,ol 1 28 2,oq 2 29 (.ld true 6 (.t 8)),⟨3,(some 30),none,.call 111 [.t 28,.t 29],[]⟩,oq 4 31 (.bsl 1 true [.t 30]),oq 5 32 (.app 1 8 true (.t 27) (.t 31)),om 6 6 32]))))
(.keep [2,5,6,21,22,23] (.reg false [oq 0 33 (.bin .add .num (.t 23) (ci 1)),om 1 23 33]))))
def c142_2 : ACode := (.keep [2,5,9,35,36,37] (.seq (.block 3
 (sr [om 0 39 37,oq 1 40 (.ixa 1 (.t 35) (.t 37)),ol 2 41 40,om 3 10 39,om 4 11 41]
 (.keep [2,5,9,10,11,35,36,37] (.reg true [om 0 42 9,oa 1 43 2 5,ol 2 44 43,om 3 45 10,oq 4 46 (.ixa 3 (.t 44) (.t 45)),oa 5 47 0 46,ol 6 48 47,ol 7 49 2,om 8 50 11,⟨9,(some 51),none,.call 112 [.t 49,.t 50],[2,6]⟩,⟨10,none,none,.op (.mup .s (.t 42) (.t 48) (.t 51)),[]⟩]))))
(.keep [2,5,9,35,36,37] (.reg false [oq 0 52 (.bin .add .num (.t 37) (ci 1)),om 1 37 52]))))
def c142_3 : ACode := (.keep [2,5,9] (sr [ol 0 53 2,on 1 54 53,oa 2 55 5 54,ol 3 56 55,oq 4 12 (.allocH [.nilm]),⟨5,none,none,.op (.st 1 (.t 12) (.t 56)),[]⟩]
(.keep [2,5,9,12] (sr [ol 0 57 2,om 1 58 9,on 2 59 57,oa 3 60 5 59,⟨4,none,none,.op (.st 1 (.t 60) (.t 58)),[]⟩]
(.keep [2,5,12] (sr [oq 0 61 (.mkf (.func 168) [] [.t 12,.t 2]),⟨1,none,none,.dfr (.t 61) [],[]⟩]
(.keep [2,5] (sr [ol 0 62 2,oa 1 63 5 5,ol 2 64 63,⟨3,(some 65),none,.call 54 [.t 62,.t 64],[]⟩]
(.keep [2,5] (sr [ol 0 66 2,oa 1 67 6 5,oq 2 68 (.ld true 6 (.t 67)),⟨3,(some 69),none,.call 111 [.t 66,.t 68],[]⟩,om 4 4 69]
(.keep [4] .ret)))))))))))
def c142_4 : ACode := (.keep [2,5,6] (sr [oq 0 34 (.mkmap),om 1 9 34]
(.keep [2,5,6,9] (.seq (sr [om 0 35 6,oq 1 36 (.len .l (.t 35)),oq 2 37 (.mv (ci 0))]
(.keep [2,5,9,35,36,37] (.block 2
 (.loop
 (.keep [2,5,9,35,36,37] (sr [oq 0 38 (.bin .lss .num (.t 37) (.t 36))]
 (.keep [2,5,9,35,36,37,38] (.seq (.cond (.t 38)
 .skip
 (.exit 2)) c142_2)))))))) c142_3))))
def c142 : AFn := ⟨2, 70, (sr [oq 0 2 (.boxH (.t 0)),oq 1 3 (.boxL (.t 1)),oq 2 4 (.mv (ci 0))]
(.keep [2,3] (.seq (.reg true [ol 0 13 2,on 1 14 13,oa 2 15 1 14,ol 3 16 15,oa 4 17 3 3,ol 5 18 17,oq 6 19 (.lkp .s (.agg [(.int .i64 0),(.str []),.nils,(.bool false),(.bool false),.nils,(.int .i64 0),(.int .i64 0),(.int .i64 0),(.str []),.nils,(.int .i64 0)]) false (.t 16) (.t 18)),oq 7 5 (.allocL [(.int .i64 0),(.str []),.nils,(.bool false),(.bool false),.nils,(.int .i64 0),(.int .i64 0),(.int .i64 0),(.str []),.nils,(.int .i64 0)]),⟨8,none,none,.op (.st 12 (.t 5) (.t 19)),[]⟩])
(.keep [2,3,5] (sr [oq 0 6 (.mv (.c .nils))]
(.keep [2,3,5,6] (.seq (sr [oa 0 20 4 3,ol 1 21 20,oq 2 22 (.len .l (.t 21)),oq 3 23 (.mv (ci 0))]
(.keep [2,5,6,21,22,23] (.block 0
 (.loop
 (.keep [2,5,6,21,22,23] (sr [oq 0 24 (.bin .lss .num (.t 23) (.t 22))]
 (.keep [2,5,6,21,22,23,24] (.seq (.cond (.t 24)
 .skip
 (.exit 0)) c142_1)))))))) c142_4))))))), [.tmp 4]⟩
def c143 : AFn := ⟨2, 13, (sr [oq 0 3 (.boxL (.t 1)),oq 1 4 (.mv (ci 0))]
(.keep [0,3] (sr [om 0 5 0,⟨1,(some 6),none,.call 169 [.t 5],[]⟩,oa 2 7 2 3,⟨3,none,none,.op (.st 1 (.t 7) (.t 6)),[]⟩]
(.keep [0,3] (sr [om 0 8 0,oq 1 9 (.ld true 7 (.t 3)),⟨2,(some 10),none,.call 28 [.t 8,.t 9],[]⟩]
(.keep [3] (sr [oa 0 11 2 3,ol 1 12 11,om 2 4 12]
(.keep [4] .ret)))))))), [.tmp 4]⟩
def c144_1 : ACode := (.keep [0,4,6,7] (.reg false [om 0 58 0,om 1 59 7,om 2 60 6,oa 3 61 0 4,ol 4 62 61,oq 5 63 (.build z7 [(0,1,(ci 5)),(3,1,(.t 59)),(4,1,(.t 60)),(5,1,(.t 62))]),⟨6,(some 64),none,.call 28 [.t 58,.t 63],[]⟩]))
def c144 : AFn := ⟨2, 65, (sr [oq 0 3 (.boxL (.t 1))]
(.keep [0,3] (.seq (.reg true [om 0 10 0,on 1 11 10,oa 2 12 0 11,ol 3 13 12,oa 4 14 4 3,ol 5 15 14,oq 6 16 (.lkp .s (.agg [(.int .i64 0),(.int .i64 0),(.bool false),(.bool false)]) false (.t 13) (.t 15)),oq 7 4 (.allocL [(.int .i64 0),(.int .i64 0),(.bool false),(.bool false)]),⟨8,none,none,.op (.st 4 (.t 4) (.t 16)),[]⟩])
(.keep [0,3,4] (sr [om 0 17 0,oa 1 18 5 3,ol 2 19 18,oq 3 20 (.ixa 6 (.t 19) (ci 0)),oq 4 21 (.ld true 6 (.t 20)),⟨5,(some 22),none,.call 111 [.t 17,.t 21],[]⟩,om 6 5 22]
(.keep [0,3,4,5] (sr [om 0 23 0,om 1 24 5,oa 2 25 1 4,ol 3 26 25,⟨4,(some 27),none,.call 166 [.t 23,.t 24,.t 26],[]⟩]
(.keep [0,3,4,5] (sr [om 0 28 0,oa 1 29 6 3,ol 2 30 29,oq 3 31 (.ixa 6 (.t 30) (ci 0)),oq 4 32 (.ld true 6 (.t 31)),⟨5,(some 33),none,.call 111 [.t 28,.t 32],[]⟩,om 6 6 33]
(.keep [0,4,5,6] (sr [oq 0 7 (.mv (ci 0))]
(.keep [0,4,5,6] (.seq (sr [oa 0 34 1 4,ol 1 35 34,⟨2,(some 36),none,.call 165 [.t 35],[]⟩]
(.keep [0,4,5,6,36] (.cond (.t 36)
 (.reg false [om 0 37 0,om 1 38 5,oa 2 39 1 4,ol 3 40 39,⟨4,(some 41),none,.call 167 [.t 37,.t 38,.t 40],[]⟩,om 5 7 41])
 (sr [om 0 42 0,om 1 43 5,⟨2,(some 44),none,.call 112 [.t 42,.t 43],[]⟩,om 3 8 44]
 (.keep [0,4,6,8] (sr [om 0 45 0,om 1 46 8,oa 2 47 1 4,ol 3 48 47,⟨4,(some 49),none,.call 170 [.t 45,.t 46,.t 48],[]⟩,om 5 9 49]
 (.keep [0,4,6,8,9] (sr [om 0 50 0,⟨1,(some 51),none,.call 140 [.t 50,ci 0],[]⟩,om 2 7 51]
 (.keep [0,4,6,7,8,9] (.reg false [om 0 52 0,om 1 53 7,om 2 54 9,om 3 55 8,oq 4 56 (.build z7 [(0,1,(ci 3)),(2,1,(.t 53)),(3,1,(.t 54)),(4,1,(.t 55))]),⟨5,(some 57),none,.call 28 [.t 52,.t 56],[]⟩])))))))))) c144_1))))))))))))), []⟩
def c154 : AFn := ⟨1, 11, (sr [oq 0 2 (.allocL [(.int .i64 0),(.int .i64 0),(.int .i64 0),(.str []),.nils,(.int .i64 0)])]
(.keep [0,2] (sr [om 0 4 0,⟨1,(some 5),none,.call 82 [.t 4,(.c (.str [40]))],[]⟩]
(.keep [0,2] (sr [om 0 6 0,⟨1,(some 7),none,.call 104 [.t 6],[]⟩,oq 2 3 (.allocL [(.int .i64 0),(.int .i64 0),(.int .i64 0),(.str []),.nils,(.int .i64 0)]),⟨3,none,none,.op (.st 6 (.t 3) (.t 7)),[]⟩]
(.keep [0,2,3] (sr [om 0 8 0,⟨1,(some 9),none,.call 82 [.t 8,(.c (.str [41]))],[]⟩]
(.keep [2,3] (sr [oq 0 10 (.ld true 6 (.t 3)),⟨1,none,none,.op (.st 6 (.t 2) (.t 10)),[]⟩]
(.keep [2] .ret)))))))))), [.cell 2 true 6]⟩
def c155_1 : ACode := (.keep [0,2,4] (.seq (.reg true [oa 0 45 4 4,ol 1 46 45,om 2 47 0,⟨3,(some 48),none,.call 155 [.t 47],[1]⟩,⟨4,(some 49),none,.op (.bsl 6 false [.t 48]),[1]⟩,oq 5 50 (.app 6 72 false (.t 46) (.t 49)),oa 6 51 4 4,⟨7,none,none,.op (.st 1 (.t 51) (.t 50)),[]⟩])
(.keep [0,2,4] (.reg false [om 0 52 0,on 1 53 52,oa 2 54 2 53,ol 3 55 54,oq 4 56 (.bin .sub .num (.t 55) (ci 1)),on 5 57 52,oa 6 58 2 57,⟨7,none,none,.op (.st 1 (.t 58) (.t 56)),[]⟩]))))
def c155_2 : ACode := (.keep [0,2,3,4] (sr [oa 0 40 0 4,⟨1,none,none,.op (.st 1 (.t 40) (ci 4)),[]⟩]
(.keep [0,2,3,4] (.seq (sr [oa 0 41 1 3,ol 1 42 41,oq 2 43 (.bin .eql .num (.t 42) (.c (.str [33])))]
(.keep [0,2,4,43] (.cond (.t 43)
 (.reg false [oa 0 44 0 4,⟨1,none,none,.op (.st 1 (.t 44) (ci 5)),[]⟩])
 .skip))) c155_1))))
def c155_3 : ACode := (.keep [0,2,4] (sr [om 0 67 0,⟨1,(some 68),none,.call 129 [.t 67,ci 1],[]⟩,⟨2,none,none,.op (.st 6 (.t 4) (.t 68)),[]⟩]
(.keep [0,2,4] (sr [om 0 69 0,⟨1,(some 70),none,.call 100 [.t 69,(.c (.str [41]))],[]⟩]
(.keep [0,2,4] (.reg false [om 0 71 0,on 1 72 71,oa 2 73 2 72,ol 3 74 73,oq 4 75 (.bin .sub .num (.t 74) (ci 1)),on 5 76 71,oa 6 77 2 76,⟨7,none,none,.op (.st 1 (.t 77) (.t 75)),[]⟩]))))))
def c155_4 : ACode := (.keep [0,2,4] (.reg false [om 0 104 0,on 1 105 104,oa 2 106 1 105,ol 3 107 106,oq 4 108 (.bin .add .num (.t 107) (ci 1)),on 5 109 104,oa 6 110 1 109,⟨7,none,none,.op (.st 1 (.t 110) (.t 108)),[]⟩]))
def c155_5 : ACode := (.keep [2,4] (sr [oq 0 123 (.ld true 6 (.t 4)),⟨1,none,none,.op (.st 6 (.t 2) (.t 123)),[]⟩]
(.keep [2] .ret)))
end Go.Ab
