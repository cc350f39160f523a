/- Functions as code of the abstract machine (part 5). No conditions. -/
import Derived.Test.YtlncafbialfojaaGreatLmC0
set_option linter.unusedVariables false
set_option linter.unusedSimpArgs false
namespace Go.Ab
def c155_6 : ACode := (.keep [0,2] (.seq (.reg true [om 0 13 0,on 1 14 13,oa 2 15 0 14,ol 3 16 15,om 4 17 0,on 5 18 17,oa 6 19 1 18,ol 7 20 19,oq 8 21 (.ixa 4 (.t 16) (.t 20)),oq 9 22 (.ld true 4 (.t 21)),oq 10 3 (.allocL [(.int .i64 0),(.str []),(.int .i64 0),(.int .i64 0)]),⟨11,none,none,.op (.st 4 (.t 3) (.t 22)),[]⟩])
(.keep [0,2,3] (sr [oa 0 23 3 3,ol 1 24 23,oq 2 25 (.build [(.int .i64 0),(.int .i64 0),(.int .i64 0),(.str []),.nils,(.int .i64 0)] [(5,1,(.t 24))]),oq 3 4 (.allocL [(.int .i64 0),(.int .i64 0),(.int .i64 0),(.str []),.nils,(.int .i64 0)]),⟨4,none,none,.op (.st 6 (.t 4) (.t 25)),[]⟩]
(.keep [0,2,3,4] (.seq (.block 0
 (sr [om 0 29 0,⟨1,(some 30),none,.call 98 [.t 29,(.c (.str [45]))],[]⟩,om 2 31 30,og 3 32 31 false (.mv (.t 0)),⟨4,(some 33),(some (31,false)),.call 98 [.t 32,(.c (.str [33]))],[]⟩,oq 5 34 (.pick (.t 31) (.c (.bool true)) (.t 33)),om 6 28 34]
 (.keep [0,2,3,4,28] (.cond (.t 28)
 (sr [om 0 35 0,⟨1,(some 36),none,.call 171 [.t 35],[]⟩,om 2 5 36]
 (.keep [0,2,3,4,5] (.seq (sr [om 0 37 5,oq 1 38 (.un .not (.t 37))]
 (.keep [0,2,3,4,38] (.cond (.t 38)
 (sr [oq 0 39 (.ld true 6 (.t 4)),⟨1,none,none,.op (.st 6 (.t 2) (.t 39)),[]⟩]
 (.keep [2] .ret))
 .skip))) c155_2)))
 (sr [om 0 60 0,⟨1,(some 61),none,.call 98 [.t 60,(.c (.str [40]))],[]⟩,om 2 59 61]
 (.keep [0,2,3,4,59] (.cond (.t 59)
 (sr [om 0 62 0,⟨1,(some 63),none,.call 171 [.t 62],[]⟩,om 2 6 63]
 (.keep [0,2,4,6] (.seq (sr [om 0 64 6,oq 1 65 (.un .not (.t 64))]
 (.keep [0,2,4,65] (.cond (.t 65)
 (sr [oq 0 66 (.ld true 6 (.t 4)),⟨1,none,none,.op (.st 6 (.t 2) (.t 66)),[]⟩]
 (.keep [2] .ret))
 .skip))) c155_3)))
 (sr [oa 0 79 0 3,ol 1 80 79,oq 2 81 (.bin .eql .num (.t 80) (ci 1)),om 3 78 81]
 (.keep [0,2,3,4,78] (.cond (.t 78)
 (sr [oa 0 82 2 3,ol 1 83 82,oa 2 84 2 4,⟨3,none,none,.op (.st 1 (.t 84) (.t 83)),[]⟩]
 (.keep [0,2,4] (.reg false [om 0 85 0,on 1 86 85,oa 2 87 1 86,ol 3 88 87,oq 4 89 (.bin .add .num (.t 88) (ci 1)),on 5 90 85,oa 6 91 1 90,⟨7,none,none,.op (.st 1 (.t 91) (.t 89)),[]⟩])))
 (sr [om 0 93 0,⟨1,(some 94),none,.call 98 [.t 93,(.c (.str [116,114,117,101]))],[]⟩,om 2 95 94,og 3 96 95 false (.mv (.t 0)),⟨4,(some 97),(some (95,false)),.call 98 [.t 96,(.c (.str [102,97,108,115,101]))],[]⟩,oq 5 98 (.pick (.t 95) (.c (.bool true)) (.t 97)),om 6 92 98]
 (.keep [0,2,3,4,92] (.cond (.t 92)
 (sr [oa 0 99 0 4,⟨1,none,none,.op (.st 1 (.t 99) (ci 1)),[]⟩]
 (.keep [0,2,3,4] (.seq (sr [oa 0 100 1 3,ol 1 101 100,oq 2 102 (.bin .eql .num (.t 101) (.c (.str [116,114,117,101])))]
 (.keep [0,2,4,102] (.cond (.t 102)
 (.reg false [oa 0 103 2 4,⟨1,none,none,.op (.st 1 (.t 103) (ci 1)),[]⟩])
 .skip))) c155_4)))
 (sr [oa 0 112 0 3,ol 1 113 112,oq 2 114 (.bin .eql .num (.t 113) (ci 0)),om 3 115 114,og 4 116 115 true (.fa 1 (.t 3)),og 5 117 115 true (.ld false 1 (.t 116)),⟨6,(some 118),(some (115,true)),.call 99 [.t 117],[]⟩,og 7 119 115 true (.un .not (.t 118)),oq 8 120 (.pick (.t 115) (.t 119) (.c (.bool false))),om 9 111 120]
 (.keep [0,2,4,111] (.cond (.t 111)
 (sr [om 0 121 0,⟨1,(some 122),none,.call 172 [.t 121],[]⟩,⟨2,none,none,.op (.st 6 (.t 2) (.t 122)),[]⟩]
 (.keep [2] .ret))
 (.reg false [om 0 26 0,⟨1,(some 27),none,.call 126 [.t 26,ci 11],[]⟩]))))))))))))))))) c155_5))))))
def c155 : AFn := ⟨1, 124, (sr [oq 0 2 (.allocL [(.int .i64 0),(.int .i64 0),(.int .i64 0),(.str []),.nils,(.int .i64 0)])]
(.keep [0,2] (.seq (sr [om 0 7 0,on 1 8 7,oa 2 9 3 8,ol 3 10 9,oq 4 11 (.bin .neq .num (.t 10) (ci 0))]
(.keep [0,2,11] (.cond (.t 11)
 (sr [oq 0 12 (.build [(.int .i64 0),(.int .i64 0),(.int .i64 0),(.str []),.nils,(.int .i64 0)] []),⟨1,none,none,.op (.st 6 (.t 2) (.t 12)),[]⟩]
 (.keep [2] .ret))
 .skip))) c155_6))), [.cell 2 true 6]⟩
def c156_1 : ACode := (.keep [0,3] (.reg false [om 0 6 3,oq 1 7 (.bin .add .num (.t 6) (ci 1)),om 2 3 7]))
def c156_2 : ACode := (.keep [0,3] (.seq (.block 1
 (sr [om 0 8 0,oq 1 9 (.bin .neq .num (.t 8) (.c (.str []))),om 2 10 9,og 3 11 10 true (.mv (.t 3)),⟨4,(some 12),(some (10,true)),.call 73 [.t 11],[]⟩,og 5 13 10 true (.mv (.t 0)),og 6 14 10 true (.bin .eql .num (.t 12) (.t 13)),oq 7 15 (.pick (.t 10) (.t 14) (.c (.bool false)))]
 (.keep [0,3,15] (.cond (.t 15)
 (sr [om 0 16 3,om 1 2 16]
 (.keep [2] .ret))
 .skip)))) c156_1))
def c156_3 : ACode := (.keep [] (sr [oq 0 2 (.mv (.c (.int .i64 (-1))))]
(.keep [2] .ret)))
def c156 : AFn := ⟨1, 17, (sr [oq 0 2 (.mv (ci 0))]
(.keep [0] (.seq (sr [oq 0 3 (.mv (ci 0))]
(.keep [0,3] (.block 0
 (.loop
 (.keep [0,3] (.seq (sr [om 0 4 3,oq 1 5 (.bin .lss .num (.t 4) (ci 19))]
 (.keep [0,3,5] (.cond (.t 5)
 .skip
 (.exit 0)))) c156_2)))))) c156_3))), [.tmp 2]⟩
def c157_1 : ACode := (.keep [0,3] (sr [om 0 13 3,om 1 14 0,oq 2 15 (.ixa 1 (.t 13) (.t 14)),ol 3 16 15,om 4 2 16]
(.keep [2] .ret)))
def c157 : AFn := ⟨1, 17, (sr [oq 0 2 (.mv (ci 0))]
(.keep [0] (sr [oq 0 4 (.bsl 1 true [ci 9,ci 9,ci 10,ci 10,ci 10,ci 5,ci 3,ci 4,ci 8,ci 8,ci 6,ci 6,ci 7,ci 7,ci 7,ci 7,ci 0,ci 2,ci 1]),om 1 3 4]
(.keep [0,3] (.seq (sr [om 0 5 0,oq 1 6 (.bin .lss .num (.t 5) (ci 0)),om 2 7 6,og 3 8 7 false (.mv (.t 0)),og 4 9 7 false (.mv (.t 3)),og 5 10 7 false (.len .l (.t 9)),og 6 11 7 false (.bin .geq .num (.t 8) (.t 10)),oq 7 12 (.pick (.t 7) (.c (.bool true)) (.t 11))]
(.keep [0,3,12] (.cond (.t 12)
 (sr [oq 0 2 (.mv (ci 0))]
 (.keep [2] .ret))
 .skip))) c157_1))))), [.tmp 2]⟩
def c158_1 : ACode := (.keep [] (sr [oq 0 4 (.mv (ci 0))]
(.keep [4] .ret)))
def c158 : AFn := ⟨2, 37, (sr [oq 0 2 (.boxL (.t 0)),oq 1 4 (.mv (ci 0))]
(.keep [1,2] (sr [oq 0 10 (.ld true 6 (.t 2)),om 1 11 1,⟨2,(some 12),none,.call 94 [.t 10,.t 11],[]⟩,om 3 9 12,oq 4 13 (.ext (.t 9) 0),oq 5 14 (.ext (.t 9) 1),oq 6 5 (.allocL [(.int .i64 0),(.str []),(.bool false),(.bool false),(.int .i64 0),(.str [])]),⟨7,none,none,.op (.st 6 (.t 5) (.t 13)),[]⟩,om 8 6 14]
(.keep [1,2,6] (sr [oq 0 16 (.ld true 6 (.t 2)),om 1 17 1,⟨2,(some 18),none,.call 96 [.t 16,.t 17],[]⟩,om 3 15 18,oq 4 19 (.ext (.t 15) 0),oq 5 20 (.ext (.t 15) 1),oq 6 7 (.allocL [(.int .i64 0),(.str []),.nils,(.bool false),(.bool false),.nils,(.int .i64 0),(.int .i64 0),(.int .i64 0),(.str []),.nils,(.int .i64 0)]),⟨7,none,none,.op (.st 12 (.t 7) (.t 19)),[]⟩,om 8 8 20]
(.keep [1,2,6,8] (.seq (.block 0
 (sr [om 0 22 6,oq 1 23 (.bin .geq .num (.t 22) (ci 0)),om 2 21 23]
 (.keep [1,2,8,21] (.cond (.t 21)
 (sr [oq 0 4 (.mv (ci 1))]
 (.keep [4] .ret))
 (sr [oq 0 25 (.ld true 6 (.t 2)),om 1 26 1,⟨2,(some 27),none,.call 58 [.t 25,.t 26],[]⟩,oq 3 28 (.bin .geq .num (.t 27) (ci 0)),om 4 24 28]
 (.keep [1,2,8,24] (.cond (.t 24)
 (sr [oq 0 4 (.mv (ci 2))]
 (.keep [4] .ret))
 (sr [om 0 30 8,oq 1 31 (.bin .geq .num (.t 30) (ci 0)),om 2 29 31]
 (.keep [1,2,29] (.cond (.t 29)
 (sr [oq 0 4 (.mv (ci 3))]
 (.keep [4] .ret))
 (sr [oq 0 33 (.ld true 6 (.t 2)),om 1 34 1,⟨2,(some 35),none,.call 173 [.t 33,.t 34],[]⟩,oq 3 36 (.bin .geq .num (.t 35) (ci 0)),om 4 32 36]
 (.keep [32] (.cond (.t 32)
 (sr [oq 0 4 (.mv (ci 4))]
 (.keep [4] .ret))
 .skip))))))))))))) c158_1))))))), [.tmp 4]⟩
def c159_1 : ACode := (.keep [4] (sr [oq 0 29 (.build [(.bool false),(.bool false)] []),⟨1,none,none,.op (.st 2 (.t 4) (.t 29)),[]⟩]
(.keep [4] .ret)))
def c159_2 : ACode := (.keep [1,2,4] (.seq (sr [oq 0 17 (.ld true 6 (.t 2)),om 1 18 1,⟨2,(some 19),none,.call 158 [.t 17,.t 18],[]⟩,oq 3 20 (.bin .eql .num (.t 19) (ci 4))]
(.keep [1,2,4,20] (.cond (.t 20)
 (.seq (.reg true [oa 0 21 5 2,ol 1 22 21,oq 2 23 (.ld true 6 (.t 2)),om 3 24 1,⟨4,(some 25),none,.call 173 [.t 23,.t 24],[1]⟩,oq 5 26 (.ixa 4 (.t 22) (.t 25)),oa 6 27 1 26,oq 7 28 (.ld true 2 (.t 27)),⟨8,none,none,.op (.st 2 (.t 4) (.t 28)),[]⟩])
 (.keep [4] .ret))
 .skip))) c159_1))
def c159 : AFn := ⟨2, 30, (sr [oq 0 2 (.boxL (.t 0)),oq 1 4 (.allocL [(.bool false),(.bool false)])]
(.keep [1,2,4] (sr [oq 0 8 (.ld true 6 (.t 2)),om 1 9 1,⟨2,(some 10),none,.call 94 [.t 8,.t 9],[]⟩,om 3 7 10,oq 4 11 (.ext (.t 7) 0),oq 5 12 (.ext (.t 7) 1),oq 6 5 (.allocL [(.int .i64 0),(.str []),(.bool false),(.bool false),(.int .i64 0),(.str [])]),⟨7,none,none,.op (.st 6 (.t 5) (.t 11)),[]⟩,om 8 6 12]
(.keep [1,2,4,5,6] (.seq (sr [om 0 13 6,oq 1 14 (.bin .geq .num (.t 13) (ci 0))]
(.keep [1,2,4,5,14] (.cond (.t 14)
 (sr [oa 0 15 2 5,oq 1 16 (.ld true 2 (.t 15)),⟨2,none,none,.op (.st 2 (.t 4) (.t 16)),[]⟩]
 (.keep [4] .ret))
 .skip))) c159_2))))), [.cell 4 true 2]⟩
def c160_1 : ACode := (.keep [0,2,3,8,9,10,11] (.seq (.block 1
 (.reg true [om 0 50 10,om 1 51 50,og 2 52 51 false (.mv (.t 0)),og 3 53 51 false (.nck (.t 52)),og 4 54 51 false (.fa 8 (.t 53)),og 5 55 51 false (.ld false 1 (.t 54)),og 6 56 51 false (.mv (.t 11)),og 7 57 51 false (.ixa 1 (.t 55) (.t 56)),og 8 58 51 false (.ld false 1 (.t 57)),og 9 59 51 false (.fa 5 (.t 8)),og 10 60 51 false (.ld false 1 (.t 59)),og 11 61 51 false (.bin .eql .num (.t 58) (.t 60)),oq 12 62 (.pick (.t 51) (.c (.bool true)) (.t 61)),om 13 10 62]))
(.keep [0,2,3,8,9,10,11] (.reg false [om 0 48 11,oq 1 49 (.bin .add .num (.t 48) (ci 1)),om 2 11 49]))))
def c160_2 : ACode := (.keep [0,3,9] (.seq (.reg true [om 0 103 3,om 1 104 103,og 2 105 104 true (.mv (.t 0)),og 3 106 104 true (.nck (.t 105)),og 4 107 104 true (.fa 9 (.t 106)),og 5 108 104 true (.ld false 1 (.t 107)),og 6 109 104 true (.mv (.t 9)),og 7 110 104 true (.ixa 2 (.t 108) (.t 109)),og 8 111 104 true (.fa 1 (.t 110)),og 9 112 104 true (.ld false 1 (.t 111)),og 10 113 104 true (.mv (.t 0)),og 11 114 104 true (.nck (.t 113)),og 12 115 104 true (.fa 7 (.t 114)),og 13 116 104 true (.ld false 1 (.t 115)),⟨14,(some 117),(some (104,true)),.call 174 [.t 112,.t 116],[]⟩,og 15 118 104 true (.un .not (.t 117)),oq 16 119 (.pick (.t 104) (.t 118) (.c (.bool false)))])
(.keep [0,9,119] (.cond (.t 119)
 (.reg true [om 0 120 0,on 1 121 120,oa 2 122 9 121,ol 3 123 122,om 4 124 9,om 5 125 0,on 6 126 125,oa 7 127 9 126,ol 8 128 127,om 9 129 9,oq 10 130 (.ixa 2 (.t 128) (.t 129)),oa 11 131 1 130,ol 12 132 131,om 13 133 0,on 14 134 133,oa 15 135 7 134,ol 16 136 135,⟨17,(some 137),none,.op (.bsl 1 true [.t 136]),[3,8,12]⟩,⟨18,(some 138),none,.op (.app 1 8 true (.t 132) (.t 137)),[3]⟩,oq 19 139 (.ixa 2 (.t 123) (.t 124)),oa 20 140 1 139,⟨21,none,none,.op (.st 1 (.t 140) (.t 138)),[]⟩])
 .skip))))
def c160_3 : ACode := (.keep [0,3,9] (.seq (.seq (.reg true [om 0 68 0,on 1 69 68,oa 2 70 9 69,ol 3 71 70,om 4 72 9,oq 5 73 (.ixa 2 (.t 71) (.t 72)),oa 6 74 0 73,ol 7 75 74,om 8 76 0,on 9 77 76,oa 10 78 7 77,ol 11 79 78,⟨12,(some 80),none,.call 174 [.t 75,.t 79],[]⟩,oq 13 81 (.un .not (.t 80))])
(.keep [0,3,9,81] (.cond (.t 81)
 (.reg true [om 0 82 0,on 1 83 82,oa 2 84 9 83,ol 3 85 84,om 4 86 9,om 5 87 0,on 6 88 87,oa 7 89 9 88,ol 8 90 89,om 9 91 9,oq 10 92 (.ixa 2 (.t 90) (.t 91)),oa 11 93 0 92,ol 12 94 93,om 13 95 0,on 14 96 95,oa 15 97 7 96,ol 16 98 97,⟨17,(some 99),none,.op (.bsl 1 true [.t 98]),[3,8,12]⟩,⟨18,(some 100),none,.op (.app 1 8 true (.t 94) (.t 99)),[3]⟩,oq 19 101 (.ixa 2 (.t 85) (.t 86)),oa 20 102 0 101,⟨21,none,none,.op (.st 1 (.t 102) (.t 100)),[]⟩])
 .skip))) c160_2))
def c160_4 : ACode := (.keep [0,2,3,9,10] (.seq (sr [om 0 63 10,oq 1 64 (.un .not (.t 63))]
(.keep [0,2,3,9,64] (.cond (.t 64)
 (sr [om 0 65 0,om 1 66 2,⟨2,(some 67),none,.call 87 [.t 65,ci 15,.t 66],[]⟩]
 (.keep [] .ret))
 .skip))) c160_3))
def c160_5 : ACode := (.keep [0,2,3,8,9] (sr [oa 0 38 5 8,ol 1 39 38,oq 2 40 (.bin .eql .num (.t 39) (.c (.str []))),om 3 10 40]
(.keep [0,2,3,8,9,10] (.seq (sr [oq 0 11 (.mv (ci 0))]
(.keep [0,2,3,8,9,10,11] (.block 0
 (.loop
 (.keep [0,2,3,8,9,10,11] (.seq (sr [om 0 41 11,om 1 42 0,on 2 43 42,oa 3 44 8 43,ol 4 45 44,oq 5 46 (.len .l (.t 45)),oq 6 47 (.bin .lss .num (.t 41) (.t 46))]
 (.keep [0,2,3,8,9,10,11,47] (.cond (.t 47)
 .skip
 (.exit 0)))) c160_1)))))) c160_4))))
def c160_6 : ACode := (.keep [0,2,3,8,9] (.seq (sr [om 0 30 0,on 1 31 30,oa 2 32 6 31,ol 3 33 32,oq 4 34 (.bin .geq .num (.t 33) (ci 0))]
(.keep [0,2,3,8,9,34] (.cond (.t 34)
 (sr [om 0 35 0,om 1 36 2,⟨2,(some 37),none,.call 87 [.t 35,ci 15,.t 36],[]⟩]
 (.keep [] .ret))
 .skip))) c160_5))
def c160 : AFn := ⟨4, 141, (sr [om 0 13 0,on 1 14 13,oa 2 15 0 14,oq 3 16 (.ld true 6 (.t 15)),om 4 17 1,⟨5,(some 18),none,.call 94 [.t 16,.t 17],[]⟩,om 6 12 18,oq 7 19 (.ext (.t 12) 0),oq 8 20 (.ext (.t 12) 1),oq 9 8 (.allocL [(.int .i64 0),(.str []),(.bool false),(.bool false),(.int .i64 0),(.str [])]),⟨10,none,none,.op (.st 6 (.t 8) (.t 19)),[]⟩,om 11 9 20]
(.keep [0,2,3,8,9] (.seq (sr [om 0 21 9,oq 1 22 (.bin .lss .num (.t 21) (ci 0)),om 2 23 22,og 3 24 23 false (.mv (.t 0)),og 4 25 23 false (.nck (.t 24)),og 5 26 23 false (.fa 10 (.t 25)),og 6 27 23 false (.ld false 1 (.t 26)),og 7 28 23 false (.bin .neq .num (.t 27) (ci 0)),oq 8 29 (.pick (.t 23) (.c (.bool true)) (.t 28))]
(.keep [0,2,3,8,9,29] (.cond (.t 29)
 .ret
 .skip))) c160_6))), []⟩
def c161_1 : ACode := (.keep [3,4] (sr [oa 0 44 5 3,ol 1 45 44,⟨2,(some 46),none,.call 162 [ci 13,.t 45],[]⟩,⟨3,none,none,.op (.st 4 (.t 4) (.t 46)),[]⟩]
(.keep [4] .ret)))
def c161_2 : ACode := (.keep [4,6] (sr [oa 0 85 2 6,oq 1 86 (.ld true 2 (.t 85)),oq 2 87 (.build [(.bool false),(.bool false),(.int .i64 0),(.int .i64 0)] [(0,2,(.t 86))]),⟨3,none,none,.op (.st 4 (.t 4) (.t 87)),[]⟩]
(.keep [4] .ret)))
def c161_3 : ACode := (.keep [3,4,6,8] (.seq (sr [oa 0 76 0 8,oa 1 77 1 76,ol 2 78 77]
(.keep [3,4,6,78] (.cond (.t 78)
 (sr [oa 0 79 4 3,ol 1 80 79,oq 2 81 (.ixa 6 (.t 80) (ci 0)),oa 3 82 5 81,ol 4 83 82,⟨5,(some 84),none,.call 162 [ci 14,.t 83],[]⟩,⟨6,none,none,.op (.st 4 (.t 4) (.t 84)),[]⟩]
 (.keep [4] .ret))
 .skip))) c161_2))
def c161_4 : ACode := (.keep [3,4,6,8] (.seq (sr [oa 0 67 0 8,oa 1 68 0 67,ol 2 69 68]
(.keep [3,4,6,8,69] (.cond (.t 69)
 (sr [oa 0 70 4 3,ol 1 71 70,oq 2 72 (.ixa 6 (.t 71) (ci 0)),oa 3 73 5 72,ol 4 74 73,⟨5,(some 75),none,.call 162 [ci 13,.t 74],[]⟩,⟨6,none,none,.op (.st 4 (.t 4) (.t 75)),[]⟩]
 (.keep [4] .ret))
 .skip))) c161_3))
def c161_5 : ACode := (.keep [2,3,4,6] (.seq (.reg true [oq 0 57 (.ld true 6 (.t 2)),oa 1 58 4 3,ol 2 59 58,oq 3 60 (.ixa 6 (.t 59) (ci 0)),oq 4 61 (.ld true 6 (.t 60)),⟨5,(some 62),none,.call 134 [.t 57,.t 61],[]⟩,oq 6 8 (.allocL [(.bool false),(.bool false),(.int .i64 0),(.int .i64 0)]),⟨7,none,none,.op (.st 4 (.t 8) (.t 62)),[]⟩])
(.keep [3,4,6,8] (.seq (sr [oa 0 63 2 8,ol 1 64 63,oq 2 65 (.bin .neq .num (.t 64) (ci 0))]
(.keep [3,4,6,8,65] (.cond (.t 65)
 (sr [oq 0 66 (.ld true 4 (.t 8)),⟨1,none,none,.op (.st 4 (.t 4) (.t 66)),[]⟩]
 (.keep [4] .ret))
 .skip))) c161_4))))
def c161_6 : ACode := (.keep [2,3,4,5,6] (.seq (sr [om 0 47 5,oq 1 48 (.bin .neq .num (.t 47) (ci 1)),om 2 49 48,og 3 50 49 false (.fa 4 (.t 6)),og 4 51 49 false (.ld false 1 (.t 50)),og 5 52 49 false (.bin .eql .num (.t 51) (ci 0)),oq 6 53 (.pick (.t 49) (.c (.bool true)) (.t 52))]
(.keep [2,3,4,6,53] (.cond (.t 53)
 (sr [oa 0 54 5 3,ol 1 55 54,⟨2,(some 56),none,.call 162 [ci 13,.t 55],[]⟩,⟨3,none,none,.op (.st 4 (.t 4) (.t 56)),[]⟩]
 (.keep [4] .ret))
 .skip))) c161_5))
def c161_7 : ACode := (.keep [2,3,4,5,6] (.seq (sr [oa 0 25 0 3,ol 1 26 25,oq 2 27 (.bin .eql .num (.t 26) (ci 2))]
(.keep [2,3,4,5,6,27] (.cond (.t 27)
 (.seq (sr [om 0 28 5,oq 1 29 (.bin .eql .num (.t 28) (ci 4)),om 2 30 29,og 3 31 30 false (.mv (.t 5)),og 4 32 30 false (.bin .eql .num (.t 31) (ci 1)),og 5 33 30 false (.mv (.t 32)),og 6 34 33 true (.fa 4 (.t 6)),og 7 35 33 true (.ld false 1 (.t 34)),og 8 36 33 true (.bin .eql .num (.t 35) (ci 0)),og 9 37 30 false (.pick (.t 33) (.t 36) (.c (.bool false))),oq 10 38 (.pick (.t 30) (.c (.bool true)) (.t 37))]
 (.keep [2,3,4,38] (.cond (.t 38)
 (sr [oq 0 39 (.ld true 6 (.t 2)),oa 1 40 3 3,ol 2 41 40,⟨3,(some 42),none,.call 159 [.t 39,.t 41],[]⟩,oq 4 43 (.build [(.bool false),(.bool false),(.int .i64 0),(.int .i64 0)] [(0,2,(.t 42))]),⟨5,none,none,.op (.st 4 (.t 4) (.t 43)),[]⟩]
 (.keep [4] .ret))
 .skip))) c161_1)
 .skip))) c161_6))
def c161 : AFn := ⟨2, 88, (sr [oq 0 2 (.boxL (.t 0)),oq 1 3 (.boxL (.t 1)),oq 2 4 (.allocL [(.bool false),(.bool false),(.int .i64 0),(.int .i64 0)])]
(.keep [2,3,4] (sr [oq 0 9 (.ld true 6 (.t 2)),oa 1 10 3 3,ol 2 11 10,⟨3,(some 12),none,.call 158 [.t 9,.t 11],[]⟩,om 4 5 12]
(.keep [2,3,4,5] (sr [oq 0 14 (.ld true 6 (.t 2)),oa 1 15 3 3,ol 2 16 15,⟨3,(some 17),none,.call 94 [.t 14,.t 16],[]⟩,om 4 13 17,oq 5 18 (.ext (.t 13) 0),oq 6 19 (.ext (.t 13) 1),oq 7 6 (.allocL [(.int .i64 0),(.str []),(.bool false),(.bool false),(.int .i64 0),(.str [])]),⟨8,none,none,.op (.st 6 (.t 6) (.t 18)),[]⟩,om 9 7 19]
(.keep [2,3,4,5,6] (.seq (sr [om 0 20 5,oq 1 21 (.bin .eql .num (.t 20) (ci 0))]
(.keep [2,3,4,5,6,21] (.cond (.t 21)
 (sr [oa 0 22 5 3,ol 1 23 22,⟨2,(some 24),none,.call 162 [ci 12,.t 23],[]⟩,⟨3,none,none,.op (.st 4 (.t 4) (.t 24)),[]⟩]
 (.keep [4] .ret))
 .skip))) c161_7))))))), [.cell 4 true 4]⟩
def c162 : AFn := ⟨2, 8, (sr [oq 0 4 (.allocL [(.bool false),(.bool false),(.int .i64 0),(.int .i64 0)])]
(.keep [0,1,4] (sr [om 0 5 0,om 1 6 1,oq 2 7 (.build [(.bool false),(.bool false),(.int .i64 0),(.int .i64 0)] [(2,1,(.t 5)),(3,1,(.t 6))]),⟨3,none,none,.op (.st 4 (.t 4) (.t 7)),[]⟩]
(.keep [4] .ret)))), [.cell 4 true 4]⟩
def c163_1 : ACode := (.keep [3,4,5,6] (sr [oa 0 104 1 3,ol 1 105 104,oq 2 106 (.bin .geq .num (.t 105) (ci 10)),oa 3 107 0 5,oa 4 108 1 107,ol 5 109 108,om 6 110 109,og 7 111 110 false (.fa 0 (.t 6)),og 8 112 110 false (.fa 1 (.t 111)),og 9 113 110 false (.ld false 1 (.t 112)),oq 10 114 (.pick (.t 110) (.c (.bool true)) (.t 113)),oq 11 115 (.build [(.bool false),(.bool false)] [(0,1,(.t 106)),(1,1,(.t 114))]),oq 12 116 (.build [(.bool false),(.bool false),(.int .i64 0),(.int .i64 0)] [(0,2,(.t 115))]),⟨13,none,none,.op (.st 4 (.t 4) (.t 116)),[]⟩]
(.keep [4] .ret)))
def c163_2 : ACode := (.keep [3,4,5,6] (.seq (sr [oa 0 85 1 3,ol 1 86 85,oq 2 87 (.bin .eql .num (.t 86) (ci 3)),om 3 88 87,og 4 89 88 false (.fa 1 (.t 3)),og 5 90 88 false (.ld false 1 (.t 89)),og 6 91 88 false (.bin .eql .num (.t 90) (ci 4)),oq 7 92 (.pick (.t 88) (.c (.bool true)) (.t 91)),om 8 93 92,og 9 94 93 true (.fa 0 (.t 6)),og 10 95 93 true (.fa 1 (.t 94)),og 11 96 93 true (.ld false 1 (.t 95)),oq 12 97 (.pick (.t 93) (.t 96) (.c (.bool false)))]
(.keep [3,4,5,6,97] (.cond (.t 97)
 (sr [oa 0 98 4 3,ol 1 99 98,oq 2 100 (.ixa 6 (.t 99) (ci 1)),oa 3 101 5 100,ol 4 102 101,⟨5,(some 103),none,.call 162 [ci 14,.t 102],[]⟩,⟨6,none,none,.op (.st 4 (.t 4) (.t 103)),[]⟩]
 (.keep [4] .ret))
 .skip))) c163_1))
def c163_3 : ACode := (.keep [3,4,5,6,7] (.seq (sr [oa 0 74 0 6,oa 1 75 0 74,ol 2 76 75,om 3 77 7,oq 4 78 (.bin .neq .bool (.t 76) (.t 77))]
(.keep [3,4,5,6,78] (.cond (.t 78)
 (sr [oa 0 79 4 3,ol 1 80 79,oq 2 81 (.ixa 6 (.t 80) (ci 1)),oa 3 82 5 81,ol 4 83 82,⟨5,(some 84),none,.call 162 [ci 13,.t 83],[]⟩,⟨6,none,none,.op (.st 4 (.t 4) (.t 84)),[]⟩]
 (.keep [4] .ret))
 .skip))) c163_2))
def c163_4 : ACode := (.keep [3,4,5,6,7] (.seq (sr [oa 0 63 0 5,oa 1 64 0 63,ol 2 65 64,om 3 66 7,oq 4 67 (.bin .neq .bool (.t 65) (.t 66))]
(.keep [3,4,5,6,7,67] (.cond (.t 67)
 (sr [oa 0 68 4 3,ol 1 69 68,oq 2 70 (.ixa 6 (.t 69) (ci 0)),oa 3 71 5 70,ol 4 72 71,⟨5,(some 73),none,.call 162 [ci 13,.t 72],[]⟩,⟨6,none,none,.op (.st 4 (.t 4) (.t 73)),[]⟩]
 (.keep [4] .ret))
 .skip))) c163_3))
def c163_5 : ACode := (.keep [3,4,5,6,7] (.seq (sr [oa 0 47 1 3,ol 1 48 47,oq 2 49 (.bin .lss .num (.t 48) (ci 0)),om 3 50 49,og 4 51 50 false (.fa 1 (.t 3)),og 5 52 50 false (.ld false 1 (.t 51)),og 6 53 50 false (.bin .gtr .num (.t 52) (ci 18)),oq 7 54 (.pick (.t 50) (.c (.bool true)) (.t 53)),om 8 55 54,og 9 56 55 false (.fa 1 (.t 3)),og 10 57 55 false (.ld false 1 (.t 56)),og 11 58 55 false (.bin .eql .num (.t 57) (ci 16)),oq 12 59 (.pick (.t 55) (.c (.bool true)) (.t 58))]
(.keep [3,4,5,6,7,59] (.cond (.t 59)
 (sr [oa 0 60 5 3,ol 1 61 60,⟨2,(some 62),none,.call 162 [ci 13,.t 61],[]⟩,⟨3,none,none,.op (.st 4 (.t 4) (.t 62)),[]⟩]
 (.keep [4] .ret))
 .skip))) c163_4))
def c163_6 : ACode := (.keep [3,4,5,6] (sr [oa 0 28 1 3,ol 1 29 28,oq 2 30 (.bin .eql .num (.t 29) (ci 17)),om 3 31 30,og 4 32 31 false (.fa 1 (.t 3)),og 5 33 31 false (.ld false 1 (.t 32)),og 6 34 31 false (.bin .eql .num (.t 33) (ci 18)),oq 7 35 (.pick (.t 31) (.c (.bool true)) (.t 34)),om 8 7 35]
(.keep [3,4,5,6,7] (.seq (sr [oa 0 36 1 3,ol 1 37 36,oq 2 38 (.bin .eql .num (.t 37) (ci 10)),om 3 39 38,og 4 40 39 false (.fa 1 (.t 3)),og 5 41 39 false (.ld false 1 (.t 40)),og 6 42 39 false (.bin .eql .num (.t 41) (ci 11)),oq 7 43 (.pick (.t 39) (.c (.bool true)) (.t 42))]
(.keep [3,4,5,6,7,43] (.cond (.t 43)
 (.reg false [oa 0 44 0 5,oa 1 45 0 44,ol 2 46 45,om 3 7 46])
 .skip))) c163_5))))
def c163_7 : ACode := (.keep [2,3,4,5] (.seq (.reg true [oq 0 18 (.ld true 6 (.t 2)),oa 1 19 4 3,ol 2 20 19,oq 3 21 (.ixa 6 (.t 20) (ci 1)),oq 4 22 (.ld true 6 (.t 21)),⟨5,(some 23),none,.call 134 [.t 18,.t 22],[]⟩,oq 6 6 (.allocL [(.bool false),(.bool false),(.int .i64 0),(.int .i64 0)]),⟨7,none,none,.op (.st 4 (.t 6) (.t 23)),[]⟩])
(.keep [3,4,5,6] (.seq (sr [oa 0 24 2 6,ol 1 25 24,oq 2 26 (.bin .neq .num (.t 25) (ci 0))]
(.keep [3,4,5,6,26] (.cond (.t 26)
 (sr [oq 0 27 (.ld true 4 (.t 6)),⟨1,none,none,.op (.st 4 (.t 4) (.t 27)),[]⟩]
 (.keep [4] .ret))
 .skip))) c163_6))))
def c163 : AFn := ⟨2, 117, (sr [oq 0 2 (.boxL (.t 0)),oq 1 3 (.boxL (.t 1)),oq 2 4 (.allocL [(.bool false),(.bool false),(.int .i64 0),(.int .i64 0)])]
(.keep [2,3,4] (.seq (.reg true [oq 0 8 (.ld true 6 (.t 2)),oa 1 9 4 3,ol 2 10 9,oq 3 11 (.ixa 6 (.t 10) (ci 0)),oq 4 12 (.ld true 6 (.t 11)),⟨5,(some 13),none,.call 134 [.t 8,.t 12],[]⟩,oq 6 5 (.allocL [(.bool false),(.bool false),(.int .i64 0),(.int .i64 0)]),⟨7,none,none,.op (.st 4 (.t 5) (.t 13)),[]⟩])
(.keep [2,3,4,5] (.seq (sr [oa 0 14 2 5,ol 1 15 14,oq 2 16 (.bin .neq .num (.t 15) (ci 0))]
(.keep [2,3,4,5,16] (.cond (.t 16)
 (sr [oq 0 17 (.ld true 4 (.t 5)),⟨1,none,none,.op (.st 4 (.t 4) (.t 17)),[]⟩]
 (.keep [4] .ret))
 .skip))) c163_7))))), [.cell 4 true 4]⟩
def c164_1 : ACode := (.keep [2,3,4,6,8,9] (.seq (.reg true [oa 0 59 0 9,oq 1 60 (.ld true 2 (.t 59)),oa 2 61 2 6,ol 3 62 61,om 4 63 8,oq 5 64 (.ixa 3 (.t 62) (.t 63)),oa 6 65 1 64,oq 7 66 (.ld true 2 (.t 65)),⟨8,(some 67),none,.call 108 [.t 60,.t 66],[]⟩,om 9 10 67])
(.keep [2,3,4,6,8,10] (sr [om 0 68 10,oq 1 69 (.bin .neq .num (.t 68) (ci 0))]
(.keep [2,3,4,6,8,10,69] (.cond (.t 69)
 (sr [om 0 70 10,oa 1 71 4 3,ol 2 72 71,om 3 73 8,oq 4 74 (.ixa 6 (.t 72) (.t 73)),oa 5 75 5 74,ol 6 76 75,⟨7,(some 77),none,.call 162 [.t 70,.t 76],[]⟩,⟨8,none,none,.op (.st 4 (.t 4) (.t 77)),[]⟩]
 (.keep [4] .ret))
 .skip))))))
def c164_2 : ACode := (.keep [2,3,4,6,8] (.reg false [om 0 46 8,oq 1 47 (.bin .add .num (.t 46) (ci 1)),om 2 8 47]))
def c164_3 : ACode := (.keep [2,3,4,6,8] (.seq (.block 1
 (.seq (.reg true [oq 0 48 (.ld true 6 (.t 2)),oa 1 49 4 3,ol 2 50 49,om 3 51 8,oq 4 52 (.ixa 6 (.t 50) (.t 51)),oq 5 53 (.ld true 6 (.t 52)),⟨6,(some 54),none,.call 134 [.t 48,.t 53],[]⟩,oq 7 9 (.allocL [(.bool false),(.bool false),(.int .i64 0),(.int .i64 0)]),⟨8,none,none,.op (.st 4 (.t 9) (.t 54)),[]⟩])
 (.keep [2,3,4,6,8,9] (.seq (sr [oa 0 55 2 9,ol 1 56 55,oq 2 57 (.bin .neq .num (.t 56) (ci 0))]
 (.keep [2,3,4,6,8,9,57] (.cond (.t 57)
 (sr [oq 0 58 (.ld true 4 (.t 9)),⟨1,none,none,.op (.st 4 (.t 4) (.t 58)),[]⟩]
 (.keep [4] .ret))
 .skip))) c164_1)))) c164_2))
def c164_4 : ACode := (.keep [4,6] (sr [oa 0 78 3 6,oq 1 79 (.ld true 2 (.t 78)),oq 2 80 (.build [(.bool false),(.bool false),(.int .i64 0),(.int .i64 0)] [(0,2,(.t 79))]),⟨3,none,none,.op (.st 4 (.t 4) (.t 80)),[]⟩]
(.keep [4] .ret)))
def c164_5 : ACode := (.keep [2,3,4,6] (.seq (sr [oq 0 8 (.mv (ci 0))]
(.keep [2,3,4,6,8] (.block 0
 (.loop
 (.keep [2,3,4,6,8] (.seq (sr [om 0 41 8,oa 1 42 4 3,ol 2 43 42,oq 3 44 (.len .l (.t 43)),oq 4 45 (.bin .lss .num (.t 41) (.t 44))]
 (.keep [2,3,4,6,8,45] (.cond (.t 45)
 .skip
 (.exit 0)))) c164_3)))))) c164_4))
def c164_6 : ACode := (.keep [2,3,4,6,7] (.seq (sr [om 0 27 7,oq 1 28 (.bin .lss .num (.t 27) (ci 0)),om 2 29 28,og 3 30 29 false (.fa 2 (.t 6)),og 4 31 29 false (.ld false 1 (.t 30)),og 5 32 29 false (.len .l (.t 31)),og 6 33 29 false (.fa 4 (.t 3)),og 7 34 29 false (.ld false 1 (.t 33)),og 8 35 29 false (.len .l (.t 34)),og 9 36 29 false (.bin .neq .num (.t 32) (.t 35)),oq 10 37 (.pick (.t 29) (.c (.bool true)) (.t 36))]
(.keep [2,3,4,6,37] (.cond (.t 37)
 (sr [oa 0 38 5 3,ol 1 39 38,⟨2,(some 40),none,.call 162 [ci 13,.t 39],[]⟩,⟨3,none,none,.op (.st 4 (.t 4) (.t 40)),[]⟩]
 (.keep [4] .ret))
 .skip))) c164_5))
def c164 : AFn := ⟨2, 81, (sr [oq 0 2 (.boxL (.t 0)),oq 1 3 (.boxL (.t 1)),oq 2 4 (.allocL [(.bool false),(.bool false),(.int .i64 0),(.int .i64 0)])]
(.keep [2,3,4] (sr [oq 0 11 (.ld true 6 (.t 2)),oa 1 12 3 3,ol 2 13 12,⟨3,(some 14),none,.call 158 [.t 11,.t 13],[]⟩,om 4 5 14]
(.keep [2,3,4,5] (sr [oq 0 16 (.ld true 6 (.t 2)),oa 1 17 3 3,ol 2 18 17,⟨3,(some 19),none,.call 96 [.t 16,.t 18],[]⟩,om 4 15 19,oq 5 20 (.ext (.t 15) 0),oq 6 21 (.ext (.t 15) 1),oq 7 6 (.allocL [(.int .i64 0),(.str []),.nils,(.bool false),(.bool false),.nils,(.int .i64 0),(.int .i64 0),(.int .i64 0),(.str []),.nils,(.int .i64 0)]),⟨8,none,none,.op (.st 12 (.t 6) (.t 20)),[]⟩,om 9 7 21]
(.keep [2,3,4,5,6,7] (.seq (sr [om 0 22 5,oq 1 23 (.bin .eql .num (.t 22) (ci 0))]
(.keep [2,3,4,6,7,23] (.cond (.t 23)
 (sr [oa 0 24 5 3,ol 1 25 24,⟨2,(some 26),none,.call 162 [ci 12,.t 25],[]⟩,⟨3,none,none,.op (.st 4 (.t 4) (.t 26)),[]⟩]
 (.keep [4] .ret))
 .skip))) c164_6))))))), [.cell 4 true 4]⟩
def c165 : AFn := ⟨1, 7, (sr [oq 0 2 (.mv (.c (.bool false)))]
(.keep [0] (sr [om 0 3 0,oq 1 4 (.cvi .u64 (.t 3)),⟨2,(some 5),none,.call 175 [.t 4],[]⟩,oq 3 6 (.bin .eql .num (.t 5) (ci 1)),om 4 2 6]
(.keep [2] .ret)))), [.tmp 2]⟩
def c166 : AFn := ⟨3, 12, (.reg false [om 0 6 0,om 1 7 0,om 2 8 1,om 3 9 2,⟨4,(some 10),none,.call 170 [.t 7,.t 8,.t 9],[]⟩,⟨5,(some 11),none,.call 141 [.t 6,.t 10,ci 2],[]⟩]), []⟩
def c167 : AFn := ⟨3, 14, (sr [oq 0 6 (.mv (ci 0))]
(.keep [0,1,2] (sr [om 0 7 0,om 1 8 1,om 2 9 0,om 3 10 2,oq 4 11 (.bin .sub .num (.t 10) (ci 1)),⟨5,(some 12),none,.call 140 [.t 9,.t 11],[]⟩,⟨6,(some 13),none,.call 139 [.t 7,ci 5,.t 8,.t 12],[]⟩,om 7 6 13]
(.keep [6] .ret)))), [.tmp 6]⟩
def c168 : AFn := ⟨2, 6, (.reg false [ol 0 2 1,ol 1 3 0,on 2 4 2,oa 3 5 5 4,⟨4,none,none,.op (.st 1 (.t 5) (.t 3)),[]⟩]), []⟩
def c169 : AFn := ⟨1, 15, (sr [oq 0 2 (.mv (ci 0))]
(.keep [0] (sr [om 0 3 0,on 1 4 3,oa 2 5 4 4,ol 3 6 5,oq 4 7 (.bin .add .num (.t 6) (ci 1)),on 5 8 3,oa 6 9 4 8,⟨7,none,none,.op (.st 1 (.t 9) (.t 7)),[]⟩]
(.keep [0] (sr [om 0 10 0,on 1 11 10,oa 2 12 4 11,ol 3 13 12,oq 4 14 (.bin .sub .num (.t 13) (ci 1)),om 5 2 14]
(.keep [2] .ret)))))), [.tmp 2]⟩
def c170 : AFn := ⟨3, 13, (sr [oq 0 6 (.mv (ci 0))]
(.keep [0,1,2] (sr [om 0 7 0,om 1 8 1,om 2 9 0,om 3 10 2,⟨4,(some 11),none,.call 140 [.t 9,.t 10],[]⟩,⟨5,(some 12),none,.call 139 [.t 7,ci 16,.t 8,.t 11],[]⟩,om 6 6 12]
(.keep [6] .ret)))), [.tmp 6]⟩
def c171_1 : ACode := (.keep [0] (sr [om 0 10 0,on 1 11 10,oa 2 12 2 11,ol 3 13 12,oq 4 14 (.bin .add .num (.t 13) (ci 1)),on 5 15 10,oa 6 16 2 15,⟨7,none,none,.op (.st 1 (.t 16) (.t 14)),[]⟩]
(.keep [0] (sr [om 0 17 0,on 1 18 17,oa 2 19 1 18,ol 3 20 19,oq 4 21 (.bin .add .num (.t 20) (ci 1)),on 5 22 17,oa 6 23 1 22,⟨7,none,none,.op (.st 1 (.t 23) (.t 21)),[]⟩]
(.keep [] (sr [oq 0 2 (.mv (.c (.bool true)))]
(.keep [2] .ret)))))))
def c171 : AFn := ⟨1, 24, (sr [oq 0 2 (.mv (.c (.bool false)))]
(.keep [0] (.seq (sr [om 0 3 0,on 1 4 3,oa 2 5 2 4,ol 3 6 5,oq 4 7 (.bin .eql .num (.t 6) (ci 32))]
(.keep [0,7] (.cond (.t 7)
 (sr [om 0 8 0,⟨1,(some 9),none,.call 126 [.t 8,ci 2],[]⟩]
 (.keep [] (sr [oq 0 2 (.mv (.c (.bool false)))]
 (.keep [2] .ret))))
 .skip))) c171_1))), [.tmp 2]⟩
def c172_1 : ACode := (.keep [0,2,4] (sr [oa 0 36 0 4,⟨1,none,none,.op (.st 1 (.t 36) (ci 3)),[]⟩]
(.keep [0,2,4] (.seq (.reg true [oa 0 37 4 4,ol 1 38 37,om 2 39 0,⟨3,(some 40),none,.call 129 [.t 39,ci 1],[1]⟩,⟨4,(some 41),none,.op (.bsl 6 false [.t 40]),[1]⟩,oq 5 42 (.app 6 72 false (.t 38) (.t 41)),oa 6 43 4 4,⟨7,none,none,.op (.st 1 (.t 43) (.t 42)),[]⟩])
(.keep [0,2,4] (sr [om 0 44 0,⟨1,(some 45),none,.call 100 [.t 44,(.c (.str [93]))],[]⟩]
(.keep [0,2,4] (sr [om 0 46 0,on 1 47 46,oa 2 48 2 47,ol 3 49 48,oq 4 50 (.bin .sub .num (.t 49) (ci 1)),on 5 51 46,oa 6 52 2 51,⟨7,none,none,.op (.st 1 (.t 52) (.t 50)),[]⟩]
(.keep [2,4] (sr [oq 0 53 (.ld true 6 (.t 4)),⟨1,none,none,.op (.st 6 (.t 2) (.t 53)),[]⟩]
(.keep [2] .ret)))))))))))
def c172_2 : ACode := (.keep [0,2,4] (sr [oa 0 61 0 4,⟨1,none,none,.op (.st 1 (.t 61) (ci 7)),[]⟩]
(.keep [0,2,4] (sr [om 0 62 0,⟨1,(some 63),none,.call 176 [.t 62],[]⟩,oa 2 64 4 4,⟨3,none,none,.op (.st 1 (.t 64) (.t 63)),[]⟩]
(.keep [0,2,4] (sr [om 0 65 0,⟨1,(some 66),none,.call 100 [.t 65,(.c (.str [41]))],[]⟩]
(.keep [0,2,4] (.reg false [om 0 67 0,on 1 68 67,oa 2 69 2 68,ol 3 70 69,oq 4 71 (.bin .sub .num (.t 70) (ci 1)),on 5 72 67,oa 6 73 2 72,⟨7,none,none,.op (.st 1 (.t 73) (.t 71)),[]⟩]))))))))
def c172_3 : ACode := (.keep [2,4] (sr [oq 0 74 (.ld true 6 (.t 4)),⟨1,none,none,.op (.st 6 (.t 2) (.t 74)),[]⟩]
(.keep [2] .ret)))
def c172_4 : ACode := (.keep [0,2,4] (.seq (sr [om 0 54 0,⟨1,(some 55),none,.call 98 [.t 54,(.c (.str [40]))],[]⟩]
(.keep [0,2,4,55] (.cond (.t 55)
 (sr [om 0 56 0,⟨1,(some 57),none,.call 171 [.t 56],[]⟩,om 2 6 57]
 (.keep [0,2,4,6] (.seq (sr [om 0 58 6,oq 1 59 (.un .not (.t 58))]
 (.keep [0,2,4,59] (.cond (.t 59)
 (sr [oq 0 60 (.ld true 6 (.t 4)),⟨1,none,none,.op (.st 6 (.t 2) (.t 60)),[]⟩]
 (.keep [2] .ret))
 .skip))) c172_2)))
 .skip))) c172_3))
def c172 : AFn := ⟨1, 75, (sr [oq 0 2 (.allocL [(.int .i64 0),(.int .i64 0),(.int .i64 0),(.str []),.nils,(.int .i64 0)])]
(.keep [0,2] (.seq (.reg true [om 0 7 0,on 1 8 7,oa 2 9 0 8,ol 3 10 9,om 4 11 0,on 5 12 11,oa 6 13 1 12,ol 7 14 13,oq 8 15 (.ixa 4 (.t 10) (.t 14)),oq 9 16 (.ld true 4 (.t 15)),oq 10 3 (.allocL [(.int .i64 0),(.str []),(.int .i64 0),(.int .i64 0)]),⟨11,none,none,.op (.st 4 (.t 3) (.t 16)),[]⟩])
(.keep [0,2,3] (sr [oa 0 17 1 3,ol 1 18 17,oa 2 19 3 3,ol 3 20 19,oq 4 21 (.build [(.int .i64 0),(.int .i64 0),(.int .i64 0),(.str []),.nils,(.int .i64 0)] [(0,1,(ci 2)),(3,1,(.t 18)),(5,1,(.t 20))]),oq 5 4 (.allocL [(.int .i64 0),(.int .i64 0),(.int .i64 0),(.str []),.nils,(.int .i64 0)]),⟨6,none,none,.op (.st 6 (.t 4) (.t 21)),[]⟩]
(.keep [0,2,4] (sr [om 0 22 0,on 1 23 22,oa 2 24 1 23,ol 3 25 24,oq 4 26 (.bin .add .num (.t 25) (ci 1)),on 5 27 22,oa 6 28 1 27,⟨7,none,none,.op (.st 1 (.t 28) (.t 26)),[]⟩]
(.keep [0,2,4] (.seq (sr [om 0 29 0,⟨1,(some 30),none,.call 98 [.t 29,(.c (.str [91]))],[]⟩]
(.keep [0,2,4,30] (.cond (.t 30)
 (sr [om 0 31 0,⟨1,(some 32),none,.call 171 [.t 31],[]⟩,om 2 5 32]
 (.keep [0,2,4,5] (.seq (sr [om 0 33 5,oq 1 34 (.un .not (.t 33))]
 (.keep [0,2,4,34] (.cond (.t 34)
 (sr [oq 0 35 (.ld true 6 (.t 4)),⟨1,none,none,.op (.st 6 (.t 2) (.t 35)),[]⟩]
 (.keep [2] .ret))
 .skip))) c172_1)))
 .skip))) c172_4))))))))), [.cell 2 true 6]⟩
def c173_1 : ACode := (.keep [1,2,5] (.reg false [om 0 11 5,oq 1 12 (.bin .add .num (.t 11) (ci 1)),om 2 5 12]))
def c173_2 : ACode := (.keep [1,2,5] (.seq (.block 1
 (sr [oa 0 13 5 2,ol 1 14 13,om 2 15 5,oq 3 16 (.ixa 4 (.t 14) (.t 15)),oa 4 17 0 16,ol 5 18 17,om 6 19 1,oq 7 20 (.bin .eql .num (.t 18) (.t 19))]
 (.keep [1,2,5,20] (.cond (.t 20)
 (sr [om 0 21 5,om 1 4 21]
 (.keep [4] .ret))
 .skip)))) c173_1))
def c173_3 : ACode := (.keep [] (sr [oq 0 4 (.mv (.c (.int .i64 (-1))))]
(.keep [4] .ret)))
def c173 : AFn := ⟨2, 22, (sr [oq 0 2 (.boxL (.t 0)),oq 1 4 (.mv (ci 0))]
(.keep [1,2] (.seq (sr [oq 0 5 (.mv (ci 0))]
(.keep [1,2,5] (.block 0
 (.loop
 (.keep [1,2,5] (.seq (sr [om 0 6 5,oa 1 7 5 2,ol 2 8 7,oq 3 9 (.len .l (.t 8)),oq 4 10 (.bin .lss .num (.t 6) (.t 9))]
 (.keep [1,2,5,10] (.cond (.t 10)
 .skip
 (.exit 0)))) c173_2)))))) c173_3))), [.tmp 4]⟩
def c174_1 : ACode := (.keep [0,1,5] (.reg false [om 0 10 5,oq 1 11 (.bin .add .num (.t 10) (ci 1)),om 2 5 11]))
def c174_2 : ACode := (.keep [0,1,5] (.seq (.block 1
 (sr [om 0 12 0,om 1 13 5,oq 2 14 (.ixa 1 (.t 12) (.t 13)),ol 3 15 14,om 4 16 1,oq 5 17 (.bin .eql .num (.t 15) (.t 16))]
 (.keep [0,1,5,17] (.cond (.t 17)
 (sr [oq 0 4 (.mv (.c (.bool true)))]
 (.keep [4] .ret))
 .skip)))) c174_1))
def c174_3 : ACode := (.keep [] (sr [oq 0 4 (.mv (.c (.bool false)))]
(.keep [4] .ret)))
def c174 : AFn := ⟨2, 18, (sr [oq 0 4 (.mv (.c (.bool false)))]
(.keep [0,1] (.seq (sr [oq 0 5 (.mv (ci 0))]
(.keep [0,1,5] (.block 0
 (.loop
 (.keep [0,1,5] (.seq (sr [om 0 6 5,om 1 7 0,oq 2 8 (.len .l (.t 7)),oq 3 9 (.bin .lss .num (.t 6) (.t 8))]
 (.keep [0,1,5,9] (.cond (.t 9)
 .skip
 (.exit 0)))) c174_2)))))) c174_3))), [.tmp 4]⟩
def c175_1 : ACode := (.keep [0] (sr [om 0 6 0,⟨1,(some 7),none,.call 178 [.t 6],[]⟩,om 2 2 7]
(.keep [2] .ret)))
def c175 : AFn := ⟨1, 8, (sr [oq 0 2 (.mv (ci 0))]
(.keep [0] (.seq (.cond (.c (.bool false))
 (sr [om 0 3 0,oq 1 4 (.cvi .u32 (.t 3)),⟨2,(some 5),none,.call 177 [.t 4],[]⟩,om 3 2 5]
 (.keep [2] .ret))
 .skip) c175_1))), [.tmp 2]⟩
def c176_1 : ACode := (.keep [0,3] (.block 1
 (sr [om 0 13 0,on 1 14 13,oa 2 15 1 14,ol 3 16 15,oq 4 17 (.bin .add .num (.t 16) (ci 1)),on 5 18 13,oa 6 19 1 18,⟨7,none,none,.op (.st 1 (.t 19) (.t 17)),[]⟩]
 (.keep [0,3] (.reg false [om 0 20 3,om 1 21 0,⟨2,(some 22),none,.call 129 [.t 21,ci 1],[]⟩,oq 3 23 (.bsl 6 false [.t 22]),oq 4 24 (.app 6 72 false (.t 20) (.t 23)),om 5 3 24])))))
def c176_2 : ACode := (.keep [3] (sr [om 0 25 3,om 1 2 25]
(.keep [2] .ret)))
def c176_3 : ACode := (.keep [0,3] (sr [om 0 6 3,om 1 7 0,⟨2,(some 8),none,.call 129 [.t 7,ci 1],[]⟩,oq 3 9 (.bsl 6 false [.t 8]),oq 4 10 (.app 6 72 false (.t 6) (.t 9)),om 5 3 10]
(.keep [0,3] (.seq (.block 0
 (.loop
 (.keep [0,3] (.seq (sr [om 0 11 0,⟨1,(some 12),none,.call 98 [.t 11,(.c (.str [44]))],[]⟩]
 (.keep [0,3,12] (.cond (.t 12)
 .skip
 (.exit 0)))) c176_1)))) c176_2))))
def c176 : AFn := ⟨1, 26, (sr [oq 0 2 (.mv (.c .nils))]
(.keep [0] (sr [oq 0 3 (.mv (.c .nils))]
(.keep [0,3] (.seq (sr [om 0 4 0,⟨1,(some 5),none,.call 98 [.t 4,(.c (.str [41]))],[]⟩]
(.keep [0,3,5] (.cond (.t 5)
 (sr [oq 0 2 (.mv (.c .nils))]
 (.keep [2] .ret))
 .skip))) c176_3))))), [.tmp 2]⟩
def c178 : AFn := ⟨1, 35, (sr [oq 0 2 (.mv (ci 0))]
(.keep [0] (sr [om 0 3 0,oq 1 4 (.bin .shr .num (.t 3) (.c (.int .u64 1))),oq 2 5 (.bin .and .num (.t 4) (.c (.int .u64 6148914691236517205))),om 3 6 0,oq 4 7 (.bin .and .num (.t 6) (.c (.int .u64 6148914691236517205))),oq 5 8 (.bin .add .num (.t 5) (.t 7)),om 6 0 8]
(.keep [0] (sr [om 0 9 0,oq 1 10 (.bin .shr .num (.t 9) (.c (.int .u64 2))),oq 2 11 (.bin .and .num (.t 10) (.c (.int .u64 3689348814741910323))),om 3 12 0,oq 4 13 (.bin .and .num (.t 12) (.c (.int .u64 3689348814741910323))),oq 5 14 (.bin .add .num (.t 11) (.t 13)),om 6 0 14]
(.keep [0] (sr [om 0 15 0,oq 1 16 (.bin .shr .num (.t 15) (.c (.int .u64 4))),om 2 17 0,oq 3 18 (.bin .add .num (.t 16) (.t 17)),oq 4 19 (.bin .and .num (.t 18) (.c (.int .u64 1085102592571150095))),om 5 0 19]
(.keep [0] (sr [om 0 20 0,om 1 21 0,oq 2 22 (.bin .shr .num (.t 21) (.c (.int .u64 8))),oq 3 23 (.bin .add .num (.t 20) (.t 22)),om 4 0 23]
(.keep [0] (sr [om 0 24 0,om 1 25 0,oq 2 26 (.bin .shr .num (.t 25) (.c (.int .u64 16))),oq 3 27 (.bin .add .num (.t 24) (.t 26)),om 4 0 27]
(.keep [0] (sr [om 0 28 0,om 1 29 0,oq 2 30 (.bin .shr .num (.t 29) (.c (.int .u64 32))),oq 3 31 (.bin .add .num (.t 28) (.t 30)),om 4 0 31]
(.keep [0] (sr [om 0 32 0,oq 1 33 (.cvi .i64 (.t 32)),oq 2 34 (.bin .and .num (.t 33) (ci 127)),om 3 2 34]
(.keep [2] .ret)))))))))))))))), [.tmp 2]⟩
end Go.Ab
