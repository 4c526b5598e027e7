/- The program's functions as abstract code, part 2, each checked against the program. No condition. -/
import Derived.Test.YthpdgdhnadljiaaGreatDoorE
import Derived.Test.YthpdgdhnadljiaaGreatDoorD
import Derived.Test.YthpdgdhnadljiaaGreatDoorProg
import Derived.KernelRfl
set_option linter.all false
namespace Go.Em.IR
open Go Go.Em

def f162 : IFunc :=
 { np := 5, res := [.cell 6 5 true], body :=
 (.seq (.region [o 5 (.lbox (.t 0)),
 o 6 (.lalloc [(.im (.sc (.int .i64 0))), (.im (.sc (.int .i64 0))), (.im (.sc (.string ⟨#[]⟩))), (.im (.sl [] .nil)), (.im (.sl [] .nil))])])
 (.seq (.seq (.region [o 16 (.ld 1 false (.t 1)),
 o 17 (.bin .add 3 false true (.t 16) (.k (.im (.sc (.int .i64 1))))),
 e (.st 1 (.t 1) (.t 17))])
 (.seq (.region [o 18 (.ld 1 false (.t 1)),
 o 19 (.bin .gtr 3 false true (.t 18) (.k (.im (.sc (.int .i64 8192000)))))])
 (.cond (.t 19)
 (.region [o 20 (.call 161 [(.k (.im (.sc (.int .i64 11))))])])
 .skip)))
 (.seq (.region [o 22 (.ld 5 true (.b 5)),
 o 23 (.call 163 [(.t 22)]),
 o 21 (.mv (.t 23)),
 o 24 (.extract (.t 21) 0),
 o 25 (.extract (.t 21) 1),
 o 7 (.lalloc [(.im (.sc (.int .i64 0))), (.im (.sc (.int .i64 0))), (.im (.sc (.string ⟨#[]⟩))), (.im (.sl [] .nil)), (.im (.sl [] .nil))]),
 e (.st 5 (.b 7) (.t 24)),
 o 8 (.mv (.t 25))])
 (.seq (.region [o 26 (.off 0 (.b 7)),
 o 27 (.ld 1 false (.t 26)),
 o 28 (.bin .eql 3 false true (.t 27) (.k (.im (.sc (.int .i64 12))))),
 o 29 (.mv (.t 28)),
 ⟨(some 30), .off 1 (.b 7), (some (29, true))⟩,
 ⟨(some 31), .ld 1 false (.t 30), (some (29, true))⟩,
 ⟨(some 32), .bin .geq 3 false true (.t 31) (.k (.im (.sc (.int .i64 0)))), (some (29, true))⟩,
 o 33 (.pick (.t 29) (.t 32) (.k (.im (.sc (.bool false))))),
 o 34 (.mv (.t 33)),
 ⟨(some 35), .off 1 (.b 7), (some (34, true))⟩,
 ⟨(some 36), .ld 1 false (.t 35), (some (34, true))⟩,
 ⟨(some 37), .ld 1 false (.t 2), (some (34, true))⟩,
 ⟨(some 38), .len .sl (.t 37), (some (34, true))⟩,
 ⟨(some 39), .bin .lss 3 false false (.t 36) (.t 38), (some (34, true))⟩,
 o 40 (.pick (.t 34) (.t 39) (.k (.im (.sc (.bool false))))),
 o 41 (.mv (.t 40)),
 ⟨(some 42), .ld 1 false (.t 2), (some (41, true))⟩,
 ⟨(some 43), .off 1 (.b 7), (some (41, true))⟩,
 ⟨(some 44), .ld 1 false (.t 43), (some (41, true))⟩,
 ⟨(some 45), .idxA 12 none (.t 42) (.t 44), (some (41, true))⟩,
 ⟨(some 46), .off 5 (.t 45), (some (41, true))⟩,
 ⟨(some 47), .ld 1 false (.t 46), (some (41, true))⟩,
 o 48 (.pick (.t 41) (.t 47) (.k (.im (.sc (.bool false))))),
 o 9 (.mv (.t 48))])
 (.seq (.seq (.region [o 49 (.mv (.t 9))])
 (.cond (.t 49)
 (.region [o 50 (.ld 1 false (.t 3)),
 o 51 (.off 1 (.b 7)),
 o 52 (.ld 1 false (.t 51)),
 o 53 (.calld (.t 50) [(.t 52)]),
 e (.st 5 (.b 7) (.t 53))])
 (.seq (.region [o 54 (.off 4 (.b 7)),
 o 55 (.ld 1 false (.t 54)),
 o 56 (.len .sl (.t 55)),
 o 57 (.bin .gtr 3 false true (.t 56) (.k (.im (.sc (.int .i64 0)))))])
 (.cond (.t 57)
 (.seq (.region [o 58 (.off 4 (.b 7)),
 o 59 (.ld 1 false (.t 58)),
 o 60 (.len .sl (.t 59)),
 o 61 (.mkslice 5 [(.im (.sc (.int .i64 0))), (.im (.sc (.int .i64 0))), (.im (.sc (.string ⟨#[]⟩))), (.im (.sl [] .nil)), (.im (.sl [] .nil))] (.t 60) (.t 60)),
 o 10 (.mv (.t 61))])
 (.seq (.seq (.region [o 62 (.off 4 (.b 7)),
 o 63 (.ld 1 false (.t 62)),
 o 64 (.len .sl (.t 63)),
 o 65 (.mv (.k (.im (.sc (.int .i64 0)))))])
 (.block 0 (.loop [4, 8, 9, 10, 63, 64, 65] [6, 7] (.seq (.region [o 66 (.bin .lss 3 false false (.t 65) (.t 64))])
 (.seq (.cond (.t 66)
 .skip
 (.exit 0))
 (.seq (.block 1 (.seq (.region [o 67 (.mv (.t 65)),
 o 68 (.idxA 5 none (.t 63) (.t 65)),
 o 69 (.ld 5 true (.t 68)),
 o 12 (.lalloc [(.im (.sc (.int .i64 0))), (.im (.sc (.int .i64 0))), (.im (.sc (.string ⟨#[]⟩))), (.im (.sl [] .nil)), (.im (.sl [] .nil))]),
 o 11 (.mv (.t 67)),
 e (.st 5 (.b 12) (.t 69))])
 (.region [o 70 (.mv (.t 10)),
 o 71 (.mv (.t 11)),
 o 72 (.ld 1 false (.t 4)),
 o 73 (.ld 5 true (.b 12)),
 o 74 (.calld (.t 72) [(.t 73)]),
 o 75 (.idxA 5 none (.t 70) (.t 71)),
 e (.st 5 (.t 75) (.t 74))])))
 (.region [o 76 (.bin .add 3 false true (.t 65) (.k (.im (.sc (.int .i64 1))))),
 o 65 (.mv (.t 76))])))))))
 (.region [o 77 (.mv (.t 10)),
 o 78 (.off 4 (.b 7)),
 e (.st 1 (.t 78) (.t 77))])))
 .skip))))
 (.seq (.region [o 79 (.mv (.t 8)),
 o 80 (.len .sl (.t 79)),
 o 81 (.mkslice 5 [(.im (.sc (.int .i64 0))), (.im (.sc (.int .i64 0))), (.im (.sc (.string ⟨#[]⟩))), (.im (.sl [] .nil)), (.im (.sl [] .nil))] (.t 80) (.t 80)),
 o 13 (.mv (.t 81))])
 (.seq (.seq (.region [o 82 (.mv (.t 8)),
 o 83 (.len .sl (.t 82)),
 o 84 (.mv (.k (.im (.sc (.int .i64 0)))))])
 (.block 2 (.loop [4, 9, 13, 82, 83, 84] [6, 7] (.seq (.region [o 85 (.bin .lss 3 false false (.t 84) (.t 83))])
 (.seq (.cond (.t 85)
 .skip
 (.exit 2))
 (.seq (.block 3 (.seq (.region [o 86 (.mv (.t 84)),
 o 87 (.idxA 5 none (.t 82) (.t 84)),
 o 88 (.ld 5 true (.t 87)),
 o 15 (.lalloc [(.im (.sc (.int .i64 0))), (.im (.sc (.int .i64 0))), (.im (.sc (.string ⟨#[]⟩))), (.im (.sl [] .nil)), (.im (.sl [] .nil))]),
 o 14 (.mv (.t 86)),
 e (.st 5 (.b 15) (.t 88))])
 (.region [o 89 (.mv (.t 13)),
 o 90 (.mv (.t 14)),
 o 91 (.ld 1 false (.t 4)),
 o 92 (.ld 5 true (.b 15)),
 o 93 (.calld (.t 91) [(.t 92)]),
 o 94 (.idxA 5 none (.t 89) (.t 90)),
 e (.st 5 (.t 94) (.t 93))])))
 (.region [o 95 (.bin .add 3 false true (.t 84) (.k (.im (.sc (.int .i64 1))))),
 o 84 (.mv (.t 95))])))))))
 (.seq (.block 4 (.loop [9, 13] [6, 7] (.seq (.seq (.region [o 96 (.mv (.t 9)),
 o 97 (.mv (.t 96)),
 ⟨(some 98), .mv (.t 13), (some (97, true))⟩,
 ⟨(some 99), .len .sl (.t 98), (some (97, true))⟩,
 ⟨(some 100), .bin .gtr 3 false true (.t 99) (.k (.im (.sc (.int .i64 0)))), (some (97, true))⟩,
 o 101 (.pick (.t 97) (.t 100) (.k (.im (.sc (.bool false))))),
 o 102 (.mv (.t 101)),
 ⟨(some 103), .off 0 (.b 7), (some (102, true))⟩,
 ⟨(some 104), .ld 1 false (.t 103), (some (102, true))⟩,
 ⟨(some 105), .bin .eql 3 false true (.t 104) (.k (.im (.sc (.int .i64 5)))), (some (102, true))⟩,
 o 106 (.pick (.t 102) (.t 105) (.k (.im (.sc (.bool false)))))])
 (.cond (.t 106)
 .skip
 (.exit 4)))
 (.block 5 (.seq (.draw [o 107 (.off 4 (.b 7)),
 o 108 (.ld 1 false (.t 107)),
 o 109 (.idxA 5 none (.t 108) (.k (.im (.sc (.int .i64 1))))),
 o 110 (.ld 5 true (.t 109)),
 o 111 (.mv (.t 13)),
 o 112 (.slc 24 5 (.t 111) none (some (.k (.im (.sc (.int .i64 1))))) none),
 o 113 (.call 165 [(.t 110), (.t 112)]),
 o 114 (.extract (.t 113) 0),
 o 115 (.extract (.t 113) 1),
 o 116 (.call 164 [(.t 114), (.t 115)]),
 e (.st 5 (.b 7) (.t 116))] [0, 0, 0, 0, 15, 15, 0, 0, 128, 0, 0])
 (.region [o 117 (.mv (.t 13)),
 o 118 (.slc 24 5 (.t 117) (some (.k (.im (.sc (.int .i64 1))))) none none),
 o 13 (.mv (.t 118))]))))))
 (.seq (.region [o 119 (.ld 5 true (.b 7)),
 o 120 (.mv (.t 13)),
 o 121 (.call 65 [(.t 119), (.t 120)]),
 o 122 (.call 164 [(.t 121), (.k (.im (.sc (.int .i64 0))))]),
 e (.st 5 (.b 6) (.t 122))])
 .ret))))))))) }
def b162 : List Nat := [5, 6, 7, 12, 15]

def f163 : IFunc :=
 { np := 1, res := [.cell 2 5 true, .tmp 3], body :=
 (.seq (.region [o 1 (.lbox (.t 0)),
 o 2 (.lalloc [(.im (.sc (.int .i64 0))), (.im (.sc (.int .i64 0))), (.im (.sc (.string ⟨#[]⟩))), (.im (.sl [] .nil)), (.im (.sl [] .nil))]),
 o 3 (.mv (.k (.im (.sl [] .nil))))])
 (.seq (.region [o 4 (.mv (.k (.im (.sl [] .nil))))])
 (.seq (.block 0 (.loop [3, 4] [1, 2] (.seq (.seq (.region [o 5 (.off 0 (.b 1)),
 o 6 (.ld 1 false (.t 5)),
 o 7 (.bin .eql 3 false true (.t 6) (.k (.im (.sc (.int .i64 4))))),
 o 8 (.mv (.t 7)),
 ⟨(some 9), .off 4 (.b 1), (some (8, true))⟩,
 ⟨(some 10), .ld 1 false (.t 9), (some (8, true))⟩,
 ⟨(some 11), .len .sl (.t 10), (some (8, true))⟩,
 ⟨(some 12), .bin .eql 3 false true (.t 11) (.k (.im (.sc (.int .i64 2)))), (some (8, true))⟩,
 o 13 (.pick (.t 8) (.t 12) (.k (.im (.sc (.bool false)))))])
 (.cond (.t 13)
 .skip
 (.exit 0)))
 (.block 1 (.seq (.region [o 14 (.mv (.t 4)),
 o 15 (.off 4 (.b 1)),
 o 16 (.ld 1 false (.t 15)),
 o 17 (.idxA 5 none (.t 16) (.k (.im (.sc (.int .i64 1))))),
 o 18 (.ld 5 true (.t 17)),
 o 19 (.mkS 5 1 [(.im (.sc (.int .i64 0))), (.im (.sc (.int .i64 0))), (.im (.sc (.string ⟨#[]⟩))), (.im (.sl [] .nil)), (.im (.sl [] .nil))] [(0, (.t 18))]),
 o 20 (.append 5 true (.t 14) (.t 19)),
 o 4 (.mv (.t 20))])
 (.region [o 21 (.off 4 (.b 1)),
 o 22 (.ld 1 false (.t 21)),
 o 23 (.idxA 5 none (.t 22) (.k (.im (.sc (.int .i64 0))))),
 o 24 (.ld 5 true (.t 23)),
 e (.st 5 (.b 1) (.t 24))]))))))
 (.seq (.region [o 25 (.mv (.t 4)),
 o 26 (.call 211 [(.t 25)])])
 (.seq (.region [o 27 (.ld 5 true (.b 1)),
 o 28 (.mv (.t 4)),
 e (.st 5 (.b 2) (.t 27)),
 o 3 (.mv (.t 28))])
 .ret))))) }
def b163 : List Nat := [1, 2]

def f164 : IFunc :=
 { np := 2, res := [.cell 4 5 true], body :=
 (.seq (.region [o 2 (.lbox (.t 0)),
 o 4 (.lalloc [(.im (.sc (.int .i64 0))), (.im (.sc (.int .i64 0))), (.im (.sc (.string ⟨#[]⟩))), (.im (.sl [] .nil)), (.im (.sl [] .nil))])])
 (.seq (.seq (.region [o 5 (.mv (.t 1)),
 o 6 (.bin .neq 39 false true (.t 5) (.k (.im (.sc (.int .i64 0))))),
 o 7 (.mv (.t 6)),
 ⟨(some 8), .ld 5 true (.b 2), (some (7, false))⟩,
 ⟨(some 9), .call 212 [(.t 8)], (some (7, false))⟩,
 o 10 (.pick (.t 7) (.k (.im (.sc (.bool true)))) (.t 9))])
 (.cond (.t 10)
 (.region [o 11 (.call 161 [(.k (.im (.sc (.int .i64 11))))])])
 .skip))
 (.seq (.region [o 12 (.ld 5 true (.b 2)),
 e (.st 5 (.b 4) (.t 12))])
 .ret))) }
def b164 : List Nat := [2, 4]

def f165 : IFunc :=
 { np := 2, res := [.cell 4 5 true, .tmp 5], body :=
 (.seq (.region [o 2 (.lbox (.t 0)),
 o 4 (.lalloc [(.im (.sc (.int .i64 0))), (.im (.sc (.int .i64 0))), (.im (.sc (.string ⟨#[]⟩))), (.im (.sl [] .nil)), (.im (.sl [] .nil))]),
 o 5 (.mv (.k (.im (.sc (.int .i64 0)))))])
 (.seq (.region [o 6 (.ld 5 true (.b 2)),
 o 7 (.mv (.t 1)),
 o 8 (.call 213 [(.t 6), (.t 7), (.k (.im (.sc (.int .i64 0))))]),
 o 9 (.extract (.t 8) 0),
 o 10 (.extract (.t 8) 1),
 e (.st 5 (.b 4) (.t 9)),
 o 5 (.mv (.t 10))])
 .ret)) }
def b165 : List Nat := [2, 4]

def f168 : IFunc :=
 { np := 3, res := [.cell 6 5 true, .tmp 7], body :=
 (.seq (.region [o 6 (.lalloc [(.im (.sc (.int .i64 0))), (.im (.sc (.int .i64 0))), (.im (.sc (.string ⟨#[]⟩))), (.im (.sl [] .nil)), (.im (.sl [] .nil))]),
 o 7 (.mv (.k (.im (.sc (.int .i64 0)))))])
 (.seq (.region [o 11 (.mv (.t 0)),
 o 12 (.mv (.t 1)),
 o 13 (.call 47 [(.t 11), (.t 12)]),
 o 10 (.mv (.t 13)),
 o 14 (.extract (.t 10) 0),
 o 15 (.extract (.t 10) 1),
 o 8 (.lalloc [(.im (.sc (.int .i64 0))), (.im (.sc (.int .i64 0))), (.im (.sc (.int .i64 0))), (.im (.sc (.int .i64 0))), (.im (.sc (.int .i64 0))), (.im (.sc (.int .i64 0))), (.im (.sc (.string ⟨#[]⟩))), (.im (.sl [] .nil)), (.im (.sl [] .nil))]),
 e (.st 9 (.b 8) (.t 14)),
 o 9 (.mv (.t 15))])
 (.seq (.seq (.region [o 16 (.mv (.t 9)),
 o 17 (.bin .neq 39 false true (.t 16) (.k (.im (.sc (.int .i64 0)))))])
 (.cond (.t 17)
 (.seq (.region [o 18 (.build [(.im (.sc (.int .i64 0))), (.im (.sc (.int .i64 0))), (.im (.sc (.string ⟨#[]⟩))), (.im (.sl [] .nil)), (.im (.sl [] .nil))] []),
 o 19 (.mv (.t 9)),
 e (.st 5 (.b 6) (.t 18)),
 o 7 (.mv (.t 19))])
 .ret)
 .skip))
 (.seq (.seq (.region [o 20 (.mv (.t 2)),
 o 21 (.len .sl (.t 20)),
 o 22 (.off 3 (.b 8)),
 o 23 (.ld 1 false (.t 22)),
 o 24 (.bin .neq 3 false false (.t 21) (.t 23))])
 (.cond (.t 24)
 (.seq (.region [o 25 (.build [(.im (.sc (.int .i64 0))), (.im (.sc (.int .i64 0))), (.im (.sc (.string ⟨#[]⟩))), (.im (.sl [] .nil)), (.im (.sl [] .nil))] []),
 e (.st 5 (.b 6) (.t 25)),
 o 7 (.mv (.k (.im (.sc (.int .i64 15)))))])
 .ret)
 .skip))
 (.seq (.region [o 26 (.off 4 (.b 8)),
 o 27 (.ld 5 true (.t 26)),
 o 28 (.mv (.t 2)),
 o 29 (.call 214 [(.t 27), (.t 28)]),
 o 30 (.extract (.t 29) 0),
 o 31 (.extract (.t 29) 1),
 e (.st 5 (.b 6) (.t 30)),
 o 7 (.mv (.t 31))])
 .ret))))) }
def b168 : List Nat := [6, 8]

def f169 : IFunc :=
 { np := 4, res := [.cell 8 5 true], body :=
 (.seq (.region [o 5 (.lbox (.t 1)),
 o 8 (.lalloc [(.im (.sc (.int .i64 0))), (.im (.sc (.int .i64 0))), (.im (.sc (.string ⟨#[]⟩))), (.im (.sl [] .nil)), (.im (.sl [] .nil))])])
 (.seq (.draw [o 14 (.mv (.t 0)),
 o 15 (.nilc (.t 14)),
 o 16 (.off 0 (.t 15)),
 o 17 (.ld 1 false (.t 16)),
 o 18 (.ld 5 true (.b 5)),
 o 19 (.call 210 [(.t 17), (.t 18)]),
 o 13 (.mv (.t 19)),
 o 20 (.extract (.t 13) 0),
 o 21 (.extract (.t 13) 1),
 o 9 (.lalloc [(.im (.sc (.int .i64 0))), (.im (.sc (.int .i64 0))), (.im (.sc (.string ⟨#[]⟩))), (.im (.sl [] .nil)), (.im (.sl [] .nil))]),
 e (.st 5 (.b 9) (.t 20)),
 o 10 (.mv (.t 21))] [0, 0, 0, 0, 15, 0, 0, 0, 128, 511, 256, 0])
 (.seq (.seq (.region [o 22 (.mv (.t 10)),
 o 23 (.bin .neq 39 false true (.t 22) (.k (.im (.sc (.int .i64 0)))))])
 (.cond (.t 23)
 (.region [o 24 (.mv (.t 10)),
 o 25 (.call 161 [(.t 24)])])
 .skip))
 (.seq (.seq (.region [o 26 (.mv (.t 3)),
 o 27 (.off 0 (.b 9)),
 o 28 (.ld 1 false (.t 27)),
 o 29 (.call 74 [(.t 26), (.t 28)])])
 (.cond (.t 29)
 (.seq (.region [o 30 (.ld 5 true (.b 9)),
 e (.st 5 (.b 8) (.t 30))])
 .ret)
 .skip))
 (.seq (.draw [o 32 (.mv (.t 0)),
 o 33 (.nilc (.t 32)),
 o 34 (.off 0 (.t 33)),
 o 35 (.ld 1 false (.t 34)),
 o 36 (.ld 5 true (.b 9)),
 o 37 (.call 215 [(.t 35), (.t 36)]),
 o 31 (.mv (.t 37)),
 o 38 (.extract (.t 31) 0),
 o 39 (.extract (.t 31) 1),
 o 40 (.extract (.t 31) 2),
 o 11 (.mv (.t 38)),
 o 12 (.mv (.t 39)),
 o 10 (.mv (.t 40))] [0, 0, 0, 0, 15, 0, 0, 0, 128, 384, 768, 512, 0])
 (.seq (.block 0 (.seq (.region [o 42 (.mv (.t 10)),
 o 43 (.bin .neq 39 false true (.t 42) (.k (.im (.sc (.int .i64 0))))),
 o 41 (.mv (.t 43))])
 (.cond (.t 41)
 (.region [o 44 (.mv (.t 10)),
 o 45 (.call 161 [(.t 44)])])
 (.seq (.region [o 47 (.mv (.t 12)),
 o 46 (.mv (.t 47))])
 (.cond (.t 46)
 (.region [o 48 (.call 161 [(.k (.im (.sc (.int .i64 23))))])])
 .skip)))))
 (.seq (.region [o 49 (.mv (.t 2)),
 o 50 (.call 161 [(.t 49)])])
 (.seq (.region [o 51 (.ld 5 true (.b 9)),
 e (.st 5 (.b 8) (.t 51))])
 .ret)))))))) }
def b169 : List Nat := [5, 8, 9]

def f172 : IFunc :=
 { np := 1, res := [.tmp 2], body :=
 (.seq (.region [o 2 (.mv (.k (.im (.sl [] .nil))))])
 (.seq (.region [o 3 (.mv (.t 0)),
 o 4 (.mkfn (.func 219) [(.t 3)] [] []),
 o 5 (.mv (.t 0)),
 o 6 (.mkfn (.func 220) [(.t 5)] [] []),
 o 7 (.mv (.t 0)),
 o 8 (.mkfn (.func 221) [(.t 7)] [] []),
 o 9 (.mv (.t 0)),
 o 10 (.mkfn (.func 222) [(.t 9)] [] []),
 o 11 (.mv (.t 0)),
 o 12 (.mkfn (.func 223) [(.t 11)] [] []),
 o 13 (.mv (.t 0)),
 o 14 (.mkfn (.func 224) [(.t 13)] [] []),
 o 15 (.mv (.t 0)),
 o 16 (.mkfn (.func 225) [(.t 15)] [] []),
 o 17 (.mv (.t 0)),
 o 18 (.mkfn (.func 226) [(.t 17)] [] []),
 o 19 (.mkS 1 9 [(.im (.sc .nilFunc))] [(0, (.k (.im (.fn (.func 218) [] [])))), (1, (.t 4)), (2, (.t 6)), (3, (.t 8)), (4, (.t 10)), (5, (.t 12)), (6, (.t 14)), (7, (.t 16)), (8, (.t 18))]),
 o 2 (.mv (.t 19))])
 .ret)) }
def b172 : List Nat := []

def f173 : IFunc :=
 { np := 1, res := [], body :=
 (.seq (.region [o 2 (.mv (.t 0)),
 o 3 (.bin .neq 39 false true (.t 2) (.k (.im (.sc (.int .i64 0)))))])
 (.cond (.t 3)
 (.region [o 4 (.mv (.t 0)),
 o 5 (.mkifc 241 (.t 4)),
 e (.pan (.t 5))])
 .skip)) }
def b173 : List Nat := []

def f174 : IFunc :=
 { np := 2, res := [.cell 4 5 true], body :=
 (.seq (.region [o 3 (.lbox (.t 1)),
 o 4 (.lalloc [(.im (.sc (.int .i64 0))), (.im (.sc (.int .i64 0))), (.im (.sc (.string ⟨#[]⟩))), (.im (.sl [] .nil)), (.im (.sl [] .nil))])])
 (.seq (.draw [o 8 (.mv (.t 0)),
 o 9 (.nilc (.t 8)),
 o 10 (.off 0 (.t 9)),
 o 11 (.ld 1 false (.t 10)),
 o 12 (.mv (.t 0)),
 o 13 (.ld 5 true (.b 3)),
 o 14 (.call 227 [(.t 12), (.t 13)]),
 o 15 (.call 210 [(.t 11), (.t 14)]),
 o 7 (.mv (.t 15)),
 o 16 (.extract (.t 7) 0),
 o 17 (.extract (.t 7) 1),
 o 5 (.lalloc [(.im (.sc (.int .i64 0))), (.im (.sc (.int .i64 0))), (.im (.sc (.string ⟨#[]⟩))), (.im (.sl [] .nil)), (.im (.sl [] .nil))]),
 e (.st 5 (.b 5) (.t 16)),
 o 6 (.mv (.t 17))] [0, 0, 0, 0, 15, 31, 15, 0, 0, 0, 512, 2047, 1024, 0])
 (.seq (.region [o 18 (.mv (.t 6)),
 o 19 (.call 173 [(.t 18)])])
 (.seq (.region [o 20 (.ld 5 true (.b 5)),
 e (.st 5 (.b 4) (.t 20))])
 .ret)))) }
def b174 : List Nat := [3, 4, 5]

def f175 : IFunc :=
 { np := 3, res := [], body :=
 (.block 0 (.loop [0, 1, 2] [] (.block 1 (.seq (.region [o 9 (.off 1 (.t 1)),
 o 10 (.ld 1 false (.t 9)),
 o 4 (.mv (.t 10))])
 (.seq (.region [o 11 (.off 1 (.t 1)),
 e (.st 1 (.t 11) (.k (.im (.sl [] .nil))))])
 (.seq (.seq (.region [o 12 (.mv (.t 4)),
 o 13 (.len .sl (.t 12)),
 o 14 (.mv (.k (.im (.sc (.int .i64 0)))))])
 (.block 2 (.loop [0, 1, 2, 4, 9, 10, 11, 12, 13, 14] [] (.seq (.region [o 15 (.bin .lss 3 false false (.t 14) (.t 13))])
 (.seq (.cond (.t 15)
 .skip
 (.exit 2))
 (.seq (.block 3 (.seq (.region [o 16 (.idxA 12 none (.t 12) (.t 14)),
 o 17 (.ld 12 true (.t 16)),
 o 6 (.lalloc [(.im (.sl [] .nil)), (.im (.sc (.int .i64 0))), (.im (.sc (.int .i64 0))), (.im (.sc (.string ⟨#[]⟩))), (.im (.sl [] .nil)), (.im (.sl [] .nil)), (.im (.sc (.int .i64 0))), (.im (.sc (.int .i64 0))), (.im (.sc (.string ⟨#[]⟩))), (.im (.sl [] .nil)), (.im (.sl [] .nil)), (.im (.sc (.bool false)))]),
 e (.st 12 (.b 6) (.t 17))])
 (.seq (.region [o 19 (.ld 1 false (.t 2)),
 o 20 (.ld 4 true (.t 1)),
 o 21 (.ld 12 true (.b 6)),
 o 22 (.call 70 [(.t 19), (.t 20), (.t 21)]),
 o 18 (.mv (.t 22)),
 o 23 (.extract (.t 18) 0),
 o 24 (.extract (.t 18) 1),
 o 7 (.lalloc [(.im (.sl [] .nil)), (.im (.sl [] .nil)), (.im (.sl [] .nil)), (.im (.sc (.int .i64 0)))]),
 e (.st 4 (.b 7) (.t 23)),
 o 8 (.mv (.t 24))])
 (.seq (.seq (.region [o 25 (.mv (.t 8)),
 o 26 (.bin .neq 39 false true (.t 25) (.k (.im (.sc (.int .i64 0)))))])
 (.cond (.t 26)
 (.seq (.region [o 27 (.mv (.t 0)),
 o 28 (.build [(.im (.sl [] .nil)), (.im (.sl [] .nil)), (.im (.sl [] .nil)), (.im (.sc (.int .i64 0)))] []),
 o 29 (.mv (.t 8)),
 o 30 (.build [(.im (.sl [] .nil)), (.im (.sl [] .nil)), (.im (.sl [] .nil)), (.im (.sc (.int .i64 0))), (.im (.sc (.int .i64 0)))] [(0, 4, (.t 28)), (4, 1, (.t 29))]),
 o 31 (.calld (.t 27) [(.t 30)])])
 .ret)
 .skip))
 (.region [o 32 (.ld 4 true (.b 7)),
 e (.st 4 (.t 1) (.t 32))])))))
 (.region [o 33 (.bin .add 3 false true (.t 14) (.k (.im (.sc (.int .i64 1))))),
 o 14 (.mv (.t 33))])))))))
 (.seq (.region [o 34 (.mv (.t 0)),
 o 35 (.ld 4 true (.t 1)),
 o 36 (.build [(.im (.sl [] .nil)), (.im (.sl [] .nil)), (.im (.sl [] .nil)), (.im (.sc (.int .i64 0))), (.im (.sc (.int .i64 0)))] [(0, 4, (.t 35)), (4, 1, (.k (.im (.sc (.int .i64 0)))))]),
 o 37 (.calld (.t 34) [(.t 36)]),
 o 38 (.un .not (.t 37))])
 (.cond (.t 38)
 .ret
 .skip)))))))) }
def b175 : List Nat := [6, 7]

def f176 : IFunc :=
 { np := 4, res := [], body :=
 (.seq (.region [o 8 (.mv (.k (.im (.sc (.bool true)))))])
 (.seq (.region [o 9 (.mv (.k (.im (.sc (.bool true)))))])
 (.block 0 (.loop [0, 1, 2, 3, 8, 9] [] (.block 1 (.seq (.region [o 19 (.mv (.t 2)),
 o 20 (.mv (.t 1)),
 o 21 (.bin .sub 3 false false (.t 19) (.t 20)),
 o 10 (.mv (.t 21))])
 (.seq (.seq (.region [o 22 (.mv (.t 10)),
 o 23 (.bin .leq 3 false true (.t 22) (.k (.im (.sc (.int .i64 12)))))])
 (.cond (.t 23)
 (.seq (.region [o 24 (.mv (.t 0)),
 o 25 (.mv (.t 1)),
 o 26 (.mv (.t 2)),
 o 27 (.call 228 [(.t 24), (.t 25), (.t 26)])])
 .ret)
 .skip))
 (.seq (.seq (.region [o 28 (.mv (.t 3)),
 o 29 (.bin .eql 3 false true (.t 28) (.k (.im (.sc (.int .i64 0)))))])
 (.cond (.t 29)
 (.seq (.region [o 30 (.mv (.t 0)),
 o 31 (.mv (.t 1)),
 o 32 (.mv (.t 2)),
 o 33 (.call 229 [(.t 30), (.t 31), (.t 32)])])
 .ret)
 .skip))
 (.seq (.seq (.region [o 34 (.mv (.t 8)),
 o 35 (.un .not (.t 34))])
 (.cond (.t 35)
 (.seq (.region [o 36 (.mv (.t 0)),
 o 37 (.mv (.t 1)),
 o 38 (.mv (.t 2)),
 o 39 (.call 230 [(.t 36), (.t 37), (.t 38)])])
 (.region [o 40 (.mv (.t 3)),
 o 41 (.bin .sub 3 false true (.t 40) (.k (.im (.sc (.int .i64 1))))),
 o 3 (.mv (.t 41))]))
 .skip))
 (.seq (.region [o 43 (.mv (.t 0)),
 o 44 (.mv (.t 1)),
 o 45 (.mv (.t 2)),
 o 46 (.call 231 [(.t 43), (.t 44), (.t 45)]),
 o 42 (.mv (.t 46)),
 o 47 (.extract (.t 42) 0),
 o 48 (.extract (.t 42) 1),
 o 11 (.mv (.t 47)),
 o 12 (.mv (.t 48))])
 (.seq (.seq (.region [o 49 (.mv (.t 12)),
 o 50 (.bin .eql 294 false true (.t 49) (.k (.im (.sc (.int .i64 2)))))])
 (.cond (.t 50)
 (.seq (.region [o 51 (.mv (.t 0)),
 o 52 (.mv (.t 1)),
 o 53 (.mv (.t 2)),
 o 54 (.call 232 [(.t 51), (.t 52), (.t 53)])])
 (.seq (.region [o 55 (.mv (.t 2)),
 o 56 (.bin .sub 3 false true (.t 55) (.k (.im (.sc (.int .i64 1))))),
 o 57 (.mv (.t 11)),
 o 58 (.mv (.t 1)),
 o 59 (.bin .sub 3 false false (.t 57) (.t 58)),
 o 60 (.bin .sub 3 false false (.t 56) (.t 59)),
 o 11 (.mv (.t 60))])
 (.region [o 12 (.mv (.k (.im (.sc (.int .i64 1)))))])))
 .skip))
 (.seq (.seq (.region [o 61 (.mv (.t 8)),
 o 62 (.mv (.t 61)),
 ⟨(some 63), .mv (.t 9), (some (62, true))⟩,
 o 64 (.pick (.t 62) (.t 63) (.k (.im (.sc (.bool false))))),
 o 65 (.mv (.t 64)),
 ⟨(some 66), .mv (.t 12), (some (65, true))⟩,
 ⟨(some 67), .bin .eql 294 false true (.t 66) (.k (.im (.sc (.int .i64 1)))), (some (65, true))⟩,
 o 68 (.pick (.t 65) (.t 67) (.k (.im (.sc (.bool false)))))])
 (.cond (.t 68)
 (.seq (.region [o 69 (.mv (.t 0)),
 o 70 (.mv (.t 1)),
 o 71 (.mv (.t 2)),
 o 72 (.call 233 [(.t 69), (.t 70), (.t 71)])])
 (.cond (.t 72)
 .ret
 .skip))
 .skip))
 (.seq (.seq (.draw [o 73 (.mv (.t 1)),
 o 74 (.bin .gtr 3 false true (.t 73) (.k (.im (.sc (.int .i64 0))))),
 o 75 (.mv (.t 74)),
 ⟨(some 76), .mv (.t 0), (some (75, true))⟩,
 ⟨(some 77), .mv (.t 1), (some (75, true))⟩,
 ⟨(some 78), .bin .sub 3 false true (.t 77) (.k (.im (.sc (.int .i64 1)))), (some (75, true))⟩,
 ⟨(some 79), .idxA 1 none (.t 76) (.t 78), (some (75, true))⟩,
 ⟨(some 80), .ld 1 false (.t 79), (some (75, true))⟩,
 ⟨(some 81), .mv (.t 0), (some (75, true))⟩,
 ⟨(some 82), .mv (.t 11), (some (75, true))⟩,
 ⟨(some 83), .idxA 1 none (.t 81) (.t 82), (some (75, true))⟩,
 ⟨(some 84), .ld 1 false (.t 83), (some (75, true))⟩,
 ⟨(some 85), .call 234 [(.t 80), (.t 84)], (some (75, true))⟩,
 ⟨(some 86), .un .not (.t 85), (some (75, true))⟩,
 o 87 (.pick (.t 75) (.t 86) (.k (.im (.sc (.bool false)))))] [0, 0, 0, 0, 8, 8, 0, 0, 248, 504, 248, 248, 0, 0, 0])
 (.cond (.t 87)
 (.seq (.region [o 88 (.mv (.t 0)),
 o 89 (.mv (.t 1)),
 o 90 (.mv (.t 2)),
 o 91 (.mv (.t 11)),
 o 92 (.call 235 [(.t 88), (.t 89), (.t 90), (.t 91)]),
 o 13 (.mv (.t 92))])
 (.seq (.region [o 93 (.mv (.t 13)),
 o 1 (.mv (.t 93))])
 (.exit 1)))
 .skip))
 (.seq (.region [o 95 (.mv (.t 0)),
 o 96 (.mv (.t 1)),
 o 97 (.mv (.t 2)),
 o 98 (.mv (.t 11)),
 o 99 (.call 236 [(.t 95), (.t 96), (.t 97), (.t 98)]),
 o 94 (.mv (.t 99)),
 o 100 (.extract (.t 94) 0),
 o 101 (.extract (.t 94) 1),
 o 14 (.mv (.t 100)),
 o 15 (.mv (.t 101))])
 (.seq (.region [o 102 (.mv (.t 15)),
 o 9 (.mv (.t 102))])
 (.seq (.region [o 103 (.mv (.t 14)),
 o 104 (.mv (.t 1)),
 o 105 (.bin .sub 3 false false (.t 103) (.t 104)),
 o 106 (.mv (.t 2)),
 o 107 (.mv (.t 14)),
 o 108 (.bin .sub 3 false false (.t 106) (.t 107)),
 o 16 (.mv (.t 105)),
 o 17 (.mv (.t 108))])
 (.seq (.region [o 109 (.mv (.t 10)),
 o 110 (.bin .quo 3 false true (.t 109) (.k (.im (.sc (.int .i64 8))))),
 o 18 (.mv (.t 110))])
 (.seq (.region [o 111 (.mv (.t 16)),
 o 112 (.mv (.t 17)),
 o 113 (.bin .lss 3 false false (.t 111) (.t 112))])
 (.cond (.t 113)
 (.seq (.region [o 114 (.mv (.t 16)),
 o 115 (.mv (.t 18)),
 o 116 (.bin .geq 3 false false (.t 114) (.t 115)),
 o 8 (.mv (.t 116))])
 (.seq (.region [o 117 (.mv (.t 0)),
 o 118 (.mv (.t 1)),
 o 119 (.mv (.t 14)),
 o 120 (.mv (.t 3)),
 o 121 (.call 176 [(.t 117), (.t 118), (.t 119), (.t 120)])])
 (.region [o 122 (.mv (.t 14)),
 o 123 (.bin .add 3 false true (.t 122) (.k (.im (.sc (.int .i64 1))))),
 o 1 (.mv (.t 123))])))
 (.seq (.region [o 124 (.mv (.t 17)),
 o 125 (.mv (.t 18)),
 o 126 (.bin .geq 3 false false (.t 124) (.t 125)),
 o 8 (.mv (.t 126))])
 (.seq (.region [o 127 (.mv (.t 0)),
 o 128 (.mv (.t 14)),
 o 129 (.bin .add 3 false true (.t 128) (.k (.im (.sc (.int .i64 1))))),
 o 130 (.mv (.t 2)),
 o 131 (.mv (.t 3)),
 o 132 (.call 176 [(.t 127), (.t 129), (.t 130), (.t 131)])])
 (.region [o 133 (.mv (.t 14)),
 o 2 (.mv (.t 133))])))))))))))))))))))))) }
def b176 : List Nat := []

def f177 : IFunc :=
 { np := 1, res := [.tmp 2], body :=
 (.seq (.region [o 2 (.mv (.k (.im (.sc (.int .i64 0)))))])
 (.seq (.cond (.k (.im (.sc (.bool false))))
 (.seq (.region [o 3 (.mv (.t 0)),
 o 4 (.conv 250 303 (.t 3)),
 o 5 (.call 237 [(.t 4)]),
 o 2 (.mv (.t 5))])
 .ret)
 .skip)
 (.seq (.region [o 6 (.mv (.t 0)),
 o 7 (.call 238 [(.t 6)]),
 o 2 (.mv (.t 7))])
 .ret))) }
def b177 : List Nat := []

def f178 : IFunc :=
 { np := 2, res := [], body :=
 (.seq (.region [o 4 (.ld 1 false (.t 1)),
 o 5 (.len .sl (.t 4)),
 o 6 (.bin .sub 3 false true (.t 5) (.k (.im (.sc (.int .i64 1))))),
 o 3 (.mv (.t 6))])
 (.block 0 (.loop [0, 1, 3] [] (.seq (.seq (.region [o 7 (.mv (.t 3)),
 o 8 (.bin .geq 3 false true (.t 7) (.k (.im (.sc (.int .i64 0)))))])
 (.cond (.t 8)
 .skip
 (.exit 0)))
 (.seq (.block 1 (.seq (.region [o 11 (.mv (.t 0)),
 o 12 (.mv (.t 3)),
 o 13 (.ld 1 false (.t 1)),
 o 14 (.mv (.t 3)),
 o 15 (.idxA 5 none (.t 13) (.t 14)),
 o 16 (.ld 5 true (.t 15)),
 o 17 (.calld (.t 11) [(.t 12), (.t 16)]),
 o 18 (.un .not (.t 17))])
 (.cond (.t 18)
 .ret
 .skip)))
 (.region [o 9 (.mv (.t 3)),
 o 10 (.bin .sub 3 false true (.t 9) (.k (.im (.sc (.int .i64 1))))),
 o 3 (.mv (.t 10))])))))) }
def b178 : List Nat := []

def f179 : IFunc :=
 { np := 2, res := [.tmp 4], body :=
 (.seq (.region [o 4 (.mv (.k (.im (.sc (.int .i64 0)))))])
 (.seq (.seq (.region [o 6 (.mv (.t 0)),
 o 7 (.len .sl (.t 6)),
 o 8 (.mv (.k (.im (.sc (.int .i64 0)))))])
 (.block 0 (.loop [0, 1, 4, 7, 8] [] (.seq (.region [o 9 (.bin .lss 3 false false (.t 8) (.t 7))])
 (.seq (.cond (.t 9)
 .skip
 (.exit 0))
 (.seq (.block 1 (.seq (.region [o 10 (.mv (.t 8)),
 o 5 (.mv (.t 10))])
 (.seq (.region [o 11 (.mv (.t 1)),
 o 12 (.mv (.t 0)),
 o 13 (.mv (.t 5)),
 o 14 (.idxA 2 none (.t 12) (.t 13)),
 o 15 (.ld 2 true (.t 14)),
 o 16 (.calld (.t 11) [(.t 15)])])
 (.cond (.t 16)
 (.seq (.region [o 17 (.mv (.t 5)),
 o 4 (.mv (.t 17))])
 .ret)
 .skip))))
 (.region [o 18 (.bin .add 3 false true (.t 8) (.k (.im (.sc (.int .i64 1))))),
 o 8 (.mv (.t 18))])))))))
 (.seq (.region [o 4 (.mv (.k (.im (.sc (.int .i64 (-1))))))])
 .ret))) }
def b179 : List Nat := []

def f180 : IFunc :=
 { np := 2, res := [.tmp 4], body :=
 (.seq (.region [o 4 (.mv (.k (.im (.sc (.int .i64 0)))))])
 (.seq (.seq (.region [o 6 (.mv (.t 0)),
 o 7 (.len .sl (.t 6)),
 o 8 (.mv (.k (.im (.sc (.int .i64 0)))))])
 (.block 0 (.loop [0, 1, 4, 7, 8] [] (.seq (.region [o 9 (.bin .lss 3 false false (.t 8) (.t 7))])
 (.seq (.cond (.t 9)
 .skip
 (.exit 0))
 (.seq (.block 1 (.seq (.region [o 10 (.mv (.t 8)),
 o 5 (.mv (.t 10))])
 (.seq (.region [o 11 (.mv (.t 1)),
 o 12 (.mv (.t 0)),
 o 13 (.mv (.t 5)),
 o 14 (.idxA 2 none (.t 12) (.t 13)),
 o 15 (.ld 2 true (.t 14)),
 o 16 (.calld (.t 11) [(.t 15)])])
 (.cond (.t 16)
 (.seq (.region [o 17 (.mv (.t 5)),
 o 4 (.mv (.t 17))])
 .ret)
 .skip))))
 (.region [o 18 (.bin .add 3 false true (.t 8) (.k (.im (.sc (.int .i64 1))))),
 o 8 (.mv (.t 18))])))))))
 (.seq (.region [o 4 (.mv (.k (.im (.sc (.int .i64 (-1))))))])
 .ret))) }
def b180 : List Nat := []

def f181 : IFunc :=
 { np := 2, res := [.tmp 4], body :=
 (.seq (.region [o 4 (.mv (.k (.im (.sc (.int .i64 0)))))])
 (.seq (.seq (.region [o 6 (.mv (.t 0)),
 o 7 (.len .sl (.t 6)),
 o 8 (.mv (.k (.im (.sc (.int .i64 0)))))])
 (.block 0 (.loop [0, 1, 4, 7, 8] [] (.seq (.region [o 9 (.bin .lss 3 false false (.t 8) (.t 7))])
 (.seq (.cond (.t 9)
 .skip
 (.exit 0))
 (.seq (.block 1 (.seq (.region [o 10 (.mv (.t 8)),
 o 5 (.mv (.t 10))])
 (.seq (.region [o 11 (.mv (.t 1)),
 o 12 (.mv (.t 0)),
 o 13 (.mv (.t 5)),
 o 14 (.idxA 5 none (.t 12) (.t 13)),
 o 15 (.ld 5 true (.t 14)),
 o 16 (.calld (.t 11) [(.t 15)])])
 (.cond (.t 16)
 (.seq (.region [o 17 (.mv (.t 5)),
 o 4 (.mv (.t 17))])
 .ret)
 .skip))))
 (.region [o 18 (.bin .add 3 false true (.t 8) (.k (.im (.sc (.int .i64 1))))),
 o 8 (.mv (.t 18))])))))))
 (.seq (.region [o 4 (.mv (.k (.im (.sc (.int .i64 (-1))))))])
 .ret))) }
def b181 : List Nat := []

def f182 : IFunc :=
 { np := 2, res := [], body :=
 (.seq (.region [o 4 (.mv (.t 2)),
 o 5 (.isnil .ifc true (.t 4))])
 (.cond (.t 5)
 (.region [o 6 (.build [(.im (.sc (.int .i64 0))), (.im (.sc (.int .i64 0))), (.im (.sc (.string ⟨#[]⟩))), (.im (.sl [] .nil)), (.im (.sl [] .nil))] []),
 o 7 (.mv (.t 2)),
 o 8 (.call 183 [(.t 7)]),
 e (.st 5 (.t 0) (.t 6)),
 e (.st 1 (.t 1) (.t 8))])
 .skip)), rcv := some (3, [o 2 (.mv (.t 3))]) }
def b182 : List Nat := []

def f184 : IFunc :=
 { np := 3, res := [.cell 5 5 true, .tmp 6], body :=
 (.seq (.region [o 3 (.lbox (.t 0)),
 o 5 (.lalloc [(.im (.sc (.int .i64 0))), (.im (.sc (.int .i64 0))), (.im (.sc (.string ⟨#[]⟩))), (.im (.sl [] .nil)), (.im (.sl [] .nil))]),
 o 6 (.mv (.k (.im (.sc (.bool false)))))])
 (.seq (.region [o 12 (.ld 5 true (.b 3)),
 o 13 (.call 185 [(.t 12)]),
 o 7 (.lalloc [(.im (.sc (.int .i64 0))), (.im (.sc (.int .i64 0))), (.im (.sc (.string ⟨#[]⟩))), (.im (.sl [] .nil)), (.im (.sl [] .nil))]),
 e (.st 5 (.b 7) (.t 13))])
 (.seq (.seq (.region [o 14 (.off 3 (.b 3)),
 o 15 (.ld 1 false (.t 14)),
 o 16 (.len .sl (.t 15)),
 o 17 (.mv (.k (.im (.sc (.int .i64 0)))))])
 (.block 0 (.loop [2, 6, 15, 16, 17] [5, 7] (.seq (.region [o 18 (.bin .lss 3 false false (.t 17) (.t 16))])
 (.seq (.cond (.t 18)
 .skip
 (.exit 0))
 (.seq (.block 1 (.seq (.region [o 19 (.mv (.t 17)),
 o 20 (.idxA 2 none (.t 15) (.t 17)),
 o 21 (.ld 2 true (.t 20)),
 o 9 (.lalloc [(.im (.sc (.int .i64 0))), (.im (.sl [] .nil))]),
 o 8 (.mv (.t 19)),
 e (.st 2 (.b 9) (.t 21))])
 (.seq (.region [o 23 (.ld 1 false (.t 2)),
 o 24 (.ld 2 true (.b 9)),
 o 25 (.calld (.t 23) [(.t 24)]),
 o 22 (.mv (.t 25)),
 o 26 (.extract (.t 22) 0),
 o 27 (.extract (.t 22) 1),
 o 10 (.lalloc [(.im (.sc (.int .i64 0))), (.im (.sl [] .nil))]),
 e (.st 2 (.b 10) (.t 26)),
 o 11 (.mv (.t 27))])
 (.seq (.seq (.region [o 28 (.mv (.t 11)),
 o 29 (.bin .neq 39 false true (.t 28) (.k (.im (.sc (.int .i64 0)))))])
 (.cond (.t 29)
 (.region [o 30 (.mv (.t 11)),
 o 31 (.call 186 [(.t 30)])])
 .skip))
 (.region [o 32 (.off 3 (.b 7)),
 o 33 (.ld 1 false (.t 32)),
 o 34 (.mv (.t 8)),
 o 35 (.ld 2 true (.b 10)),
 o 36 (.idxA 2 none (.t 33) (.t 34)),
 e (.st 2 (.t 36) (.t 35))])))))
 (.region [o 37 (.bin .add 3 false true (.t 17) (.k (.im (.sc (.int .i64 1))))),
 o 17 (.mv (.t 37))])))))))
 (.seq (.region [o 38 (.ld 5 true (.b 7)),
 e (.st 5 (.b 5) (.t 38)),
 o 6 (.mv (.k (.im (.sc (.bool false)))))])
 .ret)))) }
def b184 : List Nat := [3, 5, 7, 9, 10]

def f185 : IFunc :=
 { np := 1, res := [.cell 2 5 true], body :=
 (.seq (.region [o 1 (.lbox (.t 0)),
 o 2 (.lalloc [(.im (.sc (.int .i64 0))), (.im (.sc (.int .i64 0))), (.im (.sc (.string ⟨#[]⟩))), (.im (.sl [] .nil)), (.im (.sl [] .nil))])])
 (.seq (.region [o 6 (.off 0 (.b 1)),
 o 7 (.ld 1 false (.t 6)),
 o 8 (.off 1 (.b 1)),
 o 9 (.ld 1 false (.t 8)),
 o 10 (.off 2 (.b 1)),
 o 11 (.ld 1 false (.t 10)),
 o 12 (.build [(.im (.sc (.int .i64 0))), (.im (.sc (.int .i64 0))), (.im (.sc (.string ⟨#[]⟩))), (.im (.sl [] .nil)), (.im (.sl [] .nil))] [(0, 1, (.t 7)), (1, 1, (.t 9)), (2, 1, (.t 11))]),
 o 3 (.lalloc [(.im (.sc (.int .i64 0))), (.im (.sc (.int .i64 0))), (.im (.sc (.string ⟨#[]⟩))), (.im (.sl [] .nil)), (.im (.sl [] .nil))]),
 e (.st 5 (.b 3) (.t 12))])
 (.seq (.seq (.region [o 13 (.off 3 (.b 1)),
 o 14 (.ld 1 false (.t 13)),
 o 15 (.len .sl (.t 14)),
 o 16 (.mv (.k (.im (.sc (.int .i64 0)))))])
 (.block 0 (.loop [14, 15, 16] [2, 3] (.seq (.region [o 17 (.bin .lss 3 false false (.t 16) (.t 15))])
 (.seq (.cond (.t 17)
 .skip
 (.exit 0))
 (.seq (.block 1 (.seq (.region [o 18 (.idxA 2 none (.t 14) (.t 16)),
 o 19 (.ld 2 true (.t 18)),
 o 5 (.lalloc [(.im (.sc (.int .i64 0))), (.im (.sl [] .nil))]),
 e (.st 2 (.b 5) (.t 19))])
 (.draw [o 20 (.off 3 (.b 3)),
 o 21 (.ld 1 false (.t 20)),
 o 22 (.off 0 (.b 5)),
 o 23 (.ld 1 false (.t 22)),
 o 24 (.off 1 (.b 5)),
 o 25 (.ld 1 false (.t 24)),
 o 26 (.append 2 false (.k (.im (.sl [] .nil))) (.t 25)),
 o 27 (.build [(.im (.sc (.int .i64 0))), (.im (.sl [] .nil))] [(0, 1, (.t 23)), (1, 1, (.t 26))]),
 o 28 (.mkS 2 1 [(.im (.sc (.int .i64 0))), (.im (.sl [] .nil))] [(0, (.t 27))]),
 o 29 (.append 2 true (.t 21) (.t 28)),
 o 30 (.off 3 (.b 3)),
 e (.st 1 (.t 30) (.t 29))] [0, 0, 3, 3, 15, 15, 15, 3, 3, 0, 0, 0])))
 (.region [o 31 (.bin .add 3 false true (.t 16) (.k (.im (.sc (.int .i64 1))))),
 o 16 (.mv (.t 31))])))))))
 (.seq (.region [o 32 (.ld 5 true (.b 3)),
 e (.st 5 (.b 2) (.t 32))])
 .ret)))) }
def b185 : List Nat := [1, 2, 3, 5]

def f187 : IFunc :=
 { np := 3, res := [.cell 6 5 true], body :=
 (.seq (.region [o 3 (.lbox (.t 0)),
 o 4 (.lbox (.t 1)),
 o 6 (.lalloc [(.im (.sc (.int .i64 0))), (.im (.sc (.int .i64 0))), (.im (.sc (.string ⟨#[]⟩))), (.im (.sl [] .nil)), (.im (.sl [] .nil))])])
 (.seq (.region [o 12 (.off 0 (.b 3)),
 o 13 (.ld 1 false (.t 12)),
 o 14 (.ld 5 true (.b 4)),
 o 15 (.mv (.t 2)),
 o 16 (.calld (.t 13) [(.t 14), (.t 15)]),
 o 11 (.mv (.t 16)),
 o 17 (.extract (.t 11) 0),
 o 18 (.extract (.t 11) 1),
 o 7 (.lalloc [(.im (.sc (.int .i64 0))), (.im (.sc (.int .i64 0))), (.im (.sc (.string ⟨#[]⟩))), (.im (.sl [] .nil)), (.im (.sl [] .nil))]),
 e (.st 5 (.b 7) (.t 17)),
 o 8 (.mv (.t 18))])
 (.seq (.seq (.region [o 19 (.mv (.t 8))])
 (.cond (.t 19)
 (.seq (.region [o 20 (.ld 5 true (.b 7)),
 e (.st 5 (.b 6) (.t 20))])
 .ret)
 .skip))
 (.seq (.region [o 21 (.off 4 (.b 7)),
 e (.st 1 (.t 21) (.k (.im (.sl [] .nil))))])
 (.seq (.seq (.region [o 22 (.off 4 (.b 4)),
 o 23 (.ld 1 false (.t 22)),
 o 24 (.len .sl (.t 23)),
 o 25 (.bin .gtr 3 false true (.t 24) (.k (.im (.sc (.int .i64 0)))))])
 (.cond (.t 25)
 (.seq (.region [o 26 (.off 4 (.b 4)),
 o 27 (.ld 1 false (.t 26)),
 o 28 (.len .sl (.t 27)),
 o 29 (.mkslice 5 [(.im (.sc (.int .i64 0))), (.im (.sc (.int .i64 0))), (.im (.sc (.string ⟨#[]⟩))), (.im (.sl [] .nil)), (.im (.sl [] .nil))] (.t 28) (.t 28)),
 o 30 (.off 4 (.b 7)),
 e (.st 1 (.t 30) (.t 29))])
 (.seq (.region [o 31 (.off 4 (.b 4)),
 o 32 (.ld 1 false (.t 31)),
 o 33 (.len .sl (.t 32)),
 o 34 (.mv (.k (.im (.sc (.int .i64 0)))))])
 (.block 0 (.loop [2, 32, 33, 34] [3, 4, 6, 7] (.seq (.region [o 35 (.bin .lss 3 false false (.t 34) (.t 33))])
 (.seq (.cond (.t 35)
 .skip
 (.exit 0))
 (.seq (.block 1 (.seq (.region [o 36 (.mv (.t 34)),
 o 37 (.idxA 5 none (.t 32) (.t 34)),
 o 38 (.ld 5 true (.t 37)),
 o 10 (.lalloc [(.im (.sc (.int .i64 0))), (.im (.sc (.int .i64 0))), (.im (.sc (.string ⟨#[]⟩))), (.im (.sl [] .nil)), (.im (.sl [] .nil))]),
 o 9 (.mv (.t 36)),
 e (.st 5 (.b 10) (.t 38))])
 (.draw [o 39 (.off 4 (.b 7)),
 o 40 (.ld 1 false (.t 39)),
 o 41 (.mv (.t 9)),
 o 42 (.ld 1 true (.b 3)),
 o 43 (.ld 5 true (.b 10)),
 o 44 (.mv (.t 2)),
 o 45 (.off 0 (.b 4)),
 o 46 (.ld 1 false (.t 45)),
 o 47 (.mv (.t 9)),
 o 48 (.call 239 [(.t 46), (.t 47)]),
 o 49 (.bin .add 3 false false (.t 44) (.t 48)),
 o 50 (.call 187 [(.t 42), (.t 43), (.t 49)]),
 o 51 (.idxA 5 none (.t 40) (.t 41)),
 e (.st 5 (.t 51) (.t 50))] [0, 0, 3, 7, 15, 31, 63, 63, 255, 63, 31, 7, 0, 0])))
 (.region [o 52 (.bin .add 3 false true (.t 34) (.k (.im (.sc (.int .i64 1))))),
 o 34 (.mv (.t 52))]))))))))
 .skip))
 (.seq (.region [o 53 (.ld 5 true (.b 7)),
 e (.st 5 (.b 6) (.t 53))])
 .ret)))))) }
def b187 : List Nat := [3, 4, 6, 7, 10]

def f188 : IFunc :=
 { np := 1, res := [.tmp 2], body :=
 (.seq (.region [o 2 (.mv (.k (.im (.sc (.bool false)))))])
 (.seq (.region [o 3 (.mv (.t 0)),
 o 4 (.call 129 [(.t 3), (.k (.im (.fn (.func 240) [] [])))]),
 o 5 (.un .not (.t 4)),
 o 2 (.mv (.t 5))])
 .ret)) }
def b188 : List Nat := []

def f189 : IFunc :=
 { np := 0, res := [.tmp 0], body :=
 (.seq (.region [o 0 (.mv (.k (.im (.sc (.pointer none)))))])
 (.seq (.region [o 1 (.mkmap),
 o 2 (.build [(.im (.sc (.map none))), (.im (.sc (.int .i64 0)))] [(0, 1, (.t 1))]),
 o 3 (.hbox (.t 2)),
 o 0 (.mv (.t 3))])
 .ret)) }
def b189 : List Nat := []

def f191 : IFunc :=
 { np := 3, res := [], body :=
 (.seq (.region [o 9 (.mv (.t 0)),
 o 10 (.mv (.t 1)),
 o 11 (.lookup .int [(.im (.sc (.int .i64 0)))] false (.t 9) (.t 10) true),
 o 8 (.mv (.t 11)),
 o 12 (.extract (.t 8) 0),
 o 13 (.extract (.t 8) 1),
 o 6 (.mv (.t 12)),
 o 7 (.mv (.t 13))])
 (.seq (.region [o 14 (.mv (.t 7)),
 o 15 (.un .not (.t 14)),
 o 16 (.mv (.t 15)),
 ⟨(some 17), .mv (.t 2), (some (16, false))⟩,
 ⟨(some 18), .mv (.t 6), (some (16, false))⟩,
 ⟨(some 19), .bin .gtr 3 false false (.t 17) (.t 18), (some (16, false))⟩,
 o 20 (.pick (.t 16) (.k (.im (.sc (.bool true)))) (.t 19))])
 (.cond (.t 20)
 (.region [o 21 (.mv (.t 0)),
 o 22 (.mv (.t 1)),
 o 23 (.mv (.t 2)),
 e (.mapset .int (.t 21) (.t 22) (.t 23))])
 .skip))) }
def b191 : List Nat := []

def f192 : IFunc :=
 { np := 1, res := [.cell 2 2 true, .tmp 3], body :=
 (.seq (.region [o 2 (.lalloc [(.im (.sc (.int .i64 0))), (.im (.sl [] .nil))]),
 o 3 (.mv (.k (.im (.sc (.int .i64 0)))))])
 (.seq (.region [o 7 (.mv (.t 0)),
 o 8 (.nilc (.t 7)),
 o 9 (.off 1 (.t 8)),
 o 10 (.ld 1 false (.t 9)),
 o 11 (.build [(.im (.sc (.int .i64 0))), (.im (.sl [] .nil))] [(0, 1, (.t 10))]),
 o 4 (.lalloc [(.im (.sc (.int .i64 0))), (.im (.sl [] .nil))]),
 e (.st 2 (.b 4) (.t 11))])
 (.seq (.seq (.region [o 12 (.mv (.t 0)),
 o 13 (.nilc (.t 12)),
 o 14 (.off 0 (.t 13)),
 o 15 (.ld 1 false (.t 14)),
 o 16 (.call 242 [(.t 15)]),
 o 17 (.call 241 [(.t 16)]),
 o 18 (.len .sl (.t 17)),
 o 19 (.mv (.k (.im (.sc (.int .i64 0)))))])
 (.block 0 (.loop [0, 3, 17, 18, 19] [2, 4] (.seq (.region [o 20 (.bin .lss 3 false false (.t 19) (.t 18))])
 (.seq (.cond (.t 20)
 .skip
 (.exit 0))
 (.seq (.block 1 (.seq (.region [o 21 (.idxA 1 none (.t 17) (.t 19)),
 o 22 (.ld 1 false (.t 21)),
 o 6 (.mv (.t 22))])
 (.draw [o 23 (.off 1 (.b 4)),
 o 24 (.ld 1 false (.t 23)),
 o 25 (.mv (.t 6)),
 o 26 (.mv (.t 0)),
 o 27 (.nilc (.t 26)),
 o 28 (.off 0 (.t 27)),
 o 29 (.ld 1 false (.t 28)),
 o 30 (.mv (.t 6)),
 o 31 (.lookup .int [(.im (.sc (.int .i64 0)))] false (.t 29) (.t 30) false),
 o 32 (.build [(.im (.sc (.int .i64 0))), (.im (.sc (.int .i64 0)))] [(0, 1, (.t 25)), (1, 1, (.t 31))]),
 o 33 (.mkS 2 1 [(.im (.sc (.int .i64 0))), (.im (.sc (.int .i64 0)))] [(0, (.t 32))]),
 o 34 (.append 2 false (.t 24) (.t 33)),
 o 35 (.off 1 (.b 4)),
 e (.st 1 (.t 35) (.t 34))] [0, 0, 3, 7, 7, 7, 7, 127, 7, 3, 3, 0, 0, 0])))
 (.region [o 36 (.bin .add 3 false true (.t 19) (.k (.im (.sc (.int .i64 1))))),
 o 19 (.mv (.t 36))])))))))
 (.seq (.region [o 37 (.ld 2 true (.b 4)),
 o 38 (.call 206 [(.t 37)]),
 o 39 (.extract (.t 38) 0),
 o 40 (.extract (.t 38) 1),
 e (.st 2 (.b 2) (.t 39)),
 o 3 (.mv (.t 40))])
 .ret)))) }
def b192 : List Nat := [2, 4]

def f193 : IFunc :=
 { np := 0, res := [.cell 0 13 true], body :=
 (.seq (.region [o 0 (.lalloc [(.im (.sc .nilFunc)), (.im (.sc .nilFunc)), (.im (.sc .nilFunc)), (.im (.sc .nilFunc)), (.im (.sc .nilFunc)), (.im (.sc .nilFunc)), (.im (.sc .nilFunc)), (.im (.sc .nilFunc)), (.im (.sc .nilFunc)), (.im (.sc .nilFunc)), (.im (.sc .nilFunc)), (.im (.sc .nilFunc)), (.im (.sc .nilFunc))])])
 (.seq (.region [o 1 (.build [(.im (.sc .nilFunc)), (.im (.sc .nilFunc)), (.im (.sc .nilFunc)), (.im (.sc .nilFunc)), (.im (.sc .nilFunc)), (.im (.sc .nilFunc)), (.im (.sc .nilFunc)), (.im (.sc .nilFunc)), (.im (.sc .nilFunc)), (.im (.sc .nilFunc)), (.im (.sc .nilFunc)), (.im (.sc .nilFunc)), (.im (.sc .nilFunc))] [(0, 1, (.k (.im (.fn (.func 243) [] [])))), (1, 1, (.k (.im (.fn (.func 244) [] [])))), (2, 1, (.k (.im (.fn (.func 245) [] [])))), (3, 1, (.k (.im (.fn (.func 246) [] [])))), (4, 1, (.k (.im (.fn (.func 247) [] [])))), (5, 1, (.k (.im (.fn (.func 248) [] [])))), (6, 1, (.k (.im (.fn (.func 249) [] [])))), (7, 1, (.k (.im (.fn (.func 250) [] [])))), (8, 1, (.k (.im (.fn (.func 251) [] [])))), (9, 1, (.k (.im (.fn (.func 252) [] [])))), (10, 1, (.k (.im (.fn (.func 253) [] [])))), (11, 1, (.k (.im (.fn (.func 254) [] [])))), (12, 1, (.k (.im (.fn (.func 255) [] []))))]),
 e (.st 13 (.b 0) (.t 1))])
 .ret)) }
def b193 : List Nat := [0]

def f199 : IFunc :=
 { np := 1, res := [.tmp 2], body :=
 (.seq (.region [o 1 (.hbox (.t 0)),
 o 2 (.mv (.k (.im (.sc (.bool false)))))])
 (.seq (.region [o 3 (.off 1 (.t 1)),
 o 4 (.ld 1 false (.t 3)),
 o 5 (.mkfn (.func 261) [] [(.t 1)] [true]),
 o 6 (.call 127 [(.t 4), (.t 5)]),
 o 2 (.mv (.t 6))])
 .ret)) }
def b199 : List Nat := []

def f206 : IFunc :=
 { np := 1, res := [.cell 2 2 true, .tmp 3], body :=
 (.seq (.region [o 1 (.lbox (.t 0)),
 o 2 (.lalloc [(.im (.sc (.int .i64 0))), (.im (.sl [] .nil))]),
 o 3 (.mv (.k (.im (.sc (.int .i64 0)))))])
 (.seq (.seq (.region [o 6 (.off 1 (.b 1)),
 o 7 (.ld 1 false (.t 6)),
 o 8 (.len .sl (.t 7)),
 o 9 (.mv (.k (.im (.sc (.int .i64 0)))))])
 (.block 0 (.loop [3, 7, 8, 9] [1, 2] (.seq (.region [o 10 (.bin .lss 3 false false (.t 9) (.t 8))])
 (.seq (.cond (.t 10)
 .skip
 (.exit 0))
 (.seq (.block 1 (.seq (.region [o 11 (.idxA 2 none (.t 7) (.t 9)),
 o 12 (.ld 2 true (.t 11)),
 o 5 (.lalloc [(.im (.sc (.int .i64 0))), (.im (.sc (.int .i64 0)))]),
 e (.st 2 (.b 5) (.t 12))])
 (.seq (.region [o 13 (.off 1 (.b 5)),
 o 14 (.ld 1 false (.t 13)),
 o 15 (.bin .gtr 3 false true (.t 14) (.k (.im (.sc (.int .i64 100)))))])
 (.cond (.t 15)
 (.seq (.region [o 16 (.build [(.im (.sc (.int .i64 0))), (.im (.sl [] .nil))] []),
 e (.st 2 (.b 2) (.t 16)),
 o 3 (.mv (.k (.im (.sc (.int .i64 15)))))])
 .ret)
 .skip))))
 (.region [o 17 (.bin .add 3 false true (.t 9) (.k (.im (.sc (.int .i64 1))))),
 o 9 (.mv (.t 17))])))))))
 (.seq (.seq (.region [o 18 (.off 0 (.b 1)),
 o 19 (.ld 1 false (.t 18)),
 o 20 (.bin .gtr 3 false true (.t 19) (.k (.im (.sc (.int .i64 100)))))])
 (.cond (.t 20)
 (.seq (.region [o 21 (.build [(.im (.sc (.int .i64 0))), (.im (.sl [] .nil))] []),
 e (.st 2 (.b 2) (.t 21)),
 o 3 (.mv (.k (.im (.sc (.int .i64 15)))))])
 .ret)
 .skip))
 (.seq (.seq (.region [o 22 (.ld 2 true (.b 1)),
 o 23 (.call 199 [(.t 22)])])
 (.cond (.t 23)
 (.region [o 24 (.off 0 (.b 1)),
 e (.st 1 (.t 24) (.k (.im (.sc (.int .i64 0)))))])
 .skip))
 (.seq (.region [o 25 (.ld 2 true (.b 1)),
 e (.st 2 (.b 2) (.t 25)),
 o 3 (.mv (.k (.im (.sc (.int .i64 0)))))])
 .ret))))) }
def b206 : List Nat := [1, 2, 5]

def f207 : IFunc :=
 { np := 2, res := [.tmp 4], body :=
 (.seq (.region [o 4 (.mv (.k (.im (.sc (.string ⟨#[]⟩)))))])
 (.seq (.seq (.region [o 10 (.mv (.t 1)),
 o 11 (.bin .eql 3 false true (.t 10) (.k (.im (.sc (.int .i64 10)))))])
 (.cond (.t 11)
 (.seq (.seq (.region [o 12 (.mv (.t 0)),
 o 13 (.bin .leq 2 true false (.k (.im (.sc (.int .i64 0)))) (.t 12)),
 o 14 (.mv (.t 13)),
 ⟨(some 15), .mv (.t 0), (some (14, true))⟩,
 ⟨(some 16), .bin .lss 2 false true (.t 15) (.k (.im (.sc (.int .i64 100)))), (some (14, true))⟩,
 o 17 (.pick (.t 14) (.t 16) (.k (.im (.sc (.bool false)))))])
 (.cond (.t 17)
 (.seq (.region [o 18 (.mv (.t 0)),
 o 19 (.call 265 [(.t 18)]),
 o 4 (.mv (.t 19))])
 .ret)
 .skip))
 (.seq (.region [o 5 (.halloc [(.im (.sc (.int .u8 0))), (.im (.sc (.int .u8 0))), (.im (.sc (.int .u8 0))), (.im (.sc (.int .u8 0))), (.im (.sc (.int .u8 0))), (.im (.sc (.int .u8 0))), (.im (.sc (.int .u8 0))), (.im (.sc (.int .u8 0))), (.im (.sc (.int .u8 0))), (.im (.sc (.int .u8 0))), (.im (.sc (.int .u8 0))), (.im (.sc (.int .u8 0))), (.im (.sc (.int .u8 0))), (.im (.sc (.int .u8 0))), (.im (.sc (.int .u8 0))), (.im (.sc (.int .u8 0))), (.im (.sc (.int .u8 0))), (.im (.sc (.int .u8 0))), (.im (.sc (.int .u8 0))), (.im (.sc (.int .u8 0))), (.im (.sc (.int .u8 0))), (.im (.sc (.int .u8 0))), (.im (.sc (.int .u8 0))), (.im (.sc (.int .u8 0)))])])
 (.seq (.region [o 20 (.mv (.t 0)),
 o 21 (.conv 2 305 (.t 20)),
 o 6 (.mv (.t 21))])
 (.seq (.seq (.region [o 22 (.mv (.t 0)),
 o 23 (.bin .lss 2 false true (.t 22) (.k (.im (.sc (.int .i64 0)))))])
 (.cond (.t 23)
 (.region [o 24 (.mv (.t 6)),
 o 25 (.un .neg (.t 24)),
 o 6 (.mv (.t 25))])
 .skip))
 (.seq (.region [o 26 (.mv (.t 6)),
 o 27 (.call 266 [(.t 26)]),
 o 7 (.mv (.t 27))])
 (.seq (.region [o 28 (.mv (.t 7)),
 o 29 (.bin .add 3 true false (.k (.im (.sc (.int .i64 1)))) (.t 28)),
 o 30 (.bad),
 o 31 (.mv (.t 6)),
 o 32 (.call 267 [(.t 30), (.t 31)])])
 (.seq (.seq (.region [o 33 (.mv (.t 0)),
 o 34 (.bin .lss 2 false true (.t 33) (.k (.im (.sc (.int .i64 0)))))])
 (.cond (.t 34)
 (.seq (.region [o 35 (.idxA 1 (some 24) (.t 5) (.k (.im (.sc (.int .i64 0))))),
 e (.st 1 (.t 35) (.k (.im (.sc (.int .u8 45)))))])
 (.seq (.region [o 36 (.mv (.t 7)),
 o 37 (.bin .add 3 true false (.k (.im (.sc (.int .i64 1)))) (.t 36)),
 o 38 (.bad),
 o 39 (.conv 322 9 (.t 38)),
 o 4 (.mv (.t 39))])
 .ret))
 .skip))
 (.seq (.region [o 40 (.mv (.t 7)),
 o 41 (.bin .add 3 true false (.k (.im (.sc (.int .i64 1)))) (.t 40)),
 o 42 (.bad),
 o 43 (.conv 322 9 (.t 42)),
 o 4 (.mv (.t 43))])
 .ret))))))))
 .skip))
 (.seq (.region [o 45 (.mv (.t 0)),
 o 46 (.conv 2 305 (.t 45)),
 o 47 (.mv (.t 1)),
 o 48 (.mv (.t 0)),
 o 49 (.bin .lss 2 false true (.t 48) (.k (.im (.sc (.int .i64 0))))),
 o 50 (.call 268 [(.k (.im (.sl [] .nil))), (.t 46), (.t 47), (.t 49), (.k (.im (.sc (.bool false))))]),
 o 44 (.mv (.t 50)),
 o 51 (.extract (.t 44) 0),
 o 52 (.extract (.t 44) 1),
 o 8 (.mv (.t 51)),
 o 9 (.mv (.t 52))])
 (.seq (.region [o 53 (.mv (.t 9)),
 o 4 (.mv (.t 53))])
 .ret)))) }
def b207 : List Nat := []

def f208 : IFunc :=
 { np := 2, res := [], body :=
 (.seq (.region [o 4 (.mv (.t 2)),
 o 5 (.isnil .ifc true (.t 4))])
 (.cond (.t 5)
 (.region [o 6 (.build [(.im (.sc (.int .i64 0))), (.im (.sc (.int .i64 0))), (.im (.sc (.string ⟨#[]⟩))), (.im (.sl [] .nil)), (.im (.sl [] .nil))] []),
 o 7 (.mv (.t 2)),
 o 8 (.call 183 [(.t 7)]),
 e (.st 5 (.t 0) (.t 6)),
 e (.st 1 (.t 1) (.t 8))])
 .skip)), rcv := some (3, [o 2 (.mv (.t 3))]) }
def b208 : List Nat := []

def f209 : IFunc :=
 { np := 3, res := [.cell 6 5 true], body :=
 (.seq (.region [o 3 (.lbox (.t 0)),
 o 4 (.hbox (.t 1)),
 o 5 (.hbox (.t 2)),
 o 6 (.lalloc [(.im (.sc (.int .i64 0))), (.im (.sc (.int .i64 0))), (.im (.sc (.string ⟨#[]⟩))), (.im (.sl [] .nil)), (.im (.sl [] .nil))])])
 (.seq (.draw [o 7 (.mkfn (.func 270) [] [(.t 5), (.t 4)] [true, true]),
 o 8 (.call 269 [(.t 7)]),
 o 9 (.ld 5 true (.b 3)),
 o 10 (.call 187 [(.t 8), (.t 9), (.k (.im (.sc (.int .i64 0))))]),
 e (.st 5 (.b 6) (.t 10))] [0, 0, 3, 0, 0])
 .ret)) }
def b209 : List Nat := [3, 6]

def f210 : IFunc :=
 { np := 2, res := [.cell 4 5 true, .tmp 5], body :=
 (.seq (.region [o 3 (.hbox (.t 1)),
 o 4 (.lalloc [(.im (.sc (.int .i64 0))), (.im (.sc (.int .i64 0))), (.im (.sc (.string ⟨#[]⟩))), (.im (.sl [] .nil)), (.im (.sl [] .nil))]),
 o 5 (.mv (.k (.im (.sc (.int .i64 0)))))])
 (.seq (.region [o 6 (.halloc [(.im (.sc (.int .i64 0))), (.im (.sc (.int .i64 0))), (.im (.sc (.string ⟨#[]⟩))), (.im (.sl [] .nil)), (.im (.sl [] .nil))])])
 (.seq (.region [o 8 (.mv (.t 0)),
 o 9 (.mkfn (.func 273) [] [(.t 3), (.t 6)] [true, false]),
 o 10 (.call 272 [(.t 8), (.t 9)]),
 o 7 (.mv (.t 10))])
 (.seq (.seq (.region [o 11 (.mv (.t 7)),
 o 12 (.bin .neq 39 false true (.t 11) (.k (.im (.sc (.int .i64 0)))))])
 (.cond (.t 12)
 (.seq (.region [o 13 (.build [(.im (.sc (.int .i64 0))), (.im (.sc (.int .i64 0))), (.im (.sc (.string ⟨#[]⟩))), (.im (.sl [] .nil)), (.im (.sl [] .nil))] []),
 o 14 (.mv (.t 7)),
 e (.st 5 (.b 4) (.t 13)),
 o 5 (.mv (.t 14))])
 .ret)
 .skip))
 (.seq (.region [o 15 (.ld 5 true (.t 6)),
 e (.st 5 (.b 4) (.t 15)),
 o 5 (.mv (.k (.im (.sc (.int .i64 0)))))])
 .ret))))) }
def b210 : List Nat := [4]

def f211 : IFunc :=
 { np := 1, res := [], body :=
 (.seq (.region [o 4 (.mv (.t 0)),
 o 5 (.len .sl (.t 4)),
 o 6 (.bin .sub 3 false true (.t 5) (.k (.im (.sc (.int .i64 1))))),
 o 2 (.mv (.k (.im (.sc (.int .i64 0))))),
 o 3 (.mv (.t 6))])
 (.block 0 (.loop [0, 2, 3] [] (.seq (.seq (.region [o 7 (.mv (.t 2)),
 o 8 (.mv (.t 3)),
 o 9 (.bin .lss 3 false false (.t 7) (.t 8))])
 (.cond (.t 9)
 .skip
 (.exit 0)))
 (.seq (.block 1 (.draw [o 14 (.mv (.t 0)),
 o 15 (.mv (.t 2)),
 o 16 (.mv (.t 0)),
 o 17 (.mv (.t 3)),
 o 18 (.mv (.t 0)),
 o 19 (.mv (.t 3)),
 o 20 (.idxA 5 none (.t 18) (.t 19)),
 o 21 (.ld 5 true (.t 20)),
 o 22 (.mv (.t 0)),
 o 23 (.mv (.t 2)),
 o 24 (.idxA 5 none (.t 22) (.t 23)),
 o 25 (.ld 5 true (.t 24)),
 o 26 (.idxA 5 none (.t 14) (.t 15)),
 e (.st 5 (.t 26) (.t 21)),
 o 27 (.idxA 5 none (.t 16) (.t 17)),
 e (.st 5 (.t 27) (.t 25))] [0, 1, 3, 7, 15, 31, 15, 15, 255, 511, 255, 255, 12, 12, 0, 0]))
 (.region [o 10 (.mv (.t 2)),
 o 11 (.bin .add 3 false true (.t 10) (.k (.im (.sc (.int .i64 1))))),
 o 12 (.mv (.t 3)),
 o 13 (.bin .sub 3 false true (.t 12) (.k (.im (.sc (.int .i64 1))))),
 o 2 (.mv (.t 11)),
 o 3 (.mv (.t 13))])))))) }
def b211 : List Nat := []

def f212 : IFunc :=
 { np := 1, res := [.tmp 2], body :=
 (.seq (.region [o 1 (.lbox (.t 0)),
 o 2 (.mv (.k (.im (.sc (.bool false)))))])
 (.seq (.region [o 3 (.ld 5 true (.b 1)),
 o 4 (.call 64 [(.t 3)]),
 o 5 (.bin .gtr 3 false true (.t 4) (.k (.im (.sc (.int .i64 4096))))),
 o 6 (.mv (.t 5)),
 ⟨(some 7), .ld 5 true (.b 1), (some (6, false))⟩,
 ⟨(some 8), .call 54 [(.t 7)], (some (6, false))⟩,
 ⟨(some 9), .bin .gtr 3 false true (.t 8) (.k (.im (.sc (.int .i64 200)))), (some (6, false))⟩,
 o 10 (.pick (.t 6) (.k (.im (.sc (.bool true)))) (.t 9)),
 o 2 (.mv (.t 10))])
 .ret)) }
def b212 : List Nat := [1]

def f213 : IFunc :=
 { np := 3, res := [.cell 6 5 true, .cell 7 1 false], body :=
 (.seq (.region [o 17 (.mkfn (.func 276) [] [(.t 5), (.t 4)] [true, true]),
 o 8 (.halloc [(.im (.sc .nilFunc))]),
 e (.st 1 (.t 8) (.t 17))])
 (.seq (.region [o 18 (.ld 1 false (.t 4)),
 o 19 (.len .sl (.t 18)),
 o 20 (.mkslice 1 [(.im (.sc (.int .i64 0)))] (.t 19) (.t 19)),
 o 9 (.halloc [(.im (.sl [] .nil))]),
 e (.st 1 (.t 9) (.t 20))])
 (.seq (.seq (.region [o 21 (.ld 1 false (.t 4)),
 o 22 (.len .sl (.t 21)),
 o 23 (.mv (.k (.im (.sc (.int .i64 0)))))])
 (.block 0 (.loop [4, 5, 6, 7, 8, 9, 21, 22, 23] [3] (.seq (.region [o 24 (.bin .lss 3 false false (.t 23) (.t 22))])
 (.seq (.cond (.t 24)
 .skip
 (.exit 0))
 (.seq (.block 1 (.seq (.region [o 25 (.mv (.t 23)),
 o 26 (.idxA 5 none (.t 21) (.t 23)),
 o 27 (.ld 5 true (.t 26)),
 o 11 (.lalloc [(.im (.sc (.int .i64 0))), (.im (.sc (.int .i64 0))), (.im (.sc (.string ⟨#[]⟩))), (.im (.sl [] .nil)), (.im (.sl [] .nil))]),
 o 10 (.mv (.t 25)),
 e (.st 5 (.b 11) (.t 27))])
 (.draw [o 28 (.ld 1 false (.t 9)),
 o 29 (.mv (.t 10)),
 o 30 (.ld 5 true (.b 11)),
 o 31 (.call 64 [(.t 30)]),
 o 32 (.idxA 1 none (.t 28) (.t 29)),
 e (.st 1 (.t 32) (.t 31))] [0, 1, 3, 3, 0, 0])))
 (.region [o 33 (.bin .add 3 false true (.t 23) (.k (.im (.sc (.int .i64 1))))),
 o 23 (.mv (.t 33))])))))))
 (.seq (.region [o 34 (.build [(.im (.sc (.int .i64 0)))] []),
 o 35 (.hbox (.t 34)),
 o 12 (.halloc [(.im (.sc (.pointer none)))]),
 e (.st 1 (.t 12) (.t 35))])
 (.seq (.region [o 36 (.mkfn (.func 277) [] [(.t 8), (.t 12), (.t 9)] [true, true, true]),
 o 37 (.build [(.im (.sc .nilFunc))] [(0, 1, (.t 36))]),
 o 38 (.ld 5 true (.b 3)),
 o 39 (.call 187 [(.t 37), (.t 38), (.k (.im (.sc (.int .i64 0))))])])
 (.seq (.draw [o 40 (.mkfn (.func 279) [] [(.t 8), (.t 4), (.t 5)] [true, true, true]),
 o 41 (.call 269 [(.t 40)]),
 o 42 (.ld 5 true (.b 3)),
 o 43 (.call 187 [(.t 41), (.t 42), (.k (.im (.sc (.int .i64 0))))]),
 e (.st 5 (.t 6) (.t 43))] [0, 0, 3, 0, 0])
 (.seq (.seq (.region [o 44 (.ld 5 true (.t 6)),
 o 45 (.call 54 [(.t 44)]),
 o 46 (.bin .gtr 3 false true (.t 45) (.k (.im (.sc (.int .i64 200)))))])
 (.cond (.t 46)
 (.seq (.region [o 47 (.build [(.im (.sc (.int .i64 0))), (.im (.sc (.int .i64 0))), (.im (.sc (.string ⟨#[]⟩))), (.im (.sl [] .nil)), (.im (.sl [] .nil))] []),
 e (.st 5 (.t 6) (.t 47)),
 e (.st 1 (.t 7) (.k (.im (.sc (.int .i64 7)))))])
 .ret)
 .skip))
 (.seq (.region [o 48 (.ld 5 true (.t 6)),
 e (.st 5 (.t 6) (.t 48)),
 e (.st 1 (.t 7) (.k (.im (.sc (.int .i64 0)))))])
 .ret)))))))), pre := some ([(.region [o 3 (.lbox (.t 0)),
 o 4 (.hbox (.t 1)),
 o 5 (.hbox (.t 2)),
 o 6 (.halloc [(.im (.sc (.int .i64 0))), (.im (.sc (.int .i64 0))), (.im (.sc (.string ⟨#[]⟩))), (.im (.sl [] .nil)), (.im (.sl [] .nil))]),
 o 7 (.halloc [(.im (.sc (.int .i64 0)))])]),
 (.seq (.region [o 13 (.ld 1 false (.t 5)),
 o 14 (.bin .lss 3 false true (.t 13) (.k (.im (.sc (.int .i64 0)))))])
 (.cond (.t 14)
 (.seq (.region [o 15 (.build [(.im (.sc (.int .i64 0))), (.im (.sc (.int .i64 0))), (.im (.sc (.string ⟨#[]⟩))), (.im (.sl [] .nil)), (.im (.sl [] .nil))] []),
 e (.st 5 (.t 6) (.t 15)),
 e (.st 1 (.t 7) (.k (.im (.sc (.int .i64 2)))))])
 .ret)
 .skip))], [o 16 (.mkfn (.func 275) [] [(.t 6), (.t 7)] [])], (.t 16)) }
def b213 : List Nat := [11, 3]

def f214 : IFunc :=
 { np := 2, res := [.cell 4 5 true, .tmp 5], body :=
 (.seq (.region [o 2 (.lbox (.t 0)),
 o 3 (.hbox (.t 1)),
 o 4 (.lalloc [(.im (.sc (.int .i64 0))), (.im (.sc (.int .i64 0))), (.im (.sc (.string ⟨#[]⟩))), (.im (.sl [] .nil)), (.im (.sl [] .nil))]),
 o 5 (.mv (.k (.im (.sc (.int .i64 0)))))])
 (.seq (.region [o 6 (.ld 5 true (.b 2)),
 o 7 (.mkfn (.func 280) [] [(.t 3)] [true]),
 o 8 (.call 132 [(.t 6), (.t 7)]),
 o 9 (.extract (.t 8) 0),
 o 10 (.extract (.t 8) 1),
 e (.st 5 (.b 4) (.t 9)),
 o 5 (.mv (.t 10))])
 .ret)) }
def b214 : List Nat := [2, 4]

def f215 : IFunc :=
 { np := 2, res := [.tmp 4, .tmp 5, .tmp 6], body :=
 (.seq (.region [o 3 (.hbox (.t 1)),
 o 4 (.mv (.k (.im (.sc (.int .i64 0))))),
 o 5 (.mv (.k (.im (.sc (.bool false))))),
 o 6 (.mv (.k (.im (.sc (.int .i64 0)))))])
 (.seq (.region [o 7 (.halloc [(.im (.sc (.int .i64 0)))]),
 o 8 (.halloc [(.im (.sc (.bool false)))]),
 e (.st 1 (.t 7) (.k (.im (.sc (.int .i64 0))))),
 e (.st 1 (.t 8) (.k (.im (.sc (.bool false)))))])
 (.seq (.region [o 10 (.mv (.t 0)),
 o 11 (.mkfn (.func 282) [] [(.t 3), (.t 7), (.t 8)] [true, false, false]),
 o 12 (.call 272 [(.t 10), (.t 11)]),
 o 9 (.mv (.t 12))])
 (.seq (.seq (.region [o 13 (.mv (.t 9)),
 o 14 (.bin .neq 39 false true (.t 13) (.k (.im (.sc (.int .i64 0)))))])
 (.cond (.t 14)
 (.seq (.region [o 15 (.mv (.t 9)),
 o 4 (.mv (.k (.im (.sc (.int .i64 0))))),
 o 5 (.mv (.k (.im (.sc (.bool false))))),
 o 6 (.mv (.t 15))])
 .ret)
 .skip))
 (.seq (.draw [o 16 (.ld 1 false (.t 7)),
 o 17 (.ld 1 false (.t 8)),
 o 4 (.mv (.t 16)),
 o 5 (.mv (.t 17)),
 o 6 (.mv (.k (.im (.sc (.int .i64 0)))))] [0, 1, 2, 0, 0])
 .ret))))) }
def b215 : List Nat := []

def f218 : IFunc :=
 { np := 1, res := [.tmp 2], body :=
 (.seq (.region [o 1 (.lbox (.t 0)),
 o 2 (.mv (.k (.im (.sc (.int .i64 0)))))])
 (.seq (.seq (.region [o 3 (.off 1 (.b 1)),
 o 4 (.ld 5 true (.t 3)),
 o 5 (.off 6 (.b 1)),
 o 6 (.ld 5 true (.t 5)),
 o 7 (.call 87 [(.t 4), (.t 6)])])
 (.cond (.t 7)
 (.seq (.region [o 2 (.mv (.k (.im (.sc (.int .i64 1)))))])
 .ret)
 .skip))
 (.seq (.region [o 2 (.mv (.k (.im (.sc (.int .i64 0)))))])
 .ret))) }
def b218 : List Nat := [1]

def f219 : IFunc :=
 { np := 2, res := [.tmp 4], body :=
 (.seq (.region [o 3 (.lbox (.t 1)),
 o 4 (.mv (.k (.im (.sc (.int .i64 0)))))])
 (.seq (.region [o 5 (.mv (.k (.im (.fn (.func 284) [] []))))])
 (.seq (.draw [o 8 (.off 1 (.b 3)),
 o 9 (.ld 5 true (.t 8)),
 o 10 (.off 6 (.b 3)),
 o 11 (.ld 5 true (.t 10)),
 o 6 (.lalloc [(.im (.sc (.int .i64 0))), (.im (.sc (.int .i64 0))), (.im (.sc (.string ⟨#[]⟩))), (.im (.sl [] .nil)), (.im (.sl [] .nil))]),
 o 7 (.lalloc [(.im (.sc (.int .i64 0))), (.im (.sc (.int .i64 0))), (.im (.sc (.string ⟨#[]⟩))), (.im (.sl [] .nil)), (.im (.sl [] .nil))]),
 e (.st 5 (.b 6) (.t 9)),
 e (.st 5 (.b 7) (.t 11))] [0, 0, 3, 3, 15, 31, 12, 0])
 (.seq (.block 0 (.seq (.region [o 13 (.mv (.t 5)),
 o 14 (.ld 5 true (.b 6)),
 o 15 (.calld (.t 13) [(.t 14)]),
 o 16 (.un .not (.t 15)),
 o 17 (.mv (.t 16)),
 ⟨(some 18), .mv (.t 5), (some (17, false))⟩,
 ⟨(some 19), .ld 5 true (.b 7), (some (17, false))⟩,
 ⟨(some 20), .calld (.t 18) [(.t 19)], (some (17, false))⟩,
 ⟨(some 21), .un .not (.t 20), (some (17, false))⟩,
 o 22 (.pick (.t 17) (.k (.im (.sc (.bool true)))) (.t 21)),
 o 12 (.mv (.t 22))])
 (.cond (.t 12)
 (.seq (.region [o 4 (.mv (.k (.im (.sc (.int .i64 0)))))])
 .ret)
 (.seq (.region [o 24 (.off 0 (.b 6)),
 o 25 (.ld 1 false (.t 24)),
 o 26 (.bin .eql 3 false true (.t 25) (.k (.im (.sc (.int .i64 2))))),
 o 27 (.mv (.t 26)),
 ⟨(some 28), .off 0 (.b 7), (some (27, true))⟩,
 ⟨(some 29), .ld 1 false (.t 28), (some (27, true))⟩,
 ⟨(some 30), .bin .eql 3 false true (.t 29) (.k (.im (.sc (.int .i64 2)))), (some (27, true))⟩,
 o 31 (.pick (.t 27) (.t 30) (.k (.im (.sc (.bool false))))),
 o 23 (.mv (.t 31))])
 (.cond (.t 23)
 (.seq (.draw [o 32 (.mv (.t 0)),
 o 33 (.mv (.t 0)),
 o 34 (.nilc (.t 33)),
 o 35 (.off 1 (.t 34)),
 o 36 (.off 2 (.t 35)),
 o 37 (.ld 1 false (.t 36)),
 o 38 (.off 3 (.b 6)),
 o 39 (.ld 1 false (.t 38)),
 o 40 (.idxA 2 none (.t 39) (.k (.im (.sc (.int .i64 0))))),
 o 41 (.ld 2 true (.t 40)),
 o 42 (.off 3 (.b 7)),
 o 43 (.ld 1 false (.t 42)),
 o 44 (.idxA 2 none (.t 43) (.k (.im (.sc (.int .i64 0))))),
 o 45 (.ld 2 true (.t 44)),
 o 46 (.build [(.im (.sc (.int .i64 0))), (.im (.sl [] .nil)), (.im (.sc (.int .i64 0))), (.im (.sl [] .nil))] [(0, 2, (.t 41)), (2, 2, (.t 45))]),
 o 47 (.mkS 4 1 [(.im (.sc (.int .i64 0))), (.im (.sl [] .nil)), (.im (.sc (.int .i64 0))), (.im (.sl [] .nil))] [(0, (.t 46))]),
 o 48 (.append 4 false (.t 37) (.t 47)),
 o 49 (.nilc (.t 32)),
 o 50 (.off 1 (.t 49)),
 o 51 (.off 2 (.t 50)),
 e (.st 1 (.t 51) (.t 48))] [0, 1, 1, 1, 1, 1, 63, 63, 63, 63, 1023, 1023, 1023, 1023, 63, 63, 1, 0, 0, 0, 0])
 (.seq (.seq (.region [o 52 (.off 11 (.b 3)),
 o 53 (.ld 1 false (.t 52)),
 o 54 (.un .not (.t 53))])
 (.cond (.t 54)
 (.draw [o 55 (.mv (.t 0)),
 o 56 (.mv (.t 0)),
 o 57 (.nilc (.t 56)),
 o 58 (.off 1 (.t 57)),
 o 59 (.off 2 (.t 58)),
 o 60 (.ld 1 false (.t 59)),
 o 61 (.off 3 (.b 7)),
 o 62 (.ld 1 false (.t 61)),
 o 63 (.idxA 2 none (.t 62) (.k (.im (.sc (.int .i64 0))))),
 o 64 (.ld 2 true (.t 63)),
 o 65 (.off 3 (.b 6)),
 o 66 (.ld 1 false (.t 65)),
 o 67 (.idxA 2 none (.t 66) (.k (.im (.sc (.int .i64 0))))),
 o 68 (.ld 2 true (.t 67)),
 o 69 (.build [(.im (.sc (.int .i64 0))), (.im (.sl [] .nil)), (.im (.sc (.int .i64 0))), (.im (.sl [] .nil))] [(0, 2, (.t 64)), (2, 2, (.t 68))]),
 o 70 (.mkS 4 1 [(.im (.sc (.int .i64 0))), (.im (.sl [] .nil)), (.im (.sc (.int .i64 0))), (.im (.sl [] .nil))] [(0, (.t 69))]),
 o 71 (.append 4 false (.t 60) (.t 70)),
 o 72 (.nilc (.t 55)),
 o 73 (.off 1 (.t 72)),
 o 74 (.off 2 (.t 73)),
 e (.st 1 (.t 74) (.t 71))] [0, 1, 1, 1, 1, 1, 63, 63, 63, 63, 1023, 1023, 1023, 1023, 63, 63, 1, 0, 0, 0, 0])
 .skip))
 (.seq (.region [o 4 (.mv (.k (.im (.sc (.int .i64 1)))))])
 .ret)))
 (.seq (.region [o 76 (.off 0 (.b 6)),
 o 77 (.ld 1 false (.t 76)),
 o 78 (.bin .eql 3 false true (.t 77) (.k (.im (.sc (.int .i64 1))))),
 o 79 (.mv (.t 78)),
 ⟨(some 80), .off 0 (.b 7), (some (79, true))⟩,
 ⟨(some 81), .ld 1 false (.t 80), (some (79, true))⟩,
 ⟨(some 82), .bin .eql 3 false true (.t 81) (.k (.im (.sc (.int .i64 2)))), (some (79, true))⟩,
 o 83 (.pick (.t 79) (.t 82) (.k (.im (.sc (.bool false))))),
 o 84 (.mv (.t 83)),
 ⟨(some 85), .off 11 (.b 3), (some (84, true))⟩,
 ⟨(some 86), .ld 1 false (.t 85), (some (84, true))⟩,
 o 87 (.pick (.t 84) (.t 86) (.k (.im (.sc (.bool false))))),
 o 75 (.mv (.t 87))])
 (.cond (.t 75)
 (.seq (.region [o 4 (.mv (.k (.im (.sc (.int .i64 1)))))])
 .ret)
 .skip)))))))
 (.seq (.region [o 88 (.call 173 [(.k (.im (.sc (.int .i64 10))))])])
 (.seq (.region [o 4 (.mv (.k (.im (.sc (.int .i64 0)))))])
 .ret)))))) }
def b219 : List Nat := [3, 6, 7]

def f220 : IFunc :=
 { np := 2, res := [.tmp 4], body :=
 (.seq (.region [o 3 (.lbox (.t 1)),
 o 4 (.mv (.k (.im (.sc (.int .i64 0)))))])
 (.seq (.draw [o 7 (.off 1 (.b 3)),
 o 8 (.ld 5 true (.t 7)),
 o 9 (.off 6 (.b 3)),
 o 10 (.ld 5 true (.t 9)),
 o 5 (.lalloc [(.im (.sc (.int .i64 0))), (.im (.sc (.int .i64 0))), (.im (.sc (.string ⟨#[]⟩))), (.im (.sl [] .nil)), (.im (.sl [] .nil))]),
 o 6 (.lalloc [(.im (.sc (.int .i64 0))), (.im (.sc (.int .i64 0))), (.im (.sc (.string ⟨#[]⟩))), (.im (.sl [] .nil)), (.im (.sl [] .nil))]),
 e (.st 5 (.b 5) (.t 8)),
 e (.st 5 (.b 6) (.t 10))] [0, 0, 3, 3, 15, 31, 12, 0])
 (.seq (.seq (.region [o 11 (.off 0 (.b 5)),
 o 12 (.ld 1 false (.t 11)),
 o 13 (.off 0 (.b 6)),
 o 14 (.ld 1 false (.t 13)),
 o 15 (.bin .neq 3 false false (.t 12) (.t 14)),
 o 16 (.mv (.t 15)),
 ⟨(some 17), .off 0 (.b 5), (some (16, false))⟩,
 ⟨(some 18), .ld 1 false (.t 17), (some (16, false))⟩,
 ⟨(some 19), .bin .neq 3 false true (.t 18) (.k (.im (.sc (.int .i64 6)))), (some (16, false))⟩,
 ⟨(some 20), .mv (.t 19), (some (16, false))⟩,
 ⟨(some 21), .off 0 (.b 5), (some (20, true))⟩,
 ⟨(some 22), .ld 1 false (.t 21), (some (20, true))⟩,
 ⟨(some 23), .bin .neq 3 false true (.t 22) (.k (.im (.sc (.int .i64 7)))), (some (20, true))⟩,
 ⟨(some 24), .pick (.t 20) (.t 23) (.k (.im (.sc (.bool false)))), (some (16, false))⟩,
 o 25 (.pick (.t 16) (.k (.im (.sc (.bool true)))) (.t 24))])
 (.cond (.t 25)
 (.seq (.region [o 4 (.mv (.k (.im (.sc (.int .i64 0)))))])
 .ret)
 .skip))
 (.seq (.draw [o 26 (.mv (.t 0)),
 o 27 (.off 0 (.b 3)),
 o 28 (.ld 1 false (.t 27)),
 o 29 (.off 4 (.b 5)),
 o 30 (.ld 1 false (.t 29)),
 o 31 (.idxA 5 none (.t 30) (.k (.im (.sc (.int .i64 0))))),
 o 32 (.ld 5 true (.t 31)),
 o 33 (.off 4 (.b 6)),
 o 34 (.ld 1 false (.t 33)),
 o 35 (.idxA 5 none (.t 34) (.k (.im (.sc (.int .i64 0))))),
 o 36 (.ld 5 true (.t 35)),
 o 37 (.off 11 (.b 3)),
 o 38 (.ld 1 false (.t 37)),
 o 39 (.mv (.t 38)),
 ⟨(some 40), .off 0 (.b 5), (some (39, true))⟩,
 ⟨(some 41), .ld 1 false (.t 40), (some (39, true))⟩,
 ⟨(some 42), .bin .eql 3 false true (.t 41) (.k (.im (.sc (.int .i64 7)))), (some (39, true))⟩,
 o 43 (.pick (.t 39) (.t 42) (.k (.im (.sc (.bool false))))),
 o 44 (.build [(.im (.sl [] .nil)), (.im (.sc (.int .i64 0))), (.im (.sc (.int .i64 0))), (.im (.sc (.string ⟨#[]⟩))), (.im (.sl [] .nil)), (.im (.sl [] .nil)), (.im (.sc (.int .i64 0))), (.im (.sc (.int .i64 0))), (.im (.sc (.string ⟨#[]⟩))), (.im (.sl [] .nil)), (.im (.sl [] .nil)), (.im (.sc (.bool false)))] [(0, 1, (.t 28)), (1, 5, (.t 32)), (6, 5, (.t 36)), (11, 1, (.t 43))]),
 o 45 (.off 0 (.b 3)),
 o 46 (.ld 1 false (.t 45)),
 o 47 (.off 4 (.b 5)),
 o 48 (.ld 1 false (.t 47)),
 o 49 (.idxA 5 none (.t 48) (.k (.im (.sc (.int .i64 0))))),
 o 50 (.ld 5 true (.t 49)),
 o 51 (.call 286 [(.t 46), (.t 50)]),
 o 52 (.off 4 (.b 5)),
 o 53 (.ld 1 false (.t 52)),
 o 54 (.idxA 5 none (.t 53) (.k (.im (.sc (.int .i64 1))))),
 o 55 (.ld 5 true (.t 54)),
 o 56 (.off 4 (.b 6)),
 o 57 (.ld 1 false (.t 56)),
 o 58 (.idxA 5 none (.t 57) (.k (.im (.sc (.int .i64 1))))),
 o 59 (.ld 5 true (.t 58)),
 o 60 (.off 11 (.b 3)),
 o 61 (.ld 1 false (.t 60)),
 o 62 (.build [(.im (.sl [] .nil)), (.im (.sc (.int .i64 0))), (.im (.sc (.int .i64 0))), (.im (.sc (.string ⟨#[]⟩))), (.im (.sl [] .nil)), (.im (.sl [] .nil)), (.im (.sc (.int .i64 0))), (.im (.sc (.int .i64 0))), (.im (.sc (.string ⟨#[]⟩))), (.im (.sl [] .nil)), (.im (.sl [] .nil)), (.im (.sc (.bool false)))] [(0, 1, (.t 51)), (1, 5, (.t 55)), (6, 5, (.t 59)), (11, 1, (.t 61))]),
 o 63 (.mkS 12 2 [(.im (.sl [] .nil)), (.im (.sc (.int .i64 0))), (.im (.sc (.int .i64 0))), (.im (.sc (.string ⟨#[]⟩))), (.im (.sl [] .nil)), (.im (.sl [] .nil)), (.im (.sc (.int .i64 0))), (.im (.sc (.int .i64 0))), (.im (.sc (.string ⟨#[]⟩))), (.im (.sl [] .nil)), (.im (.sl [] .nil)), (.im (.sc (.bool false)))] [(0, (.t 44)), (1, (.t 62))]),
 o 64 (.call 285 [(.t 26), (.t 63)])] [0, 1, 1, 7, 7, 7, 7, 127, 127, 127, 127, 2047, 2047, 2047, 2047, 2047, 2047, 2047, 1, 524287, 524287, 2097151, 2097151, 2097151, 2097151, 509951, 67108863, 67108863, 67108863, 67108863, 1073741823, 1073741823, 1073741823, 1073741823, 17179869183, 17179869183, 509951, 1, 0])
 (.seq (.region [o 4 (.mv (.k (.im (.sc (.int .i64 1)))))])
 .ret))))) }
def b220 : List Nat := [3, 5, 6]

def f221 : IFunc :=
 { np := 2, res := [.tmp 4], body :=
 (.seq (.region [o 3 (.lbox (.t 1)),
 o 4 (.mv (.k (.im (.sc (.int .i64 0)))))])
 (.seq (.seq (.region [o 5 (.off 1 (.b 3)),
 o 6 (.off 0 (.t 5)),
 o 7 (.ld 1 false (.t 6)),
 o 8 (.bin .neq 3 false true (.t 7) (.k (.im (.sc (.int .i64 5))))),
 o 9 (.mv (.t 8)),
 ⟨(some 10), .off 6 (.b 3), (some (9, true))⟩,
 ⟨(some 11), .off 0 (.t 10), (some (9, true))⟩,
 ⟨(some 12), .ld 1 false (.t 11), (some (9, true))⟩,
 ⟨(some 13), .bin .neq 3 false true (.t 12) (.k (.im (.sc (.int .i64 5)))), (some (9, true))⟩,
 o 14 (.pick (.t 9) (.t 13) (.k (.im (.sc (.bool false))))),
 o 15 (.mv (.t 14)),
 ⟨(some 16), .mv (.t 0), (some (15, true))⟩,
 ⟨(some 17), .off 1 (.b 3), (some (15, true))⟩,
 ⟨(some 18), .ld 5 true (.t 17), (some (15, true))⟩,
 ⟨(some 19), .call 287 [(.t 16), (.t 18)], (some (15, true))⟩,
 ⟨(some 20), .un .not (.t 19), (some (15, true))⟩,
 o 21 (.pick (.t 15) (.t 20) (.k (.im (.sc (.bool false))))),
 o 22 (.mv (.t 21)),
 ⟨(some 23), .mv (.t 0), (some (22, true))⟩,
 ⟨(some 24), .off 6 (.b 3), (some (22, true))⟩,
 ⟨(some 25), .ld 5 true (.t 24), (some (22, true))⟩,
 ⟨(some 26), .call 287 [(.t 23), (.t 25)], (some (22, true))⟩,
 ⟨(some 27), .un .not (.t 26), (some (22, true))⟩,
 o 28 (.pick (.t 22) (.t 27) (.k (.im (.sc (.bool false)))))])
 (.cond (.t 28)
 (.seq (.region [o 4 (.mv (.k (.im (.sc (.int .i64 0)))))])
 .ret)
 .skip))
 (.seq (.draw [o 29 (.mv (.t 0)),
 o 30 (.off 0 (.b 3)),
 o 31 (.ld 1 false (.t 30)),
 o 32 (.mv (.t 0)),
 o 33 (.ld 12 true (.b 3)),
 o 34 (.call 288 [(.t 32), (.t 33)]),
 o 35 (.call 286 [(.t 31), (.t 34)]),
 o 36 (.off 1 (.b 3)),
 o 37 (.ld 5 true (.t 36)),
 o 38 (.call 289 [(.t 37)]),
 o 39 (.off 6 (.b 3)),
 o 40 (.ld 5 true (.t 39)),
 o 41 (.call 289 [(.t 40)]),
 o 42 (.build [(.im (.sl [] .nil)), (.im (.sc (.int .i64 0))), (.im (.sc (.int .i64 0))), (.im (.sc (.string ⟨#[]⟩))), (.im (.sl [] .nil)), (.im (.sl [] .nil)), (.im (.sc (.int .i64 0))), (.im (.sc (.int .i64 0))), (.im (.sc (.string ⟨#[]⟩))), (.im (.sl [] .nil)), (.im (.sl [] .nil)), (.im (.sc (.bool false)))] [(0, 1, (.t 35)), (1, 5, (.t 38)), (6, 5, (.t 41))]),
 o 43 (.mkS 12 1 [(.im (.sl [] .nil)), (.im (.sc (.int .i64 0))), (.im (.sc (.int .i64 0))), (.im (.sc (.string ⟨#[]⟩))), (.im (.sl [] .nil)), (.im (.sl [] .nil)), (.im (.sc (.int .i64 0))), (.im (.sc (.int .i64 0))), (.im (.sc (.string ⟨#[]⟩))), (.im (.sl [] .nil)), (.im (.sl [] .nil)), (.im (.sc (.bool false)))] [(0, (.t 42))]),
 o 44 (.call 285 [(.t 29), (.t 43)])] [0, 1, 1, 7, 15, 7, 1, 127, 127, 1, 1023, 1023, 1, 1, 1, 0])
 (.seq (.region [o 4 (.mv (.k (.im (.sc (.int .i64 1)))))])
 .ret)))) }
def b221 : List Nat := [3]

def f222 : IFunc :=
 { np := 2, res := [.tmp 4], body :=
 (.seq (.region [o 3 (.hbox (.t 1)),
 o 4 (.mv (.k (.im (.sc (.int .i64 0)))))])
 (.seq (.seq (.region [o 7 (.off 1 (.t 3)),
 o 8 (.off 0 (.t 7)),
 o 9 (.ld 1 false (.t 8)),
 o 10 (.bin .neq 3 false true (.t 9) (.k (.im (.sc (.int .i64 8))))),
 o 11 (.mv (.t 10)),
 ⟨(some 12), .off 6 (.t 3), (some (11, true))⟩,
 ⟨(some 13), .off 0 (.t 12), (some (11, true))⟩,
 ⟨(some 14), .ld 1 false (.t 13), (some (11, true))⟩,
 ⟨(some 15), .bin .neq 3 false true (.t 14) (.k (.im (.sc (.int .i64 8)))), (some (11, true))⟩,
 o 16 (.pick (.t 11) (.t 15) (.k (.im (.sc (.bool false)))))])
 (.cond (.t 16)
 (.seq (.region [o 4 (.mv (.k (.im (.sc (.int .i64 0)))))])
 .ret)
 .skip))
 (.seq (.region [o 5 (.halloc [(.im (.sc .nilFunc))]),
 e (.st 1 (.t 5) (.k (.im (.fn (.func 290) [] []))))])
 (.seq (.region [o 17 (.mkfn (.func 291) [] [(.t 3), (.t 5)] [true, true]),
 o 6 (.mv (.t 17))])
 (.seq (.region [o 18 (.mv (.t 0)),
 o 19 (.mv (.t 6)),
 o 20 (.calld (.t 19) [(.k (.im (.sc (.int .i64 0))))]),
 o 21 (.mv (.t 6)),
 o 22 (.calld (.t 21) [(.k (.im (.sc (.int .i64 1))))]),
 o 23 (.mkS 12 2 [(.im (.sl [] .nil)), (.im (.sc (.int .i64 0))), (.im (.sc (.int .i64 0))), (.im (.sc (.string ⟨#[]⟩))), (.im (.sl [] .nil)), (.im (.sl [] .nil)), (.im (.sc (.int .i64 0))), (.im (.sc (.int .i64 0))), (.im (.sc (.string ⟨#[]⟩))), (.im (.sl [] .nil)), (.im (.sl [] .nil)), (.im (.sc (.bool false)))] [(0, (.t 20)), (1, (.t 22))]),
 o 24 (.call 285 [(.t 18), (.t 23)])])
 (.seq (.region [o 4 (.mv (.k (.im (.sc (.int .i64 1)))))])
 .ret)))))) }
def b222 : List Nat := []

def f223 : IFunc :=
 { np := 2, res := [.tmp 4], body :=
 (.seq (.region [o 3 (.lbox (.t 1)),
 o 4 (.mv (.k (.im (.sc (.int .i64 0)))))])
 (.seq (.seq (.region [o 11 (.off 1 (.b 3)),
 o 12 (.ld 5 true (.t 11)),
 o 13 (.call 292 [(.t 12)]),
 o 14 (.fld 0 1 false (.t 13)),
 o 15 (.bin .neq 3 false true (.t 14) (.k (.im (.sc (.int .i64 12))))),
 o 16 (.mv (.t 15)),
 ⟨(some 17), .off 6 (.b 3), (some (16, true))⟩,
 ⟨(some 18), .ld 5 true (.t 17), (some (16, true))⟩,
 ⟨(some 19), .call 292 [(.t 18)], (some (16, true))⟩,
 ⟨(some 20), .fld 0 1 false (.t 19), (some (16, true))⟩,
 ⟨(some 21), .bin .neq 3 false true (.t 20) (.k (.im (.sc (.int .i64 12)))), (some (16, true))⟩,
 o 22 (.pick (.t 16) (.t 21) (.k (.im (.sc (.bool false)))))])
 (.cond (.t 22)
 (.seq (.region [o 4 (.mv (.k (.im (.sc (.int .i64 0)))))])
 .ret)
 .skip))
 (.seq (.region [o 24 (.off 1 (.b 3)),
 o 25 (.ld 5 true (.t 24)),
 o 26 (.call 293 [(.t 25)]),
 o 23 (.mv (.t 26)),
 o 27 (.extract (.t 23) 0),
 o 28 (.extract (.t 23) 1),
 o 29 (.extract (.t 23) 2),
 o 5 (.mv (.t 27)),
 o 6 (.mv (.t 28)),
 o 7 (.mv (.t 29))])
 (.seq (.region [o 31 (.off 6 (.b 3)),
 o 32 (.ld 5 true (.t 31)),
 o 33 (.call 293 [(.t 32)]),
 o 30 (.mv (.t 33)),
 o 34 (.extract (.t 30) 0),
 o 35 (.extract (.t 30) 1),
 o 36 (.extract (.t 30) 2),
 o 8 (.mv (.t 34)),
 o 9 (.mv (.t 35)),
 o 10 (.mv (.t 36))])
 (.seq (.seq (.region [o 37 (.mv (.t 7)),
 o 38 (.mv (.t 37)),
 ⟨(some 39), .mv (.t 10), (some (38, true))⟩,
 o 40 (.pick (.t 38) (.t 39) (.k (.im (.sc (.bool false))))),
 o 41 (.mv (.t 40)),
 ⟨(some 42), .mv (.t 5), (some (41, true))⟩,
 ⟨(some 43), .mv (.t 8), (some (41, true))⟩,
 ⟨(some 44), .bin .eql 3 false false (.t 42) (.t 43), (some (41, true))⟩,
 o 45 (.pick (.t 41) (.t 44) (.k (.im (.sc (.bool false))))),
 o 46 (.mv (.t 45)),
 ⟨(some 47), .mv (.t 6), (some (46, true))⟩,
 ⟨(some 48), .len .sl (.t 47), (some (46, true))⟩,
 ⟨(some 49), .mv (.t 9), (some (46, true))⟩,
 ⟨(some 50), .len .sl (.t 49), (some (46, true))⟩,
 ⟨(some 51), .bin .eql 3 false false (.t 48) (.t 50), (some (46, true))⟩,
 o 52 (.pick (.t 46) (.t 51) (.k (.im (.sc (.bool false)))))])
 (.cond (.t 52)
 (.seq (.region [o 53 (.mv (.t 0)),
 o 54 (.mv (.t 5)),
 o 55 (.mv (.t 6)),
 o 56 (.mv (.t 9)),
 o 57 (.call 294 [(.t 53), (.t 54), (.t 55), (.t 56)]),
 o 4 (.mv (.t 57))])
 .ret)
 .skip))
 (.seq (.seq (.region [o 58 (.mv (.t 7)),
 o 59 (.mv (.t 58)),
 ⟨(some 60), .mv (.t 0), (some (59, true))⟩,
 ⟨(some 61), .off 0 (.b 3), (some (59, true))⟩,
 ⟨(some 62), .ld 1 false (.t 61), (some (59, true))⟩,
 ⟨(some 63), .off 1 (.b 3), (some (59, true))⟩,
 ⟨(some 64), .ld 5 true (.t 63), (some (59, true))⟩,
 ⟨(some 65), .off 6 (.b 3), (some (59, true))⟩,
 ⟨(some 66), .ld 5 true (.t 65), (some (59, true))⟩,
 ⟨(some 67), .call 295 [(.t 60), (.t 62), (.t 64), (.t 66)], (some (59, true))⟩,
 o 68 (.pick (.t 59) (.t 67) (.k (.im (.sc (.bool false)))))])
 (.cond (.t 68)
 (.seq (.region [o 4 (.mv (.k (.im (.sc (.int .i64 1)))))])
 .ret)
 .skip))
 (.seq (.seq (.region [o 69 (.mv (.t 10)),
 o 70 (.mv (.t 69)),
 ⟨(some 71), .mv (.t 0), (some (70, true))⟩,
 ⟨(some 72), .off 0 (.b 3), (some (70, true))⟩,
 ⟨(some 73), .ld 1 false (.t 72), (some (70, true))⟩,
 ⟨(some 74), .off 6 (.b 3), (some (70, true))⟩,
 ⟨(some 75), .ld 5 true (.t 74), (some (70, true))⟩,
 ⟨(some 76), .off 1 (.b 3), (some (70, true))⟩,
 ⟨(some 77), .ld 5 true (.t 76), (some (70, true))⟩,
 ⟨(some 78), .call 295 [(.t 71), (.t 73), (.t 75), (.t 77)], (some (70, true))⟩,
 o 79 (.pick (.t 70) (.t 78) (.k (.im (.sc (.bool false)))))])
 (.cond (.t 79)
 (.seq (.region [o 4 (.mv (.k (.im (.sc (.int .i64 1)))))])
 .ret)
 .skip))
 (.seq (.region [o 4 (.mv (.k (.im (.sc (.int .i64 2)))))])
 .ret)))))))) }
def b223 : List Nat := [3]

def f224 : IFunc :=
 { np := 2, res := [.tmp 4], body :=
 (.seq (.region [o 3 (.lbox (.t 1)),
 o 4 (.mv (.k (.im (.sc (.int .i64 0)))))])
 (.seq (.seq (.region [o 10 (.off 1 (.b 3)),
 o 11 (.ld 5 true (.t 10)),
 o 12 (.off 6 (.b 3)),
 o 13 (.ld 5 true (.t 12)),
 o 14 (.mkS 5 2 [(.im (.sc (.int .i64 0))), (.im (.sc (.int .i64 0))), (.im (.sc (.string ⟨#[]⟩))), (.im (.sl [] .nil)), (.im (.sl [] .nil))] [(0, (.t 11)), (1, (.t 13))]),
 o 15 (.len .sl (.t 14)),
 o 16 (.mv (.k (.im (.sc (.int .i64 0)))))])
 (.block 0 (.loop [0, 4, 14, 15, 16] [] (.seq (.region [o 17 (.bin .lss 3 false false (.t 16) (.t 15))])
 (.seq (.cond (.t 17)
 .skip
 (.exit 0))
 (.seq (.block 1 (.seq (.region [o 18 (.idxA 5 none (.t 14) (.t 16)),
 o 19 (.ld 5 true (.t 18)),
 o 6 (.lalloc [(.im (.sc (.int .i64 0))), (.im (.sc (.int .i64 0))), (.im (.sc (.string ⟨#[]⟩))), (.im (.sl [] .nil)), (.im (.sl [] .nil))]),
 e (.st 5 (.b 6) (.t 19))])
 (.seq (.draw [o 21 (.mv (.t 0)),
 o 22 (.nilc (.t 21)),
 o 23 (.off 0 (.t 22)),
 o 24 (.ld 1 false (.t 23)),
 o 25 (.ld 5 true (.b 6)),
 o 26 (.call 215 [(.t 24), (.t 25)]),
 o 20 (.mv (.t 26)),
 o 27 (.extract (.t 20) 0),
 o 28 (.extract (.t 20) 1),
 o 29 (.extract (.t 20) 2),
 o 7 (.mv (.t 27)),
 o 8 (.mv (.t 28)),
 o 9 (.mv (.t 29))] [0, 0, 0, 0, 15, 0, 0, 0, 128, 384, 768, 512, 0])
 (.seq (.region [o 30 (.mv (.t 9)),
 o 31 (.call 173 [(.t 30)])])
 (.seq (.region [o 32 (.mv (.t 8))])
 (.cond (.t 32)
 (.seq (.region [o 4 (.mv (.k (.im (.sc (.int .i64 2)))))])
 .ret)
 .skip))))))
 (.region [o 33 (.bin .add 3 false true (.t 16) (.k (.im (.sc (.int .i64 1))))),
 o 16 (.mv (.t 33))])))))))
 (.seq (.region [o 4 (.mv (.k (.im (.sc (.int .i64 0)))))])
 .ret))) }
def b224 : List Nat := [3, 6]

def f225 : IFunc :=
 { np := 2, res := [.tmp 4], body :=
 (.seq (.region [o 3 (.lbox (.t 1)),
 o 4 (.mv (.k (.im (.sc (.int .i64 0)))))])
 (.seq (.region [o 15 (.off 1 (.b 3)),
 o 16 (.ld 5 true (.t 15)),
 o 17 (.call 163 [(.t 16)]),
 o 14 (.mv (.t 17)),
 o 18 (.extract (.t 14) 0),
 o 19 (.extract (.t 14) 1),
 o 5 (.lalloc [(.im (.sc (.int .i64 0))), (.im (.sc (.int .i64 0))), (.im (.sc (.string ⟨#[]⟩))), (.im (.sl [] .nil)), (.im (.sl [] .nil))]),
 e (.st 5 (.b 5) (.t 18)),
 o 6 (.mv (.t 19))])
 (.seq (.region [o 21 (.off 6 (.b 3)),
 o 22 (.ld 5 true (.t 21)),
 o 23 (.call 163 [(.t 22)]),
 o 20 (.mv (.t 23)),
 o 24 (.extract (.t 20) 0),
 o 25 (.extract (.t 20) 1),
 o 7 (.lalloc [(.im (.sc (.int .i64 0))), (.im (.sc (.int .i64 0))), (.im (.sc (.string ⟨#[]⟩))), (.im (.sl [] .nil)), (.im (.sl [] .nil))]),
 e (.st 5 (.b 7) (.t 24)),
 o 8 (.mv (.t 25))])
 (.seq (.seq (.region [o 26 (.off 0 (.b 5)),
 o 27 (.ld 1 false (.t 26)),
 o 28 (.off 0 (.b 7)),
 o 29 (.ld 1 false (.t 28)),
 o 30 (.bin .neq 3 false false (.t 27) (.t 29)),
 o 31 (.mv (.t 30)),
 ⟨(some 32), .mv (.t 6), (some (31, false))⟩,
 ⟨(some 33), .len .sl (.t 32), (some (31, false))⟩,
 ⟨(some 34), .mv (.t 8), (some (31, false))⟩,
 ⟨(some 35), .len .sl (.t 34), (some (31, false))⟩,
 ⟨(some 36), .bin .neq 3 false false (.t 33) (.t 35), (some (31, false))⟩,
 o 37 (.pick (.t 31) (.k (.im (.sc (.bool true)))) (.t 36))])
 (.cond (.t 37)
 (.seq (.region [o 4 (.mv (.k (.im (.sc (.int .i64 0)))))])
 .ret)
 .skip))
 (.seq (.block 0 (.seq (.region [o 39 (.off 0 (.b 5)),
 o 40 (.ld 1 false (.t 39)),
 o 41 (.bin .eql 3 false true (.t 40) (.k (.im (.sc (.int .i64 0))))),
 o 42 (.mv (.t 41)),
 ⟨(some 43), .off 1 (.b 5), (some (42, true))⟩,
 ⟨(some 44), .ld 1 false (.t 43), (some (42, true))⟩,
 ⟨(some 45), .off 1 (.b 7), (some (42, true))⟩,
 ⟨(some 46), .ld 1 false (.t 45), (some (42, true))⟩,
 ⟨(some 47), .bin .eql 3 false false (.t 44) (.t 46), (some (42, true))⟩,
 o 48 (.pick (.t 42) (.t 47) (.k (.im (.sc (.bool false))))),
 o 38 (.mv (.t 48))])
 (.cond (.t 38)
 .skip
 (.seq (.region [o 50 (.off 0 (.b 5)),
 o 51 (.ld 1 false (.t 50)),
 o 52 (.bin .eql 3 false true (.t 51) (.k (.im (.sc (.int .i64 3))))),
 o 53 (.mv (.t 52)),
 ⟨(some 54), .off 2 (.b 5), (some (53, true))⟩,
 ⟨(some 55), .ld 1 false (.t 54), (some (53, true))⟩,
 ⟨(some 56), .off 2 (.b 7), (some (53, true))⟩,
 ⟨(some 57), .ld 1 false (.t 56), (some (53, true))⟩,
 ⟨(some 58), .bin .eql 9 false false (.t 55) (.t 57), (some (53, true))⟩,
 o 59 (.pick (.t 53) (.t 58) (.k (.im (.sc (.bool false))))),
 o 60 (.mv (.t 59)),
 ⟨(some 61), .off 3 (.b 5), (some (60, true))⟩,
 ⟨(some 62), .ld 1 false (.t 61), (some (60, true))⟩,
 ⟨(some 63), .len .sl (.t 62), (some (60, true))⟩,
 ⟨(some 64), .off 3 (.b 7), (some (60, true))⟩,
 ⟨(some 65), .ld 1 false (.t 64), (some (60, true))⟩,
 ⟨(some 66), .len .sl (.t 65), (some (60, true))⟩,
 ⟨(some 67), .bin .eql 3 false false (.t 63) (.t 66), (some (60, true))⟩,
 o 68 (.pick (.t 60) (.t 67) (.k (.im (.sc (.bool false))))),
 o 49 (.mv (.t 68))])
 (.cond (.t 49)
 (.seq (.region [o 69 (.off 3 (.b 5)),
 o 70 (.ld 1 false (.t 69)),
 o 71 (.len .sl (.t 70)),
 o 72 (.mv (.k (.im (.sc (.int .i64 0)))))])
 (.block 1 (.loop [0, 4, 6, 8, 70, 71, 72] [3, 7] (.seq (.region [o 73 (.bin .lss 3 false false (.t 72) (.t 71))])
 (.seq (.cond (.t 73)
 .skip
 (.exit 1))
 (.seq (.block 2 (.seq (.region [o 74 (.mv (.t 72)),
 o 75 (.idxA 2 none (.t 70) (.t 72)),
 o 76 (.ld 2 true (.t 75)),
 o 10 (.lalloc [(.im (.sc (.int .i64 0))), (.im (.sl [] .nil))]),
 o 9 (.mv (.t 74)),
 e (.st 2 (.b 10) (.t 76))])
 (.seq (.draw [o 77 (.ld 2 true (.b 10)),
 o 78 (.off 3 (.b 7)),
 o 79 (.ld 1 false (.t 78)),
 o 80 (.mv (.t 9)),
 o 81 (.idxA 2 none (.t 79) (.t 80)),
 o 82 (.ld 2 true (.t 81)),
 o 83 (.call 296 [(.t 77), (.t 82)]),
 o 84 (.un .not (.t 83))] [0, 1, 1, 7, 1, 1, 0, 0])
 (.cond (.t 84)
 (.draw [o 85 (.mv (.t 0)),
 o 86 (.ld 2 true (.b 10)),
 o 87 (.off 3 (.b 7)),
 o 88 (.ld 1 false (.t 87)),
 o 89 (.mv (.t 9)),
 o 90 (.idxA 2 none (.t 88) (.t 89)),
 o 91 (.ld 2 true (.t 90)),
 o 92 (.call 297 [(.t 85), (.t 86), (.t 91)])] [0, 1, 3, 3, 15, 3, 3, 0])
 .skip))))
 (.region [o 93 (.bin .add 3 false true (.t 72) (.k (.im (.sc (.int .i64 1))))),
 o 72 (.mv (.t 93))])))))))
 (.seq (.seq (.region [o 95 (.off 0 (.b 5)),
 o 96 (.ld 1 false (.t 95)),
 o 97 (.bin .eql 3 false true (.t 96) (.k (.im (.sc (.int .i64 9))))),
 o 94 (.mv (.t 97))])
 (.cond (.t 94)
 .skip
 (.region [o 98 (.off 0 (.b 5)),
 o 99 (.ld 1 false (.t 98)),
 o 100 (.bin .eql 3 false true (.t 99) (.k (.im (.sc (.int .i64 10))))),
 o 94 (.mv (.t 100))])))
 (.cond (.t 94)
 (.draw [o 101 (.mv (.t 6)),
 o 102 (.off 4 (.b 5)),
 o 103 (.ld 1 false (.t 102)),
 o 104 (.idxA 5 none (.t 103) (.k (.im (.sc (.int .i64 0))))),
 o 105 (.ld 5 true (.t 104)),
 o 106 (.mkS 5 1 [(.im (.sc (.int .i64 0))), (.im (.sc (.int .i64 0))), (.im (.sc (.string ⟨#[]⟩))), (.im (.sl [] .nil)), (.im (.sl [] .nil))] [(0, (.t 105))]),
 o 107 (.call 298 [(.t 101), (.k (.im (.sc (.int .i64 0)))), (.t 106)]),
 o 108 (.mv (.t 8)),
 o 109 (.off 4 (.b 7)),
 o 110 (.ld 1 false (.t 109)),
 o 111 (.idxA 5 none (.t 110) (.k (.im (.sc (.int .i64 0))))),
 o 112 (.ld 5 true (.t 111)),
 o 113 (.mkS 5 1 [(.im (.sc (.int .i64 0))), (.im (.sc (.int .i64 0))), (.im (.sc (.string ⟨#[]⟩))), (.im (.sl [] .nil)), (.im (.sl [] .nil))] [(0, (.t 112))]),
 o 114 (.call 298 [(.t 108), (.k (.im (.sc (.int .i64 0)))), (.t 113)]),
 o 6 (.mv (.t 107)),
 o 8 (.mv (.t 114))] [0, 1, 1, 1, 1, 1, 0, 127, 255, 255, 255, 255, 255, 0, 0, 0])
 (.seq (.region [o 4 (.mv (.k (.im (.sc (.int .i64 0)))))])
 .ret))))))))
 (.seq (.region [o 11 (.mv (.k (.im (.sl [] .nil))))])
 (.seq (.seq (.region [o 115 (.mv (.t 6)),
 o 116 (.len .sl (.t 115)),
 o 117 (.mv (.k (.im (.sc (.int .i64 0)))))])
 (.block 3 (.loop [0, 4, 8, 11, 115, 116, 117] [3] (.seq (.region [o 118 (.bin .lss 3 false false (.t 117) (.t 116))])
 (.seq (.cond (.t 118)
 .skip
 (.exit 3))
 (.seq (.block 4 (.seq (.region [o 119 (.mv (.t 117)),
 o 120 (.idxA 5 none (.t 115) (.t 117)),
 o 121 (.ld 5 true (.t 120)),
 o 13 (.lalloc [(.im (.sc (.int .i64 0))), (.im (.sc (.int .i64 0))), (.im (.sc (.string ⟨#[]⟩))), (.im (.sl [] .nil)), (.im (.sl [] .nil))]),
 o 12 (.mv (.t 119)),
 e (.st 5 (.b 13) (.t 121))])
 (.draw [o 122 (.mv (.t 11)),
 o 123 (.off 0 (.b 3)),
 o 124 (.ld 1 false (.t 123)),
 o 125 (.ld 5 true (.b 13)),
 o 126 (.mv (.t 8)),
 o 127 (.mv (.t 12)),
 o 128 (.idxA 5 none (.t 126) (.t 127)),
 o 129 (.ld 5 true (.t 128)),
 o 130 (.build [(.im (.sl [] .nil)), (.im (.sc (.int .i64 0))), (.im (.sc (.int .i64 0))), (.im (.sc (.string ⟨#[]⟩))), (.im (.sl [] .nil)), (.im (.sl [] .nil)), (.im (.sc (.int .i64 0))), (.im (.sc (.int .i64 0))), (.im (.sc (.string ⟨#[]⟩))), (.im (.sl [] .nil)), (.im (.sl [] .nil)), (.im (.sc (.bool false)))] [(0, 1, (.t 124)), (1, 5, (.t 125)), (6, 5, (.t 129))]),
 o 131 (.mkS 12 1 [(.im (.sl [] .nil)), (.im (.sc (.int .i64 0))), (.im (.sc (.int .i64 0))), (.im (.sc (.string ⟨#[]⟩))), (.im (.sl [] .nil)), (.im (.sl [] .nil)), (.im (.sc (.int .i64 0))), (.im (.sc (.int .i64 0))), (.im (.sc (.string ⟨#[]⟩))), (.im (.sl [] .nil)), (.im (.sl [] .nil)), (.im (.sc (.bool false)))] [(0, (.t 130))]),
 o 132 (.append 12 false (.t 122) (.t 131)),
 o 11 (.mv (.t 132))] [0, 1, 1, 7, 15, 31, 15, 15, 1, 1, 0, 0])))
 (.region [o 133 (.bin .add 3 false true (.t 117) (.k (.im (.sc (.int .i64 1))))),
 o 117 (.mv (.t 133))])))))))
 (.seq (.region [o 134 (.mv (.t 0)),
 o 135 (.mv (.t 11)),
 o 136 (.call 285 [(.t 134), (.t 135)])])
 (.seq (.region [o 4 (.mv (.k (.im (.sc (.int .i64 1)))))])
 .ret))))))))) }
def b225 : List Nat := [3, 5, 7, 10, 13]

def f226 : IFunc :=
 { np := 2, res := [.tmp 4], body :=
 (.seq (.region [o 3 (.lbox (.t 1)),
 o 4 (.mv (.k (.im (.sc (.int .i64 0)))))])
 (.seq (.region [o 5 (.mv (.k (.im (.fn (.func 299) [] []))))])
 (.seq (.seq (.region [o 6 (.mv (.t 5)),
 o 7 (.off 1 (.b 3)),
 o 8 (.ld 5 true (.t 7)),
 o 9 (.calld (.t 6) [(.t 8)]),
 o 10 (.mv (.t 9)),
 ⟨(some 11), .mv (.t 5), (some (10, false))⟩,
 ⟨(some 12), .off 6 (.b 3), (some (10, false))⟩,
 ⟨(some 13), .ld 5 true (.t 12), (some (10, false))⟩,
 ⟨(some 14), .calld (.t 11) [(.t 13)], (some (10, false))⟩,
 o 15 (.pick (.t 10) (.k (.im (.sc (.bool true)))) (.t 14))])
 (.cond (.t 15)
 (.seq (.region [o 4 (.mv (.k (.im (.sc (.int .i64 2)))))])
 .ret)
 .skip))
 (.seq (.region [o 4 (.mv (.k (.im (.sc (.int .i64 0)))))])
 .ret)))) }
def b226 : List Nat := [3]

def f227 : IFunc :=
 { np := 2, res := [.cell 4 5 true], body :=
 (.seq (.region [o 3 (.lbox (.t 1)),
 o 4 (.lalloc [(.im (.sc (.int .i64 0))), (.im (.sc (.int .i64 0))), (.im (.sc (.string ⟨#[]⟩))), (.im (.sl [] .nil)), (.im (.sl [] .nil))])])
 (.seq (.draw [o 8 (.mv (.t 0)),
 o 9 (.nilc (.t 8)),
 o 10 (.off 1 (.t 9)),
 o 11 (.off 0 (.t 10)),
 o 12 (.ld 1 false (.t 11)),
 o 13 (.ld 5 true (.b 3)),
 o 14 (.call 73 [(.t 12), (.t 13)]),
 o 7 (.mv (.t 14)),
 o 15 (.extract (.t 7) 0),
 o 16 (.extract (.t 7) 1),
 o 5 (.lalloc [(.im (.sc (.int .i64 0))), (.im (.sc (.int .i64 0))), (.im (.sc (.string ⟨#[]⟩))), (.im (.sl [] .nil)), (.im (.sl [] .nil))]),
 e (.st 5 (.b 5) (.t 15)),
 o 6 (.mv (.t 16))] [0, 0, 0, 0, 0, 31, 0, 0, 0, 256, 1023, 512, 0])
 (.seq (.region [o 17 (.mv (.t 6)),
 o 18 (.call 173 [(.t 17)])])
 (.seq (.region [o 19 (.ld 5 true (.b 5)),
 e (.st 5 (.b 4) (.t 19))])
 .ret)))) }
def b227 : List Nat := [3, 4, 5]

def f228 : IFunc :=
 { np := 3, res := [], body :=
 (.seq (.region [o 8 (.mv (.t 1)),
 o 9 (.bin .add 3 false true (.t 8) (.k (.im (.sc (.int .i64 1))))),
 o 6 (.mv (.t 9))])
 (.block 0 (.loop [0, 1, 2, 6] [] (.seq (.seq (.region [o 10 (.mv (.t 6)),
 o 11 (.mv (.t 2)),
 o 12 (.bin .lss 3 false false (.t 10) (.t 11))])
 (.cond (.t 12)
 .skip
 (.exit 0)))
 (.seq (.block 1 (.seq (.region [o 15 (.mv (.t 6)),
 o 7 (.mv (.t 15))])
 (.block 2 (.loop [0, 1, 2, 6, 7, 10, 11, 12, 15] [] (.seq (.seq (.draw [o 16 (.mv (.t 7)),
 o 17 (.mv (.t 1)),
 o 18 (.bin .gtr 3 false false (.t 16) (.t 17)),
 o 19 (.mv (.t 18)),
 ⟨(some 20), .mv (.t 0), (some (19, true))⟩,
 ⟨(some 21), .mv (.t 7), (some (19, true))⟩,
 ⟨(some 22), .idxA 1 none (.t 20) (.t 21), (some (19, true))⟩,
 ⟨(some 23), .ld 1 false (.t 22), (some (19, true))⟩,
 ⟨(some 24), .mv (.t 0), (some (19, true))⟩,
 ⟨(some 25), .mv (.t 7), (some (19, true))⟩,
 ⟨(some 26), .bin .sub 3 false true (.t 25) (.k (.im (.sc (.int .i64 1)))), (some (19, true))⟩,
 ⟨(some 27), .idxA 1 none (.t 24) (.t 26), (some (19, true))⟩,
 ⟨(some 28), .ld 1 false (.t 27), (some (19, true))⟩,
 ⟨(some 29), .call 234 [(.t 23), (.t 28)], (some (19, true))⟩,
 o 30 (.pick (.t 19) (.t 29) (.k (.im (.sc (.bool false)))))] [0, 1, 0, 0, 0, 16, 0, 0, 240, 496, 496, 240, 240, 0, 0])
 (.cond (.t 30)
 .skip
 (.exit 2)))
 (.seq (.block 3 (.draw [o 33 (.mv (.t 0)),
 o 34 (.mv (.t 7)),
 o 35 (.mv (.t 0)),
 o 36 (.mv (.t 7)),
 o 37 (.bin .sub 3 false true (.t 36) (.k (.im (.sc (.int .i64 1))))),
 o 38 (.mv (.t 0)),
 o 39 (.mv (.t 7)),
 o 40 (.bin .sub 3 false true (.t 39) (.k (.im (.sc (.int .i64 1))))),
 o 41 (.idxA 1 none (.t 38) (.t 40)),
 o 42 (.ld 1 false (.t 41)),
 o 43 (.mv (.t 0)),
 o 44 (.mv (.t 7)),
 o 45 (.idxA 1 none (.t 43) (.t 44)),
 o 46 (.ld 1 false (.t 45)),
 o 47 (.idxA 1 none (.t 33) (.t 34)),
 e (.st 1 (.t 47) (.t 42)),
 o 48 (.idxA 1 none (.t 35) (.t 37)),
 e (.st 1 (.t 48) (.t 46))] [0, 1, 3, 7, 7, 31, 63, 63, 31, 31, 1023, 2047, 1023, 1023, 28, 28, 0, 0]))
 (.region [o 31 (.mv (.t 7)),
 o 32 (.bin .sub 3 false true (.t 31) (.k (.im (.sc (.int .i64 1))))),
 o 7 (.mv (.t 32))])))))))
 (.region [o 13 (.mv (.t 6)),
 o 14 (.bin .add 3 false true (.t 13) (.k (.im (.sc (.int .i64 1))))),
 o 6 (.mv (.t 14))])))))) }
def b228 : List Nat := []

def f238 : IFunc :=
 { np := 1, res := [.tmp 2], body :=
 (.seq (.region [o 2 (.mv (.k (.im (.sc (.int .i64 0)))))])
 (.seq (.seq (.region [o 3 (.mv (.t 0)),
 o 4 (.bin .geq 305 false true (.t 3) (.k (.im (.sc (.int .u64 4294967296)))))])
 (.cond (.t 4)
 (.seq (.region [o 5 (.mv (.t 0)),
 o 6 (.bin .shr 305 false true (.t 5) (.k (.im (.sc (.int .u64 32))))),
 o 0 (.mv (.t 6))])
 (.region [o 2 (.mv (.k (.im (.sc (.int .i64 32)))))]))
 .skip))
 (.seq (.seq (.region [o 7 (.mv (.t 0)),
 o 8 (.bin .geq 305 false true (.t 7) (.k (.im (.sc (.int .u64 65536)))))])
 (.cond (.t 8)
 (.seq (.region [o 9 (.mv (.t 0)),
 o 10 (.bin .shr 305 false true (.t 9) (.k (.im (.sc (.int .u64 16))))),
 o 0 (.mv (.t 10))])
 (.region [o 11 (.mv (.t 2)),
 o 12 (.bin .add 3 false true (.t 11) (.k (.im (.sc (.int .i64 16))))),
 o 2 (.mv (.t 12))]))
 .skip))
 (.seq (.seq (.region [o 13 (.mv (.t 0)),
 o 14 (.bin .geq 305 false true (.t 13) (.k (.im (.sc (.int .u64 256)))))])
 (.cond (.t 14)
 (.seq (.region [o 15 (.mv (.t 0)),
 o 16 (.bin .shr 305 false true (.t 15) (.k (.im (.sc (.int .u64 8))))),
 o 0 (.mv (.t 16))])
 (.region [o 17 (.mv (.t 2)),
 o 18 (.bin .add 3 false true (.t 17) (.k (.im (.sc (.int .i64 8))))),
 o 2 (.mv (.t 18))]))
 .skip))
 (.seq (.region [o 19 (.mv (.t 2)),
 o 20 (.mv (.t 0)),
 o 21 (.conv 305 5 (.t 20)),
 o 22 (.idxV 9 1 false none (.k (.im (.sc (.string ⟨#[0, 1, 2, 2, 3, 3, 3, 3, 4, 4, 4, 4, 4, 4, 4, 4, 5, 5, 5, 5, 5, 5, 5, 5, 5, 5, 5, 5, 5, 5, 5, 5, 6, 6, 6, 6, 6, 6, 6, 6, 6, 6, 6, 6, 6, 6, 6, 6, 6, 6, 6, 6, 6, 6, 6, 6, 6, 6, 6, 6, 6, 6, 6, 6, 7, 7, 7, 7, 7, 7, 7, 7, 7, 7, 7, 7, 7, 7, 7, 7, 7, 7, 7, 7, 7, 7, 7, 7, 7, 7, 7, 7, 7, 7, 7, 7, 7, 7, 7, 7, 7, 7, 7, 7, 7, 7, 7, 7, 7, 7, 7, 7, 7, 7, 7, 7, 7, 7, 7, 7, 7, 7, 7, 7, 7, 7, 7, 7, 8, 8, 8, 8, 8, 8, 8, 8, 8, 8, 8, 8, 8, 8, 8, 8, 8, 8, 8, 8, 8, 8, 8, 8, 8, 8, 8, 8, 8, 8, 8, 8, 8, 8, 8, 8, 8, 8, 8, 8, 8, 8, 8, 8, 8, 8, 8, 8, 8, 8, 8, 8, 8, 8, 8, 8, 8, 8, 8, 8, 8, 8, 8, 8, 8, 8, 8, 8, 8, 8, 8, 8, 8, 8, 8, 8, 8, 8, 8, 8, 8, 8, 8, 8, 8, 8, 8, 8, 8, 8, 8, 8, 8, 8, 8, 8, 8, 8, 8, 8, 8, 8, 8, 8, 8, 8, 8, 8, 8, 8, 8, 8, 8, 8, 8, 8, 8, 8, 8, 8, 8, 8, 8, 8, 8, 8, 8, 8]⟩)))) (.t 21)),
 o 23 (.conv 5 3 (.t 22)),
 o 24 (.bin .add 3 false false (.t 19) (.t 23)),
 o 2 (.mv (.t 24))])
 .ret))))) }
def b238 : List Nat := []

def f239 : IFunc :=
 { np := 2, res := [.tmp 4], body :=
 (.seq (.region [o 4 (.mv (.k (.im (.sc (.int .i64 0)))))])
 (.seq (.block 0 (.seq (.seq (.region [o 6 (.mv (.t 1)),
 o 7 (.bin .eql 3 false true (.t 6) (.k (.im (.sc (.int .i64 1))))),
 o 8 (.mv (.t 7)),
 ⟨(some 9), .mv (.t 0), (some (8, true))⟩,
 ⟨(some 10), .bin .eql 3 false true (.t 9) (.k (.im (.sc (.int .i64 5)))), (some (8, true))⟩,
 ⟨(some 11), .mv (.t 10), (some (8, true))⟩,
 ⟨(some 12), .mv (.t 0), (some (11, false))⟩,
 ⟨(some 13), .bin .eql 3 false true (.t 12) (.k (.im (.sc (.int .i64 6)))), (some (11, false))⟩,
 ⟨(some 14), .pick (.t 11) (.k (.im (.sc (.bool true)))) (.t 13), (some (8, true))⟩,
 ⟨(some 15), .mv (.t 14), (some (8, true))⟩,
 ⟨(some 16), .mv (.t 0), (some (15, false))⟩,
 ⟨(some 17), .bin .eql 3 false true (.t 16) (.k (.im (.sc (.int .i64 7)))), (some (15, false))⟩,
 ⟨(some 18), .pick (.t 15) (.k (.im (.sc (.bool true)))) (.t 17), (some (8, true))⟩,
 o 19 (.pick (.t 8) (.t 18) (.k (.im (.sc (.bool false))))),
 o 5 (.mv (.t 19))])
 (.cond (.t 5)
 .skip
 (.region [o 20 (.mv (.t 1)),
 o 21 (.bin .eql 3 false true (.t 20) (.k (.im (.sc (.int .i64 2))))),
 o 22 (.mv (.t 21)),
 ⟨(some 23), .mv (.t 0), (some (22, true))⟩,
 ⟨(some 24), .bin .eql 3 false true (.t 23) (.k (.im (.sc (.int .i64 11)))), (some (22, true))⟩,
 o 25 (.pick (.t 22) (.t 24) (.k (.im (.sc (.bool false))))),
 o 5 (.mv (.t 25))])))
 (.cond (.t 5)
 (.seq (.region [o 4 (.mv (.k (.im (.sc (.int .i64 1)))))])
 .ret)
 .skip)))
 (.seq (.region [o 4 (.mv (.k (.im (.sc (.int .i64 0)))))])
 .ret))) }
def b239 : List Nat := []

def f241 : IFunc :=
 { np := 1, res := [.tmp 2], body :=
 (.seq (.region [o 2 (.mv (.k (.im (.sl [] .nil))))])
 (.seq (.region [o 4 (.mv (.t 0)),
 o 5 (.call 306 [(.t 4)]),
 o 3 (.mv (.t 5))])
 (.seq (.region [o 6 (.mv (.t 3)),
 o 7 (.call 120 [(.t 6)])])
 (.seq (.region [o 8 (.mv (.t 3)),
 o 2 (.mv (.t 8))])
 .ret)))) }
def b241 : List Nat := []

def f242 : IFunc :=
 { np := 1, res := [.tmp 2], body :=
 (.seq (.region [o 1 (.hbox (.t 0)),
 o 2 (.mv (.k (.im (.sc .nilFunc))))])
 (.seq (.region [o 3 (.mkfn (.func 307) [] [(.t 1)] [true]),
 o 2 (.mv (.t 3))])
 .ret)) }
def b242 : List Nat := []

def f246 : IFunc :=
 { np := 3, res := [.cell 6 5 true], body :=
 (.seq (.region [o 3 (.lbox (.t 0)),
 o 5 (.lbox (.t 2)),
 o 6 (.lalloc [(.im (.sc (.int .i64 0))), (.im (.sc (.int .i64 0))), (.im (.sc (.string ⟨#[]⟩))), (.im (.sl [] .nil)), (.im (.sl [] .nil))])])
 (.seq (.region [o 10 (.off 0 (.b 3)),
 o 11 (.ld 1 false (.t 10)),
 o 12 (.off 2 (.b 5)),
 o 13 (.ld 1 false (.t 12)),
 o 14 (.off 3 (.b 5)),
 o 15 (.ld 1 false (.t 14)),
 o 16 (.call 168 [(.t 11), (.t 13), (.t 15)]),
 o 9 (.mv (.t 16)),
 o 17 (.extract (.t 9) 0),
 o 18 (.extract (.t 9) 1),
 o 7 (.lalloc [(.im (.sc (.int .i64 0))), (.im (.sc (.int .i64 0))), (.im (.sc (.string ⟨#[]⟩))), (.im (.sl [] .nil)), (.im (.sl [] .nil))]),
 e (.st 5 (.b 7) (.t 17)),
 o 8 (.mv (.t 18))])
 (.seq (.region [o 19 (.mv (.t 8)),
 o 20 (.call 137 [(.t 19)])])
 (.seq (.region [o 21 (.ld 5 true (.b 7)),
 e (.st 5 (.b 6) (.t 21))])
 .ret)))) }
def b246 : List Nat := [3, 5, 6, 7]

def f247 : IFunc :=
 { np := 3, res := [.cell 6 5 true], body :=
 (.seq (.region [o 3 (.lbox (.t 0)),
 o 5 (.lbox (.t 2)),
 o 6 (.lalloc [(.im (.sc (.int .i64 0))), (.im (.sc (.int .i64 0))), (.im (.sc (.string ⟨#[]⟩))), (.im (.sl [] .nil)), (.im (.sl [] .nil))])])
 (.seq (.draw [o 8 (.ld 1 true (.b 3)),
 o 9 (.ld 1 true (.b 3)),
 o 10 (.mv (.t 1)),
 o 11 (.off 4 (.b 5)),
 o 12 (.ld 1 false (.t 11)),
 o 13 (.idxA 5 none (.t 12) (.k (.im (.sc (.int .i64 0))))),
 o 14 (.ld 5 true (.t 13)),
 o 15 (.call 135 [(.t 9), (.t 10), (.t 14)]),
 o 16 (.call 153 [(.t 8), (.t 15)]),
 o 7 (.lalloc [(.im (.sc (.int .i64 0))), (.im (.sc (.int .i64 0))), (.im (.sc (.string ⟨#[]⟩))), (.im (.sl [] .nil)), (.im (.sl [] .nil))]),
 e (.st 5 (.b 7) (.t 16))] [0, 1, 3, 7, 7, 7, 7, 1, 0, 511, 0])
 (.seq (.seq (.region [o 17 (.off 0 (.b 7)),
 o 18 (.ld 1 false (.t 17)),
 o 19 (.bin .neq 3 false true (.t 18) (.k (.im (.sc (.int .i64 6)))))])
 (.cond (.t 19)
 (.region [o 20 (.call 137 [(.k (.im (.sc (.int .i64 13))))])])
 .skip))
 (.seq (.draw [o 21 (.ld 1 true (.b 3)),
 o 22 (.mv (.t 1)),
 o 23 (.off 4 (.b 5)),
 o 24 (.ld 1 false (.t 23)),
 o 25 (.idxA 5 none (.t 24) (.k (.im (.sc (.int .i64 1))))),
 o 26 (.ld 5 true (.t 25)),
 o 27 (.off 4 (.b 7)),
 o 28 (.ld 1 false (.t 27)),
 o 29 (.idxA 5 none (.t 28) (.k (.im (.sc (.int .i64 0))))),
 o 30 (.ld 5 true (.t 29)),
 o 31 (.call 84 [(.t 21), (.t 22), (.t 26), (.t 30)])] [0, 1, 3, 3, 3, 3, 63, 63, 63, 63, 0])
 (.seq (.draw [o 32 (.off 4 (.b 7)),
 o 33 (.ld 1 false (.t 32)),
 o 34 (.idxA 5 none (.t 33) (.k (.im (.sc (.int .i64 1))))),
 o 35 (.ld 5 true (.t 34)),
 o 36 (.off 4 (.b 5)),
 o 37 (.ld 1 false (.t 36)),
 o 38 (.idxA 5 none (.t 37) (.k (.im (.sc (.int .i64 1))))),
 o 39 (.ld 5 true (.t 38)),
 o 40 (.call 309 [(.t 35), (.t 39)]),
 e (.st 5 (.b 6) (.t 40))] [0, 0, 0, 0, 15, 15, 15, 15, 0, 0])
 .ret))))) }
def b247 : List Nat := [3, 5, 6, 7]

def f261 : IFunc :=
 { np := 2, res := [.tmp 3], body :=
 (.seq (.region [o 2 (.lbox (.t 0)),
 o 3 (.mv (.k (.im (.sc (.bool false)))))])
 (.seq (.region [o 4 (.off 1 (.b 2)),
 o 5 (.ld 1 false (.t 4)),
 o 6 (.off 0 (.t 1)),
 o 7 (.ld 1 false (.t 6)),
 o 8 (.bin .geq 3 false false (.t 5) (.t 7)),
 o 3 (.mv (.t 8))])
 .ret)) }
def b261 : List Nat := [2]

def f265 : IFunc :=
 { np := 1, res := [.tmp 2], body :=
 (.seq (.region [o 2 (.mv (.k (.im (.sc (.string ⟨#[]⟩)))))])
 (.seq (.seq (.region [o 3 (.mv (.t 0)),
 o 4 (.bin .lss 3 false true (.t 3) (.k (.im (.sc (.int .i64 10)))))])
 (.cond (.t 4)
 (.seq (.region [o 5 (.mv (.t 0)),
 o 6 (.mv (.t 0)),
 o 7 (.bin .add 3 false true (.t 6) (.k (.im (.sc (.int .i64 1))))),
 o 8 (.slc 9 0 (.k (.im (.sc (.string ⟨#[48, 49, 50, 51, 52, 53, 54, 55, 56, 57, 97, 98, 99, 100, 101, 102, 103, 104, 105, 106, 107, 108, 109, 110, 111, 112, 113, 114, 115, 116, 117, 118, 119, 120, 121, 122]⟩)))) (some (.t 5)) (some (.t 7)) none),
 o 2 (.mv (.t 8))])
 .ret)
 .skip))
 (.seq (.region [o 9 (.mv (.t 0)),
 o 10 (.bin .mul 3 false true (.t 9) (.k (.im (.sc (.int .i64 2))))),
 o 11 (.mv (.t 0)),
 o 12 (.bin .mul 3 false true (.t 11) (.k (.im (.sc (.int .i64 2))))),
 o 13 (.bin .add 3 false true (.t 12) (.k (.im (.sc (.int .i64 2))))),
 o 14 (.slc 9 0 (.k (.im (.sc (.string ⟨#[48, 48, 48, 49, 48, 50, 48, 51, 48, 52, 48, 53, 48, 54, 48, 55, 48, 56, 48, 57, 49, 48, 49, 49, 49, 50, 49, 51, 49, 52, 49, 53, 49, 54, 49, 55, 49, 56, 49, 57, 50, 48, 50, 49, 50, 50, 50, 51, 50, 52, 50, 53, 50, 54, 50, 55, 50, 56, 50, 57, 51, 48, 51, 49, 51, 50, 51, 51, 51, 52, 51, 53, 51, 54, 51, 55, 51, 56, 51, 57, 52, 48, 52, 49, 52, 50, 52, 51, 52, 52, 52, 53, 52, 54, 52, 55, 52, 56, 52, 57, 53, 48, 53, 49, 53, 50, 53, 51, 53, 52, 53, 53, 53, 54, 53, 55, 53, 56, 53, 57, 54, 48, 54, 49, 54, 50, 54, 51, 54, 52, 54, 53, 54, 54, 54, 55, 54, 56, 54, 57, 55, 48, 55, 49, 55, 50, 55, 51, 55, 52, 55, 53, 55, 54, 55, 55, 55, 56, 55, 57, 56, 48, 56, 49, 56, 50, 56, 51, 56, 52, 56, 53, 56, 54, 56, 55, 56, 56, 56, 57, 57, 48, 57, 49, 57, 50, 57, 51, 57, 52, 57, 53, 57, 54, 57, 55, 57, 56, 57, 57]⟩)))) (some (.t 10)) (some (.t 13)) none),
 o 2 (.mv (.t 14))])
 .ret))) }
def b265 : List Nat := []

def f269 : IFunc :=
 { np := 1, res := [.cell 2 1 true], body :=
 (.seq (.region [o 1 (.hbox (.t 0)),
 o 2 (.lalloc [(.im (.sc .nilFunc))])])
 (.seq (.region [o 3 (.mkfn (.func 321) [] [(.t 1)] [true]),
 o 4 (.build [(.im (.sc .nilFunc))] [(0, 1, (.t 3))]),
 e (.st 1 (.b 2) (.t 4))])
 .ret)) }
def b269 : List Nat := [2]

def f272 : IFunc :=
 { np := 2, res := [.cell 4 1 false], body :=
 (.seq (.region [o 6 (.mv (.t 1)),
 o 7 (.mv (.t 0)),
 o 8 (.build [(.im (.sl [] .nil)), (.im (.sc (.int .i64 0)))] [(0, 1, (.t 7)), (1, 1, (.k (.im (.sc (.int .i64 20000)))))]),
 o 9 (.hbox (.t 8)),
 o 10 (.calld (.t 6) [(.t 9)])])
 (.seq (.region [e (.st 1 (.t 4) (.k (.im (.sc (.int .i64 0)))))])
 .ret)), pre := some ([(.region [o 4 (.halloc [(.im (.sc (.int .i64 0)))])])], [o 5 (.mkfn (.func 322) [] [(.t 4)] [])], (.t 5)) }
def b272 : List Nat := []

def f273 : IFunc :=
 { np := 3, res := [], body :=
 (.region [o 4 (.mv (.t 0)),
 o 5 (.ld 5 true (.t 1)),
 o 6 (.call 274 [(.t 4), (.t 5)]),
 e (.st 5 (.t 2) (.t 6))]) }
def b273 : List Nat := []

def f274 : IFunc :=
 { np := 2, res := [.cell 4 5 true], body :=
 (.seq (.region [o 3 (.lbox (.t 1)),
 o 4 (.lalloc [(.im (.sc (.int .i64 0))), (.im (.sc (.int .i64 0))), (.im (.sc (.string ⟨#[]⟩))), (.im (.sl [] .nil)), (.im (.sl [] .nil))])])
 (.block 0 (.loop [0] [3, 4] (.block 1 (.seq (.region [o 11 (.ld 5 true (.b 3)),
 o 12 (.call 163 [(.t 11)]),
 o 10 (.mv (.t 12)),
 o 13 (.extract (.t 10) 0),
 o 14 (.extract (.t 10) 1),
 o 5 (.lalloc [(.im (.sc (.int .i64 0))), (.im (.sc (.int .i64 0))), (.im (.sc (.string ⟨#[]⟩))), (.im (.sl [] .nil)), (.im (.sl [] .nil))]),
 e (.st 5 (.b 5) (.t 13)),
 o 6 (.mv (.t 14))])
 (.seq (.seq (.region [o 15 (.mv (.t 6)),
 o 16 (.len .sl (.t 15)),
 o 17 (.bin .gtr 3 false true (.t 16) (.k (.im (.sc (.int .i64 40960)))))])
 (.cond (.t 17)
 (.region [o 18 (.build [] []),
 o 19 (.mkifc 357 (.t 18)),
 e (.pan (.t 19))])
 .skip))
 (.seq (.region [o 20 (.off 0 (.b 5)),
 o 21 (.ld 1 false (.t 20))])
 (.block 2 (.seq (.region [o 24 (.bin .eql 3 false true (.t 21) (.k (.im (.sc (.int .i64 5))))),
 o 23 (.mv (.t 24))])
 (.cond (.t 23)
 (.seq (.seq (.region [o 25 (.mv (.t 6)),
 o 26 (.len .sl (.t 25)),
 o 27 (.bin .eql 3 false true (.t 26) (.k (.im (.sc (.int .i64 0)))))])
 (.cond (.t 27)
 (.seq (.region [o 28 (.ld 5 true (.b 3)),
 e (.st 5 (.b 4) (.t 28))])
 .ret)
 .skip))
 (.draw [o 29 (.mv (.t 0)),
 o 30 (.off 4 (.b 5)),
 o 31 (.ld 1 false (.t 30)),
 o 32 (.idxA 5 none (.t 31) (.k (.im (.sc (.int .i64 1))))),
 o 33 (.ld 5 true (.t 32)),
 o 34 (.mv (.t 6)),
 o 35 (.idxA 5 none (.t 34) (.k (.im (.sc (.int .i64 0))))),
 o 36 (.ld 5 true (.t 35)),
 o 37 (.mkS 5 1 [(.im (.sc (.int .i64 0))), (.im (.sc (.int .i64 0))), (.im (.sc (.string ⟨#[]⟩))), (.im (.sl [] .nil)), (.im (.sl [] .nil))] [(0, (.t 36))]),
 o 38 (.call 323 [(.t 29), (.t 33), (.t 37)]),
 o 39 (.mv (.t 6)),
 o 40 (.slc 24 5 (.t 39) (some (.k (.im (.sc (.int .i64 1))))) none none),
 o 41 (.call 65 [(.t 38), (.t 40)]),
 e (.st 5 (.b 3) (.t 41))] [0, 1, 1, 1, 1, 31, 31, 31, 31, 0, 1023, 1023, 0, 0]))
 (.seq (.region [o 43 (.bin .eql 3 false true (.t 21) (.k (.im (.sc (.int .i64 11))))),
 o 42 (.mv (.t 43))])
 (.cond (.t 42)
 (.draw [o 44 (.mv (.t 0)),
 o 45 (.off 4 (.b 5)),
 o 46 (.ld 1 false (.t 45)),
 o 47 (.idxA 5 none (.t 46) (.k (.im (.sc (.int .i64 2))))),
 o 48 (.ld 5 true (.t 47)),
 o 49 (.off 4 (.b 5)),
 o 50 (.ld 1 false (.t 49)),
 o 51 (.idxA 5 none (.t 50) (.k (.im (.sc (.int .i64 1))))),
 o 52 (.ld 5 true (.t 51)),
 o 53 (.mkS 5 1 [(.im (.sc (.int .i64 0))), (.im (.sc (.int .i64 0))), (.im (.sc (.string ⟨#[]⟩))), (.im (.sl [] .nil)), (.im (.sl [] .nil))] [(0, (.t 52))]),
 o 54 (.call 323 [(.t 44), (.t 48), (.t 53)]),
 o 55 (.mv (.t 6)),
 o 56 (.call 65 [(.t 54), (.t 55)]),
 e (.st 5 (.b 3) (.t 56))] [0, 1, 1, 1, 1, 31, 31, 31, 31, 31, 0, 2047, 0, 0])
 (.seq (.seq (.region [o 58 (.bin .eql 3 false true (.t 21) (.k (.im (.sc (.int .i64 9))))),
 o 57 (.mv (.t 58))])
 (.cond (.t 57)
 .skip
 (.region [o 59 (.bin .eql 3 false true (.t 21) (.k (.im (.sc (.int .i64 10))))),
 o 57 (.mv (.t 59))])))
 (.cond (.t 57)
 (.seq (.region [o 60 (.mv (.t 0)),
 o 61 (.off 4 (.b 5)),
 o 62 (.ld 1 false (.t 61)),
 o 63 (.idxA 5 none (.t 62) (.k (.im (.sc (.int .i64 0))))),
 o 64 (.ld 5 true (.t 63)),
 o 65 (.call 274 [(.t 60), (.t 64)]),
 o 7 (.lalloc [(.im (.sc (.int .i64 0))), (.im (.sc (.int .i64 0))), (.im (.sc (.string ⟨#[]⟩))), (.im (.sl [] .nil)), (.im (.sl [] .nil))]),
 e (.st 5 (.b 7) (.t 65))])
 (.seq (.seq (.region [o 66 (.off 0 (.b 7)),
 o 67 (.ld 1 false (.t 66)),
 o 68 (.bin .neq 3 false true (.t 67) (.k (.im (.sc (.int .i64 8)))))])
 (.cond (.t 68)
 (.seq (.region [o 69 (.off 0 (.b 5)),
 o 70 (.ld 1 false (.t 69)),
 o 71 (.ld 5 true (.b 7)),
 o 72 (.mkS 5 1 [(.im (.sc (.int .i64 0))), (.im (.sc (.int .i64 0))), (.im (.sc (.string ⟨#[]⟩))), (.im (.sl [] .nil)), (.im (.sl [] .nil))] [(0, (.t 71))]),
 o 73 (.build [(.im (.sc (.int .i64 0))), (.im (.sc (.int .i64 0))), (.im (.sc (.string ⟨#[]⟩))), (.im (.sl [] .nil)), (.im (.sl [] .nil))] [(0, 1, (.t 70)), (4, 1, (.t 72))]),
 o 74 (.mv (.t 6)),
 o 75 (.call 65 [(.t 73), (.t 74)]),
 e (.st 5 (.b 4) (.t 75))])
 .ret)
 .skip))
 (.region [o 76 (.mv (.t 0)),
 o 77 (.ld 5 true (.b 5)),
 o 78 (.ld 5 true (.b 7)),
 o 79 (.call 324 [(.t 76), (.t 77), (.t 78)]),
 o 80 (.mv (.t 6)),
 o 81 (.call 65 [(.t 79), (.t 80)]),
 e (.st 5 (.b 3) (.t 81))])))
 (.seq (.region [o 83 (.bin .eql 3 false true (.t 21) (.k (.im (.sc (.int .i64 3))))),
 o 82 (.mv (.t 83))])
 (.cond (.t 82)
 (.seq (.region [o 85 (.mv (.t 0)),
 o 86 (.ld 5 true (.b 5)),
 o 87 (.mv (.t 6)),
 o 88 (.call 325 [(.t 85), (.t 86), (.t 87)]),
 o 84 (.mv (.t 88)),
 o 89 (.extract (.t 84) 0),
 o 90 (.extract (.t 84) 1),
 o 8 (.lalloc [(.im (.sc (.int .i64 0))), (.im (.sc (.int .i64 0))), (.im (.sc (.string ⟨#[]⟩))), (.im (.sl [] .nil)), (.im (.sl [] .nil))]),
 e (.st 5 (.b 8) (.t 89)),
 o 9 (.mv (.t 90))])
 (.seq (.seq (.region [o 91 (.mv (.t 9)),
 o 92 (.un .not (.t 91))])
 (.cond (.t 92)
 (.seq (.region [o 93 (.ld 5 true (.b 3)),
 e (.st 5 (.b 4) (.t 93))])
 .ret)
 .skip))
 (.region [o 94 (.ld 5 true (.b 8)),
 e (.st 5 (.b 3) (.t 94))])))
 (.seq (.region [o 22 (.ld 5 true (.b 3)),
 e (.st 5 (.b 4) (.t 22))])
 .ret))))))))))))))))) }
def b274 : List Nat := [3, 4, 5, 7, 8]

def f275 : IFunc :=
 { np := 2, res := [], body :=
 (.seq (.region [o 4 (.mv (.t 2)),
 o 5 (.isnil .ifc true (.t 4))])
 (.cond (.t 5)
 (.region [o 6 (.build [(.im (.sc (.int .i64 0))), (.im (.sc (.int .i64 0))), (.im (.sc (.string ⟨#[]⟩))), (.im (.sl [] .nil)), (.im (.sl [] .nil))] []),
 o 7 (.mv (.t 2)),
 o 8 (.call 183 [(.t 7)]),
 e (.st 5 (.t 0) (.t 6)),
 e (.st 1 (.t 1) (.t 8))])
 .skip)), rcv := some (3, [o 2 (.mv (.t 3))]) }
def b275 : List Nat := []

def f276 : IFunc :=
 { np := 4, res := [.tmp 6], body :=
 (.seq (.region [o 4 (.lbox (.t 0)),
 o 6 (.mv (.k (.im (.sc (.int .i64 0)))))])
 (.seq (.seq (.region [o 8 (.off 1 (.b 4)),
 o 9 (.ld 1 false (.t 8)),
 o 10 (.mv (.t 1)),
 o 11 (.bin .sub 3 false false (.t 9) (.t 10)),
 o 12 (.ld 1 false (.t 2)),
 o 13 (.bin .sub 3 false false (.t 11) (.t 12)),
 o 7 (.mv (.t 13))])
 (.seq (.region [o 14 (.mv (.t 7)),
 o 15 (.bin .geq 3 false true (.t 14) (.k (.im (.sc (.int .i64 0))))),
 o 16 (.mv (.t 15)),
 ⟨(some 17), .mv (.t 7), (some (16, true))⟩,
 ⟨(some 18), .ld 1 false (.t 3), (some (16, true))⟩,
 ⟨(some 19), .len .sl (.t 18), (some (16, true))⟩,
 ⟨(some 20), .bin .lss 3 false false (.t 17) (.t 19), (some (16, true))⟩,
 o 21 (.pick (.t 16) (.t 20) (.k (.im (.sc (.bool false)))))])
 (.cond (.t 21)
 (.seq (.region [o 22 (.mv (.t 7)),
 o 6 (.mv (.t 22))])
 .ret)
 .skip)))
 (.seq (.region [o 6 (.mv (.k (.im (.sc (.int .i64 (-1))))))])
 .ret))) }
def b276 : List Nat := [4]

def f277 : IFunc :=
 { np := 5, res := [.cell 7 5 true, .tmp 8], body :=
 (.seq (.region [o 5 (.lbox (.t 0)),
 o 7 (.lalloc [(.im (.sc (.int .i64 0))), (.im (.sc (.int .i64 0))), (.im (.sc (.string ⟨#[]⟩))), (.im (.sl [] .nil)), (.im (.sl [] .nil))]),
 o 8 (.mv (.k (.im (.sc (.bool false)))))])
 (.seq (.seq (.region [o 10 (.ld 1 false (.t 2)),
 o 11 (.ld 5 true (.b 5)),
 o 12 (.mv (.t 1)),
 o 13 (.calld (.t 10) [(.t 11), (.t 12)]),
 o 9 (.mv (.t 13))])
 (.seq (.region [o 14 (.off 0 (.b 5)),
 o 15 (.ld 1 false (.t 14)),
 o 16 (.bin .eql 3 false true (.t 15) (.k (.im (.sc (.int .i64 0))))),
 o 17 (.mv (.t 16)),
 ⟨(some 18), .mv (.t 9), (some (17, true))⟩,
 ⟨(some 19), .bin .geq 3 false true (.t 18) (.k (.im (.sc (.int .i64 0)))), (some (17, true))⟩,
 o 20 (.pick (.t 17) (.t 19) (.k (.im (.sc (.bool false)))))])
 (.cond (.t 20)
 (.draw [o 21 (.ld 1 false (.t 3)),
 o 22 (.ld 1 false (.t 4)),
 o 23 (.mv (.t 9)),
 o 24 (.idxA 1 none (.t 22) (.t 23)),
 o 25 (.ld 1 false (.t 24)),
 o 26 (.call 278 [(.t 21), (.t 25)])] [0, 1, 3, 1, 1, 0])
 (.region [o 27 (.ld 1 false (.t 3)),
 o 28 (.call 278 [(.t 27), (.k (.im (.sc (.int .i64 1))))])]))))
 (.seq (.draw [o 29 (.build [(.im (.sc (.int .i64 0))), (.im (.sc (.int .i64 0))), (.im (.sc (.string ⟨#[]⟩))), (.im (.sl [] .nil)), (.im (.sl [] .nil))] []),
 o 30 (.off 0 (.b 5)),
 o 31 (.ld 1 false (.t 30)),
 o 32 (.bin .eql 3 false true (.t 31) (.k (.im (.sc (.int .i64 0))))),
 e (.st 5 (.b 7) (.t 29)),
 o 8 (.mv (.t 32))] [0, 1, 1, 1, 14, 0])
 .ret))) }
def b277 : List Nat := [5, 7]

def f278 : IFunc :=
 { np := 2, res := [], body :=
 (.seq (.region [o 4 (.mv (.t 0)),
 o 5 (.nilc (.t 4)),
 o 6 (.off 0 (.t 5)),
 o 7 (.ld 1 false (.t 6)),
 o 8 (.mv (.t 1)),
 o 9 (.bin .add 3 false false (.t 7) (.t 8)),
 o 10 (.nilc (.t 4)),
 o 11 (.off 0 (.t 10)),
 e (.st 1 (.t 11) (.t 9))])
 (.seq (.region [o 12 (.mv (.t 0)),
 o 13 (.nilc (.t 12)),
 o 14 (.off 0 (.t 13)),
 o 15 (.ld 1 false (.t 14)),
 o 16 (.bin .gtr 3 false true (.t 15) (.k (.im (.sc (.int .i64 4096)))))])
 (.cond (.t 16)
 (.region [o 17 (.call 186 [(.k (.im (.sc (.int .i64 5))))])])
 .skip))) }
def b278 : List Nat := []

def f280 : IFunc :=
 { np := 2, res := [.cell 3 2 true, .tmp 4], body :=
 (.seq (.region [o 2 (.lbox (.t 0)),
 o 3 (.lalloc [(.im (.sc (.int .i64 0))), (.im (.sl [] .nil))]),
 o 4 (.mv (.k (.im (.sc (.int .i64 0)))))])
 (.seq (.region [o 5 (.ld 2 true (.b 2)),
 o 6 (.ld 1 false (.t 1)),
 o 7 (.call 281 [(.t 5), (.t 6)]),
 o 8 (.extract (.t 7) 0),
 o 9 (.extract (.t 7) 1),
 e (.st 2 (.b 3) (.t 8)),
 o 4 (.mv (.t 9))])
 .ret)) }
def b280 : List Nat := [2, 3]

def f281 : IFunc :=
 { np := 2, res := [.cell 4 2 true, .tmp 5], body :=
 (.seq (.region [o 2 (.lbox (.t 0)),
 o 4 (.lalloc [(.im (.sc (.int .i64 0))), (.im (.sl [] .nil))]),
 o 5 (.mv (.k (.im (.sc (.int .i64 0)))))])
 (.seq (.seq (.region [o 9 (.ld 2 true (.b 2)),
 o 10 (.call 141 [(.t 9)]),
 o 11 (.un .not (.t 10)),
 o 12 (.mv (.t 11)),
 ⟨(some 13), .mv (.t 1), (some (12, false))⟩,
 ⟨(some 14), .call 188 [(.t 13)], (some (12, false))⟩,
 ⟨(some 15), .un .not (.t 14), (some (12, false))⟩,
 o 16 (.pick (.t 12) (.k (.im (.sc (.bool true)))) (.t 15))])
 (.cond (.t 16)
 (.seq (.region [o 17 (.build [(.im (.sc (.int .i64 0))), (.im (.sl [] .nil))] []),
 e (.st 2 (.b 4) (.t 17)),
 o 5 (.mv (.k (.im (.sc (.int .i64 3)))))])
 .ret)
 .skip))
 (.seq (.seq (.region [o 18 (.ld 2 true (.b 2)),
 o 19 (.call 326 [(.t 18)]),
 o 20 (.mv (.t 1)),
 o 21 (.len .sl (.t 20)),
 o 22 (.bin .gtr 3 false false (.t 19) (.t 21))])
 (.cond (.t 22)
 (.seq (.region [o 23 (.build [(.im (.sc (.int .i64 0))), (.im (.sl [] .nil))] []),
 e (.st 2 (.b 4) (.t 23)),
 o 5 (.mv (.k (.im (.sc (.int .i64 24)))))])
 .ret)
 .skip))
 (.seq (.region [o 24 (.call 189 []),
 o 6 (.mv (.t 24))])
 (.seq (.region [o 25 (.mv (.t 6)),
 o 26 (.off 0 (.b 2)),
 o 27 (.ld 1 false (.t 26)),
 o 28 (.nilc (.t 25)),
 o 29 (.off 1 (.t 28)),
 e (.st 1 (.t 29) (.t 27))])
 (.seq (.seq (.region [o 30 (.off 1 (.b 2)),
 o 31 (.ld 1 false (.t 30)),
 o 32 (.len .sl (.t 31)),
 o 33 (.mv (.k (.im (.sc (.int .i64 0)))))])
 (.block 0 (.loop [1, 5, 6, 31, 32, 33] [4] (.seq (.region [o 34 (.bin .lss 3 false false (.t 33) (.t 32))])
 (.seq (.cond (.t 34)
 .skip
 (.exit 0))
 (.seq (.block 1 (.seq (.region [o 35 (.idxA 2 none (.t 31) (.t 33)),
 o 36 (.ld 2 true (.t 35)),
 o 8 (.lalloc [(.im (.sc (.int .i64 0))), (.im (.sc (.int .i64 0)))]),
 e (.st 2 (.b 8) (.t 36))])
 (.seq (.region [o 37 (.off 0 (.b 8)),
 o 38 (.ld 1 false (.t 37)),
 o 39 (.bin .lss 3 false true (.t 38) (.k (.im (.sc (.int .i64 0)))))])
 (.cond (.t 39)
 (.draw [o 40 (.mv (.t 6)),
 o 41 (.nilc (.t 40)),
 o 42 (.off 0 (.t 41)),
 o 43 (.ld 1 false (.t 42)),
 o 44 (.off 0 (.b 8)),
 o 45 (.ld 1 false (.t 44)),
 o 46 (.off 1 (.b 8)),
 o 47 (.ld 1 false (.t 46)),
 o 48 (.call 191 [(.t 43), (.t 45), (.t 47)])] [0, 0, 0, 0, 15, 15, 63, 63, 0])
 (.draw [o 49 (.mv (.t 6)),
 o 50 (.mv (.t 1)),
 o 51 (.off 0 (.b 8)),
 o 52 (.ld 1 false (.t 51)),
 o 53 (.idxA 2 none (.t 50) (.t 52)),
 o 54 (.ld 2 true (.t 53)),
 o 55 (.off 1 (.b 8)),
 o 56 (.ld 1 false (.t 55)),
 o 57 (.call 190 [(.t 49), (.t 54), (.t 56)])] [0, 1, 3, 3, 1, 1, 63, 63, 0])))))
 (.region [o 58 (.bin .add 3 false true (.t 33) (.k (.im (.sc (.int .i64 1))))),
 o 33 (.mv (.t 58))])))))))
 (.seq (.region [o 59 (.mv (.t 6)),
 o 60 (.call 192 [(.t 59)]),
 o 61 (.extract (.t 60) 0),
 o 62 (.extract (.t 60) 1),
 e (.st 2 (.b 4) (.t 61)),
 o 5 (.mv (.t 62))])
 .ret))))))) }
def b281 : List Nat := [2, 4, 8]

def f282 : IFunc :=
 { np := 4, res := [], body :=
 (.region [o 6 (.mv (.t 0)),
 o 7 (.ld 5 true (.t 1)),
 o 8 (.call 283 [(.t 6), (.t 7)]),
 o 5 (.mv (.t 8)),
 o 9 (.extract (.t 5) 0),
 o 10 (.extract (.t 5) 1),
 e (.st 1 (.t 2) (.t 9)),
 e (.st 1 (.t 3) (.t 10))]) }
def b282 : List Nat := []

def f283 : IFunc :=
 { np := 2, res := [.tmp 4, .tmp 5], body :=
 (.seq (.region [o 3 (.lbox (.t 1)),
 o 4 (.mv (.k (.im (.sc (.int .i64 0))))),
 o 5 (.mv (.k (.im (.sc (.bool false)))))])
 (.seq (.region [o 18 (.mv (.t 0)),
 o 19 (.ld 5 true (.b 3)),
 o 20 (.call 274 [(.t 18), (.t 19)]),
 o 21 (.call 163 [(.t 20)]),
 o 17 (.mv (.t 21)),
 o 22 (.extract (.t 17) 0),
 o 23 (.extract (.t 17) 1),
 o 6 (.lalloc [(.im (.sc (.int .i64 0))), (.im (.sc (.int .i64 0))), (.im (.sc (.string ⟨#[]⟩))), (.im (.sl [] .nil)), (.im (.sl [] .nil))]),
 e (.st 5 (.b 6) (.t 22)),
 o 7 (.mv (.t 23))])
 (.seq (.seq (.region [o 24 (.off 0 (.b 6)),
 o 25 (.ld 1 false (.t 24))])
 (.block 0 (.seq (.region [o 27 (.bin .eql 3 false true (.t 25) (.k (.im (.sc (.int .i64 12))))),
 o 26 (.mv (.t 27))])
 (.cond (.t 26)
 (.seq (.region [o 28 (.off 1 (.b 6)),
 o 29 (.ld 1 false (.t 28)),
 o 4 (.mv (.t 29)),
 o 5 (.mv (.k (.im (.sc (.bool true)))))])
 .ret)
 (.seq (.seq (.region [o 31 (.bin .eql 3 false true (.t 25) (.k (.im (.sc (.int .i64 9))))),
 o 30 (.mv (.t 31))])
 (.cond (.t 30)
 .skip
 (.region [o 32 (.bin .eql 3 false true (.t 25) (.k (.im (.sc (.int .i64 10))))),
 o 30 (.mv (.t 32))])))
 (.cond (.t 30)
 (.seq (.region [o 33 (.mv (.t 0)),
 o 34 (.off 4 (.b 6)),
 o 35 (.ld 1 false (.t 34)),
 o 36 (.idxA 5 none (.t 35) (.k (.im (.sc (.int .i64 0))))),
 o 37 (.ld 5 true (.t 36)),
 o 38 (.call 283 [(.t 33), (.t 37)]),
 o 39 (.extract (.t 38) 0),
 o 40 (.extract (.t 38) 1),
 o 4 (.mv (.t 39)),
 o 5 (.mv (.t 40))])
 .ret)
 (.seq (.region [o 42 (.bin .eql 3 false true (.t 25) (.k (.im (.sc (.int .i64 3))))),
 o 41 (.mv (.t 42))])
 (.cond (.t 41)
 (.seq (.region [o 44 (.mv (.t 0)),
 o 45 (.ld 5 true (.b 6)),
 o 46 (.call 327 [(.t 44), (.t 45)]),
 o 43 (.mv (.t 46)),
 o 47 (.extract (.t 43) 0),
 o 48 (.extract (.t 43) 1),
 o 8 (.lalloc [(.im (.sc (.int .i64 0))), (.im (.sc (.int .i64 0))), (.im (.sc (.int .i64 0))), (.im (.sc (.int .i64 0))), (.im (.sc (.int .i64 0))), (.im (.sc (.int .i64 0))), (.im (.sc (.string ⟨#[]⟩))), (.im (.sl [] .nil)), (.im (.sl [] .nil))]),
 e (.st 9 (.b 8) (.t 47)),
 o 9 (.mv (.t 48))])
 (.seq (.seq (.region [o 49 (.mv (.t 9)),
 o 50 (.un .not (.t 49))])
 (.cond (.t 50)
 (.seq (.region [o 4 (.mv (.k (.im (.sc (.int .i64 0))))),
 o 5 (.mv (.k (.im (.sc (.bool false)))))])
 .ret)
 .skip))
 (.seq (.draw [o 51 (.mv (.t 0)),
 o 52 (.nilc (.t 51)),
 o 53 (.off 0 (.t 52)),
 o 54 (.ld 1 false (.t 53)),
 o 55 (.off 1 (.b 8)),
 o 56 (.ld 1 false (.t 55)),
 o 57 (.idxA 23 none (.t 54) (.t 56)),
 o 58 (.ld 23 true (.t 57)),
 o 10 (.lalloc [(.im (.sc (.int .i64 0))), (.im (.sc (.string ⟨#[]⟩))), (.im (.sc (.int .i64 0))), (.im (.sc (.int .i64 0))), (.im (.sc (.int .i64 0))), (.im (.sc (.string ⟨#[]⟩))), (.im (.sl [] .nil)), (.im (.sl [] .nil)), (.im (.sc (.int .i64 0))), (.im (.sc (.int .i64 0))), (.im (.sc (.string ⟨#[]⟩))), (.im (.sl [] .nil)), (.im (.sl [] .nil)), (.im (.sc (.int .i64 0))), (.im (.sl [] .nil)), (.im (.sc (.int .i64 0))), (.im (.sc (.int .i64 0))), (.im (.sc (.int .i64 0))), (.im (.sc (.string ⟨#[]⟩))), (.im (.sl [] .nil)), (.im (.sl [] .nil)), (.im (.sl [] .nil)), (.im (.sl [] .nil))]),
 e (.st 23 (.b 10) (.t 58))] [0, 0, 0, 0, 15, 15, 0, 0, 255, 0])
 (.seq (.region [o 59 (.off 0 (.b 8)),
 o 60 (.ld 1 false (.t 59))])
 (.block 1 (.seq (.region [o 62 (.bin .eql 3 false true (.t 60) (.k (.im (.sc (.int .i64 5))))),
 o 61 (.mv (.t 62))])
 (.cond (.t 61)
 (.seq (.region [o 63 (.ld 23 true (.b 10)),
 o 64 (.call 328 [(.t 63)]),
 o 11 (.mv (.t 64))])
 (.seq (.region [o 65 (.mv (.t 7)),
 o 66 (.len .sl (.t 65)),
 o 67 (.mv (.t 11)),
 o 68 (.bin .gtr 3 false false (.t 66) (.t 67))])
 (.cond (.t 68)
 (.seq (.region [o 69 (.mv (.t 0)),
 o 70 (.mv (.t 7)),
 o 71 (.mv (.t 11)),
 o 72 (.idxA 5 none (.t 70) (.t 71)),
 o 73 (.ld 5 true (.t 72)),
 o 74 (.call 283 [(.t 69), (.t 73)]),
 o 75 (.extract (.t 74) 0),
 o 76 (.extract (.t 74) 1),
 o 4 (.mv (.t 75)),
 o 5 (.mv (.t 76))])
 .ret)
 .skip)))
 (.seq (.region [o 78 (.bin .eql 3 false true (.t 60) (.k (.im (.sc (.int .i64 6))))),
 o 77 (.mv (.t 78))])
 (.cond (.t 77)
 (.seq (.region [o 79 (.off 22 (.b 10)),
 o 80 (.ld 1 false (.t 79)),
 o 81 (.off 2 (.b 8)),
 o 82 (.ld 1 false (.t 81)),
 o 83 (.idxA 15 none (.t 80) (.t 82)),
 o 84 (.ld 15 true (.t 83)),
 o 12 (.lalloc [(.im (.sc (.string ⟨#[]⟩))), (.im (.sc (.int .i64 0))), (.im (.sc (.int .i64 0))), (.im (.sc (.string ⟨#[]⟩))), (.im (.sl [] .nil)), (.im (.sl [] .nil)), (.im (.sc (.int .i64 0))), (.im (.sc (.int .i64 0))), (.im (.sc (.int .i64 0))), (.im (.sc (.int .i64 0))), (.im (.sc (.string ⟨#[]⟩))), (.im (.sl [] .nil)), (.im (.sl [] .nil)), (.im (.sc (.int .i64 0))), (.im (.sl [] .nil))]),
 e (.st 15 (.b 12) (.t 84))])
 (.seq (.seq (.region [o 85 (.mv (.t 7)),
 o 86 (.len .sl (.t 85)),
 o 87 (.off 6 (.b 12)),
 o 88 (.ld 1 false (.t 87)),
 o 89 (.bin .lss 3 false false (.t 86) (.t 88))])
 (.cond (.t 89)
 (.seq (.region [o 4 (.mv (.k (.im (.sc (.int .i64 0))))),
 o 5 (.mv (.k (.im (.sc (.bool false)))))])
 .ret)
 .skip))
 (.seq (.draw [o 91 (.mv (.t 0)),
 o 92 (.off 7 (.b 12)),
 o 93 (.ld 8 true (.t 92)),
 o 94 (.mv (.t 7)),
 o 95 (.off 6 (.b 12)),
 o 96 (.ld 1 false (.t 95)),
 o 97 (.slc 24 5 (.t 94) none (some (.t 96)) none),
 o 98 (.call 329 [(.t 91), (.t 93), (.t 97)]),
 o 90 (.mv (.t 98)),
 o 99 (.extract (.t 90) 0),
 o 100 (.extract (.t 90) 1),
 o 101 (.extract (.t 90) 2),
 o 102 (.extract (.t 90) 3),
 o 13 (.lalloc [(.im (.sc (.int .i64 0))), (.im (.sc (.int .i64 0))), (.im (.sc (.string ⟨#[]⟩))), (.im (.sl [] .nil)), (.im (.sl [] .nil))]),
 o 16 (.lalloc [(.im (.sc (.int .i64 0))), (.im (.sc (.int .i64 0))), (.im (.sc (.string ⟨#[]⟩))), (.im (.sl [] .nil)), (.im (.sl [] .nil))]),
 e (.st 5 (.b 13) (.t 99)),
 o 14 (.mv (.t 100)),
 o 15 (.mv (.t 101)),
 e (.st 5 (.b 16) (.t 102))] [0, 1, 1, 7, 15, 15, 7, 0, 0, 0, 512, 1536, 3584, 8191, 16383, 7168, 6144, 4096, 0])
 (.seq (.region [o 103 (.mv (.t 15)),
 o 104 (.un .not (.t 103)),
 o 105 (.mv (.t 104)),
 ⟨(some 106), .ld 5 true (.b 16), (some (105, true))⟩,
 ⟨(some 107), .build [(.im (.sc (.int .i64 0))), (.im (.sc (.int .i64 0))), (.im (.sc (.string ⟨#[]⟩))), (.im (.sl [] .nil)), (.im (.sl [] .nil))] [], (some (105, true))⟩,
 ⟨(some 108), .call 87 [(.t 106), (.t 107)], (some (105, true))⟩,
 ⟨(some 109), .un .not (.t 108), (some (105, true))⟩,
 o 110 (.pick (.t 105) (.t 109) (.k (.im (.sc (.bool false)))))])
 (.cond (.t 110)
 (.seq (.region [o 111 (.mv (.t 0)),
 o 112 (.ld 5 true (.b 16)),
 o 113 (.call 283 [(.t 111), (.t 112)]),
 o 114 (.extract (.t 113) 0),
 o 115 (.extract (.t 113) 1),
 o 4 (.mv (.t 114)),
 o 5 (.mv (.t 115))])
 .ret)
 .skip)))))
 .skip)))))))))
 .skip))))))))
 (.seq (.region [o 4 (.mv (.k (.im (.sc (.int .i64 0))))),
 o 5 (.mv (.k (.im (.sc (.bool false)))))])
 .ret)))) }
def b283 : List Nat := [3, 6, 8, 10, 12, 13, 16]

def f284 : IFunc :=
 { np := 1, res := [.tmp 2], body :=
 (.seq (.region [o 1 (.lbox (.t 0)),
 o 2 (.mv (.k (.im (.sc (.bool false)))))])
 (.seq (.region [o 3 (.off 0 (.b 1)),
 o 4 (.ld 1 false (.t 3)),
 o 5 (.bin .eql 3 false true (.t 4) (.k (.im (.sc (.int .i64 1))))),
 o 6 (.mv (.t 5)),
 ⟨(some 7), .off 0 (.b 1), (some (6, false))⟩,
 ⟨(some 8), .ld 1 false (.t 7), (some (6, false))⟩,
 ⟨(some 9), .bin .eql 3 false true (.t 8) (.k (.im (.sc (.int .i64 2)))), (some (6, false))⟩,
 o 10 (.pick (.t 6) (.k (.im (.sc (.bool true)))) (.t 9)),
 o 2 (.mv (.t 10))])
 .ret)) }
def b284 : List Nat := [1]

def f287 : IFunc :=
 { np := 2, res := [.tmp 4], body :=
 (.seq (.region [o 3 (.lbox (.t 1)),
 o 4 (.mv (.k (.im (.sc (.bool false)))))])
 (.seq (.region [o 10 (.ld 5 true (.b 3)),
 o 11 (.call 163 [(.t 10)]),
 o 9 (.mv (.t 11)),
 o 12 (.extract (.t 9) 0),
 o 13 (.extract (.t 9) 1),
 o 5 (.lalloc [(.im (.sc (.int .i64 0))), (.im (.sc (.int .i64 0))), (.im (.sc (.string ⟨#[]⟩))), (.im (.sl [] .nil)), (.im (.sl [] .nil))]),
 e (.st 5 (.b 5) (.t 12)),
 o 6 (.mv (.t 13))])
 (.seq (.seq (.region [o 14 (.off 0 (.b 5)),
 o 15 (.ld 1 false (.t 14)),
 o 16 (.bin .neq 3 false true (.t 15) (.k (.im (.sc (.int .i64 3)))))])
 (.cond (.t 16)
 (.seq (.region [o 4 (.mv (.k (.im (.sc (.bool false)))))])
 .ret)
 .skip))
 (.seq (.draw [o 18 (.mv (.t 0)),
 o 19 (.nilc (.t 18)),
 o 20 (.off 0 (.t 19)),
 o 21 (.ld 1 false (.t 20)),
 o 22 (.off 2 (.b 5)),
 o 23 (.ld 1 false (.t 22)),
 o 24 (.call 47 [(.t 21), (.t 23)]),
 o 17 (.mv (.t 24)),
 o 25 (.extract (.t 17) 0),
 o 26 (.extract (.t 17) 1),
 o 7 (.lalloc [(.im (.sc (.int .i64 0))), (.im (.sc (.int .i64 0))), (.im (.sc (.int .i64 0))), (.im (.sc (.int .i64 0))), (.im (.sc (.int .i64 0))), (.im (.sc (.int .i64 0))), (.im (.sc (.string ⟨#[]⟩))), (.im (.sl [] .nil)), (.im (.sl [] .nil))]),
 e (.st 9 (.b 7) (.t 25)),
 o 8 (.mv (.t 26))] [0, 0, 0, 0, 15, 15, 0, 0, 0, 256, 1023, 512, 0])
 (.seq (.draw [o 27 (.mv (.t 8)),
 o 28 (.bin .eql 39 false true (.t 27) (.k (.im (.sc (.int .i64 0))))),
 o 29 (.mv (.t 28)),
 ⟨(some 30), .off 0 (.b 7), (some (29, true))⟩,
 ⟨(some 31), .ld 1 false (.t 30), (some (29, true))⟩,
 ⟨(some 32), .bin .eql 3 false true (.t 31) (.k (.im (.sc (.int .i64 6)))), (some (29, true))⟩,
 o 33 (.pick (.t 29) (.t 32) (.k (.im (.sc (.bool false))))),
 o 34 (.mv (.t 33)),
 ⟨(some 35), .off 3 (.b 7), (some (34, true))⟩,
 ⟨(some 36), .ld 1 false (.t 35), (some (34, true))⟩,
 ⟨(some 37), .off 3 (.b 5), (some (34, true))⟩,
 ⟨(some 38), .ld 1 false (.t 37), (some (34, true))⟩,
 ⟨(some 39), .len .sl (.t 38), (some (34, true))⟩,
 ⟨(some 40), .bin .eql 3 false false (.t 36) (.t 39), (some (34, true))⟩,
 o 41 (.pick (.t 34) (.t 40) (.k (.im (.sc (.bool false))))),
 o 42 (.mv (.t 41)),
 ⟨(some 43), .mv (.t 6), (some (42, true))⟩,
 ⟨(some 44), .len .sl (.t 43), (some (42, true))⟩,
 ⟨(some 45), .mv (.t 0), (some (42, true))⟩,
 ⟨(some 46), .nilc (.t 45), (some (42, true))⟩,
 ⟨(some 47), .off 0 (.t 46), (some (42, true))⟩,
 ⟨(some 48), .ld 1 false (.t 47), (some (42, true))⟩,
 ⟨(some 49), .off 1 (.b 7), (some (42, true))⟩,
 ⟨(some 50), .ld 1 false (.t 49), (some (42, true))⟩,
 ⟨(some 51), .idxA 23 none (.t 48) (.t 50), (some (42, true))⟩,
 ⟨(some 52), .off 22 (.t 51), (some (42, true))⟩,
 ⟨(some 53), .ld 1 false (.t 52), (some (42, true))⟩,
 ⟨(some 54), .off 2 (.b 7), (some (42, true))⟩,
 ⟨(some 55), .ld 1 false (.t 54), (some (42, true))⟩,
 ⟨(some 56), .idxA 15 none (.t 53) (.t 55), (some (42, true))⟩,
 ⟨(some 57), .off 6 (.t 56), (some (42, true))⟩,
 ⟨(some 58), .ld 1 false (.t 57), (some (42, true))⟩,
 ⟨(some 59), .bin .lss 3 false false (.t 44) (.t 58), (some (42, true))⟩,
 o 60 (.pick (.t 42) (.t 59) (.k (.im (.sc (.bool false))))),
 o 4 (.mv (.t 60))] [0, 0, 0, 0, 0, 0, 0, 0, 0, 0, 768, 768, 768, 0, 0, 0, 0, 0, 196608, 196608, 196608, 196608, 4128768, 4128768, 196608, 196608, 196608, 134152192, 134152192, 196608, 196608, 196608, 0, 0, 0])
 .ret))))) }
def b287 : List Nat := [3, 5, 7]

def f292 : IFunc :=
 { np := 1, res := [.cell 2 5 true], body :=
 (.seq (.region [o 1 (.lbox (.t 0)),
 o 2 (.lalloc [(.im (.sc (.int .i64 0))), (.im (.sc (.int .i64 0))), (.im (.sc (.string ⟨#[]⟩))), (.im (.sl [] .nil)), (.im (.sl [] .nil))])])
 (.seq (.region [o 6 (.ld 5 true (.b 1)),
 o 7 (.call 163 [(.t 6)]),
 o 5 (.mv (.t 7)),
 o 8 (.extract (.t 5) 0),
 o 9 (.extract (.t 5) 1),
 o 3 (.lalloc [(.im (.sc (.int .i64 0))), (.im (.sc (.int .i64 0))), (.im (.sc (.string ⟨#[]⟩))), (.im (.sl [] .nil)), (.im (.sl [] .nil))]),
 e (.st 5 (.b 3) (.t 8)),
 o 4 (.mv (.t 9))])
 (.seq (.region [o 10 (.ld 5 true (.b 3)),
 e (.st 5 (.b 2) (.t 10))])
 .ret))) }
def b292 : List Nat := [1, 2, 3]

def f299 : IFunc :=
 { np := 1, res := [.tmp 2], body :=
 (.seq (.region [o 1 (.lbox (.t 0)),
 o 2 (.mv (.k (.im (.sc (.bool false)))))])
 (.seq (.region [o 6 (.ld 5 true (.b 1)),
 o 7 (.call 163 [(.t 6)]),
 o 5 (.mv (.t 7)),
 o 8 (.extract (.t 5) 0),
 o 9 (.extract (.t 5) 1),
 o 3 (.lalloc [(.im (.sc (.int .i64 0))), (.im (.sc (.int .i64 0))), (.im (.sc (.string ⟨#[]⟩))), (.im (.sl [] .nil)), (.im (.sl [] .nil))]),
 e (.st 5 (.b 3) (.t 8)),
 o 4 (.mv (.t 9))])
 (.seq (.region [o 10 (.mv (.t 4)),
 o 11 (.len .sl (.t 10)),
 o 12 (.bin .gtr 3 false true (.t 11) (.k (.im (.sc (.int .i64 0))))),
 o 13 (.mv (.t 12)),
 ⟨(some 14), .off 0 (.b 3), (some (13, true))⟩,
 ⟨(some 15), .ld 1 false (.t 14), (some (13, true))⟩,
 ⟨(some 16), .bin .eql 3 false true (.t 15) (.k (.im (.sc (.int .i64 1)))), (some (13, true))⟩,
 ⟨(some 17), .mv (.t 16), (some (13, true))⟩,
 ⟨(some 18), .off 0 (.b 3), (some (17, false))⟩,
 ⟨(some 19), .ld 1 false (.t 18), (some (17, false))⟩,
 ⟨(some 20), .bin .eql 3 false true (.t 19) (.k (.im (.sc (.int .i64 2)))), (some (17, false))⟩,
 ⟨(some 21), .pick (.t 17) (.k (.im (.sc (.bool true)))) (.t 20), (some (13, true))⟩,
 ⟨(some 22), .mv (.t 21), (some (13, true))⟩,
 ⟨(some 23), .off 0 (.b 3), (some (22, false))⟩,
 ⟨(some 24), .ld 1 false (.t 23), (some (22, false))⟩,
 ⟨(some 25), .bin .eql 3 false true (.t 24) (.k (.im (.sc (.int .i64 6)))), (some (22, false))⟩,
 ⟨(some 26), .pick (.t 22) (.k (.im (.sc (.bool true)))) (.t 25), (some (13, true))⟩,
 ⟨(some 27), .mv (.t 26), (some (13, true))⟩,
 ⟨(some 28), .off 0 (.b 3), (some (27, false))⟩,
 ⟨(some 29), .ld 1 false (.t 28), (some (27, false))⟩,
 ⟨(some 30), .bin .eql 3 false true (.t 29) (.k (.im (.sc (.int .i64 7)))), (some (27, false))⟩,
 ⟨(some 31), .pick (.t 27) (.k (.im (.sc (.bool true)))) (.t 30), (some (13, true))⟩,
 ⟨(some 32), .mv (.t 31), (some (13, true))⟩,
 ⟨(some 33), .off 0 (.b 3), (some (32, false))⟩,
 ⟨(some 34), .ld 1 false (.t 33), (some (32, false))⟩,
 ⟨(some 35), .bin .eql 3 false true (.t 34) (.k (.im (.sc (.int .i64 8)))), (some (32, false))⟩,
 ⟨(some 36), .pick (.t 32) (.k (.im (.sc (.bool true)))) (.t 35), (some (13, true))⟩,
 o 37 (.pick (.t 13) (.t 36) (.k (.im (.sc (.bool false))))),
 o 2 (.mv (.t 37))])
 .ret))) }
def b299 : List Nat := [1, 3]

def f306 : IFunc :=
 { np := 1, res := [.tmp 2], body :=
 (.seq (.region [o 2 (.mv (.k (.im (.sl [] .nil))))])
 (.seq (.region [o 3 (.mv (.t 0)),
 o 4 (.call 345 [(.k (.im (.sl [] .nil))), (.t 3)]),
 o 2 (.mv (.t 4))])
 .ret)) }
def b306 : List Nat := []

def f307 : IFunc :=
 { np := 2, res := [], body :=
 (.rangeMap [o 4 (.ld 1 false (.t 1))] (.t 4) 5 6 7 8 0 1 [o 9 (.extract (.t 8) 0),
 o 3 (.mv (.t 9))]
 (.seq (.region [o 10 (.mv (.t 0)),
 o 11 (.mv (.t 3)),
 o 12 (.calld (.t 10) [(.t 11)]),
 o 13 (.un .not (.t 12))])
 (.cond (.t 13)
 .ret
 .skip))) }
def b307 : List Nat := []

def f309 : IFunc :=
 { np := 2, res := [.cell 4 5 true], body :=
 (.seq (.region [o 2 (.lbox (.t 0)),
 o 3 (.lbox (.t 1)),
 o 4 (.lalloc [(.im (.sc (.int .i64 0))), (.im (.sc (.int .i64 0))), (.im (.sc (.string ⟨#[]⟩))), (.im (.sl [] .nil)), (.im (.sl [] .nil))])])
 (.seq (.region [o 8 (.ld 5 true (.b 2)),
 o 9 (.ld 5 true (.b 3)),
 o 10 (.mkS 5 1 [(.im (.sc (.int .i64 0))), (.im (.sc (.int .i64 0))), (.im (.sc (.string ⟨#[]⟩))), (.im (.sl [] .nil)), (.im (.sl [] .nil))] [(0, (.t 9))]),
 o 11 (.call 165 [(.t 8), (.t 10)]),
 o 7 (.mv (.t 11)),
 o 12 (.extract (.t 7) 0),
 o 13 (.extract (.t 7) 1),
 o 5 (.lalloc [(.im (.sc (.int .i64 0))), (.im (.sc (.int .i64 0))), (.im (.sc (.string ⟨#[]⟩))), (.im (.sl [] .nil)), (.im (.sl [] .nil))]),
 e (.st 5 (.b 5) (.t 12)),
 o 6 (.mv (.t 13))])
 (.seq (.seq (.region [o 14 (.mv (.t 6)),
 o 15 (.bin .neq 39 false true (.t 14) (.k (.im (.sc (.int .i64 0)))))])
 (.cond (.t 15)
 (.region [o 16 (.call 137 [(.k (.im (.sc (.int .i64 11))))])])
 .skip))
 (.seq (.region [o 17 (.ld 5 true (.b 5)),
 e (.st 5 (.b 4) (.t 17))])
 .ret)))) }
def b309 : List Nat := [2, 3, 4, 5]

def f321 : IFunc :=
 { np := 3, res := [.cell 5 5 true, .tmp 6], body :=
 (.seq (.region [o 3 (.lbox (.t 0)),
 o 5 (.lalloc [(.im (.sc (.int .i64 0))), (.im (.sc (.int .i64 0))), (.im (.sc (.string ⟨#[]⟩))), (.im (.sl [] .nil)), (.im (.sl [] .nil))]),
 o 6 (.mv (.k (.im (.sc (.bool false)))))])
 (.seq (.seq (.region [o 7 (.off 0 (.b 3)),
 o 8 (.ld 1 false (.t 7)),
 o 9 (.bin .eql 3 false true (.t 8) (.k (.im (.sc (.int .i64 0)))))])
 (.cond (.t 9)
 (.seq (.region [o 10 (.ld 1 false (.t 2)),
 o 11 (.ld 5 true (.b 3)),
 o 12 (.mv (.t 1)),
 o 13 (.calld (.t 10) [(.t 11), (.t 12)]),
 e (.st 5 (.b 5) (.t 13)),
 o 6 (.mv (.k (.im (.sc (.bool true)))))])
 .ret)
 .skip))
 (.seq (.region [o 14 (.ld 5 true (.b 3)),
 o 15 (.call 185 [(.t 14)]),
 e (.st 5 (.b 5) (.t 15)),
 o 6 (.mv (.k (.im (.sc (.bool false)))))])
 .ret))) }
def b321 : List Nat := [3, 5]

def f322 : IFunc :=
 { np := 1, res := [], body :=
 (.seq (.region [o 5 (.mv (.t 1)),
 o 6 (.isnil .ifc true (.t 5))])
 (.cond (.t 6)
 (.seq (.region [e (.st 1 (.t 0) (.k (.im (.sc (.int .i64 11)))))])
 (.seq (.region [o 8 (.mv (.t 1)),
 o 9 (.tass 357 [] true true (.t 8)),
 o 7 (.mv (.t 9)),
 o 10 (.extract (.t 7) 0),
 o 11 (.extract (.t 7) 1),
 o 2 (.lalloc []),
 e (.st 0 (.b 2) (.t 10)),
 o 3 (.mv (.t 11))])
 (.seq (.region [o 12 (.mv (.t 3)),
 o 13 (.un .not (.t 12))])
 (.cond (.t 13)
 (.region [e (.st 1 (.t 0) (.k (.im (.sc (.int .i64 3)))))])
 .skip))))
 .skip)), rcv := some (4, [o 1 (.mv (.t 4))]) }
def b322 : List Nat := [2]

def f325 : IFunc :=
 { np := 3, res := [.cell 6 5 true, .tmp 7], body :=
 (.seq (.region [o 4 (.lbox (.t 1)),
 o 6 (.lalloc [(.im (.sc (.int .i64 0))), (.im (.sc (.int .i64 0))), (.im (.sc (.string ⟨#[]⟩))), (.im (.sl [] .nil)), (.im (.sl [] .nil))]),
 o 7 (.mv (.k (.im (.sc (.bool false)))))])
 (.seq (.region [o 12 (.mv (.t 0)),
 o 13 (.ld 5 true (.b 4)),
 o 14 (.call 327 [(.t 12), (.t 13)]),
 o 11 (.mv (.t 14)),
 o 15 (.extract (.t 11) 0),
 o 16 (.extract (.t 11) 1),
 o 8 (.lalloc [(.im (.sc (.int .i64 0))), (.im (.sc (.int .i64 0))), (.im (.sc (.int .i64 0))), (.im (.sc (.int .i64 0))), (.im (.sc (.int .i64 0))), (.im (.sc (.int .i64 0))), (.im (.sc (.string ⟨#[]⟩))), (.im (.sl [] .nil)), (.im (.sl [] .nil))]),
 e (.st 9 (.b 8) (.t 15)),
 o 9 (.mv (.t 16))])
 (.seq (.seq (.region [o 17 (.mv (.t 9)),
 o 18 (.un .not (.t 17))])
 (.cond (.t 18)
 (.seq (.region [o 19 (.build [(.im (.sc (.int .i64 0))), (.im (.sc (.int .i64 0))), (.im (.sc (.string ⟨#[]⟩))), (.im (.sl [] .nil)), (.im (.sl [] .nil))] []),
 e (.st 5 (.b 6) (.t 19)),
 o 7 (.mv (.k (.im (.sc (.bool false)))))])
 .ret)
 .skip))
 (.seq (.region [o 20 (.mv (.t 0)),
 o 21 (.mkfn (.func 354) [(.t 20)] [] []),
 o 22 (.mv (.t 0)),
 o 23 (.mkfn (.func 355) [(.t 22)] [] []),
 o 24 (.mv (.t 0)),
 o 25 (.mkfn (.func 356) [(.t 24)] [] []),
 o 26 (.build [(.im (.sc .nilFunc)), (.im (.sc .nilFunc)), (.im (.sc .nilFunc)), (.im (.sc .nilFunc)), (.im (.sc .nilFunc)), (.im (.sc .nilFunc)), (.im (.sc .nilFunc))] [(1, 1, (.t 21)), (5, 1, (.t 23)), (6, 1, (.t 25))]),
 o 27 (.off 0 (.b 8)),
 o 28 (.ld 1 false (.t 27)),
 o 29 (.idxV 394 1 false (some 7) (.t 26) (.t 28)),
 o 10 (.mv (.t 29))])
 (.seq (.seq (.region [o 30 (.mv (.t 10)),
 o 31 (.isnil .fn false (.t 30))])
 (.cond (.t 31)
 (.seq (.region [o 32 (.build [(.im (.sc (.int .i64 0))), (.im (.sc (.int .i64 0))), (.im (.sc (.string ⟨#[]⟩))), (.im (.sl [] .nil)), (.im (.sl [] .nil))] []),
 e (.st 5 (.b 6) (.t 32)),
 o 7 (.mv (.k (.im (.sc (.bool false)))))])
 .ret)
 .skip))
 (.seq (.region [o 33 (.mv (.t 10)),
 o 34 (.ld 9 true (.b 8)),
 o 35 (.ld 5 true (.b 4)),
 o 36 (.mv (.t 2)),
 o 37 (.calld (.t 33) [(.t 34), (.t 35), (.t 36)]),
 o 38 (.extract (.t 37) 0),
 o 39 (.extract (.t 37) 1),
 e (.st 5 (.b 6) (.t 38)),
 o 7 (.mv (.t 39))])
 .ret)))))) }
def b325 : List Nat := [4, 6, 8]

def f326 : IFunc :=
 { np := 1, res := [.tmp 2], body :=
 (.seq (.region [o 1 (.lbox (.t 0)),
 o 2 (.mv (.k (.im (.sc (.int .i64 0)))))])
 (.seq (.seq (.region [o 4 (.off 1 (.b 1)),
 o 5 (.ld 1 false (.t 4)),
 o 6 (.len .sl (.t 5)),
 o 3 (.mv (.t 6))])
 (.seq (.region [o 7 (.ld 2 true (.b 1)),
 o 8 (.call 141 [(.t 7)]),
 o 9 (.mv (.t 8)),
 ⟨(some 10), .mv (.t 3), (some (9, true))⟩,
 ⟨(some 11), .bin .gtr 3 false true (.t 10) (.k (.im (.sc (.int .i64 0)))), (some (9, true))⟩,
 o 12 (.pick (.t 9) (.t 11) (.k (.im (.sc (.bool false)))))])
 (.cond (.t 12)
 (.seq (.region [o 13 (.off 1 (.b 1)),
 o 14 (.ld 1 false (.t 13)),
 o 15 (.mv (.t 3)),
 o 16 (.bin .sub 3 false true (.t 15) (.k (.im (.sc (.int .i64 1))))),
 o 17 (.idxA 2 none (.t 14) (.t 16)),
 o 18 (.off 0 (.t 17)),
 o 19 (.ld 1 false (.t 18)),
 o 20 (.bin .add 3 false true (.t 19) (.k (.im (.sc (.int .i64 1))))),
 o 21 (.sbuiltin .max [3, 3] 3 [(.k (.im (.sc (.int .i64 0)))), (.t 20)]),
 o 2 (.mv (.t 21))])
 .ret)
 .skip)))
 (.seq (.region [o 2 (.mv (.k (.im (.sc (.int .i64 0)))))])
 .ret))) }
def b326 : List Nat := [1]

def f327 : IFunc :=
 { np := 2, res := [.cell 4 9 true, .tmp 5], body :=
 (.seq (.region [o 3 (.lbox (.t 1)),
 o 4 (.lalloc [(.im (.sc (.int .i64 0))), (.im (.sc (.int .i64 0))), (.im (.sc (.int .i64 0))), (.im (.sc (.int .i64 0))), (.im (.sc (.int .i64 0))), (.im (.sc (.int .i64 0))), (.im (.sc (.string ⟨#[]⟩))), (.im (.sl [] .nil)), (.im (.sl [] .nil))]),
 o 5 (.mv (.k (.im (.sc (.bool false)))))])
 (.seq (.draw [o 9 (.mv (.t 0)),
 o 10 (.nilc (.t 9)),
 o 11 (.off 0 (.t 10)),
 o 12 (.ld 1 false (.t 11)),
 o 13 (.off 2 (.b 3)),
 o 14 (.ld 1 false (.t 13)),
 o 15 (.call 47 [(.t 12), (.t 14)]),
 o 8 (.mv (.t 15)),
 o 16 (.extract (.t 8) 0),
 o 17 (.extract (.t 8) 1),
 o 6 (.lalloc [(.im (.sc (.int .i64 0))), (.im (.sc (.int .i64 0))), (.im (.sc (.int .i64 0))), (.im (.sc (.int .i64 0))), (.im (.sc (.int .i64 0))), (.im (.sc (.int .i64 0))), (.im (.sc (.string ⟨#[]⟩))), (.im (.sl [] .nil)), (.im (.sl [] .nil))]),
 e (.st 9 (.b 6) (.t 16)),
 o 7 (.mv (.t 17))] [0, 0, 0, 0, 15, 15, 0, 0, 0, 256, 1023, 512, 0])
 (.seq (.draw [o 18 (.ld 9 true (.b 6)),
 o 19 (.mv (.t 7)),
 o 20 (.bin .eql 39 false true (.t 19) (.k (.im (.sc (.int .i64 0))))),
 o 21 (.mv (.t 20)),
 ⟨(some 22), .off 3 (.b 3), (some (21, true))⟩,
 ⟨(some 23), .ld 1 false (.t 22), (some (21, true))⟩,
 ⟨(some 24), .len .sl (.t 23), (some (21, true))⟩,
 ⟨(some 25), .off 3 (.b 6), (some (21, true))⟩,
 ⟨(some 26), .ld 1 false (.t 25), (some (21, true))⟩,
 ⟨(some 27), .bin .eql 3 false false (.t 24) (.t 26), (some (21, true))⟩,
 o 28 (.pick (.t 21) (.t 27) (.k (.im (.sc (.bool false))))),
 e (.st 9 (.b 4) (.t 18)),
 o 5 (.mv (.t 28))] [0, 1, 1, 1, 1, 1, 1, 113, 113, 1, 1, 2032, 0])
 .ret))) }
def b327 : List Nat := [3, 4, 6]

def f345 : IFunc :=
 { np := 2, res := [.tmp 4], body :=
 (.seq (.region [o 2 (.hbox (.t 0)),
 o 4 (.mv (.k (.im (.sl [] .nil))))])
 (.seq (.seq (.region [o 6 (.mv (.t 1))])
 (.block 0 (.rangeFunc (.t 6) [7] [2]
 (.region [o 5 (.mv (.t 7))])
 (.block 1 (.region [o 8 (.ld 1 false (.t 2)),
 o 9 (.mv (.t 5)),
 o 10 (.mkS 1 1 [(.im (.sc (.int .i64 0)))] [(0, (.t 9))]),
 o 11 (.append 1 false (.t 8) (.t 10)),
 e (.st 1 (.t 2) (.t 11))])))))
 (.seq (.region [o 12 (.ld 1 false (.t 2)),
 o 4 (.mv (.t 12))])
 .ret))) }
def b345 : List Nat := []

def f347 : IFunc :=
 { np := 2, res := [], body :=
 (.seq (.region [o 6 (.mv (.t 2)),
 o 7 (.isnil .ifc true (.t 6))])
 (.cond (.t 7)
 (.seq (.region [o 8 (.build [(.im (.sc (.int .i64 0))), (.im (.sc (.int .i64 0))), (.im (.sc (.string ⟨#[]⟩))), (.im (.sl [] .nil)), (.im (.sl [] .nil))] []),
 e (.st 5 (.t 0) (.t 8)),
 e (.st 1 (.t 1) (.k (.im (.sc (.int .i64 11)))))])
 (.seq (.region [o 10 (.mv (.t 2)),
 o 11 (.tass 382 [] true true (.t 10)),
 o 9 (.mv (.t 11)),
 o 12 (.extract (.t 9) 0),
 o 13 (.extract (.t 9) 1),
 o 3 (.lalloc []),
 e (.st 0 (.b 3) (.t 12)),
 o 4 (.mv (.t 13))])
 (.seq (.region [o 14 (.mv (.t 4)),
 o 15 (.un .not (.t 14))])
 (.cond (.t 15)
 (.region [e (.st 1 (.t 1) (.k (.im (.sc (.int .i64 3)))))])
 .skip))))
 .skip)), rcv := some (5, [o 2 (.mv (.t 5))]) }
def b347 : List Nat := [3]

def f362 : IFunc :=
 { np := 2, res := [], body :=
 (.seq (.region [o 4 (.mv (.t 2)),
 o 5 (.isnil .ifc true (.t 4))])
 (.cond (.t 5)
 (.region [o 6 (.build [(.im (.sc (.int .i64 0))), (.im (.sc (.int .i64 0))), (.im (.sc (.string ⟨#[]⟩))), (.im (.sl [] .nil)), (.im (.sl [] .nil))] []),
 o 7 (.mv (.t 2)),
 o 8 (.call 183 [(.t 7)]),
 e (.st 5 (.t 0) (.t 6)),
 e (.st 1 (.t 1) (.t 8))])
 .skip)), rcv := some (3, [o 2 (.mv (.t 3))]) }
def b362 : List Nat := []

def fn (n : Nat) : Option IFunc := (match Nat.ble 118 n with
  | true => (match Nat.ble 206 n with
  | true => (match Nat.ble 265 n with
  | true => (match Nat.ble 287 n with
  | true => (match Nat.ble 322 n with
  | true => (match Nat.ble 327 n with
  | true => (match Nat.ble 347 n with
  | true => (match Nat.ble 362 n with
  | true => (match Nat.beq n 362 with | true => some f362 | false => none)
  | false => (match Nat.beq n 347 with | true => some f347 | false => none))
  | false => (match Nat.ble 345 n with
  | true => (match Nat.beq n 345 with | true => some f345 | false => none)
  | false => (match Nat.beq n 327 with | true => some f327 | false => none)))
  | false => (match Nat.ble 325 n with
  | true => (match Nat.ble 326 n with
  | true => (match Nat.beq n 326 with | true => some f326 | false => none)
  | false => (match Nat.beq n 325 with | true => some f325 | false => none))
  | false => (match Nat.beq n 322 with | true => some f322 | false => none)))
  | false => (match Nat.ble 306 n with
  | true => (match Nat.ble 309 n with
  | true => (match Nat.ble 321 n with
  | true => (match Nat.beq n 321 with | true => some f321 | false => none)
  | false => (match Nat.beq n 309 with | true => some f309 | false => none))
  | false => (match Nat.ble 307 n with
  | true => (match Nat.beq n 307 with | true => some f307 | false => none)
  | false => (match Nat.beq n 306 with | true => some f306 | false => none)))
  | false => (match Nat.ble 292 n with
  | true => (match Nat.ble 299 n with
  | true => (match Nat.beq n 299 with | true => some f299 | false => none)
  | false => (match Nat.beq n 292 with | true => some f292 | false => none))
  | false => (match Nat.beq n 287 with | true => some f287 | false => none))))
  | false => (match Nat.ble 277 n with
  | true => (match Nat.ble 281 n with
  | true => (match Nat.ble 283 n with
  | true => (match Nat.ble 284 n with
  | true => (match Nat.beq n 284 with | true => some f284 | false => none)
  | false => (match Nat.beq n 283 with | true => some f283 | false => none))
  | false => (match Nat.ble 282 n with
  | true => (match Nat.beq n 282 with | true => some f282 | false => none)
  | false => (match Nat.beq n 281 with | true => some f281 | false => none)))
  | false => (match Nat.ble 278 n with
  | true => (match Nat.ble 280 n with
  | true => (match Nat.beq n 280 with | true => some f280 | false => none)
  | false => (match Nat.beq n 278 with | true => some f278 | false => none))
  | false => (match Nat.beq n 277 with | true => some f277 | false => none)))
  | false => (match Nat.ble 273 n with
  | true => (match Nat.ble 275 n with
  | true => (match Nat.ble 276 n with
  | true => (match Nat.beq n 276 with | true => some f276 | false => none)
  | false => (match Nat.beq n 275 with | true => some f275 | false => none))
  | false => (match Nat.ble 274 n with
  | true => (match Nat.beq n 274 with | true => some f274 | false => none)
  | false => (match Nat.beq n 273 with | true => some f273 | false => none)))
  | false => (match Nat.ble 269 n with
  | true => (match Nat.ble 272 n with
  | true => (match Nat.beq n 272 with | true => some f272 | false => none)
  | false => (match Nat.beq n 269 with | true => some f269 | false => none))
  | false => (match Nat.beq n 265 with | true => some f265 | false => none)))))
  | false => (match Nat.ble 222 n with
  | true => (match Nat.ble 238 n with
  | true => (match Nat.ble 242 n with
  | true => (match Nat.ble 247 n with
  | true => (match Nat.ble 261 n with
  | true => (match Nat.beq n 261 with | true => some f261 | false => none)
  | false => (match Nat.beq n 247 with | true => some f247 | false => none))
  | false => (match Nat.ble 246 n with
  | true => (match Nat.beq n 246 with | true => some f246 | false => none)
  | false => (match Nat.beq n 242 with | true => some f242 | false => none)))
  | false => (match Nat.ble 239 n with
  | true => (match Nat.ble 241 n with
  | true => (match Nat.beq n 241 with | true => some f241 | false => none)
  | false => (match Nat.beq n 239 with | true => some f239 | false => none))
  | false => (match Nat.beq n 238 with | true => some f238 | false => none)))
  | false => (match Nat.ble 225 n with
  | true => (match Nat.ble 227 n with
  | true => (match Nat.ble 228 n with
  | true => (match Nat.beq n 228 with | true => some f228 | false => none)
  | false => (match Nat.beq n 227 with | true => some f227 | false => none))
  | false => (match Nat.ble 226 n with
  | true => (match Nat.beq n 226 with | true => some f226 | false => none)
  | false => (match Nat.beq n 225 with | true => some f225 | false => none)))
  | false => (match Nat.ble 223 n with
  | true => (match Nat.ble 224 n with
  | true => (match Nat.beq n 224 with | true => some f224 | false => none)
  | false => (match Nat.beq n 223 with | true => some f223 | false => none))
  | false => (match Nat.beq n 222 with | true => some f222 | false => none))))
  | false => (match Nat.ble 213 n with
  | true => (match Nat.ble 218 n with
  | true => (match Nat.ble 220 n with
  | true => (match Nat.ble 221 n with
  | true => (match Nat.beq n 221 with | true => some f221 | false => none)
  | false => (match Nat.beq n 220 with | true => some f220 | false => none))
  | false => (match Nat.ble 219 n with
  | true => (match Nat.beq n 219 with | true => some f219 | false => none)
  | false => (match Nat.beq n 218 with | true => some f218 | false => none)))
  | false => (match Nat.ble 214 n with
  | true => (match Nat.ble 215 n with
  | true => (match Nat.beq n 215 with | true => some f215 | false => none)
  | false => (match Nat.beq n 214 with | true => some f214 | false => none))
  | false => (match Nat.beq n 213 with | true => some f213 | false => none)))
  | false => (match Nat.ble 209 n with
  | true => (match Nat.ble 211 n with
  | true => (match Nat.ble 212 n with
  | true => (match Nat.beq n 212 with | true => some f212 | false => none)
  | false => (match Nat.beq n 211 with | true => some f211 | false => none))
  | false => (match Nat.ble 210 n with
  | true => (match Nat.beq n 210 with | true => some f210 | false => none)
  | false => (match Nat.beq n 209 with | true => some f209 | false => none)))
  | false => (match Nat.ble 207 n with
  | true => (match Nat.ble 208 n with
  | true => (match Nat.beq n 208 with | true => some f208 | false => none)
  | false => (match Nat.beq n 207 with | true => some f207 | false => none))
  | false => (match Nat.beq n 206 with | true => some f206 | false => none))))))
  | false => (match Nat.ble 157 n with
  | true => (match Nat.ble 178 n with
  | true => (match Nat.ble 187 n with
  | true => (match Nat.ble 191 n with
  | true => (match Nat.ble 193 n with
  | true => (match Nat.ble 199 n with
  | true => (match Nat.beq n 199 with | true => some f199 | false => none)
  | false => (match Nat.beq n 193 with | true => some f193 | false => none))
  | false => (match Nat.ble 192 n with
  | true => (match Nat.beq n 192 with | true => some f192 | false => none)
  | false => (match Nat.beq n 191 with | true => some f191 | false => none)))
  | false => (match Nat.ble 188 n with
  | true => (match Nat.ble 189 n with
  | true => (match Nat.beq n 189 with | true => some f189 | false => none)
  | false => (match Nat.beq n 188 with | true => some f188 | false => none))
  | false => (match Nat.beq n 187 with | true => some f187 | false => none)))
  | false => (match Nat.ble 181 n with
  | true => (match Nat.ble 184 n with
  | true => (match Nat.ble 185 n with
  | true => (match Nat.beq n 185 with | true => some f185 | false => none)
  | false => (match Nat.beq n 184 with | true => some f184 | false => none))
  | false => (match Nat.ble 182 n with
  | true => (match Nat.beq n 182 with | true => some f182 | false => none)
  | false => (match Nat.beq n 181 with | true => some f181 | false => none)))
  | false => (match Nat.ble 179 n with
  | true => (match Nat.ble 180 n with
  | true => (match Nat.beq n 180 with | true => some f180 | false => none)
  | false => (match Nat.beq n 179 with | true => some f179 | false => none))
  | false => (match Nat.beq n 178 with | true => some f178 | false => none))))
  | false => (match Nat.ble 169 n with
  | true => (match Nat.ble 174 n with
  | true => (match Nat.ble 176 n with
  | true => (match Nat.ble 177 n with
  | true => (match Nat.beq n 177 with | true => some f177 | false => none)
  | false => (match Nat.beq n 176 with | true => some f176 | false => none))
  | false => (match Nat.ble 175 n with
  | true => (match Nat.beq n 175 with | true => some f175 | false => none)
  | false => (match Nat.beq n 174 with | true => some f174 | false => none)))
  | false => (match Nat.ble 172 n with
  | true => (match Nat.ble 173 n with
  | true => (match Nat.beq n 173 with | true => some f173 | false => none)
  | false => (match Nat.beq n 172 with | true => some f172 | false => none))
  | false => (match Nat.beq n 169 with | true => some f169 | false => none)))
  | false => (match Nat.ble 163 n with
  | true => (match Nat.ble 165 n with
  | true => (match Nat.ble 168 n with
  | true => (match Nat.beq n 168 with | true => some f168 | false => none)
  | false => (match Nat.beq n 165 with | true => some f165 | false => none))
  | false => (match Nat.ble 164 n with
  | true => (match Nat.beq n 164 with | true => some f164 | false => none)
  | false => (match Nat.beq n 163 with | true => some f163 | false => none)))
  | false => (match Nat.ble 160 n with
  | true => (match Nat.ble 162 n with
  | true => (match Nat.beq n 162 with | true => some f162 | false => none)
  | false => (match Nat.beq n 160 with | true => some f160 | false => none))
  | false => (match Nat.beq n 157 with | true => some f157 | false => none)))))
  | false => (match Nat.ble 135 n with
  | true => (match Nat.ble 150 n with
  | true => (match Nat.ble 153 n with
  | true => (match Nat.ble 155 n with
  | true => (match Nat.ble 156 n with
  | true => (match Nat.beq n 156 with | true => some f156 | false => none)
  | false => (match Nat.beq n 155 with | true => some f155 | false => none))
  | false => (match Nat.ble 154 n with
  | true => (match Nat.beq n 154 with | true => some f154 | false => none)
  | false => (match Nat.beq n 153 with | true => some f153 | false => none)))
  | false => (match Nat.ble 151 n with
  | true => (match Nat.ble 152 n with
  | true => (match Nat.beq n 152 with | true => some f152 | false => none)
  | false => (match Nat.beq n 151 with | true => some f151 | false => none))
  | false => (match Nat.beq n 150 with | true => some f150 | false => none)))
  | false => (match Nat.ble 140 n with
  | true => (match Nat.ble 148 n with
  | true => (match Nat.ble 149 n with
  | true => (match Nat.beq n 149 with | true => some f149 | false => none)
  | false => (match Nat.beq n 148 with | true => some f148 | false => none))
  | false => (match Nat.ble 141 n with
  | true => (match Nat.beq n 141 with | true => some f141 | false => none)
  | false => (match Nat.beq n 140 with | true => some f140 | false => none)))
  | false => (match Nat.ble 137 n with
  | true => (match Nat.ble 138 n with
  | true => (match Nat.beq n 138 with | true => some f138 | false => none)
  | false => (match Nat.beq n 137 with | true => some f137 | false => none))
  | false => (match Nat.beq n 135 with | true => some f135 | false => none))))
  | false => (match Nat.ble 125 n with
  | true => (match Nat.ble 130 n with
  | true => (match Nat.ble 133 n with
  | true => (match Nat.ble 134 n with
  | true => (match Nat.beq n 134 with | true => some f134 | false => none)
  | false => (match Nat.beq n 133 with | true => some f133 | false => none))
  | false => (match Nat.ble 132 n with
  | true => (match Nat.beq n 132 with | true => some f132 | false => none)
  | false => (match Nat.beq n 130 with | true => some f130 | false => none)))
  | false => (match Nat.ble 127 n with
  | true => (match Nat.ble 129 n with
  | true => (match Nat.beq n 129 with | true => some f129 | false => none)
  | false => (match Nat.beq n 127 with | true => some f127 | false => none))
  | false => (match Nat.beq n 125 with | true => some f125 | false => none)))
  | false => (match Nat.ble 122 n with
  | true => (match Nat.ble 123 n with
  | true => (match Nat.ble 124 n with
  | true => (match Nat.beq n 124 with | true => some f124 | false => none)
  | false => (match Nat.beq n 123 with | true => some f123 | false => none))
  | false => (match Nat.beq n 122 with | true => some f122 | false => none))
  | false => (match Nat.ble 120 n with
  | true => (match Nat.ble 121 n with
  | true => (match Nat.beq n 121 with | true => some f121 | false => none)
  | false => (match Nat.beq n 120 with | true => some f120 | false => none))
  | false => (match Nat.beq n 118 with | true => some f118 | false => none)))))))
  | false => (match Nat.ble 58 n with
  | true => (match Nat.ble 88 n with
  | true => (match Nat.ble 103 n with
  | true => (match Nat.ble 111 n with
  | true => (match Nat.ble 114 n with
  | true => (match Nat.ble 116 n with
  | true => (match Nat.ble 117 n with
  | true => (match Nat.beq n 117 with | true => some f117 | false => none)
  | false => (match Nat.beq n 116 with | true => some f116 | false => none))
  | false => (match Nat.ble 115 n with
  | true => (match Nat.beq n 115 with | true => some f115 | false => none)
  | false => (match Nat.beq n 114 with | true => some f114 | false => none)))
  | false => (match Nat.ble 112 n with
  | true => (match Nat.ble 113 n with
  | true => (match Nat.beq n 113 with | true => some f113 | false => none)
  | false => (match Nat.beq n 112 with | true => some f112 | false => none))
  | false => (match Nat.beq n 111 with | true => some f111 | false => none)))
  | false => (match Nat.ble 106 n with
  | true => (match Nat.ble 109 n with
  | true => (match Nat.ble 110 n with
  | true => (match Nat.beq n 110 with | true => some f110 | false => none)
  | false => (match Nat.beq n 109 with | true => some f109 | false => none))
  | false => (match Nat.ble 107 n with
  | true => (match Nat.beq n 107 with | true => some f107 | false => none)
  | false => (match Nat.beq n 106 with | true => some f106 | false => none)))
  | false => (match Nat.ble 104 n with
  | true => (match Nat.ble 105 n with
  | true => (match Nat.beq n 105 with | true => some f105 | false => none)
  | false => (match Nat.beq n 104 with | true => some f104 | false => none))
  | false => (match Nat.beq n 103 with | true => some f103 | false => none))))
  | false => (match Nat.ble 96 n with
  | true => (match Nat.ble 99 n with
  | true => (match Nat.ble 101 n with
  | true => (match Nat.ble 102 n with
  | true => (match Nat.beq n 102 with | true => some f102 | false => none)
  | false => (match Nat.beq n 101 with | true => some f101 | false => none))
  | false => (match Nat.ble 100 n with
  | true => (match Nat.beq n 100 with | true => some f100 | false => none)
  | false => (match Nat.beq n 99 with | true => some f99 | false => none)))
  | false => (match Nat.ble 97 n with
  | true => (match Nat.ble 98 n with
  | true => (match Nat.beq n 98 with | true => some f98 | false => none)
  | false => (match Nat.beq n 97 with | true => some f97 | false => none))
  | false => (match Nat.beq n 96 with | true => some f96 | false => none)))
  | false => (match Nat.ble 92 n with
  | true => (match Nat.ble 94 n with
  | true => (match Nat.ble 95 n with
  | true => (match Nat.beq n 95 with | true => some f95 | false => none)
  | false => (match Nat.beq n 94 with | true => some f94 | false => none))
  | false => (match Nat.ble 93 n with
  | true => (match Nat.beq n 93 with | true => some f93 | false => none)
  | false => (match Nat.beq n 92 with | true => some f92 | false => none)))
  | false => (match Nat.ble 90 n with
  | true => (match Nat.ble 91 n with
  | true => (match Nat.beq n 91 with | true => some f91 | false => none)
  | false => (match Nat.beq n 90 with | true => some f90 | false => none))
  | false => (match Nat.beq n 88 with | true => some f88 | false => none)))))
  | false => (match Nat.ble 72 n with
  | true => (match Nat.ble 79 n with
  | true => (match Nat.ble 82 n with
  | true => (match Nat.ble 85 n with
  | true => (match Nat.ble 87 n with
  | true => (match Nat.beq n 87 with | true => some f87 | false => none)
  | false => (match Nat.beq n 85 with | true => some f85 | false => none))
  | false => (match Nat.ble 84 n with
  | true => (match Nat.beq n 84 with | true => some f84 | false => none)
  | false => (match Nat.beq n 82 with | true => some f82 | false => none)))
  | false => (match Nat.ble 80 n with
  | true => (match Nat.ble 81 n with
  | true => (match Nat.beq n 81 with | true => some f81 | false => none)
  | false => (match Nat.beq n 80 with | true => some f80 | false => none))
  | false => (match Nat.beq n 79 with | true => some f79 | false => none)))
  | false => (match Nat.ble 75 n with
  | true => (match Nat.ble 77 n with
  | true => (match Nat.ble 78 n with
  | true => (match Nat.beq n 78 with | true => some f78 | false => none)
  | false => (match Nat.beq n 77 with | true => some f77 | false => none))
  | false => (match Nat.ble 76 n with
  | true => (match Nat.beq n 76 with | true => some f76 | false => none)
  | false => (match Nat.beq n 75 with | true => some f75 | false => none)))
  | false => (match Nat.ble 73 n with
  | true => (match Nat.ble 74 n with
  | true => (match Nat.beq n 74 with | true => some f74 | false => none)
  | false => (match Nat.beq n 73 with | true => some f73 | false => none))
  | false => (match Nat.beq n 72 with | true => some f72 | false => none))))
  | false => (match Nat.ble 65 n with
  | true => (match Nat.ble 68 n with
  | true => (match Nat.ble 70 n with
  | true => (match Nat.ble 71 n with
  | true => (match Nat.beq n 71 with | true => some f71 | false => none)
  | false => (match Nat.beq n 70 with | true => some f70 | false => none))
  | false => (match Nat.ble 69 n with
  | true => (match Nat.beq n 69 with | true => some f69 | false => none)
  | false => (match Nat.beq n 68 with | true => some f68 | false => none)))
  | false => (match Nat.ble 66 n with
  | true => (match Nat.ble 67 n with
  | true => (match Nat.beq n 67 with | true => some f67 | false => none)
  | false => (match Nat.beq n 66 with | true => some f66 | false => none))
  | false => (match Nat.beq n 65 with | true => some f65 | false => none)))
  | false => (match Nat.ble 61 n with
  | true => (match Nat.ble 63 n with
  | true => (match Nat.ble 64 n with
  | true => (match Nat.beq n 64 with | true => some f64 | false => none)
  | false => (match Nat.beq n 63 with | true => some f63 | false => none))
  | false => (match Nat.ble 62 n with
  | true => (match Nat.beq n 62 with | true => some f62 | false => none)
  | false => (match Nat.beq n 61 with | true => some f61 | false => none)))
  | false => (match Nat.ble 59 n with
  | true => (match Nat.ble 60 n with
  | true => (match Nat.beq n 60 with | true => some f60 | false => none)
  | false => (match Nat.beq n 59 with | true => some f59 | false => none))
  | false => (match Nat.beq n 58 with | true => some f58 | false => none))))))
  | false => (match Nat.ble 30 n with
  | true => (match Nat.ble 44 n with
  | true => (match Nat.ble 51 n with
  | true => (match Nat.ble 54 n with
  | true => (match Nat.ble 56 n with
  | true => (match Nat.ble 57 n with
  | true => (match Nat.beq n 57 with | true => some f57 | false => none)
  | false => (match Nat.beq n 56 with | true => some f56 | false => none))
  | false => (match Nat.ble 55 n with
  | true => (match Nat.beq n 55 with | true => some f55 | false => none)
  | false => (match Nat.beq n 54 with | true => some f54 | false => none)))
  | false => (match Nat.ble 52 n with
  | true => (match Nat.ble 53 n with
  | true => (match Nat.beq n 53 with | true => some f53 | false => none)
  | false => (match Nat.beq n 52 with | true => some f52 | false => none))
  | false => (match Nat.beq n 51 with | true => some f51 | false => none)))
  | false => (match Nat.ble 47 n with
  | true => (match Nat.ble 49 n with
  | true => (match Nat.ble 50 n with
  | true => (match Nat.beq n 50 with | true => some f50 | false => none)
  | false => (match Nat.beq n 49 with | true => some f49 | false => none))
  | false => (match Nat.ble 48 n with
  | true => (match Nat.beq n 48 with | true => some f48 | false => none)
  | false => (match Nat.beq n 47 with | true => some f47 | false => none)))
  | false => (match Nat.ble 45 n with
  | true => (match Nat.ble 46 n with
  | true => (match Nat.beq n 46 with | true => some f46 | false => none)
  | false => (match Nat.beq n 45 with | true => some f45 | false => none))
  | false => (match Nat.beq n 44 with | true => some f44 | false => none))))
  | false => (match Nat.ble 37 n with
  | true => (match Nat.ble 40 n with
  | true => (match Nat.ble 42 n with
  | true => (match Nat.ble 43 n with
  | true => (match Nat.beq n 43 with | true => some f43 | false => none)
  | false => (match Nat.beq n 42 with | true => some f42 | false => none))
  | false => (match Nat.ble 41 n with
  | true => (match Nat.beq n 41 with | true => some f41 | false => none)
  | false => (match Nat.beq n 40 with | true => some f40 | false => none)))
  | false => (match Nat.ble 38 n with
  | true => (match Nat.ble 39 n with
  | true => (match Nat.beq n 39 with | true => some f39 | false => none)
  | false => (match Nat.beq n 38 with | true => some f38 | false => none))
  | false => (match Nat.beq n 37 with | true => some f37 | false => none)))
  | false => (match Nat.ble 33 n with
  | true => (match Nat.ble 35 n with
  | true => (match Nat.ble 36 n with
  | true => (match Nat.beq n 36 with | true => some f36 | false => none)
  | false => (match Nat.beq n 35 with | true => some f35 | false => none))
  | false => (match Nat.ble 34 n with
  | true => (match Nat.beq n 34 with | true => some f34 | false => none)
  | false => (match Nat.beq n 33 with | true => some f33 | false => none)))
  | false => (match Nat.ble 31 n with
  | true => (match Nat.ble 32 n with
  | true => (match Nat.beq n 32 with | true => some f32 | false => none)
  | false => (match Nat.beq n 31 with | true => some f31 | false => none))
  | false => (match Nat.beq n 30 with | true => some f30 | false => none)))))
  | false => (match Nat.ble 16 n with
  | true => (match Nat.ble 23 n with
  | true => (match Nat.ble 26 n with
  | true => (match Nat.ble 28 n with
  | true => (match Nat.ble 29 n with
  | true => (match Nat.beq n 29 with | true => some f29 | false => none)
  | false => (match Nat.beq n 28 with | true => some f28 | false => none))
  | false => (match Nat.ble 27 n with
  | true => (match Nat.beq n 27 with | true => some f27 | false => none)
  | false => (match Nat.beq n 26 with | true => some f26 | false => none)))
  | false => (match Nat.ble 24 n with
  | true => (match Nat.ble 25 n with
  | true => (match Nat.beq n 25 with | true => some f25 | false => none)
  | false => (match Nat.beq n 24 with | true => some f24 | false => none))
  | false => (match Nat.beq n 23 with | true => some f23 | false => none)))
  | false => (match Nat.ble 19 n with
  | true => (match Nat.ble 21 n with
  | true => (match Nat.ble 22 n with
  | true => (match Nat.beq n 22 with | true => some f22 | false => none)
  | false => (match Nat.beq n 21 with | true => some f21 | false => none))
  | false => (match Nat.ble 20 n with
  | true => (match Nat.beq n 20 with | true => some f20 | false => none)
  | false => (match Nat.beq n 19 with | true => some f19 | false => none)))
  | false => (match Nat.ble 17 n with
  | true => (match Nat.ble 18 n with
  | true => (match Nat.beq n 18 with | true => some f18 | false => none)
  | false => (match Nat.beq n 17 with | true => some f17 | false => none))
  | false => (match Nat.beq n 16 with | true => some f16 | false => none))))
  | false => (match Nat.ble 9 n with
  | true => (match Nat.ble 12 n with
  | true => (match Nat.ble 14 n with
  | true => (match Nat.ble 15 n with
  | true => (match Nat.beq n 15 with | true => some f15 | false => none)
  | false => (match Nat.beq n 14 with | true => some f14 | false => none))
  | false => (match Nat.ble 13 n with
  | true => (match Nat.beq n 13 with | true => some f13 | false => none)
  | false => (match Nat.beq n 12 with | true => some f12 | false => none)))
  | false => (match Nat.ble 10 n with
  | true => (match Nat.ble 11 n with
  | true => (match Nat.beq n 11 with | true => some f11 | false => none)
  | false => (match Nat.beq n 10 with | true => some f10 | false => none))
  | false => (match Nat.beq n 9 with | true => some f9 | false => none)))
  | false => (match Nat.ble 6 n with
  | true => (match Nat.ble 7 n with
  | true => (match Nat.ble 8 n with
  | true => (match Nat.beq n 8 with | true => some f8 | false => none)
  | false => (match Nat.beq n 7 with | true => some f7 | false => none))
  | false => (match Nat.beq n 6 with | true => some f6 | false => none))
  | false => (match Nat.ble 4 n with
  | true => (match Nat.ble 5 n with
  | true => (match Nat.beq n 5 with | true => some f5 | false => none)
  | false => (match Nat.beq n 4 with | true => some f4 | false => none))
  | false => (match Nat.beq n 3 with | true => some f3 | false => none))))))))
def prim (n : Nat) : Option Prim := match n with

   | _ => none
def shared (n : Nat) : Bool := [49, 67, 109, 116, 151, 185, 189].any (Nat.beq n)
def rows : List Nat := [3, 4, 5, 6, 7, 8, 9, 10, 11, 12, 13, 14, 15, 16, 17, 18, 19, 20, 21, 22, 23, 24, 25, 26, 27, 28, 29, 30, 31, 32, 33, 34, 35, 36, 37, 38, 39, 40, 41, 42, 43, 44, 45, 46, 47, 48, 49, 50, 51, 52, 53, 54, 55, 56, 57, 58, 59, 60, 61, 62, 63, 64, 65, 66, 67, 68, 69, 70, 71, 72, 73, 74, 75, 76, 77, 78, 79, 80, 81, 82, 84, 85, 87, 88, 90, 91, 92, 93, 94, 95, 96, 97, 98, 99, 100, 101, 102, 103, 104, 105, 106, 107, 109, 110, 111, 112, 113, 114, 115, 116, 117, 118, 120, 121, 122, 123, 124, 125, 127, 129, 130, 132, 133, 134, 135, 137, 138, 140, 141, 148, 149, 150, 151, 152, 153, 154, 155, 156, 157, 160, 162, 163, 164, 165, 168, 169, 172, 173, 174, 175, 176, 177, 178, 179, 180, 181, 182, 184, 185, 187, 188, 189, 191, 192, 193, 199, 206, 207, 208, 209, 210, 211, 212, 213, 214, 215, 218, 219, 220, 221, 222, 223, 224, 225, 226, 227, 228, 238, 239, 241, 242, 246, 247, 261, 265, 269, 272, 273, 274, 275, 276, 277, 278, 280, 281, 282, 283, 284, 287, 292, 299, 306, 307, 309, 321, 322, 325, 326, 327, 345, 347, 362]
end Go.Em.IR
namespace Go.Em
open Go
noncomputable def EC : Env := { P := Go.Proofs.Tryz.prog, fn := IR.fn, shared := IR.shared, prim := IR.prim }
set_option maxRecDepth 100000
theorem k3 : funcB Go.Proofs.Tryz.prog Go.Proofs.Tryz.f3 IR.b3 IR.f3 = true := by kernel_rfl
theorem k4 : funcB Go.Proofs.Tryz.prog Go.Proofs.Tryz.f4 IR.b4 IR.f4 = true := by kernel_rfl
theorem k5 : funcB Go.Proofs.Tryz.prog Go.Proofs.Tryz.f5 IR.b5 IR.f5 = true := by kernel_rfl
theorem k6 : funcB Go.Proofs.Tryz.prog Go.Proofs.Tryz.f6 IR.b6 IR.f6 = true := by kernel_rfl
theorem k7 : funcB Go.Proofs.Tryz.prog Go.Proofs.Tryz.f7 IR.b7 IR.f7 = true := by kernel_rfl
theorem k8 : funcB Go.Proofs.Tryz.prog Go.Proofs.Tryz.f8 IR.b8 IR.f8 = true := by kernel_rfl
theorem k9 : funcB Go.Proofs.Tryz.prog Go.Proofs.Tryz.f9 IR.b9 IR.f9 = true := by kernel_rfl
theorem k10 : funcB Go.Proofs.Tryz.prog Go.Proofs.Tryz.f10 IR.b10 IR.f10 = true := by kernel_rfl
theorem k11 : funcB Go.Proofs.Tryz.prog Go.Proofs.Tryz.f11 IR.b11 IR.f11 = true := by kernel_rfl
theorem k12 : funcB Go.Proofs.Tryz.prog Go.Proofs.Tryz.f12 IR.b12 IR.f12 = true := by kernel_rfl
theorem k13 : funcB Go.Proofs.Tryz.prog Go.Proofs.Tryz.f13 IR.b13 IR.f13 = true := by kernel_rfl
theorem k14 : funcB Go.Proofs.Tryz.prog Go.Proofs.Tryz.f14 IR.b14 IR.f14 = true := by kernel_rfl
theorem k15 : funcB Go.Proofs.Tryz.prog Go.Proofs.Tryz.f15 IR.b15 IR.f15 = true := by kernel_rfl
theorem k16 : funcB Go.Proofs.Tryz.prog Go.Proofs.Tryz.f16 IR.b16 IR.f16 = true := by kernel_rfl
theorem k17 : funcB Go.Proofs.Tryz.prog Go.Proofs.Tryz.f17 IR.b17 IR.f17 = true := by kernel_rfl
theorem k18 : funcB Go.Proofs.Tryz.prog Go.Proofs.Tryz.f18 IR.b18 IR.f18 = true := by kernel_rfl
theorem k19 : funcB Go.Proofs.Tryz.prog Go.Proofs.Tryz.f19 IR.b19 IR.f19 = true := by kernel_rfl
theorem k20 : funcB Go.Proofs.Tryz.prog Go.Proofs.Tryz.f20 IR.b20 IR.f20 = true := by kernel_rfl
theorem k21 : funcB Go.Proofs.Tryz.prog Go.Proofs.Tryz.f21 IR.b21 IR.f21 = true := by kernel_rfl
theorem k22 : funcB Go.Proofs.Tryz.prog Go.Proofs.Tryz.f22 IR.b22 IR.f22 = true := by kernel_rfl
theorem k23 : funcB Go.Proofs.Tryz.prog Go.Proofs.Tryz.f23 IR.b23 IR.f23 = true := by kernel_rfl
theorem k24 : funcB Go.Proofs.Tryz.prog Go.Proofs.Tryz.f24 IR.b24 IR.f24 = true := by kernel_rfl
theorem k25 : funcB Go.Proofs.Tryz.prog Go.Proofs.Tryz.f25 IR.b25 IR.f25 = true := by kernel_rfl
theorem k26 : funcB Go.Proofs.Tryz.prog Go.Proofs.Tryz.f26 IR.b26 IR.f26 = true := by kernel_rfl
theorem k27 : funcB Go.Proofs.Tryz.prog Go.Proofs.Tryz.f27 IR.b27 IR.f27 = true := by kernel_rfl
theorem k28 : funcB Go.Proofs.Tryz.prog Go.Proofs.Tryz.f28 IR.b28 IR.f28 = true := by kernel_rfl
theorem k29 : funcB Go.Proofs.Tryz.prog Go.Proofs.Tryz.f29 IR.b29 IR.f29 = true := by kernel_rfl
theorem k30 : funcB Go.Proofs.Tryz.prog Go.Proofs.Tryz.f30 IR.b30 IR.f30 = true := by kernel_rfl
theorem k31 : funcB Go.Proofs.Tryz.prog Go.Proofs.Tryz.f31 IR.b31 IR.f31 = true := by kernel_rfl
theorem k32 : funcB Go.Proofs.Tryz.prog Go.Proofs.Tryz.f32 IR.b32 IR.f32 = true := by kernel_rfl
theorem k33 : funcB Go.Proofs.Tryz.prog Go.Proofs.Tryz.f33 IR.b33 IR.f33 = true := by kernel_rfl
theorem k34 : funcB Go.Proofs.Tryz.prog Go.Proofs.Tryz.f34 IR.b34 IR.f34 = true := by kernel_rfl
theorem k35 : funcB Go.Proofs.Tryz.prog Go.Proofs.Tryz.f35 IR.b35 IR.f35 = true := by kernel_rfl
theorem k36 : funcB Go.Proofs.Tryz.prog Go.Proofs.Tryz.f36 IR.b36 IR.f36 = true := by kernel_rfl
theorem k37 : funcB Go.Proofs.Tryz.prog Go.Proofs.Tryz.f37 IR.b37 IR.f37 = true := by kernel_rfl
theorem k38 : funcB Go.Proofs.Tryz.prog Go.Proofs.Tryz.f38 IR.b38 IR.f38 = true := by kernel_rfl
theorem k39 : funcB Go.Proofs.Tryz.prog Go.Proofs.Tryz.f39 IR.b39 IR.f39 = true := by kernel_rfl
theorem k40 : funcB Go.Proofs.Tryz.prog Go.Proofs.Tryz.f40 IR.b40 IR.f40 = true := by kernel_rfl
theorem k41 : funcB Go.Proofs.Tryz.prog Go.Proofs.Tryz.f41 IR.b41 IR.f41 = true := by kernel_rfl
theorem k42 : funcB Go.Proofs.Tryz.prog Go.Proofs.Tryz.f42 IR.b42 IR.f42 = true := by kernel_rfl
theorem k43 : funcB Go.Proofs.Tryz.prog Go.Proofs.Tryz.f43 IR.b43 IR.f43 = true := by kernel_rfl
theorem k44 : funcB Go.Proofs.Tryz.prog Go.Proofs.Tryz.f44 IR.b44 IR.f44 = true := by kernel_rfl
theorem k45 : funcB Go.Proofs.Tryz.prog Go.Proofs.Tryz.f45 IR.b45 IR.f45 = true := by kernel_rfl
theorem k46 : funcB Go.Proofs.Tryz.prog Go.Proofs.Tryz.f46 IR.b46 IR.f46 = true := by kernel_rfl
theorem k47 : funcB Go.Proofs.Tryz.prog Go.Proofs.Tryz.f47 IR.b47 IR.f47 = true := by kernel_rfl
theorem k48 : funcB Go.Proofs.Tryz.prog Go.Proofs.Tryz.f48 IR.b48 IR.f48 = true := by kernel_rfl
theorem k49 : funcB Go.Proofs.Tryz.prog Go.Proofs.Tryz.f49 IR.b49 IR.f49 = true := by kernel_rfl
theorem k50 : funcB Go.Proofs.Tryz.prog Go.Proofs.Tryz.f50 IR.b50 IR.f50 = true := by kernel_rfl
theorem k51 : funcB Go.Proofs.Tryz.prog Go.Proofs.Tryz.f51 IR.b51 IR.f51 = true := by kernel_rfl
theorem k52 : funcB Go.Proofs.Tryz.prog Go.Proofs.Tryz.f52 IR.b52 IR.f52 = true := by kernel_rfl
theorem k53 : funcB Go.Proofs.Tryz.prog Go.Proofs.Tryz.f53 IR.b53 IR.f53 = true := by kernel_rfl
theorem k54 : funcB Go.Proofs.Tryz.prog Go.Proofs.Tryz.f54 IR.b54 IR.f54 = true := by kernel_rfl
theorem k55 : funcB Go.Proofs.Tryz.prog Go.Proofs.Tryz.f55 IR.b55 IR.f55 = true := by kernel_rfl
theorem k56 : funcB Go.Proofs.Tryz.prog Go.Proofs.Tryz.f56 IR.b56 IR.f56 = true := by kernel_rfl
theorem k57 : funcB Go.Proofs.Tryz.prog Go.Proofs.Tryz.f57 IR.b57 IR.f57 = true := by kernel_rfl
theorem k58 : funcB Go.Proofs.Tryz.prog Go.Proofs.Tryz.f58 IR.b58 IR.f58 = true := by kernel_rfl
theorem k59 : funcB Go.Proofs.Tryz.prog Go.Proofs.Tryz.f59 IR.b59 IR.f59 = true := by kernel_rfl
theorem k60 : funcB Go.Proofs.Tryz.prog Go.Proofs.Tryz.f60 IR.b60 IR.f60 = true := by kernel_rfl
theorem k61 : funcB Go.Proofs.Tryz.prog Go.Proofs.Tryz.f61 IR.b61 IR.f61 = true := by kernel_rfl
theorem k62 : funcB Go.Proofs.Tryz.prog Go.Proofs.Tryz.f62 IR.b62 IR.f62 = true := by kernel_rfl
theorem k63 : funcB Go.Proofs.Tryz.prog Go.Proofs.Tryz.f63 IR.b63 IR.f63 = true := by kernel_rfl
theorem k64 : funcB Go.Proofs.Tryz.prog Go.Proofs.Tryz.f64 IR.b64 IR.f64 = true := by kernel_rfl
theorem k65 : funcB Go.Proofs.Tryz.prog Go.Proofs.Tryz.f65 IR.b65 IR.f65 = true := by kernel_rfl
theorem k66 : funcB Go.Proofs.Tryz.prog Go.Proofs.Tryz.f66 IR.b66 IR.f66 = true := by kernel_rfl
theorem k67 : funcB Go.Proofs.Tryz.prog Go.Proofs.Tryz.f67 IR.b67 IR.f67 = true := by kernel_rfl
theorem k68 : funcB Go.Proofs.Tryz.prog Go.Proofs.Tryz.f68 IR.b68 IR.f68 = true := by kernel_rfl
theorem k69 : funcB Go.Proofs.Tryz.prog Go.Proofs.Tryz.f69 IR.b69 IR.f69 = true := by kernel_rfl
theorem k70 : funcB Go.Proofs.Tryz.prog Go.Proofs.Tryz.f70 IR.b70 IR.f70 = true := by kernel_rfl
theorem k71 : funcB Go.Proofs.Tryz.prog Go.Proofs.Tryz.f71 IR.b71 IR.f71 = true := by kernel_rfl
theorem k72 : funcB Go.Proofs.Tryz.prog Go.Proofs.Tryz.f72 IR.b72 IR.f72 = true := by kernel_rfl
theorem k73 : funcB Go.Proofs.Tryz.prog Go.Proofs.Tryz.f73 IR.b73 IR.f73 = true := by kernel_rfl
theorem k74 : funcB Go.Proofs.Tryz.prog Go.Proofs.Tryz.f74 IR.b74 IR.f74 = true := by kernel_rfl
theorem k75 : funcB Go.Proofs.Tryz.prog Go.Proofs.Tryz.f75 IR.b75 IR.f75 = true := by kernel_rfl
theorem k76 : funcB Go.Proofs.Tryz.prog Go.Proofs.Tryz.f76 IR.b76 IR.f76 = true := by kernel_rfl
theorem k77 : funcB Go.Proofs.Tryz.prog Go.Proofs.Tryz.f77 IR.b77 IR.f77 = true := by kernel_rfl
theorem k78 : funcB Go.Proofs.Tryz.prog Go.Proofs.Tryz.f78 IR.b78 IR.f78 = true := by kernel_rfl
theorem k79 : funcB Go.Proofs.Tryz.prog Go.Proofs.Tryz.f79 IR.b79 IR.f79 = true := by kernel_rfl
theorem k80 : funcB Go.Proofs.Tryz.prog Go.Proofs.Tryz.f80 IR.b80 IR.f80 = true := by kernel_rfl
theorem k81 : funcB Go.Proofs.Tryz.prog Go.Proofs.Tryz.f81 IR.b81 IR.f81 = true := by kernel_rfl
theorem k82 : funcB Go.Proofs.Tryz.prog Go.Proofs.Tryz.f82 IR.b82 IR.f82 = true := by kernel_rfl
theorem k84 : funcB Go.Proofs.Tryz.prog Go.Proofs.Tryz.f84 IR.b84 IR.f84 = true := by kernel_rfl
theorem k85 : funcB Go.Proofs.Tryz.prog Go.Proofs.Tryz.f85 IR.b85 IR.f85 = true := by kernel_rfl
theorem k87 : funcB Go.Proofs.Tryz.prog Go.Proofs.Tryz.f87 IR.b87 IR.f87 = true := by kernel_rfl
theorem k88 : funcB Go.Proofs.Tryz.prog Go.Proofs.Tryz.f88 IR.b88 IR.f88 = true := by kernel_rfl
theorem k90 : funcB Go.Proofs.Tryz.prog Go.Proofs.Tryz.f90 IR.b90 IR.f90 = true := by kernel_rfl
theorem k91 : funcB Go.Proofs.Tryz.prog Go.Proofs.Tryz.f91 IR.b91 IR.f91 = true := by kernel_rfl
theorem k92 : funcB Go.Proofs.Tryz.prog Go.Proofs.Tryz.f92 IR.b92 IR.f92 = true := by kernel_rfl
theorem k93 : funcB Go.Proofs.Tryz.prog Go.Proofs.Tryz.f93 IR.b93 IR.f93 = true := by kernel_rfl
theorem k94 : funcB Go.Proofs.Tryz.prog Go.Proofs.Tryz.f94 IR.b94 IR.f94 = true := by kernel_rfl
theorem k95 : funcB Go.Proofs.Tryz.prog Go.Proofs.Tryz.f95 IR.b95 IR.f95 = true := by kernel_rfl
theorem k96 : funcB Go.Proofs.Tryz.prog Go.Proofs.Tryz.f96 IR.b96 IR.f96 = true := by kernel_rfl
theorem k97 : funcB Go.Proofs.Tryz.prog Go.Proofs.Tryz.f97 IR.b97 IR.f97 = true := by kernel_rfl
theorem k98 : funcB Go.Proofs.Tryz.prog Go.Proofs.Tryz.f98 IR.b98 IR.f98 = true := by kernel_rfl
theorem k99 : funcB Go.Proofs.Tryz.prog Go.Proofs.Tryz.f99 IR.b99 IR.f99 = true := by kernel_rfl
theorem k100 : funcB Go.Proofs.Tryz.prog Go.Proofs.Tryz.f100 IR.b100 IR.f100 = true := by kernel_rfl
theorem k101 : funcB Go.Proofs.Tryz.prog Go.Proofs.Tryz.f101 IR.b101 IR.f101 = true := by kernel_rfl
theorem k102 : funcB Go.Proofs.Tryz.prog Go.Proofs.Tryz.f102 IR.b102 IR.f102 = true := by kernel_rfl
theorem k103 : funcB Go.Proofs.Tryz.prog Go.Proofs.Tryz.f103 IR.b103 IR.f103 = true := by kernel_rfl
theorem k104 : funcB Go.Proofs.Tryz.prog Go.Proofs.Tryz.f104 IR.b104 IR.f104 = true := by kernel_rfl
theorem k105 : funcB Go.Proofs.Tryz.prog Go.Proofs.Tryz.f105 IR.b105 IR.f105 = true := by kernel_rfl
theorem k106 : funcB Go.Proofs.Tryz.prog Go.Proofs.Tryz.f106 IR.b106 IR.f106 = true := by kernel_rfl
theorem k107 : funcB Go.Proofs.Tryz.prog Go.Proofs.Tryz.f107 IR.b107 IR.f107 = true := by kernel_rfl
theorem k109 : funcB Go.Proofs.Tryz.prog Go.Proofs.Tryz.f109 IR.b109 IR.f109 = true := by kernel_rfl
theorem k110 : funcB Go.Proofs.Tryz.prog Go.Proofs.Tryz.f110 IR.b110 IR.f110 = true := by kernel_rfl
theorem k111 : funcB Go.Proofs.Tryz.prog Go.Proofs.Tryz.f111 IR.b111 IR.f111 = true := by kernel_rfl
theorem k112 : funcB Go.Proofs.Tryz.prog Go.Proofs.Tryz.f112 IR.b112 IR.f112 = true := by kernel_rfl
theorem k113 : funcB Go.Proofs.Tryz.prog Go.Proofs.Tryz.f113 IR.b113 IR.f113 = true := by kernel_rfl
theorem k114 : funcB Go.Proofs.Tryz.prog Go.Proofs.Tryz.f114 IR.b114 IR.f114 = true := by kernel_rfl
theorem k115 : funcB Go.Proofs.Tryz.prog Go.Proofs.Tryz.f115 IR.b115 IR.f115 = true := by kernel_rfl
theorem k116 : funcB Go.Proofs.Tryz.prog Go.Proofs.Tryz.f116 IR.b116 IR.f116 = true := by kernel_rfl
theorem k117 : funcB Go.Proofs.Tryz.prog Go.Proofs.Tryz.f117 IR.b117 IR.f117 = true := by kernel_rfl
theorem k118 : funcB Go.Proofs.Tryz.prog Go.Proofs.Tryz.f118 IR.b118 IR.f118 = true := by kernel_rfl
theorem k120 : funcB Go.Proofs.Tryz.prog Go.Proofs.Tryz.f120 IR.b120 IR.f120 = true := by kernel_rfl
theorem k121 : funcB Go.Proofs.Tryz.prog Go.Proofs.Tryz.f121 IR.b121 IR.f121 = true := by kernel_rfl
theorem k122 : funcB Go.Proofs.Tryz.prog Go.Proofs.Tryz.f122 IR.b122 IR.f122 = true := by kernel_rfl
theorem k123 : funcB Go.Proofs.Tryz.prog Go.Proofs.Tryz.f123 IR.b123 IR.f123 = true := by kernel_rfl
theorem k124 : funcB Go.Proofs.Tryz.prog Go.Proofs.Tryz.f124 IR.b124 IR.f124 = true := by kernel_rfl
theorem k125 : funcB Go.Proofs.Tryz.prog Go.Proofs.Tryz.f125 IR.b125 IR.f125 = true := by kernel_rfl
theorem k127 : funcB Go.Proofs.Tryz.prog Go.Proofs.Tryz.f127 IR.b127 IR.f127 = true := by kernel_rfl
theorem k129 : funcB Go.Proofs.Tryz.prog Go.Proofs.Tryz.f129 IR.b129 IR.f129 = true := by kernel_rfl
theorem k130 : funcB Go.Proofs.Tryz.prog Go.Proofs.Tryz.f130 IR.b130 IR.f130 = true := by kernel_rfl
theorem k132 : funcB Go.Proofs.Tryz.prog Go.Proofs.Tryz.f132 IR.b132 IR.f132 = true := by kernel_rfl
theorem k133 : funcB Go.Proofs.Tryz.prog Go.Proofs.Tryz.f133 IR.b133 IR.f133 = true := by kernel_rfl
theorem k134 : funcB Go.Proofs.Tryz.prog Go.Proofs.Tryz.f134 IR.b134 IR.f134 = true := by kernel_rfl
theorem k135 : funcB Go.Proofs.Tryz.prog Go.Proofs.Tryz.f135 IR.b135 IR.f135 = true := by kernel_rfl
theorem k137 : funcB Go.Proofs.Tryz.prog Go.Proofs.Tryz.f137 IR.b137 IR.f137 = true := by kernel_rfl
theorem k138 : funcB Go.Proofs.Tryz.prog Go.Proofs.Tryz.f138 IR.b138 IR.f138 = true := by kernel_rfl
theorem k140 : funcB Go.Proofs.Tryz.prog Go.Proofs.Tryz.f140 IR.b140 IR.f140 = true := by kernel_rfl
theorem k141 : funcB Go.Proofs.Tryz.prog Go.Proofs.Tryz.f141 IR.b141 IR.f141 = true := by kernel_rfl
theorem k148 : funcB Go.Proofs.Tryz.prog Go.Proofs.Tryz.f148 IR.b148 IR.f148 = true := by kernel_rfl
theorem k149 : funcB Go.Proofs.Tryz.prog Go.Proofs.Tryz.f149 IR.b149 IR.f149 = true := by kernel_rfl
theorem k150 : funcB Go.Proofs.Tryz.prog Go.Proofs.Tryz.f150 IR.b150 IR.f150 = true := by kernel_rfl
theorem k151 : funcB Go.Proofs.Tryz.prog Go.Proofs.Tryz.f151 IR.b151 IR.f151 = true := by kernel_rfl
theorem k152 : funcB Go.Proofs.Tryz.prog Go.Proofs.Tryz.f152 IR.b152 IR.f152 = true := by kernel_rfl
theorem k153 : funcB Go.Proofs.Tryz.prog Go.Proofs.Tryz.f153 IR.b153 IR.f153 = true := by kernel_rfl
theorem k154 : funcB Go.Proofs.Tryz.prog Go.Proofs.Tryz.f154 IR.b154 IR.f154 = true := by kernel_rfl
theorem k155 : funcB Go.Proofs.Tryz.prog Go.Proofs.Tryz.f155 IR.b155 IR.f155 = true := by kernel_rfl
theorem k156 : funcB Go.Proofs.Tryz.prog Go.Proofs.Tryz.f156 IR.b156 IR.f156 = true := by kernel_rfl
theorem k157 : funcB Go.Proofs.Tryz.prog Go.Proofs.Tryz.f157 IR.b157 IR.f157 = true := by kernel_rfl
theorem k160 : funcB Go.Proofs.Tryz.prog Go.Proofs.Tryz.f160 IR.b160 IR.f160 = true := by kernel_rfl
theorem k162 : funcB Go.Proofs.Tryz.prog Go.Proofs.Tryz.f162 IR.b162 IR.f162 = true := by kernel_rfl
theorem k163 : funcB Go.Proofs.Tryz.prog Go.Proofs.Tryz.f163 IR.b163 IR.f163 = true := by kernel_rfl
theorem k164 : funcB Go.Proofs.Tryz.prog Go.Proofs.Tryz.f164 IR.b164 IR.f164 = true := by kernel_rfl
theorem k165 : funcB Go.Proofs.Tryz.prog Go.Proofs.Tryz.f165 IR.b165 IR.f165 = true := by kernel_rfl
theorem k168 : funcB Go.Proofs.Tryz.prog Go.Proofs.Tryz.f168 IR.b168 IR.f168 = true := by kernel_rfl
theorem k169 : funcB Go.Proofs.Tryz.prog Go.Proofs.Tryz.f169 IR.b169 IR.f169 = true := by kernel_rfl
theorem k172 : funcB Go.Proofs.Tryz.prog Go.Proofs.Tryz.f172 IR.b172 IR.f172 = true := by kernel_rfl
theorem k173 : funcB Go.Proofs.Tryz.prog Go.Proofs.Tryz.f173 IR.b173 IR.f173 = true := by kernel_rfl
theorem k174 : funcB Go.Proofs.Tryz.prog Go.Proofs.Tryz.f174 IR.b174 IR.f174 = true := by kernel_rfl
theorem k175 : funcB Go.Proofs.Tryz.prog Go.Proofs.Tryz.f175 IR.b175 IR.f175 = true := by kernel_rfl
theorem k176 : funcB Go.Proofs.Tryz.prog Go.Proofs.Tryz.f176 IR.b176 IR.f176 = true := by kernel_rfl
theorem k177 : funcB Go.Proofs.Tryz.prog Go.Proofs.Tryz.f177 IR.b177 IR.f177 = true := by kernel_rfl
theorem k178 : funcB Go.Proofs.Tryz.prog Go.Proofs.Tryz.f178 IR.b178 IR.f178 = true := by kernel_rfl
theorem k179 : funcB Go.Proofs.Tryz.prog Go.Proofs.Tryz.f179 IR.b179 IR.f179 = true := by kernel_rfl
theorem k180 : funcB Go.Proofs.Tryz.prog Go.Proofs.Tryz.f180 IR.b180 IR.f180 = true := by kernel_rfl
theorem k181 : funcB Go.Proofs.Tryz.prog Go.Proofs.Tryz.f181 IR.b181 IR.f181 = true := by kernel_rfl
theorem k182 : funcB Go.Proofs.Tryz.prog Go.Proofs.Tryz.f182 IR.b182 IR.f182 = true := by kernel_rfl
theorem k184 : funcB Go.Proofs.Tryz.prog Go.Proofs.Tryz.f184 IR.b184 IR.f184 = true := by kernel_rfl
theorem k185 : funcB Go.Proofs.Tryz.prog Go.Proofs.Tryz.f185 IR.b185 IR.f185 = true := by kernel_rfl
theorem k187 : funcB Go.Proofs.Tryz.prog Go.Proofs.Tryz.f187 IR.b187 IR.f187 = true := by kernel_rfl
theorem k188 : funcB Go.Proofs.Tryz.prog Go.Proofs.Tryz.f188 IR.b188 IR.f188 = true := by kernel_rfl
theorem k189 : funcB Go.Proofs.Tryz.prog Go.Proofs.Tryz.f189 IR.b189 IR.f189 = true := by kernel_rfl
theorem k191 : funcB Go.Proofs.Tryz.prog Go.Proofs.Tryz.f191 IR.b191 IR.f191 = true := by kernel_rfl
theorem k192 : funcB Go.Proofs.Tryz.prog Go.Proofs.Tryz.f192 IR.b192 IR.f192 = true := by kernel_rfl
theorem k193 : funcB Go.Proofs.Tryz.prog Go.Proofs.Tryz.f193 IR.b193 IR.f193 = true := by kernel_rfl
theorem k199 : funcB Go.Proofs.Tryz.prog Go.Proofs.Tryz.f199 IR.b199 IR.f199 = true := by kernel_rfl
theorem k206 : funcB Go.Proofs.Tryz.prog Go.Proofs.Tryz.f206 IR.b206 IR.f206 = true := by kernel_rfl
theorem k207 : funcB Go.Proofs.Tryz.prog Go.Proofs.Tryz.f207 IR.b207 IR.f207 = true := by kernel_rfl
theorem k208 : funcB Go.Proofs.Tryz.prog Go.Proofs.Tryz.f208 IR.b208 IR.f208 = true := by kernel_rfl
theorem k209 : funcB Go.Proofs.Tryz.prog Go.Proofs.Tryz.f209 IR.b209 IR.f209 = true := by kernel_rfl
theorem k210 : funcB Go.Proofs.Tryz.prog Go.Proofs.Tryz.f210 IR.b210 IR.f210 = true := by kernel_rfl
theorem k211 : funcB Go.Proofs.Tryz.prog Go.Proofs.Tryz.f211 IR.b211 IR.f211 = true := by kernel_rfl
theorem k212 : funcB Go.Proofs.Tryz.prog Go.Proofs.Tryz.f212 IR.b212 IR.f212 = true := by kernel_rfl
theorem k213 : funcB Go.Proofs.Tryz.prog Go.Proofs.Tryz.f213 IR.b213 IR.f213 = true := by kernel_rfl
theorem k214 : funcB Go.Proofs.Tryz.prog Go.Proofs.Tryz.f214 IR.b214 IR.f214 = true := by kernel_rfl
theorem k215 : funcB Go.Proofs.Tryz.prog Go.Proofs.Tryz.f215 IR.b215 IR.f215 = true := by kernel_rfl
theorem k218 : funcB Go.Proofs.Tryz.prog Go.Proofs.Tryz.f218 IR.b218 IR.f218 = true := by kernel_rfl
theorem k219 : funcB Go.Proofs.Tryz.prog Go.Proofs.Tryz.f219 IR.b219 IR.f219 = true := by kernel_rfl
theorem k220 : funcB Go.Proofs.Tryz.prog Go.Proofs.Tryz.f220 IR.b220 IR.f220 = true := by kernel_rfl
theorem k221 : funcB Go.Proofs.Tryz.prog Go.Proofs.Tryz.f221 IR.b221 IR.f221 = true := by kernel_rfl
theorem k222 : funcB Go.Proofs.Tryz.prog Go.Proofs.Tryz.f222 IR.b222 IR.f222 = true := by kernel_rfl
theorem k223 : funcB Go.Proofs.Tryz.prog Go.Proofs.Tryz.f223 IR.b223 IR.f223 = true := by kernel_rfl
theorem k224 : funcB Go.Proofs.Tryz.prog Go.Proofs.Tryz.f224 IR.b224 IR.f224 = true := by kernel_rfl
theorem k225 : funcB Go.Proofs.Tryz.prog Go.Proofs.Tryz.f225 IR.b225 IR.f225 = true := by kernel_rfl
theorem k226 : funcB Go.Proofs.Tryz.prog Go.Proofs.Tryz.f226 IR.b226 IR.f226 = true := by kernel_rfl
theorem k227 : funcB Go.Proofs.Tryz.prog Go.Proofs.Tryz.f227 IR.b227 IR.f227 = true := by kernel_rfl
theorem k228 : funcB Go.Proofs.Tryz.prog Go.Proofs.Tryz.f228 IR.b228 IR.f228 = true := by kernel_rfl
theorem k238 : funcB Go.Proofs.Tryz.prog Go.Proofs.Tryz.f238 IR.b238 IR.f238 = true := by kernel_rfl
theorem k239 : funcB Go.Proofs.Tryz.prog Go.Proofs.Tryz.f239 IR.b239 IR.f239 = true := by kernel_rfl
theorem k241 : funcB Go.Proofs.Tryz.prog Go.Proofs.Tryz.f241 IR.b241 IR.f241 = true := by kernel_rfl
theorem k242 : funcB Go.Proofs.Tryz.prog Go.Proofs.Tryz.f242 IR.b242 IR.f242 = true := by kernel_rfl
theorem k246 : funcB Go.Proofs.Tryz.prog Go.Proofs.Tryz.f246 IR.b246 IR.f246 = true := by kernel_rfl
theorem k247 : funcB Go.Proofs.Tryz.prog Go.Proofs.Tryz.f247 IR.b247 IR.f247 = true := by kernel_rfl
theorem k261 : funcB Go.Proofs.Tryz.prog Go.Proofs.Tryz.f261 IR.b261 IR.f261 = true := by kernel_rfl
theorem k265 : funcB Go.Proofs.Tryz.prog Go.Proofs.Tryz.f265 IR.b265 IR.f265 = true := by kernel_rfl
theorem k269 : funcB Go.Proofs.Tryz.prog Go.Proofs.Tryz.f269 IR.b269 IR.f269 = true := by kernel_rfl
theorem k272 : funcB Go.Proofs.Tryz.prog Go.Proofs.Tryz.f272 IR.b272 IR.f272 = true := by kernel_rfl
theorem k273 : funcB Go.Proofs.Tryz.prog Go.Proofs.Tryz.f273 IR.b273 IR.f273 = true := by kernel_rfl
theorem k274 : funcB Go.Proofs.Tryz.prog Go.Proofs.Tryz.f274 IR.b274 IR.f274 = true := by kernel_rfl
theorem k275 : funcB Go.Proofs.Tryz.prog Go.Proofs.Tryz.f275 IR.b275 IR.f275 = true := by kernel_rfl
theorem k276 : funcB Go.Proofs.Tryz.prog Go.Proofs.Tryz.f276 IR.b276 IR.f276 = true := by kernel_rfl
theorem k277 : funcB Go.Proofs.Tryz.prog Go.Proofs.Tryz.f277 IR.b277 IR.f277 = true := by kernel_rfl
theorem k278 : funcB Go.Proofs.Tryz.prog Go.Proofs.Tryz.f278 IR.b278 IR.f278 = true := by kernel_rfl
theorem k280 : funcB Go.Proofs.Tryz.prog Go.Proofs.Tryz.f280 IR.b280 IR.f280 = true := by kernel_rfl
theorem k281 : funcB Go.Proofs.Tryz.prog Go.Proofs.Tryz.f281 IR.b281 IR.f281 = true := by kernel_rfl
theorem k282 : funcB Go.Proofs.Tryz.prog Go.Proofs.Tryz.f282 IR.b282 IR.f282 = true := by kernel_rfl
theorem k283 : funcB Go.Proofs.Tryz.prog Go.Proofs.Tryz.f283 IR.b283 IR.f283 = true := by kernel_rfl
theorem k284 : funcB Go.Proofs.Tryz.prog Go.Proofs.Tryz.f284 IR.b284 IR.f284 = true := by kernel_rfl
theorem k287 : funcB Go.Proofs.Tryz.prog Go.Proofs.Tryz.f287 IR.b287 IR.f287 = true := by kernel_rfl
theorem k292 : funcB Go.Proofs.Tryz.prog Go.Proofs.Tryz.f292 IR.b292 IR.f292 = true := by kernel_rfl
theorem k299 : funcB Go.Proofs.Tryz.prog Go.Proofs.Tryz.f299 IR.b299 IR.f299 = true := by kernel_rfl
theorem k306 : funcB Go.Proofs.Tryz.prog Go.Proofs.Tryz.f306 IR.b306 IR.f306 = true := by kernel_rfl
theorem k307 : funcB Go.Proofs.Tryz.prog Go.Proofs.Tryz.f307 IR.b307 IR.f307 = true := by kernel_rfl
theorem k309 : funcB Go.Proofs.Tryz.prog Go.Proofs.Tryz.f309 IR.b309 IR.f309 = true := by kernel_rfl
theorem k321 : funcB Go.Proofs.Tryz.prog Go.Proofs.Tryz.f321 IR.b321 IR.f321 = true := by kernel_rfl
theorem k322 : funcB Go.Proofs.Tryz.prog Go.Proofs.Tryz.f322 IR.b322 IR.f322 = true := by kernel_rfl
theorem k325 : funcB Go.Proofs.Tryz.prog Go.Proofs.Tryz.f325 IR.b325 IR.f325 = true := by kernel_rfl
theorem k326 : funcB Go.Proofs.Tryz.prog Go.Proofs.Tryz.f326 IR.b326 IR.f326 = true := by kernel_rfl
theorem k327 : funcB Go.Proofs.Tryz.prog Go.Proofs.Tryz.f327 IR.b327 IR.f327 = true := by kernel_rfl
theorem k345 : funcB Go.Proofs.Tryz.prog Go.Proofs.Tryz.f345 IR.b345 IR.f345 = true := by kernel_rfl
theorem k347 : funcB Go.Proofs.Tryz.prog Go.Proofs.Tryz.f347 IR.b347 IR.f347 = true := by kernel_rfl
theorem k362 : funcB Go.Proofs.Tryz.prog Go.Proofs.Tryz.f362 IR.b362 IR.f362 = true := by kernel_rfl

theorem ir_leaf {n m : Nat} {A F : IFunc} (k : FnOk EC m A) (h : (match Nat.beq n m with | true => some A | false => none) = some F) : FnOk EC n F := by
  cases hb : Nat.beq n m with
  | true => rw [hb] at h; cases h; obtain rfl := Nat.eq_of_beq_eq_true hb; exact k
  | false => rw [hb] at h; cases h
theorem ir_fork {n m : Nat} {a b : Option IFunc} {F : IFunc} {Q : Prop} (ha : a = some F → Q) (hb : b = some F → Q) (h : (match Nat.ble m n with | true => a | false => b) = some F) : Q := by
  cases hx : Nat.ble m n with
  | true => rw [hx] at h; exact ha h
  | false => rw [hx] at h; exact hb h
theorem envOk : EnvOk EC := by
  intro f F h
  have h : IR.fn f = some F := h
  unfold IR.fn at h
  exact (ir_fork
 (ir_fork
 (ir_fork
 (ir_fork
 (ir_fork
 (ir_fork
 (ir_fork
 (ir_fork
 (ir_leaf (funcB_sound (E := EC) Go.Proofs.Tryz.func362 k362))
 (ir_leaf (funcB_sound (E := EC) Go.Proofs.Tryz.func347 k347)))
 (ir_fork
 (ir_leaf (funcB_sound (E := EC) Go.Proofs.Tryz.func345 k345))
 (ir_leaf (funcB_sound (E := EC) Go.Proofs.Tryz.func327 k327))))
 (ir_fork
 (ir_fork
 (ir_leaf (funcB_sound (E := EC) Go.Proofs.Tryz.func326 k326))
 (ir_leaf (funcB_sound (E := EC) Go.Proofs.Tryz.func325 k325)))
 (ir_leaf (funcB_sound (E := EC) Go.Proofs.Tryz.func322 k322))))
 (ir_fork
 (ir_fork
 (ir_fork
 (ir_leaf (funcB_sound (E := EC) Go.Proofs.Tryz.func321 k321))
 (ir_leaf (funcB_sound (E := EC) Go.Proofs.Tryz.func309 k309)))
 (ir_fork
 (ir_leaf (funcB_sound (E := EC) Go.Proofs.Tryz.func307 k307))
 (ir_leaf (funcB_sound (E := EC) Go.Proofs.Tryz.func306 k306))))
 (ir_fork
 (ir_fork
 (ir_leaf (funcB_sound (E := EC) Go.Proofs.Tryz.func299 k299))
 (ir_leaf (funcB_sound (E := EC) Go.Proofs.Tryz.func292 k292)))
 (ir_leaf (funcB_sound (E := EC) Go.Proofs.Tryz.func287 k287)))))
 (ir_fork
 (ir_fork
 (ir_fork
 (ir_fork
 (ir_leaf (funcB_sound (E := EC) Go.Proofs.Tryz.func284 k284))
 (ir_leaf (funcB_sound (E := EC) Go.Proofs.Tryz.func283 k283)))
 (ir_fork
 (ir_leaf (funcB_sound (E := EC) Go.Proofs.Tryz.func282 k282))
 (ir_leaf (funcB_sound (E := EC) Go.Proofs.Tryz.func281 k281))))
 (ir_fork
 (ir_fork
 (ir_leaf (funcB_sound (E := EC) Go.Proofs.Tryz.func280 k280))
 (ir_leaf (funcB_sound (E := EC) Go.Proofs.Tryz.func278 k278)))
 (ir_leaf (funcB_sound (E := EC) Go.Proofs.Tryz.func277 k277))))
 (ir_fork
 (ir_fork
 (ir_fork
 (ir_leaf (funcB_sound (E := EC) Go.Proofs.Tryz.func276 k276))
 (ir_leaf (funcB_sound (E := EC) Go.Proofs.Tryz.func275 k275)))
 (ir_fork
 (ir_leaf (funcB_sound (E := EC) Go.Proofs.Tryz.func274 k274))
 (ir_leaf (funcB_sound (E := EC) Go.Proofs.Tryz.func273 k273))))
 (ir_fork
 (ir_fork
 (ir_leaf (funcB_sound (E := EC) Go.Proofs.Tryz.func272 k272))
 (ir_leaf (funcB_sound (E := EC) Go.Proofs.Tryz.func269 k269)))
 (ir_leaf (funcB_sound (E := EC) Go.Proofs.Tryz.func265 k265))))))
 (ir_fork
 (ir_fork
 (ir_fork
 (ir_fork
 (ir_fork
 (ir_leaf (funcB_sound (E := EC) Go.Proofs.Tryz.func261 k261))
 (ir_leaf (funcB_sound (E := EC) Go.Proofs.Tryz.func247 k247)))
 (ir_fork
 (ir_leaf (funcB_sound (E := EC) Go.Proofs.Tryz.func246 k246))
 (ir_leaf (funcB_sound (E := EC) Go.Proofs.Tryz.func242 k242))))
 (ir_fork
 (ir_fork
 (ir_leaf (funcB_sound (E := EC) Go.Proofs.Tryz.func241 k241))
 (ir_leaf (funcB_sound (E := EC) Go.Proofs.Tryz.func239 k239)))
 (ir_leaf (funcB_sound (E := EC) Go.Proofs.Tryz.func238 k238))))
 (ir_fork
 (ir_fork
 (ir_fork
 (ir_leaf (funcB_sound (E := EC) Go.Proofs.Tryz.func228 k228))
 (ir_leaf (funcB_sound (E := EC) Go.Proofs.Tryz.func227 k227)))
 (ir_fork
 (ir_leaf (funcB_sound (E := EC) Go.Proofs.Tryz.func226 k226))
 (ir_leaf (funcB_sound (E := EC) Go.Proofs.Tryz.func225 k225))))
 (ir_fork
 (ir_fork
 (ir_leaf (funcB_sound (E := EC) Go.Proofs.Tryz.func224 k224))
 (ir_leaf (funcB_sound (E := EC) Go.Proofs.Tryz.func223 k223)))
 (ir_leaf (funcB_sound (E := EC) Go.Proofs.Tryz.func222 k222)))))
 (ir_fork
 (ir_fork
 (ir_fork
 (ir_fork
 (ir_leaf (funcB_sound (E := EC) Go.Proofs.Tryz.func221 k221))
 (ir_leaf (funcB_sound (E := EC) Go.Proofs.Tryz.func220 k220)))
 (ir_fork
 (ir_leaf (funcB_sound (E := EC) Go.Proofs.Tryz.func219 k219))
 (ir_leaf (funcB_sound (E := EC) Go.Proofs.Tryz.func218 k218))))
 (ir_fork
 (ir_fork
 (ir_leaf (funcB_sound (E := EC) Go.Proofs.Tryz.func215 k215))
 (ir_leaf (funcB_sound (E := EC) Go.Proofs.Tryz.func214 k214)))
 (ir_leaf (funcB_sound (E := EC) Go.Proofs.Tryz.func213 k213))))
 (ir_fork
 (ir_fork
 (ir_fork
 (ir_leaf (funcB_sound (E := EC) Go.Proofs.Tryz.func212 k212))
 (ir_leaf (funcB_sound (E := EC) Go.Proofs.Tryz.func211 k211)))
 (ir_fork
 (ir_leaf (funcB_sound (E := EC) Go.Proofs.Tryz.func210 k210))
 (ir_leaf (funcB_sound (E := EC) Go.Proofs.Tryz.func209 k209))))
 (ir_fork
 (ir_fork
 (ir_leaf (funcB_sound (E := EC) Go.Proofs.Tryz.func208 k208))
 (ir_leaf (funcB_sound (E := EC) Go.Proofs.Tryz.func207 k207)))
 (ir_leaf (funcB_sound (E := EC) Go.Proofs.Tryz.func206 k206)))))))
 (ir_fork
 (ir_fork
 (ir_fork
 (ir_fork
 (ir_fork
 (ir_fork
 (ir_leaf (funcB_sound (E := EC) Go.Proofs.Tryz.func199 k199))
 (ir_leaf (funcB_sound (E := EC) Go.Proofs.Tryz.func193 k193)))
 (ir_fork
 (ir_leaf (funcB_sound (E := EC) Go.Proofs.Tryz.func192 k192))
 (ir_leaf (funcB_sound (E := EC) Go.Proofs.Tryz.func191 k191))))
 (ir_fork
 (ir_fork
 (ir_leaf (funcB_sound (E := EC) Go.Proofs.Tryz.func189 k189))
 (ir_leaf (funcB_sound (E := EC) Go.Proofs.Tryz.func188 k188)))
 (ir_leaf (funcB_sound (E := EC) Go.Proofs.Tryz.func187 k187))))
 (ir_fork
 (ir_fork
 (ir_fork
 (ir_leaf (funcB_sound (E := EC) Go.Proofs.Tryz.func185 k185))
 (ir_leaf (funcB_sound (E := EC) Go.Proofs.Tryz.func184 k184)))
 (ir_fork
 (ir_leaf (funcB_sound (E := EC) Go.Proofs.Tryz.func182 k182))
 (ir_leaf (funcB_sound (E := EC) Go.Proofs.Tryz.func181 k181))))
 (ir_fork
 (ir_fork
 (ir_leaf (funcB_sound (E := EC) Go.Proofs.Tryz.func180 k180))
 (ir_leaf (funcB_sound (E := EC) Go.Proofs.Tryz.func179 k179)))
 (ir_leaf (funcB_sound (E := EC) Go.Proofs.Tryz.func178 k178)))))
 (ir_fork
 (ir_fork
 (ir_fork
 (ir_fork
 (ir_leaf (funcB_sound (E := EC) Go.Proofs.Tryz.func177 k177))
 (ir_leaf (funcB_sound (E := EC) Go.Proofs.Tryz.func176 k176)))
 (ir_fork
 (ir_leaf (funcB_sound (E := EC) Go.Proofs.Tryz.func175 k175))
 (ir_leaf (funcB_sound (E := EC) Go.Proofs.Tryz.func174 k174))))
 (ir_fork
 (ir_fork
 (ir_leaf (funcB_sound (E := EC) Go.Proofs.Tryz.func173 k173))
 (ir_leaf (funcB_sound (E := EC) Go.Proofs.Tryz.func172 k172)))
 (ir_leaf (funcB_sound (E := EC) Go.Proofs.Tryz.func169 k169))))
 (ir_fork
 (ir_fork
 (ir_fork
 (ir_leaf (funcB_sound (E := EC) Go.Proofs.Tryz.func168 k168))
 (ir_leaf (funcB_sound (E := EC) Go.Proofs.Tryz.func165 k165)))
 (ir_fork
 (ir_leaf (funcB_sound (E := EC) Go.Proofs.Tryz.func164 k164))
 (ir_leaf (funcB_sound (E := EC) Go.Proofs.Tryz.func163 k163))))
 (ir_fork
 (ir_fork
 (ir_leaf (funcB_sound (E := EC) Go.Proofs.Tryz.func162 k162))
 (ir_leaf (funcB_sound (E := EC) Go.Proofs.Tryz.func160 k160)))
 (ir_leaf (funcB_sound (E := EC) Go.Proofs.Tryz.func157 k157))))))
 (ir_fork
 (ir_fork
 (ir_fork
 (ir_fork
 (ir_fork
 (ir_leaf (funcB_sound (E := EC) Go.Proofs.Tryz.func156 k156))
 (ir_leaf (funcB_sound (E := EC) Go.Proofs.Tryz.func155 k155)))
 (ir_fork
 (ir_leaf (funcB_sound (E := EC) Go.Proofs.Tryz.func154 k154))
 (ir_leaf (funcB_sound (E := EC) Go.Proofs.Tryz.func153 k153))))
 (ir_fork
 (ir_fork
 (ir_leaf (funcB_sound (E := EC) Go.Proofs.Tryz.func152 k152))
 (ir_leaf (funcB_sound (E := EC) Go.Proofs.Tryz.func151 k151)))
 (ir_leaf (funcB_sound (E := EC) Go.Proofs.Tryz.func150 k150))))
 (ir_fork
 (ir_fork
 (ir_fork
 (ir_leaf (funcB_sound (E := EC) Go.Proofs.Tryz.func149 k149))
 (ir_leaf (funcB_sound (E := EC) Go.Proofs.Tryz.func148 k148)))
 (ir_fork
 (ir_leaf (funcB_sound (E := EC) Go.Proofs.Tryz.func141 k141))
 (ir_leaf (funcB_sound (E := EC) Go.Proofs.Tryz.func140 k140))))
 (ir_fork
 (ir_fork
 (ir_leaf (funcB_sound (E := EC) Go.Proofs.Tryz.func138 k138))
 (ir_leaf (funcB_sound (E := EC) Go.Proofs.Tryz.func137 k137)))
 (ir_leaf (funcB_sound (E := EC) Go.Proofs.Tryz.func135 k135)))))
 (ir_fork
 (ir_fork
 (ir_fork
 (ir_fork
 (ir_leaf (funcB_sound (E := EC) Go.Proofs.Tryz.func134 k134))
 (ir_leaf (funcB_sound (E := EC) Go.Proofs.Tryz.func133 k133)))
 (ir_fork
 (ir_leaf (funcB_sound (E := EC) Go.Proofs.Tryz.func132 k132))
 (ir_leaf (funcB_sound (E := EC) Go.Proofs.Tryz.func130 k130))))
 (ir_fork
 (ir_fork
 (ir_leaf (funcB_sound (E := EC) Go.Proofs.Tryz.func129 k129))
 (ir_leaf (funcB_sound (E := EC) Go.Proofs.Tryz.func127 k127)))
 (ir_leaf (funcB_sound (E := EC) Go.Proofs.Tryz.func125 k125))))
 (ir_fork
 (ir_fork
 (ir_fork
 (ir_leaf (funcB_sound (E := EC) Go.Proofs.Tryz.func124 k124))
 (ir_leaf (funcB_sound (E := EC) Go.Proofs.Tryz.func123 k123)))
 (ir_leaf (funcB_sound (E := EC) Go.Proofs.Tryz.func122 k122)))
 (ir_fork
 (ir_fork
 (ir_leaf (funcB_sound (E := EC) Go.Proofs.Tryz.func121 k121))
 (ir_leaf (funcB_sound (E := EC) Go.Proofs.Tryz.func120 k120)))
 (ir_leaf (funcB_sound (E := EC) Go.Proofs.Tryz.func118 k118))))))))
 (ir_fork
 (ir_fork
 (ir_fork
 (ir_fork
 (ir_fork
 (ir_fork
 (ir_fork
 (ir_leaf (funcB_sound (E := EC) Go.Proofs.Tryz.func117 k117))
 (ir_leaf (funcB_sound (E := EC) Go.Proofs.Tryz.func116 k116)))
 (ir_fork
 (ir_leaf (funcB_sound (E := EC) Go.Proofs.Tryz.func115 k115))
 (ir_leaf (funcB_sound (E := EC) Go.Proofs.Tryz.func114 k114))))
 (ir_fork
 (ir_fork
 (ir_leaf (funcB_sound (E := EC) Go.Proofs.Tryz.func113 k113))
 (ir_leaf (funcB_sound (E := EC) Go.Proofs.Tryz.func112 k112)))
 (ir_leaf (funcB_sound (E := EC) Go.Proofs.Tryz.func111 k111))))
 (ir_fork
 (ir_fork
 (ir_fork
 (ir_leaf (funcB_sound (E := EC) Go.Proofs.Tryz.func110 k110))
 (ir_leaf (funcB_sound (E := EC) Go.Proofs.Tryz.func109 k109)))
 (ir_fork
 (ir_leaf (funcB_sound (E := EC) Go.Proofs.Tryz.func107 k107))
 (ir_leaf (funcB_sound (E := EC) Go.Proofs.Tryz.func106 k106))))
 (ir_fork
 (ir_fork
 (ir_leaf (funcB_sound (E := EC) Go.Proofs.Tryz.func105 k105))
 (ir_leaf (funcB_sound (E := EC) Go.Proofs.Tryz.func104 k104)))
 (ir_leaf (funcB_sound (E := EC) Go.Proofs.Tryz.func103 k103)))))
 (ir_fork
 (ir_fork
 (ir_fork
 (ir_fork
 (ir_leaf (funcB_sound (E := EC) Go.Proofs.Tryz.func102 k102))
 (ir_leaf (funcB_sound (E := EC) Go.Proofs.Tryz.func101 k101)))
 (ir_fork
 (ir_leaf (funcB_sound (E := EC) Go.Proofs.Tryz.func100 k100))
 (ir_leaf (funcB_sound (E := EC) Go.Proofs.Tryz.func99 k99))))
 (ir_fork
 (ir_fork
 (ir_leaf (funcB_sound (E := EC) Go.Proofs.Tryz.func98 k98))
 (ir_leaf (funcB_sound (E := EC) Go.Proofs.Tryz.func97 k97)))
 (ir_leaf (funcB_sound (E := EC) Go.Proofs.Tryz.func96 k96))))
 (ir_fork
 (ir_fork
 (ir_fork
 (ir_leaf (funcB_sound (E := EC) Go.Proofs.Tryz.func95 k95))
 (ir_leaf (funcB_sound (E := EC) Go.Proofs.Tryz.func94 k94)))
 (ir_fork
 (ir_leaf (funcB_sound (E := EC) Go.Proofs.Tryz.func93 k93))
 (ir_leaf (funcB_sound (E := EC) Go.Proofs.Tryz.func92 k92))))
 (ir_fork
 (ir_fork
 (ir_leaf (funcB_sound (E := EC) Go.Proofs.Tryz.func91 k91))
 (ir_leaf (funcB_sound (E := EC) Go.Proofs.Tryz.func90 k90)))
 (ir_leaf (funcB_sound (E := EC) Go.Proofs.Tryz.func88 k88))))))
 (ir_fork
 (ir_fork
 (ir_fork
 (ir_fork
 (ir_fork
 (ir_leaf (funcB_sound (E := EC) Go.Proofs.Tryz.func87 k87))
 (ir_leaf (funcB_sound (E := EC) Go.Proofs.Tryz.func85 k85)))
 (ir_fork
 (ir_leaf (funcB_sound (E := EC) Go.Proofs.Tryz.func84 k84))
 (ir_leaf (funcB_sound (E := EC) Go.Proofs.Tryz.func82 k82))))
 (ir_fork
 (ir_fork
 (ir_leaf (funcB_sound (E := EC) Go.Proofs.Tryz.func81 k81))
 (ir_leaf (funcB_sound (E := EC) Go.Proofs.Tryz.func80 k80)))
 (ir_leaf (funcB_sound (E := EC) Go.Proofs.Tryz.func79 k79))))
 (ir_fork
 (ir_fork
 (ir_fork
 (ir_leaf (funcB_sound (E := EC) Go.Proofs.Tryz.func78 k78))
 (ir_leaf (funcB_sound (E := EC) Go.Proofs.Tryz.func77 k77)))
 (ir_fork
 (ir_leaf (funcB_sound (E := EC) Go.Proofs.Tryz.func76 k76))
 (ir_leaf (funcB_sound (E := EC) Go.Proofs.Tryz.func75 k75))))
 (ir_fork
 (ir_fork
 (ir_leaf (funcB_sound (E := EC) Go.Proofs.Tryz.func74 k74))
 (ir_leaf (funcB_sound (E := EC) Go.Proofs.Tryz.func73 k73)))
 (ir_leaf (funcB_sound (E := EC) Go.Proofs.Tryz.func72 k72)))))
 (ir_fork
 (ir_fork
 (ir_fork
 (ir_fork
 (ir_leaf (funcB_sound (E := EC) Go.Proofs.Tryz.func71 k71))
 (ir_leaf (funcB_sound (E := EC) Go.Proofs.Tryz.func70 k70)))
 (ir_fork
 (ir_leaf (funcB_sound (E := EC) Go.Proofs.Tryz.func69 k69))
 (ir_leaf (funcB_sound (E := EC) Go.Proofs.Tryz.func68 k68))))
 (ir_fork
 (ir_fork
 (ir_leaf (funcB_sound (E := EC) Go.Proofs.Tryz.func67 k67))
 (ir_leaf (funcB_sound (E := EC) Go.Proofs.Tryz.func66 k66)))
 (ir_leaf (funcB_sound (E := EC) Go.Proofs.Tryz.func65 k65))))
 (ir_fork
 (ir_fork
 (ir_fork
 (ir_leaf (funcB_sound (E := EC) Go.Proofs.Tryz.func64 k64))
 (ir_leaf (funcB_sound (E := EC) Go.Proofs.Tryz.func63 k63)))
 (ir_fork
 (ir_leaf (funcB_sound (E := EC) Go.Proofs.Tryz.func62 k62))
 (ir_leaf (funcB_sound (E := EC) Go.Proofs.Tryz.func61 k61))))
 (ir_fork
 (ir_fork
 (ir_leaf (funcB_sound (E := EC) Go.Proofs.Tryz.func60 k60))
 (ir_leaf (funcB_sound (E := EC) Go.Proofs.Tryz.func59 k59)))
 (ir_leaf (funcB_sound (E := EC) Go.Proofs.Tryz.func58 k58)))))))
 (ir_fork
 (ir_fork
 (ir_fork
 (ir_fork
 (ir_fork
 (ir_fork
 (ir_leaf (funcB_sound (E := EC) Go.Proofs.Tryz.func57 k57))
 (ir_leaf (funcB_sound (E := EC) Go.Proofs.Tryz.func56 k56)))
 (ir_fork
 (ir_leaf (funcB_sound (E := EC) Go.Proofs.Tryz.func55 k55))
 (ir_leaf (funcB_sound (E := EC) Go.Proofs.Tryz.func54 k54))))
 (ir_fork
 (ir_fork
 (ir_leaf (funcB_sound (E := EC) Go.Proofs.Tryz.func53 k53))
 (ir_leaf (funcB_sound (E := EC) Go.Proofs.Tryz.func52 k52)))
 (ir_leaf (funcB_sound (E := EC) Go.Proofs.Tryz.func51 k51))))
 (ir_fork
 (ir_fork
 (ir_fork
 (ir_leaf (funcB_sound (E := EC) Go.Proofs.Tryz.func50 k50))
 (ir_leaf (funcB_sound (E := EC) Go.Proofs.Tryz.func49 k49)))
 (ir_fork
 (ir_leaf (funcB_sound (E := EC) Go.Proofs.Tryz.func48 k48))
 (ir_leaf (funcB_sound (E := EC) Go.Proofs.Tryz.func47 k47))))
 (ir_fork
 (ir_fork
 (ir_leaf (funcB_sound (E := EC) Go.Proofs.Tryz.func46 k46))
 (ir_leaf (funcB_sound (E := EC) Go.Proofs.Tryz.func45 k45)))
 (ir_leaf (funcB_sound (E := EC) Go.Proofs.Tryz.func44 k44)))))
 (ir_fork
 (ir_fork
 (ir_fork
 (ir_fork
 (ir_leaf (funcB_sound (E := EC) Go.Proofs.Tryz.func43 k43))
 (ir_leaf (funcB_sound (E := EC) Go.Proofs.Tryz.func42 k42)))
 (ir_fork
 (ir_leaf (funcB_sound (E := EC) Go.Proofs.Tryz.func41 k41))
 (ir_leaf (funcB_sound (E := EC) Go.Proofs.Tryz.func40 k40))))
 (ir_fork
 (ir_fork
 (ir_leaf (funcB_sound (E := EC) Go.Proofs.Tryz.func39 k39))
 (ir_leaf (funcB_sound (E := EC) Go.Proofs.Tryz.func38 k38)))
 (ir_leaf (funcB_sound (E := EC) Go.Proofs.Tryz.func37 k37))))
 (ir_fork
 (ir_fork
 (ir_fork
 (ir_leaf (funcB_sound (E := EC) Go.Proofs.Tryz.func36 k36))
 (ir_leaf (funcB_sound (E := EC) Go.Proofs.Tryz.func35 k35)))
 (ir_fork
 (ir_leaf (funcB_sound (E := EC) Go.Proofs.Tryz.func34 k34))
 (ir_leaf (funcB_sound (E := EC) Go.Proofs.Tryz.func33 k33))))
 (ir_fork
 (ir_fork
 (ir_leaf (funcB_sound (E := EC) Go.Proofs.Tryz.func32 k32))
 (ir_leaf (funcB_sound (E := EC) Go.Proofs.Tryz.func31 k31)))
 (ir_leaf (funcB_sound (E := EC) Go.Proofs.Tryz.func30 k30))))))
 (ir_fork
 (ir_fork
 (ir_fork
 (ir_fork
 (ir_fork
 (ir_leaf (funcB_sound (E := EC) Go.Proofs.Tryz.func29 k29))
 (ir_leaf (funcB_sound (E := EC) Go.Proofs.Tryz.func28 k28)))
 (ir_fork
 (ir_leaf (funcB_sound (E := EC) Go.Proofs.Tryz.func27 k27))
 (ir_leaf (funcB_sound (E := EC) Go.Proofs.Tryz.func26 k26))))
 (ir_fork
 (ir_fork
 (ir_leaf (funcB_sound (E := EC) Go.Proofs.Tryz.func25 k25))
 (ir_leaf (funcB_sound (E := EC) Go.Proofs.Tryz.func24 k24)))
 (ir_leaf (funcB_sound (E := EC) Go.Proofs.Tryz.func23 k23))))
 (ir_fork
 (ir_fork
 (ir_fork
 (ir_leaf (funcB_sound (E := EC) Go.Proofs.Tryz.func22 k22))
 (ir_leaf (funcB_sound (E := EC) Go.Proofs.Tryz.func21 k21)))
 (ir_fork
 (ir_leaf (funcB_sound (E := EC) Go.Proofs.Tryz.func20 k20))
 (ir_leaf (funcB_sound (E := EC) Go.Proofs.Tryz.func19 k19))))
 (ir_fork
 (ir_fork
 (ir_leaf (funcB_sound (E := EC) Go.Proofs.Tryz.func18 k18))
 (ir_leaf (funcB_sound (E := EC) Go.Proofs.Tryz.func17 k17)))
 (ir_leaf (funcB_sound (E := EC) Go.Proofs.Tryz.func16 k16)))))
 (ir_fork
 (ir_fork
 (ir_fork
 (ir_fork
 (ir_leaf (funcB_sound (E := EC) Go.Proofs.Tryz.func15 k15))
 (ir_leaf (funcB_sound (E := EC) Go.Proofs.Tryz.func14 k14)))
 (ir_fork
 (ir_leaf (funcB_sound (E := EC) Go.Proofs.Tryz.func13 k13))
 (ir_leaf (funcB_sound (E := EC) Go.Proofs.Tryz.func12 k12))))
 (ir_fork
 (ir_fork
 (ir_leaf (funcB_sound (E := EC) Go.Proofs.Tryz.func11 k11))
 (ir_leaf (funcB_sound (E := EC) Go.Proofs.Tryz.func10 k10)))
 (ir_leaf (funcB_sound (E := EC) Go.Proofs.Tryz.func9 k9))))
 (ir_fork
 (ir_fork
 (ir_fork
 (ir_leaf (funcB_sound (E := EC) Go.Proofs.Tryz.func8 k8))
 (ir_leaf (funcB_sound (E := EC) Go.Proofs.Tryz.func7 k7)))
 (ir_leaf (funcB_sound (E := EC) Go.Proofs.Tryz.func6 k6)))
 (ir_fork
 (ir_fork
 (ir_leaf (funcB_sound (E := EC) Go.Proofs.Tryz.func5 k5))
 (ir_leaf (funcB_sound (E := EC) Go.Proofs.Tryz.func4 k4)))
 (ir_leaf (funcB_sound (E := EC) Go.Proofs.Tryz.func3 k3))))))))) h
theorem primOk : PrimOk EC := fun f p h => by cases h
end Go.Em
