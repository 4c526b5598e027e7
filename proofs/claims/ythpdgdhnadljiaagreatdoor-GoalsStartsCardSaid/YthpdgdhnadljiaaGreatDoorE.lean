/- The program's functions as abstract code, part 1. No condition. -/
import Derived.Test.YthpdgdhnadljiaaGreatDoorA
set_option linter.all false
namespace Go.Em.IR
open Go Go.Em

/-- An operation that makes a temporary. -/
abbrev o (d : Nat) (op : IOp) : IOper := ⟨some d, op, none⟩
/-- An operation that makes none. -/
abbrev e (op : IOp) : IOper := ⟨none, op, none⟩

def f3 : IFunc :=
 { np := 2, res := [.tmp 4], body :=
 (.seq (.region [o 3 (.lbox (.t 1)),
 o 4 (.mv (.k (.im (.sc (.bool false)))))])
 (.seq (.seq (.region [o 9 (.mv (.t 0)),
 o 10 (.len .sl (.t 9)),
 o 11 (.bin .gtr 3 false true (.t 10) (.k (.im (.sc (.int .i64 12))))),
 o 12 (.mv (.t 11)),
 ⟨(some 13), .mv (.t 0), (some (12, false))⟩,
 ⟨(some 14), .call 4 [(.t 13), (.k (.im (.fn (.func 5) [] [])))], (some (12, false))⟩,
 o 15 (.pick (.t 12) (.k (.im (.sc (.bool true)))) (.t 14)),
 o 16 (.mv (.t 15)),
 ⟨(some 17), .ld 5 true (.b 3), (some (16, false))⟩,
 ⟨(some 18), .call 6 [(.t 17)], (some (16, false))⟩,
 ⟨(some 19), .bin .gtr 3 false true (.t 18) (.k (.im (.sc (.int .i64 60)))), (some (16, false))⟩,
 o 20 (.pick (.t 16) (.k (.im (.sc (.bool true)))) (.t 19))])
 (.cond (.t 20)
 (.seq (.region [o 21 (.call 7 []),
 o 4 (.mv (.t 21))])
 .ret)
 .skip))
 (.seq (.region [o 23 (.mv (.t 0)),
 o 24 (.ld 5 true (.b 3)),
 o 25 (.call 8 [(.t 23), (.t 24)]),
 o 22 (.mv (.t 25)),
 o 26 (.extract (.t 22) 0),
 o 27 (.extract (.t 22) 1),
 o 5 (.lalloc [(.im (.sl [] .nil)), (.im (.sl [] .nil)), (.im (.sl [] .nil)), (.im (.sl [] .nil)), (.im (.sc (.int .i64 0))), (.im (.sl [] .nil)), (.im (.sc (.int .i64 0))), (.im (.sc (.int .i64 0))), (.im (.sc (.string ⟨#[]⟩))), (.im (.sl [] .nil)), (.im (.sl [] .nil)), (.im (.sc (.int .i64 0))), (.im (.sc (.int .i64 0))), (.im (.sc (.string ⟨#[]⟩))), (.im (.sl [] .nil)), (.im (.sl [] .nil))]),
 e (.st 16 (.b 5) (.t 26)),
 o 6 (.mv (.t 27))])
 (.seq (.region [o 29 (.mv (.t 0)),
 o 30 (.ld 5 true (.b 3)),
 o 31 (.call 9 [(.t 29), (.t 30)]),
 o 28 (.mv (.t 31)),
 o 32 (.extract (.t 28) 0),
 o 33 (.extract (.t 28) 1),
 o 7 (.lalloc [(.im (.sl [] .nil)), (.im (.sl [] .nil)), (.im (.sl [] .nil)), (.im (.sl [] .nil)), (.im (.sc (.int .i64 0))), (.im (.sl [] .nil)), (.im (.sc (.int .i64 0))), (.im (.sc (.int .i64 0))), (.im (.sc (.string ⟨#[]⟩))), (.im (.sl [] .nil)), (.im (.sl [] .nil)), (.im (.sc (.int .i64 0))), (.im (.sc (.int .i64 0))), (.im (.sc (.string ⟨#[]⟩))), (.im (.sl [] .nil)), (.im (.sl [] .nil))]),
 e (.st 16 (.b 7) (.t 32)),
 o 8 (.mv (.t 33))])
 (.seq (.region [o 34 (.ld 16 true (.b 5)),
 o 35 (.ld 16 true (.b 7)),
 o 36 (.call 10 [(.t 34), (.t 35)]),
 o 37 (.mv (.t 36)),
 ⟨(some 38), .mv (.t 6), (some (37, true))⟩,
 ⟨(some 39), .mv (.t 8), (some (37, true))⟩,
 ⟨(some 40), .bin .eql 3 false false (.t 38) (.t 39), (some (37, true))⟩,
 o 41 (.pick (.t 37) (.t 40) (.k (.im (.sc (.bool false))))),
 o 42 (.mv (.t 41)),
 ⟨(some 43), .call 7 [], (some (42, true))⟩,
 o 44 (.pick (.t 42) (.t 43) (.k (.im (.sc (.bool false))))),
 o 4 (.mv (.t 44))])
 .ret))))) }
def b3 : List Nat := [3, 5, 7]

def f4 : IFunc :=
 { np := 2, res := [.tmp 4], body :=
 (.seq (.region [o 4 (.mv (.k (.im (.sc (.bool false)))))])
 (.seq (.region [o 5 (.mv (.t 0)),
 o 6 (.mv (.t 1)),
 o 7 (.call 11 [(.t 5), (.t 6)]),
 o 8 (.bin .geq 3 false true (.t 7) (.k (.im (.sc (.int .i64 0))))),
 o 4 (.mv (.t 8))])
 .ret)) }
def b4 : List Nat := []

def f5 : IFunc :=
 { np := 1, res := [.tmp 2], body :=
 (.seq (.region [o 2 (.mv (.k (.im (.sc (.bool false)))))])
 (.seq (.region [o 3 (.mv (.t 0)),
 o 4 (.len .str (.t 3)),
 o 5 (.bin .gtr 3 false true (.t 4) (.k (.im (.sc (.int .i64 80))))),
 o 2 (.mv (.t 5))])
 .ret)) }
def b5 : List Nat := []

def f6 : IFunc :=
 { np := 1, res := [.tmp 2], body :=
 (.seq (.region [o 1 (.lbox (.t 0)),
 o 2 (.mv (.k (.im (.sc (.int .i64 0)))))])
 (.seq (.region [o 3 (.mv (.k (.im (.sc (.int .i64 1)))))])
 (.seq (.seq (.region [o 4 (.mv (.k (.im (.sc (.int .i64 0)))))])
 (.block 0 (.loop [2, 3, 4] [1] (.seq (.seq (.region [o 5 (.mv (.t 4)),
 o 6 (.off 4 (.b 1)),
 o 7 (.ld 1 false (.t 6)),
 o 8 (.len .sl (.t 7)),
 o 9 (.bin .lss 3 false false (.t 5) (.t 8))])
 (.cond (.t 9)
 .skip
 (.exit 0)))
 (.seq (.block 1 (.region [o 12 (.mv (.t 3)),
 o 13 (.off 4 (.b 1)),
 o 14 (.ld 1 false (.t 13)),
 o 15 (.mv (.t 4)),
 o 16 (.idxA 5 none (.t 14) (.t 15)),
 o 17 (.ld 5 true (.t 16)),
 o 18 (.call 6 [(.t 17)]),
 o 19 (.bin .add 3 false false (.t 12) (.t 18)),
 o 3 (.mv (.t 19))]))
 (.region [o 10 (.mv (.t 4)),
 o 11 (.bin .add 3 false true (.t 10) (.k (.im (.sc (.int .i64 1))))),
 o 4 (.mv (.t 11))]))))))
 (.seq (.region [o 20 (.mv (.t 3)),
 o 2 (.mv (.t 20))])
 .ret)))) }
def b6 : List Nat := [1]

def f7 : IFunc :=
 { np := 0, res := [.tmp 0], body :=
 (.seq (.region [o 0 (.mv (.k (.im (.sc (.bool false)))))])
 (.seq (.region [o 13 (.call 12 []),
 o 14 (.call 13 [(.k (.im (.sc (.string ⟨#[78, 97, 116]⟩))))]),
 o 2 (.lalloc [(.im (.sc (.int .i64 0))), (.im (.sc (.int .i64 0))), (.im (.sc (.string ⟨#[]⟩))), (.im (.sl [] .nil)), (.im (.sl [] .nil))]),
 o 1 (.mv (.t 13)),
 e (.st 5 (.b 2) (.t 14))])
 (.seq (.region [o 16 (.ld 5 true (.b 2)),
 o 17 (.call 8 [(.k (.im (.sl [] .nil))), (.t 16)]),
 o 15 (.mv (.t 17)),
 o 18 (.extract (.t 15) 0),
 o 19 (.extract (.t 15) 1),
 o 3 (.lalloc [(.im (.sl [] .nil)), (.im (.sl [] .nil)), (.im (.sl [] .nil)), (.im (.sl [] .nil)), (.im (.sc (.int .i64 0))), (.im (.sl [] .nil)), (.im (.sc (.int .i64 0))), (.im (.sc (.int .i64 0))), (.im (.sc (.string ⟨#[]⟩))), (.im (.sl [] .nil)), (.im (.sl [] .nil)), (.im (.sc (.int .i64 0))), (.im (.sc (.int .i64 0))), (.im (.sc (.string ⟨#[]⟩))), (.im (.sl [] .nil)), (.im (.sl [] .nil))]),
 e (.st 16 (.b 3) (.t 18)),
 o 4 (.mv (.t 19))])
 (.seq (.draw [o 21 (.mv (.t 1)),
 o 22 (.ld 16 true (.b 3)),
 o 23 (.call 13 [(.k (.im (.sc (.string ⟨#[78, 97, 116, 46, 122, 101, 114, 111]⟩))))]),
 o 24 (.call 14 [(.t 21), (.t 22), (.t 23), (.k (.im (.sl [] .nil)))]),
 o 20 (.mv (.t 24)),
 o 25 (.extract (.t 20) 0),
 o 26 (.extract (.t 20) 1),
 o 5 (.lalloc [(.im (.sl [] .nil)), (.im (.sl [] .nil)), (.im (.sl [] .nil)), (.im (.sl [] .nil)), (.im (.sc (.int .i64 0))), (.im (.sl [] .nil)), (.im (.sc (.int .i64 0))), (.im (.sc (.int .i64 0))), (.im (.sc (.string ⟨#[]⟩))), (.im (.sl [] .nil)), (.im (.sl [] .nil)), (.im (.sc (.int .i64 0))), (.im (.sc (.int .i64 0))), (.im (.sc (.string ⟨#[]⟩))), (.im (.sl [] .nil)), (.im (.sl [] .nil))]),
 e (.st 16 (.b 5) (.t 25)),
 o 6 (.mv (.t 26))] [0, 1, 3, 0, 0, 0, 32, 127, 64, 0])
 (.seq (.region [o 28 (.mv (.t 1)),
 o 29 (.ld 16 true (.b 5)),
 o 30 (.call 15 [(.t 28), (.t 29)]),
 o 27 (.mv (.t 30)),
 o 31 (.extract (.t 27) 0),
 o 32 (.extract (.t 27) 1),
 o 7 (.lalloc [(.im (.sc (.int .i64 0))), (.im (.sc (.int .i64 0))), (.im (.sc (.string ⟨#[]⟩))), (.im (.sl [] .nil)), (.im (.sl [] .nil))]),
 e (.st 5 (.b 7) (.t 31)),
 o 8 (.mv (.t 32))])
 (.seq (.draw [o 34 (.mv (.t 1)),
 o 35 (.ld 16 true (.b 3)),
 o 36 (.call 13 [(.k (.im (.sc (.string ⟨#[78, 97, 116, 46, 115, 117, 99, 99]⟩))))]),
 o 37 (.build [(.im (.sc (.int .i64 0))), (.im (.sc (.int .i64 0))), (.im (.sc (.string ⟨#[]⟩))), (.im (.sl [] .nil)), (.im (.sl [] .nil))] [(0, 1, (.k (.im (.sc (.int .i64 12))))), (1, 1, (.k (.im (.sc (.int .i64 1)))))]),
 o 38 (.mkS 5 2 [(.im (.sc (.int .i64 0))), (.im (.sc (.int .i64 0))), (.im (.sc (.string ⟨#[]⟩))), (.im (.sl [] .nil)), (.im (.sl [] .nil))] [(0, (.t 36)), (1, (.t 37))]),
 o 39 (.build [(.im (.sc (.int .i64 0))), (.im (.sc (.int .i64 0))), (.im (.sc (.string ⟨#[]⟩))), (.im (.sl [] .nil)), (.im (.sl [] .nil))] [(0, 1, (.k (.im (.sc (.int .i64 4))))), (4, 1, (.t 38))]),
 o 40 (.ld 5 true (.b 2)),
 o 41 (.build [(.im (.sc (.int .i64 0))), (.im (.sl [] .nil)), (.im (.sl [] .nil)), (.im (.sc (.int .i64 0))), (.im (.sc (.int .i64 0))), (.im (.sc (.string ⟨#[]⟩))), (.im (.sl [] .nil)), (.im (.sl [] .nil))] [(3, 5, (.t 40))]),
 o 42 (.mkS 8 1 [(.im (.sc (.int .i64 0))), (.im (.sl [] .nil)), (.im (.sl [] .nil)), (.im (.sc (.int .i64 0))), (.im (.sc (.int .i64 0))), (.im (.sc (.string ⟨#[]⟩))), (.im (.sl [] .nil)), (.im (.sl [] .nil))] [(0, (.t 41))]),
 o 43 (.call 14 [(.t 34), (.t 35), (.t 39), (.t 42)]),
 o 33 (.mv (.t 43)),
 o 44 (.extract (.t 33) 0),
 o 45 (.extract (.t 33) 1),
 o 9 (.lalloc [(.im (.sl [] .nil)), (.im (.sl [] .nil)), (.im (.sl [] .nil)), (.im (.sl [] .nil)), (.im (.sc (.int .i64 0))), (.im (.sl [] .nil)), (.im (.sc (.int .i64 0))), (.im (.sc (.int .i64 0))), (.im (.sc (.string ⟨#[]⟩))), (.im (.sl [] .nil)), (.im (.sl [] .nil)), (.im (.sc (.int .i64 0))), (.im (.sc (.int .i64 0))), (.im (.sc (.string ⟨#[]⟩))), (.im (.sl [] .nil)), (.im (.sl [] .nil))]),
 e (.st 16 (.b 9) (.t 44)),
 o 10 (.mv (.t 45))] [0, 1, 3, 7, 3, 3, 63, 63, 63, 0, 0, 0, 2048, 8191, 4096, 0])
 (.seq (.region [o 47 (.mv (.t 1)),
 o 48 (.ld 16 true (.b 3)),
 o 49 (.build [(.im (.sc (.int .i64 0))), (.im (.sc (.int .i64 0))), (.im (.sc (.string ⟨#[]⟩))), (.im (.sl [] .nil)), (.im (.sl [] .nil))] [(0, 1, (.k (.im (.sc (.int .i64 1)))))]),
 o 50 (.call 14 [(.t 47), (.t 48), (.t 49), (.k (.im (.sl [] .nil)))]),
 o 46 (.mv (.t 50)),
 o 51 (.extract (.t 46) 0),
 o 52 (.extract (.t 46) 1),
 o 11 (.lalloc [(.im (.sl [] .nil)), (.im (.sl [] .nil)), (.im (.sl [] .nil)), (.im (.sl [] .nil)), (.im (.sc (.int .i64 0))), (.im (.sl [] .nil)), (.im (.sc (.int .i64 0))), (.im (.sc (.int .i64 0))), (.im (.sc (.string ⟨#[]⟩))), (.im (.sl [] .nil)), (.im (.sl [] .nil)), (.im (.sc (.int .i64 0))), (.im (.sc (.int .i64 0))), (.im (.sc (.string ⟨#[]⟩))), (.im (.sl [] .nil)), (.im (.sl [] .nil))]),
 e (.st 16 (.b 11) (.t 51)),
 o 12 (.mv (.t 52))])
 (.seq (.draw [o 53 (.mv (.t 4)),
 o 54 (.mv (.t 6)),
 o 55 (.bin .add 39 false false (.t 53) (.t 54)),
 o 56 (.mv (.t 8)),
 o 57 (.bin .add 39 false false (.t 55) (.t 56)),
 o 58 (.mv (.t 10)),
 o 59 (.bin .add 39 false false (.t 57) (.t 58)),
 o 60 (.bin .eql 39 false true (.t 59) (.k (.im (.sc (.int .i64 0))))),
 o 61 (.mv (.t 60)),
 ⟨(some 62), .off 5 (.b 3), (some (61, true))⟩,
 ⟨(some 63), .ld 1 false (.t 62), (some (61, true))⟩,
 ⟨(some 64), .len .sl (.t 63), (some (61, true))⟩,
 ⟨(some 65), .bin .eql 3 false true (.t 64) (.k (.im (.sc (.int .i64 1)))), (some (61, true))⟩,
 o 66 (.pick (.t 61) (.t 65) (.k (.im (.sc (.bool false))))),
 o 67 (.mv (.t 66)),
 ⟨(some 68), .off 5 (.b 5), (some (67, true))⟩,
 ⟨(some 69), .ld 1 false (.t 68), (some (67, true))⟩,
 ⟨(some 70), .len .sl (.t 69), (some (67, true))⟩,
 ⟨(some 71), .bin .eql 3 false true (.t 70) (.k (.im (.sc (.int .i64 0)))), (some (67, true))⟩,
 o 72 (.pick (.t 67) (.t 71) (.k (.im (.sc (.bool false))))),
 o 73 (.mv (.t 72)),
 ⟨(some 74), .ld 5 true (.b 7), (some (73, true))⟩,
 ⟨(some 75), .call 13 [(.k (.im (.sc (.string ⟨#[78, 97, 116, 46, 122, 101, 114, 111]⟩))))], (some (73, true))⟩,
 ⟨(some 76), .call 16 [(.t 74), (.t 75)], (some (73, true))⟩,
 o 77 (.pick (.t 73) (.t 76) (.k (.im (.sc (.bool false))))),
 o 78 (.mv (.t 77)),
 ⟨(some 79), .off 5 (.b 9), (some (78, true))⟩,
 ⟨(some 80), .ld 1 false (.t 79), (some (78, true))⟩,
 ⟨(some 81), .len .sl (.t 80), (some (78, true))⟩,
 ⟨(some 82), .bin .eql 3 false true (.t 81) (.k (.im (.sc (.int .i64 1)))), (some (78, true))⟩,
 o 83 (.pick (.t 78) (.t 82) (.k (.im (.sc (.bool false))))),
 o 84 (.mv (.t 83)),
 ⟨(some 85), .off 5 (.b 9), (some (84, true))⟩,
 ⟨(some 86), .ld 1 false (.t 85), (some (84, true))⟩,
 ⟨(some 87), .idxA 8 none (.t 86) (.k (.im (.sc (.int .i64 0)))), (some (84, true))⟩,
 ⟨(some 88), .off 0 (.t 87), (some (84, true))⟩,
 ⟨(some 89), .ld 1 false (.t 88), (some (84, true))⟩,
 ⟨(some 90), .bin .eql 3 false true (.t 89) (.k (.im (.sc (.int .i64 1)))), (some (84, true))⟩,
 o 91 (.pick (.t 84) (.t 90) (.k (.im (.sc (.bool false))))),
 o 92 (.mv (.t 91)),
 ⟨(some 93), .mv (.t 12), (some (92, true))⟩,
 ⟨(some 94), .bin .eql 39 false true (.t 93) (.k (.im (.sc (.int .i64 10)))), (some (92, true))⟩,
 o 95 (.pick (.t 92) (.t 94) (.k (.im (.sc (.bool false))))),
 o 96 (.mv (.t 95)),
 ⟨(some 97), .mv (.t 1), (some (96, true))⟩,
 ⟨(some 98), .ld 16 true (.b 9), (some (96, true))⟩,
 ⟨(some 99), .call 17 [(.t 97), (.t 98)], (some (96, true))⟩,
 ⟨(some 100), .bin .eql 39 false true (.t 99) (.k (.im (.sc (.int .i64 0)))), (some (96, true))⟩,
 o 101 (.pick (.t 96) (.t 100) (.k (.im (.sc (.bool false))))),
 o 0 (.mv (.t 101))] [0, 1, 0, 7, 0, 31, 0, 0, 0, 0, 0, 0, 0, 0, 0, 0, 0, 0, 0, 0, 0, 0, 2097152, 0, 0, 0, 0, 0, 0, 0, 0, 0, 0, 0, 0, 0, 0, 0, 0, 0, 0, 0, 0, 0, 0, 17592186044416, 0, 0, 0, 0])
 .ret)))))))) }
def b7 : List Nat := [2, 3, 5, 7, 9, 11]

def f8 : IFunc :=
 { np := 2, res := [.cell 4 16 true, .tmp 5], body :=
 (.seq (.region [o 3 (.lbox (.t 1)),
 o 4 (.lalloc [(.im (.sl [] .nil)), (.im (.sl [] .nil)), (.im (.sl [] .nil)), (.im (.sl [] .nil)), (.im (.sc (.int .i64 0))), (.im (.sl [] .nil)), (.im (.sc (.int .i64 0))), (.im (.sc (.int .i64 0))), (.im (.sc (.string ⟨#[]⟩))), (.im (.sl [] .nil)), (.im (.sl [] .nil)), (.im (.sc (.int .i64 0))), (.im (.sc (.int .i64 0))), (.im (.sc (.string ⟨#[]⟩))), (.im (.sl [] .nil)), (.im (.sl [] .nil))]),
 o 5 (.mv (.k (.im (.sc (.int .i64 0)))))])
 (.seq (.seq (.region [o 7 (.mv (.t 0)),
 o 8 (.len .sl (.t 7)),
 o 9 (.bin .gtr 3 false true (.t 8) (.k (.im (.sc (.int .i64 8)))))])
 (.cond (.t 9)
 (.seq (.region [o 10 (.build [(.im (.sl [] .nil)), (.im (.sl [] .nil)), (.im (.sl [] .nil)), (.im (.sl [] .nil)), (.im (.sc (.int .i64 0))), (.im (.sl [] .nil)), (.im (.sc (.int .i64 0))), (.im (.sc (.int .i64 0))), (.im (.sc (.string ⟨#[]⟩))), (.im (.sl [] .nil)), (.im (.sl [] .nil)), (.im (.sc (.int .i64 0))), (.im (.sc (.int .i64 0))), (.im (.sc (.string ⟨#[]⟩))), (.im (.sl [] .nil)), (.im (.sl [] .nil))] []),
 e (.st 16 (.b 4) (.t 10)),
 o 5 (.mv (.k (.im (.sc (.int .i64 6)))))])
 .ret)
 .skip))
 (.seq (.seq (.region [o 11 (.ld 5 true (.b 3)),
 o 12 (.mv (.t 0)),
 o 13 (.len .sl (.t 12)),
 o 14 (.call 18 [(.t 11), (.k (.im (.sc (.int .i64 0)))), (.t 13), (.k (.im (.sc (.int .i64 0)))), (.k (.im (.sc (.int .i64 0))))]),
 o 6 (.mv (.t 14))])
 (.seq (.region [o 15 (.mv (.t 6)),
 o 16 (.bin .neq 39 false true (.t 15) (.k (.im (.sc (.int .i64 0)))))])
 (.cond (.t 16)
 (.seq (.region [o 17 (.build [(.im (.sl [] .nil)), (.im (.sl [] .nil)), (.im (.sl [] .nil)), (.im (.sl [] .nil)), (.im (.sc (.int .i64 0))), (.im (.sl [] .nil)), (.im (.sc (.int .i64 0))), (.im (.sc (.int .i64 0))), (.im (.sc (.string ⟨#[]⟩))), (.im (.sl [] .nil)), (.im (.sl [] .nil)), (.im (.sc (.int .i64 0))), (.im (.sc (.int .i64 0))), (.im (.sc (.string ⟨#[]⟩))), (.im (.sl [] .nil)), (.im (.sl [] .nil))] []),
 o 18 (.mv (.t 6)),
 e (.st 16 (.b 4) (.t 17)),
 o 5 (.mv (.t 18))])
 .ret)
 .skip)))
 (.seq (.draw [o 19 (.mv (.t 0)),
 o 20 (.call 19 [(.t 19)]),
 o 21 (.ld 5 true (.b 3)),
 o 22 (.build [(.im (.sc (.int .i64 0))), (.im (.sc (.int .i64 0))), (.im (.sc (.string ⟨#[]⟩))), (.im (.sl [] .nil)), (.im (.sl [] .nil)), (.im (.sc (.bool false))), (.im (.sc (.int .i64 0))), (.im (.sc (.int .i64 0))), (.im (.sc (.string ⟨#[]⟩))), (.im (.sl [] .nil)), (.im (.sl [] .nil)), (.im (.sc (.bool false)))] [(0, 5, (.t 21))]),
 o 23 (.mkS 12 1 [(.im (.sc (.int .i64 0))), (.im (.sc (.int .i64 0))), (.im (.sc (.string ⟨#[]⟩))), (.im (.sl [] .nil)), (.im (.sl [] .nil)), (.im (.sc (.bool false))), (.im (.sc (.int .i64 0))), (.im (.sc (.int .i64 0))), (.im (.sc (.string ⟨#[]⟩))), (.im (.sl [] .nil)), (.im (.sl [] .nil)), (.im (.sc (.bool false)))] [(0, (.t 22))]),
 o 24 (.build [(.im (.sl [] .nil)), (.im (.sl [] .nil)), (.im (.sl [] .nil)), (.im (.sc (.int .i64 0)))] [(0, 1, (.t 23))]),
 o 25 (.ld 5 true (.b 3)),
 o 26 (.build [(.im (.sc (.int .i64 0))), (.im (.sl [] .nil)), (.im (.sl [] .nil)), (.im (.sc (.int .i64 0))), (.im (.sc (.int .i64 0))), (.im (.sc (.string ⟨#[]⟩))), (.im (.sl [] .nil)), (.im (.sl [] .nil))] [(3, 5, (.t 25))]),
 o 27 (.mkS 8 1 [(.im (.sc (.int .i64 0))), (.im (.sl [] .nil)), (.im (.sl [] .nil)), (.im (.sc (.int .i64 0))), (.im (.sc (.int .i64 0))), (.im (.sc (.string ⟨#[]⟩))), (.im (.sl [] .nil)), (.im (.sl [] .nil))] [(0, (.t 26))]),
 o 28 (.ld 5 true (.b 3)),
 o 29 (.build [(.im (.sc (.int .i64 0))), (.im (.sc (.int .i64 0))), (.im (.sc (.string ⟨#[]⟩))), (.im (.sl [] .nil)), (.im (.sl [] .nil))] [(0, 1, (.k (.im (.sc (.int .i64 12)))))]),
 o 30 (.build [(.im (.sl [] .nil)), (.im (.sl [] .nil)), (.im (.sl [] .nil)), (.im (.sl [] .nil)), (.im (.sc (.int .i64 0))), (.im (.sl [] .nil)), (.im (.sc (.int .i64 0))), (.im (.sc (.int .i64 0))), (.im (.sc (.string ⟨#[]⟩))), (.im (.sl [] .nil)), (.im (.sl [] .nil)), (.im (.sc (.int .i64 0))), (.im (.sc (.int .i64 0))), (.im (.sc (.string ⟨#[]⟩))), (.im (.sl [] .nil)), (.im (.sl [] .nil))] [(0, 1, (.t 20)), (1, 4, (.t 24)), (5, 1, (.t 27)), (6, 5, (.t 28)), (11, 5, (.t 29))]),
 e (.st 16 (.b 4) (.t 30)),
 o 5 (.mv (.k (.im (.sc (.int .i64 0)))))] [0, 0, 3, 3, 3, 3, 63, 63, 63, 511, 1023, 0, 0, 0])
 .ret)))) }
def b8 : List Nat := [3, 4]

def f9 : IFunc :=
 { np := 2, res := [.cell 4 16 true, .tmp 5], body :=
 (.seq (.region [o 3 (.lbox (.t 1)),
 o 4 (.lalloc [(.im (.sl [] .nil)), (.im (.sl [] .nil)), (.im (.sl [] .nil)), (.im (.sl [] .nil)), (.im (.sc (.int .i64 0))), (.im (.sl [] .nil)), (.im (.sc (.int .i64 0))), (.im (.sc (.int .i64 0))), (.im (.sc (.string ⟨#[]⟩))), (.im (.sl [] .nil)), (.im (.sl [] .nil)), (.im (.sc (.int .i64 0))), (.im (.sc (.int .i64 0))), (.im (.sc (.string ⟨#[]⟩))), (.im (.sl [] .nil)), (.im (.sl [] .nil))]),
 o 5 (.mv (.k (.im (.sc (.int .i64 0)))))])
 (.seq (.seq (.region [o 8 (.mv (.t 0)),
 o 9 (.len .sl (.t 8)),
 o 10 (.bin .gtr 3 false true (.t 9) (.k (.im (.sc (.int .i64 8)))))])
 (.cond (.t 10)
 (.seq (.region [o 11 (.build [(.im (.sl [] .nil)), (.im (.sl [] .nil)), (.im (.sl [] .nil)), (.im (.sl [] .nil)), (.im (.sc (.int .i64 0))), (.im (.sl [] .nil)), (.im (.sc (.int .i64 0))), (.im (.sc (.int .i64 0))), (.im (.sc (.string ⟨#[]⟩))), (.im (.sl [] .nil)), (.im (.sl [] .nil)), (.im (.sc (.int .i64 0))), (.im (.sc (.int .i64 0))), (.im (.sc (.string ⟨#[]⟩))), (.im (.sl [] .nil)), (.im (.sl [] .nil))] []),
 e (.st 16 (.b 4) (.t 11)),
 o 5 (.mv (.k (.im (.sc (.int .i64 6)))))])
 .ret)
 .skip))
 (.seq (.seq (.region [o 12 (.ld 5 true (.b 3)),
 o 13 (.mv (.t 0)),
 o 14 (.len .sl (.t 13)),
 o 15 (.call 20 [(.t 12), (.k (.im (.sc (.int .i64 0)))), (.t 14), (.k (.im (.sc (.int .i64 0)))), (.k (.im (.sc (.int .i64 0))))]),
 o 6 (.mv (.t 15))])
 (.seq (.region [o 16 (.mv (.t 6)),
 o 17 (.bin .neq 3 false true (.t 16) (.k (.im (.sc (.int .i64 0)))))])
 (.cond (.t 17)
 (.seq (.region [o 18 (.build [(.im (.sl [] .nil)), (.im (.sl [] .nil)), (.im (.sl [] .nil)), (.im (.sl [] .nil)), (.im (.sc (.int .i64 0))), (.im (.sl [] .nil)), (.im (.sc (.int .i64 0))), (.im (.sc (.int .i64 0))), (.im (.sc (.string ⟨#[]⟩))), (.im (.sl [] .nil)), (.im (.sl [] .nil)), (.im (.sc (.int .i64 0))), (.im (.sc (.int .i64 0))), (.im (.sc (.string ⟨#[]⟩))), (.im (.sl [] .nil)), (.im (.sl [] .nil))] []),
 o 19 (.mv (.t 6)),
 e (.st 16 (.b 4) (.t 18)),
 o 5 (.mv (.t 19))])
 .ret)
 .skip)))
 (.seq (.region [o 7 (.mv (.k (.im (.sl [] .nil))))])
 (.seq (.region [o 20 (.mv (.t 7)),
 o 21 (.mv (.t 0)),
 o 22 (.append 1 false (.t 20) (.t 21)),
 o 7 (.mv (.t 22))])
 (.seq (.region [o 23 (.mv (.t 7)),
 o 24 (.ld 5 true (.b 3)),
 o 25 (.build [(.im (.sc (.int .i64 0))), (.im (.sc (.int .i64 0))), (.im (.sc (.string ⟨#[]⟩))), (.im (.sl [] .nil)), (.im (.sl [] .nil)), (.im (.sc (.bool false))), (.im (.sc (.int .i64 0))), (.im (.sc (.int .i64 0))), (.im (.sc (.string ⟨#[]⟩))), (.im (.sl [] .nil)), (.im (.sl [] .nil)), (.im (.sc (.bool false)))] [(0, 5, (.t 24))]),
 o 26 (.mkS 12 1 [(.im (.sc (.int .i64 0))), (.im (.sc (.int .i64 0))), (.im (.sc (.string ⟨#[]⟩))), (.im (.sl [] .nil)), (.im (.sl [] .nil)), (.im (.sc (.bool false))), (.im (.sc (.int .i64 0))), (.im (.sc (.int .i64 0))), (.im (.sc (.string ⟨#[]⟩))), (.im (.sl [] .nil)), (.im (.sl [] .nil)), (.im (.sc (.bool false)))] [(0, (.t 25))]),
 o 27 (.build [(.im (.sl [] .nil)), (.im (.sl [] .nil)), (.im (.sl [] .nil)), (.im (.sc (.int .i64 0)))] [(0, 1, (.t 26))]),
 o 28 (.ld 5 true (.b 3)),
 o 29 (.build [(.im (.sc (.int .i64 0))), (.im (.sl [] .nil)), (.im (.sl [] .nil)), (.im (.sc (.int .i64 0))), (.im (.sc (.int .i64 0))), (.im (.sc (.string ⟨#[]⟩))), (.im (.sl [] .nil)), (.im (.sl [] .nil))] [(3, 5, (.t 28))]),
 o 30 (.mkS 8 1 [(.im (.sc (.int .i64 0))), (.im (.sl [] .nil)), (.im (.sl [] .nil)), (.im (.sc (.int .i64 0))), (.im (.sc (.int .i64 0))), (.im (.sc (.string ⟨#[]⟩))), (.im (.sl [] .nil)), (.im (.sl [] .nil))] [(0, (.t 29))]),
 o 31 (.ld 5 true (.b 3)),
 o 32 (.build [(.im (.sc (.int .i64 0))), (.im (.sc (.int .i64 0))), (.im (.sc (.string ⟨#[]⟩))), (.im (.sl [] .nil)), (.im (.sl [] .nil))] [(0, 1, (.k (.im (.sc (.int .i64 12)))))]),
 o 33 (.build [(.im (.sl [] .nil)), (.im (.sl [] .nil)), (.im (.sl [] .nil)), (.im (.sl [] .nil)), (.im (.sc (.int .i64 0))), (.im (.sl [] .nil)), (.im (.sc (.int .i64 0))), (.im (.sc (.int .i64 0))), (.im (.sc (.string ⟨#[]⟩))), (.im (.sl [] .nil)), (.im (.sl [] .nil)), (.im (.sc (.int .i64 0))), (.im (.sc (.int .i64 0))), (.im (.sc (.string ⟨#[]⟩))), (.im (.sl [] .nil)), (.im (.sl [] .nil))] [(0, 1, (.t 23)), (1, 4, (.t 27)), (5, 1, (.t 30)), (6, 5, (.t 31)), (11, 5, (.t 32))]),
 e (.st 16 (.b 4) (.t 33)),
 o 5 (.mv (.k (.im (.sc (.int .i64 0)))))])
 .ret)))))) }
def b9 : List Nat := [3, 4]

def f10 : IFunc :=
 { np := 2, res := [.tmp 4], body :=
 (.seq (.region [o 2 (.lbox (.t 0)),
 o 3 (.lbox (.t 1)),
 o 4 (.mv (.k (.im (.sc (.bool false)))))])
 (.seq (.region [o 5 (.off 0 (.b 2)),
 o 6 (.ld 1 false (.t 5)),
 o 7 (.off 0 (.b 3)),
 o 8 (.ld 1 false (.t 7)),
 o 9 (.call 21 [(.t 6), (.t 8)]),
 o 10 (.mv (.t 9)),
 ⟨(some 11), .off 1 (.b 2), (some (10, true))⟩,
 ⟨(some 12), .ld 4 true (.t 11), (some (10, true))⟩,
 ⟨(some 13), .off 1 (.b 3), (some (10, true))⟩,
 ⟨(some 14), .ld 4 true (.t 13), (some (10, true))⟩,
 ⟨(some 15), .call 22 [(.t 12), (.t 14)], (some (10, true))⟩,
 o 16 (.pick (.t 10) (.t 15) (.k (.im (.sc (.bool false))))),
 o 17 (.mv (.t 16)),
 ⟨(some 18), .off 5 (.b 2), (some (17, true))⟩,
 ⟨(some 19), .ld 1 false (.t 18), (some (17, true))⟩,
 ⟨(some 20), .off 5 (.b 3), (some (17, true))⟩,
 ⟨(some 21), .ld 1 false (.t 20), (some (17, true))⟩,
 ⟨(some 22), .call 23 [(.t 19), (.t 21)], (some (17, true))⟩,
 o 23 (.pick (.t 17) (.t 22) (.k (.im (.sc (.bool false))))),
 o 24 (.mv (.t 23)),
 ⟨(some 25), .off 6 (.b 2), (some (24, true))⟩,
 ⟨(some 26), .ld 5 true (.t 25), (some (24, true))⟩,
 ⟨(some 27), .off 6 (.b 3), (some (24, true))⟩,
 ⟨(some 28), .ld 5 true (.t 27), (some (24, true))⟩,
 ⟨(some 29), .call 16 [(.t 26), (.t 28)], (some (24, true))⟩,
 o 30 (.pick (.t 24) (.t 29) (.k (.im (.sc (.bool false))))),
 o 31 (.mv (.t 30)),
 ⟨(some 32), .off 11 (.b 2), (some (31, true))⟩,
 ⟨(some 33), .ld 5 true (.t 32), (some (31, true))⟩,
 ⟨(some 34), .off 11 (.b 3), (some (31, true))⟩,
 ⟨(some 35), .ld 5 true (.t 34), (some (31, true))⟩,
 ⟨(some 36), .call 16 [(.t 33), (.t 35)], (some (31, true))⟩,
 o 37 (.pick (.t 31) (.t 36) (.k (.im (.sc (.bool false))))),
 o 4 (.mv (.t 37))])
 .ret)) }
def b10 : List Nat := [2, 3]

def f11 : IFunc :=
 { np := 2, res := [.tmp 4], body :=
 (.seq (.region [o 4 (.mv (.k (.im (.sc (.int .i64 0)))))])
 (.seq (.seq (.region [o 6 (.mv (.t 0)),
 o 7 (.len .sl (.t 6)),
 o 8 (.mv (.k (.im (.sc (.int .i64 0)))))])
 (.block 0 (.loop [0, 1, 4, 7, 8] [] (.seq (.region [o 9 (.bin .lss 3 false false (.t 8) (.t 7))])
 (.seq (.cond (.t 9)
 .skip
 (.exit 0))
 (.seq (.block 1 (.seq (.region [o 10 (.mv (.t 8)),
 o 5 (.mv (.t 10))])
 (.seq (.region [o 11 (.mv (.t 1)),
 o 12 (.mv (.t 0)),
 o 13 (.mv (.t 5)),
 o 14 (.idxA 1 none (.t 12) (.t 13)),
 o 15 (.ld 1 false (.t 14)),
 o 16 (.calld (.t 11) [(.t 15)])])
 (.cond (.t 16)
 (.seq (.region [o 17 (.mv (.t 5)),
 o 4 (.mv (.t 17))])
 .ret)
 .skip))))
 (.region [o 18 (.bin .add 3 false true (.t 8) (.k (.im (.sc (.int .i64 1))))),
 o 8 (.mv (.t 18))])))))))
 (.seq (.region [o 4 (.mv (.k (.im (.sc (.int .i64 (-1))))))])
 .ret))) }
def b11 : List Nat := []

def f12 : IFunc :=
 { np := 0, res := [.tmp 0], body :=
 (.seq (.region [o 0 (.mv (.k (.im (.sl [] .nil))))])
 (.seq (.region [o 3 (.call 13 [(.k (.im (.sc (.string ⟨#[78, 97, 116]⟩))))]),
 o 1 (.lalloc [(.im (.sc (.int .i64 0))), (.im (.sc (.int .i64 0))), (.im (.sc (.string ⟨#[]⟩))), (.im (.sl [] .nil)), (.im (.sl [] .nil))]),
 e (.st 5 (.b 1) (.t 3))])
 (.seq (.region [o 2 (.mv (.k (.im (.fn (.func 24) [] []))))])
 (.seq (.draw [o 4 (.mv (.t 2)),
 o 5 (.build [(.im (.sc (.int .i64 0))), (.im (.sl [] .nil))] []),
 o 6 (.mkS 2 1 [(.im (.sc (.int .i64 0))), (.im (.sl [] .nil))] [(0, (.t 5))]),
 o 7 (.build [(.im (.sc (.int .i64 0))), (.im (.sc (.int .i64 0))), (.im (.sc (.string ⟨#[]⟩))), (.im (.sl [] .nil)), (.im (.sl [] .nil))] [(0, 1, (.k (.im (.sc (.int .i64 2))))), (3, 1, (.t 6))]),
 o 8 (.calld (.t 4) [(.k (.im (.sc (.string ⟨#[78, 97, 116]⟩)))), (.t 7)]),
 o 9 (.mv (.t 2)),
 o 10 (.ld 5 true (.b 1)),
 o 11 (.calld (.t 9) [(.k (.im (.sc (.string ⟨#[78, 97, 116, 46, 122, 101, 114, 111]⟩)))), (.t 10)]),
 o 12 (.mv (.t 2)),
 o 13 (.ld 5 true (.b 1)),
 o 14 (.ld 5 true (.b 1)),
 o 15 (.call 25 [(.t 13), (.t 14)]),
 o 16 (.calld (.t 12) [(.k (.im (.sc (.string ⟨#[78, 97, 116, 46, 115, 117, 99, 99]⟩)))), (.t 15)]),
 o 17 (.mkS 23 3 [(.im (.sc (.int .i64 0))), (.im (.sc (.string ⟨#[]⟩))), (.im (.sc (.int .i64 0))), (.im (.sc (.int .i64 0))), (.im (.sc (.int .i64 0))), (.im (.sc (.string ⟨#[]⟩))), (.im (.sl [] .nil)), (.im (.sl [] .nil)), (.im (.sc (.int .i64 0))), (.im (.sc (.int .i64 0))), (.im (.sc (.string ⟨#[]⟩))), (.im (.sl [] .nil)), (.im (.sl [] .nil)), (.im (.sc (.int .i64 0))), (.im (.sl [] .nil)), (.im (.sc (.int .i64 0))), (.im (.sc (.int .i64 0))), (.im (.sc (.int .i64 0))), (.im (.sc (.string ⟨#[]⟩))), (.im (.sl [] .nil)), (.im (.sl [] .nil)), (.im (.sl [] .nil)), (.im (.sl [] .nil))] [(0, (.t 8)), (1, (.t 11)), (2, (.t 16))]),
 o 0 (.mv (.t 17))] [0, 1, 1, 1, 0, 31, 63, 0, 255, 511, 1023, 256, 0, 0, 0])
 .ret)))) }
def b12 : List Nat := [1]

def f13 : IFunc :=
 { np := 1, res := [.cell 2 5 true], body :=
 (.seq (.region [o 2 (.lalloc [(.im (.sc (.int .i64 0))), (.im (.sc (.int .i64 0))), (.im (.sc (.string ⟨#[]⟩))), (.im (.sl [] .nil)), (.im (.sl [] .nil))])])
 (.seq (.region [o 3 (.mv (.t 0)),
 o 4 (.build [(.im (.sc (.int .i64 0))), (.im (.sc (.int .i64 0))), (.im (.sc (.string ⟨#[]⟩))), (.im (.sl [] .nil)), (.im (.sl [] .nil))] [(0, 1, (.k (.im (.sc (.int .i64 3))))), (2, 1, (.t 3))]),
 e (.st 5 (.b 2) (.t 4))])
 .ret)) }
def b13 : List Nat := [2]

def f14 : IFunc :=
 { np := 4, res := [.cell 8 16 true, .tmp 9], body :=
 (.seq (.region [o 4 (.hbox (.t 0)),
 o 5 (.hbox (.t 1)),
 o 6 (.hbox (.t 2)),
 o 7 (.hbox (.t 3)),
 o 8 (.lalloc [(.im (.sl [] .nil)), (.im (.sl [] .nil)), (.im (.sl [] .nil)), (.im (.sl [] .nil)), (.im (.sc (.int .i64 0))), (.im (.sl [] .nil)), (.im (.sc (.int .i64 0))), (.im (.sc (.int .i64 0))), (.im (.sc (.string ⟨#[]⟩))), (.im (.sl [] .nil)), (.im (.sl [] .nil)), (.im (.sc (.int .i64 0))), (.im (.sc (.int .i64 0))), (.im (.sc (.string ⟨#[]⟩))), (.im (.sl [] .nil)), (.im (.sl [] .nil))]),
 o 9 (.mv (.k (.im (.sc (.int .i64 0)))))])
 (.seq (.region [o 11 (.mkfn (.func 27) [] [(.t 5), (.t 7), (.t 6), (.t 4)] []),
 o 12 (.call 26 [(.t 11)]),
 o 10 (.mv (.t 12))])
 (.seq (.seq (.region [o 13 (.mv (.t 10)),
 o 14 (.bin .neq 39 false true (.t 13) (.k (.im (.sc (.int .i64 0)))))])
 (.cond (.t 14)
 (.seq (.region [o 15 (.build [(.im (.sl [] .nil)), (.im (.sl [] .nil)), (.im (.sl [] .nil)), (.im (.sl [] .nil)), (.im (.sc (.int .i64 0))), (.im (.sl [] .nil)), (.im (.sc (.int .i64 0))), (.im (.sc (.int .i64 0))), (.im (.sc (.string ⟨#[]⟩))), (.im (.sl [] .nil)), (.im (.sl [] .nil)), (.im (.sc (.int .i64 0))), (.im (.sc (.int .i64 0))), (.im (.sc (.string ⟨#[]⟩))), (.im (.sl [] .nil)), (.im (.sl [] .nil))] []),
 o 16 (.mv (.t 10)),
 e (.st 16 (.b 8) (.t 15)),
 o 9 (.mv (.t 16))])
 .ret)
 .skip))
 (.seq (.region [o 17 (.ld 16 true (.t 5)),
 e (.st 16 (.b 8) (.t 17)),
 o 9 (.mv (.k (.im (.sc (.int .i64 0)))))])
 .ret)))) }
def b14 : List Nat := [8]

def f15 : IFunc :=
 { np := 2, res := [.cell 4 5 true, .tmp 5], body :=
 (.seq (.region [o 2 (.hbox (.t 0)),
 o 3 (.hbox (.t 1)),
 o 4 (.lalloc [(.im (.sc (.int .i64 0))), (.im (.sc (.int .i64 0))), (.im (.sc (.string ⟨#[]⟩))), (.im (.sl [] .nil)), (.im (.sl [] .nil))]),
 o 5 (.mv (.k (.im (.sc (.int .i64 0)))))])
 (.seq (.region [o 6 (.halloc [(.im (.sc (.int .i64 0))), (.im (.sc (.int .i64 0))), (.im (.sc (.string ⟨#[]⟩))), (.im (.sl [] .nil)), (.im (.sl [] .nil))])])
 (.seq (.region [o 8 (.mkfn (.func 37) [] [(.t 3), (.t 2), (.t 6)] [true, true, false]),
 o 9 (.call 26 [(.t 8)]),
 o 7 (.mv (.t 9))])
 (.seq (.seq (.region [o 10 (.mv (.t 7)),
 o 11 (.bin .neq 39 false true (.t 10) (.k (.im (.sc (.int .i64 0)))))])
 (.cond (.t 11)
 (.seq (.region [o 12 (.build [(.im (.sc (.int .i64 0))), (.im (.sc (.int .i64 0))), (.im (.sc (.string ⟨#[]⟩))), (.im (.sl [] .nil)), (.im (.sl [] .nil))] []),
 o 13 (.mv (.t 7)),
 e (.st 5 (.b 4) (.t 12)),
 o 5 (.mv (.t 13))])
 .ret)
 .skip))
 (.seq (.region [o 14 (.ld 5 true (.t 6)),
 e (.st 5 (.b 4) (.t 14)),
 o 5 (.mv (.k (.im (.sc (.int .i64 0)))))])
 .ret))))) }
def b15 : List Nat := [4]

def f16 : IFunc :=
 { np := 2, res := [.tmp 4], body :=
 (.seq (.region [o 2 (.lbox (.t 0)),
 o 3 (.lbox (.t 1)),
 o 4 (.mv (.k (.im (.sc (.bool false)))))])
 (.seq (.seq (.region [o 6 (.off 0 (.b 2)),
 o 7 (.ld 1 false (.t 6)),
 o 8 (.off 0 (.b 3)),
 o 9 (.ld 1 false (.t 8)),
 o 10 (.bin .neq 3 false false (.t 7) (.t 9)),
 o 11 (.mv (.t 10)),
 ⟨(some 12), .off 1 (.b 2), (some (11, false))⟩,
 ⟨(some 13), .ld 1 false (.t 12), (some (11, false))⟩,
 ⟨(some 14), .off 1 (.b 3), (some (11, false))⟩,
 ⟨(some 15), .ld 1 false (.t 14), (some (11, false))⟩,
 ⟨(some 16), .bin .neq 3 false false (.t 13) (.t 15), (some (11, false))⟩,
 o 17 (.pick (.t 11) (.k (.im (.sc (.bool true)))) (.t 16)),
 o 18 (.mv (.t 17)),
 ⟨(some 19), .off 2 (.b 2), (some (18, false))⟩,
 ⟨(some 20), .ld 1 false (.t 19), (some (18, false))⟩,
 ⟨(some 21), .off 2 (.b 3), (some (18, false))⟩,
 ⟨(some 22), .ld 1 false (.t 21), (some (18, false))⟩,
 ⟨(some 23), .bin .neq 9 false false (.t 20) (.t 22), (some (18, false))⟩,
 o 24 (.pick (.t 18) (.k (.im (.sc (.bool true)))) (.t 23)),
 o 25 (.mv (.t 24)),
 ⟨(some 26), .off 3 (.b 2), (some (25, false))⟩,
 ⟨(some 27), .ld 1 false (.t 26), (some (25, false))⟩,
 ⟨(some 28), .off 3 (.b 3), (some (25, false))⟩,
 ⟨(some 29), .ld 1 false (.t 28), (some (25, false))⟩,
 ⟨(some 30), .call 43 [(.t 27), (.t 29)], (some (25, false))⟩,
 ⟨(some 31), .un .not (.t 30), (some (25, false))⟩,
 o 32 (.pick (.t 25) (.k (.im (.sc (.bool true)))) (.t 31)),
 o 33 (.mv (.t 32)),
 ⟨(some 34), .off 4 (.b 2), (some (33, false))⟩,
 ⟨(some 35), .ld 1 false (.t 34), (some (33, false))⟩,
 ⟨(some 36), .len .sl (.t 35), (some (33, false))⟩,
 ⟨(some 37), .off 4 (.b 3), (some (33, false))⟩,
 ⟨(some 38), .ld 1 false (.t 37), (some (33, false))⟩,
 ⟨(some 39), .len .sl (.t 38), (some (33, false))⟩,
 ⟨(some 40), .bin .neq 3 false false (.t 36) (.t 39), (some (33, false))⟩,
 o 41 (.pick (.t 33) (.k (.im (.sc (.bool true)))) (.t 40))])
 (.cond (.t 41)
 (.seq (.region [o 4 (.mv (.k (.im (.sc (.bool false)))))])
 .ret)
 .skip))
 (.seq (.seq (.region [o 5 (.mv (.k (.im (.sc (.int .i64 0)))))])
 (.block 0 (.loop [4, 5] [2, 3] (.seq (.seq (.region [o 42 (.mv (.t 5)),
 o 43 (.off 4 (.b 2)),
 o 44 (.ld 1 false (.t 43)),
 o 45 (.len .sl (.t 44)),
 o 46 (.bin .lss 3 false false (.t 42) (.t 45))])
 (.cond (.t 46)
 .skip
 (.exit 0)))
 (.seq (.block 1 (.seq (.draw [o 49 (.off 4 (.b 2)),
 o 50 (.ld 1 false (.t 49)),
 o 51 (.mv (.t 5)),
 o 52 (.idxA 5 none (.t 50) (.t 51)),
 o 53 (.ld 5 true (.t 52)),
 o 54 (.off 4 (.b 3)),
 o 55 (.ld 1 false (.t 54)),
 o 56 (.mv (.t 5)),
 o 57 (.idxA 5 none (.t 55) (.t 56)),
 o 58 (.ld 5 true (.t 57)),
 o 59 (.call 16 [(.t 53), (.t 58)]),
 o 60 (.un .not (.t 59))] [0, 0, 3, 0, 0, 31, 31, 127, 31, 31, 0, 0])
 (.cond (.t 60)
 (.seq (.region [o 4 (.mv (.k (.im (.sc (.bool false)))))])
 .ret)
 .skip)))
 (.region [o 47 (.mv (.t 5)),
 o 48 (.bin .add 3 false true (.t 47) (.k (.im (.sc (.int .i64 1))))),
 o 5 (.mv (.t 48))]))))))
 (.seq (.region [o 4 (.mv (.k (.im (.sc (.bool true)))))])
 .ret)))) }
def b16 : List Nat := [2, 3]

def f17 : IFunc :=
 { np := 2, res := [.tmp 4], body :=
 (.seq (.region [o 2 (.hbox (.t 0)),
 o 3 (.hbox (.t 1)),
 o 4 (.mv (.k (.im (.sc (.int .i64 0)))))])
 (.seq (.region [o 5 (.mkfn (.func 44) [] [(.t 3), (.t 2)] [true, true]),
 o 6 (.call 26 [(.t 5)]),
 o 4 (.mv (.t 6))])
 .ret)) }
def b17 : List Nat := []

def f18 : IFunc :=
 { np := 5, res := [.cell 10 1 false], body :=
 (.seq (.region [o 5 (.lbox (.t 0)),
 o 10 (.halloc [(.im (.sc (.int .i64 0)))])])
 (.seq (.region [o 16 (.mv (.t 1)),
 o 17 (.sbuiltin .max [3, 3] 3 [(.t 16), (.k (.im (.sc (.int .i64 0))))]),
 o 18 (.mv (.t 2)),
 o 19 (.sbuiltin .max [3, 3] 3 [(.t 18), (.k (.im (.sc (.int .i64 0))))]),
 o 20 (.mv (.t 3)),
 o 21 (.sbuiltin .max [3, 3] 3 [(.t 20), (.k (.im (.sc (.int .i64 0))))]),
 o 22 (.mv (.t 4)),
 o 23 (.sbuiltin .max [3, 3] 3 [(.t 22), (.k (.im (.sc (.int .i64 0))))]),
 o 24 (.build [(.im (.sc (.int .i64 0))), (.im (.sc (.int .i64 0))), (.im (.sc (.int .i64 0))), (.im (.sc (.int .i64 0)))] [(0, 1, (.t 17)), (1, 1, (.t 19)), (2, 1, (.t 21)), (3, 1, (.t 23))]),
 o 11 (.halloc [(.im (.sc (.int .i64 0))), (.im (.sc (.int .i64 0))), (.im (.sc (.int .i64 0))), (.im (.sc (.int .i64 0)))]),
 e (.st 4 (.t 11) (.t 24))])
 (.seq (.region [o 12 (.halloc [(.im (.sc (.int .i64 0)))]),
 e (.st 1 (.t 12) (.k (.im (.sc (.int .i64 0)))))])
 (.seq (.seq (.region [o 25 (.ld 5 true (.b 5)),
 o 26 (.call 52 [(.t 25)])])
 (.block 0 (.rangeFunc (.t 26) [27, 28] [10, 11, 12]
 (.seq (.region [o 13 (.mv (.t 27))])
 (.region [o 14 (.lalloc [(.im (.sc (.int .i64 0))), (.im (.sc (.int .i64 0))), (.im (.sc (.string ⟨#[]⟩))), (.im (.sl [] .nil)), (.im (.sl [] .nil))]),
 e (.st 5 (.b 14) (.t 28))]))
 (.block 1 (.seq (.seq (.region [o 29 (.ld 4 true (.t 11)),
 o 30 (.ld 5 true (.b 14)),
 o 31 (.mv (.t 13)),
 o 32 (.call 53 [(.t 29), (.t 30), (.t 31)]),
 o 15 (.mv (.t 32))])
 (.seq (.region [o 33 (.mv (.t 15)),
 o 34 (.bin .neq 39 false true (.t 33) (.k (.im (.sc (.int .i64 0)))))])
 (.cond (.t 34)
 (.seq (.region [o 35 (.mv (.t 15)),
 e (.st 1 (.t 10) (.t 35))])
 .ret)
 .skip)))
 (.region [o 36 (.ld 1 false (.t 12)),
 o 37 (.bin .add 3 false true (.t 36) (.k (.im (.sc (.int .i64 1))))),
 e (.st 1 (.t 12) (.t 37))]))))))
 (.seq (.block 2 (.seq (.region [o 39 (.ld 1 false (.t 12)),
 o 40 (.bin .gtr 3 false true (.t 39) (.k (.im (.sc (.int .i64 4096))))),
 o 38 (.mv (.t 40))])
 (.cond (.t 38)
 (.seq (.region [e (.st 1 (.t 10) (.k (.im (.sc (.int .i64 5)))))])
 .ret)
 (.seq (.region [o 42 (.ld 5 true (.b 5)),
 o 43 (.call 54 [(.t 42)]),
 o 44 (.bin .gtr 3 false true (.t 43) (.k (.im (.sc (.int .i64 200))))),
 o 41 (.mv (.t 44))])
 (.cond (.t 41)
 (.seq (.region [e (.st 1 (.t 10) (.k (.im (.sc (.int .i64 7)))))])
 .ret)
 .skip)))))
 (.seq (.region [e (.st 1 (.t 10) (.k (.im (.sc (.int .i64 0)))))])
 .ret)))))) }
def b18 : List Nat := [5, 14]

def f19 : IFunc :=
 { np := 1, res := [.tmp 2], body :=
 (.seq (.region [o 2 (.mv (.k (.im (.sl [] .nil))))])
 (.seq (.seq (.region [o 3 (.mv (.t 0)),
 o 4 (.isnil .sl false (.t 3))])
 (.cond (.t 4)
 (.seq (.region [o 2 (.mv (.k (.im (.sl [] .nil))))])
 .ret)
 .skip))
 (.seq (.region [o 5 (.mkS 1 0 [(.im (.sc (.string ⟨#[]⟩)))] []),
 o 6 (.mv (.t 0)),
 o 7 (.append 1 false (.t 5) (.t 6)),
 o 2 (.mv (.t 7))])
 .ret))) }
def b19 : List Nat := []

def f20 : IFunc :=
 { np := 5, res := [.tmp 10], body :=
 (.seq (.region [o 5 (.lbox (.t 0)),
 o 10 (.mv (.k (.im (.sc (.int .i64 0)))))])
 (.seq (.seq (.region [o 12 (.ld 5 true (.b 5)),
 o 13 (.mv (.t 1)),
 o 14 (.sbuiltin .max [3, 3] 3 [(.t 13), (.k (.im (.sc (.int .i64 0))))]),
 o 15 (.mv (.t 2)),
 o 16 (.mv (.t 3)),
 o 17 (.mv (.t 4)),
 o 18 (.call 55 [(.t 12), (.k (.im (.sc (.int .i64 0)))), (.t 14), (.t 15), (.t 16), (.t 17)]),
 o 11 (.mv (.t 18))])
 (.seq (.region [o 19 (.mv (.t 11)),
 o 20 (.bin .neq 3 false true (.t 19) (.k (.im (.sc (.int .i64 0)))))])
 (.cond (.t 20)
 (.seq (.region [o 21 (.mv (.t 11)),
 o 10 (.mv (.t 21))])
 .ret)
 .skip)))
 (.seq (.seq (.region [o 22 (.ld 5 true (.b 5)),
 o 23 (.call 6 [(.t 22)]),
 o 24 (.bin .gtr 3 false true (.t 23) (.k (.im (.sc (.int .i64 4096)))))])
 (.cond (.t 24)
 (.seq (.region [o 10 (.mv (.k (.im (.sc (.int .i64 5)))))])
 .ret)
 .skip))
 (.seq (.seq (.region [o 25 (.ld 5 true (.b 5)),
 o 26 (.call 56 [(.t 25)]),
 o 27 (.bin .gtr 3 false true (.t 26) (.k (.im (.sc (.int .i64 200)))))])
 (.cond (.t 27)
 (.seq (.region [o 10 (.mv (.k (.im (.sc (.int .i64 7)))))])
 .ret)
 .skip))
 (.seq (.region [o 10 (.mv (.k (.im (.sc (.int .i64 0)))))])
 .ret))))) }
def b20 : List Nat := [5]

def f21 : IFunc :=
 { np := 2, res := [.tmp 4], body :=
 (.seq (.region [o 4 (.mv (.k (.im (.sc (.bool false)))))])
 (.seq (.seq (.region [o 6 (.mv (.t 0)),
 o 7 (.len .sl (.t 6)),
 o 8 (.mv (.t 1)),
 o 9 (.len .sl (.t 8)),
 o 10 (.bin .neq 3 false false (.t 7) (.t 9))])
 (.cond (.t 10)
 (.seq (.region [o 4 (.mv (.k (.im (.sc (.bool false)))))])
 .ret)
 .skip))
 (.seq (.seq (.region [o 5 (.mv (.k (.im (.sc (.int .i64 0)))))])
 (.block 0 (.loop [0, 1, 4, 5] [] (.seq (.seq (.region [o 11 (.mv (.t 5)),
 o 12 (.mv (.t 0)),
 o 13 (.len .sl (.t 12)),
 o 14 (.bin .lss 3 false false (.t 11) (.t 13))])
 (.cond (.t 14)
 .skip
 (.exit 0)))
 (.seq (.block 1 (.seq (.draw [o 17 (.mv (.t 0)),
 o 18 (.mv (.t 5)),
 o 19 (.idxA 1 none (.t 17) (.t 18)),
 o 20 (.ld 1 false (.t 19)),
 o 21 (.mv (.t 1)),
 o 22 (.mv (.t 5)),
 o 23 (.idxA 1 none (.t 21) (.t 22)),
 o 24 (.ld 1 false (.t 23)),
 o 25 (.bin .neq 9 false false (.t 20) (.t 24))] [0, 1, 0, 0, 15, 31, 15, 15, 0])
 (.cond (.t 25)
 (.seq (.region [o 4 (.mv (.k (.im (.sc (.bool false)))))])
 .ret)
 .skip)))
 (.region [o 15 (.mv (.t 5)),
 o 16 (.bin .add 3 false true (.t 15) (.k (.im (.sc (.int .i64 1))))),
 o 5 (.mv (.t 16))]))))))
 (.seq (.region [o 4 (.mv (.k (.im (.sc (.bool true)))))])
 .ret)))) }
def b21 : List Nat := []

def f22 : IFunc :=
 { np := 2, res := [.tmp 4], body :=
 (.seq (.region [o 2 (.lbox (.t 0)),
 o 3 (.lbox (.t 1)),
 o 4 (.mv (.k (.im (.sc (.bool false)))))])
 (.seq (.seq (.region [o 8 (.off 0 (.b 2)),
 o 9 (.ld 1 false (.t 8)),
 o 10 (.len .sl (.t 9)),
 o 11 (.off 0 (.b 3)),
 o 12 (.ld 1 false (.t 11)),
 o 13 (.len .sl (.t 12)),
 o 14 (.bin .neq 3 false false (.t 10) (.t 13)),
 o 15 (.mv (.t 14)),
 ⟨(some 16), .off 1 (.b 2), (some (15, false))⟩,
 ⟨(some 17), .ld 1 false (.t 16), (some (15, false))⟩,
 ⟨(some 18), .len .sl (.t 17), (some (15, false))⟩,
 ⟨(some 19), .off 1 (.b 3), (some (15, false))⟩,
 ⟨(some 20), .ld 1 false (.t 19), (some (15, false))⟩,
 ⟨(some 21), .len .sl (.t 20), (some (15, false))⟩,
 ⟨(some 22), .bin .neq 3 false false (.t 18) (.t 21), (some (15, false))⟩,
 o 23 (.pick (.t 15) (.k (.im (.sc (.bool true)))) (.t 22)),
 o 24 (.mv (.t 23)),
 ⟨(some 25), .off 2 (.b 2), (some (24, false))⟩,
 ⟨(some 26), .ld 1 false (.t 25), (some (24, false))⟩,
 ⟨(some 27), .len .sl (.t 26), (some (24, false))⟩,
 ⟨(some 28), .off 2 (.b 3), (some (24, false))⟩,
 ⟨(some 29), .ld 1 false (.t 28), (some (24, false))⟩,
 ⟨(some 30), .len .sl (.t 29), (some (24, false))⟩,
 ⟨(some 31), .bin .neq 3 false false (.t 27) (.t 30), (some (24, false))⟩,
 o 32 (.pick (.t 24) (.k (.im (.sc (.bool true)))) (.t 31)),
 o 33 (.mv (.t 32)),
 ⟨(some 34), .off 3 (.b 2), (some (33, false))⟩,
 ⟨(some 35), .ld 1 false (.t 34), (some (33, false))⟩,
 ⟨(some 36), .off 3 (.b 3), (some (33, false))⟩,
 ⟨(some 37), .ld 1 false (.t 36), (some (33, false))⟩,
 ⟨(some 38), .bin .neq 3 false false (.t 35) (.t 37), (some (33, false))⟩,
 o 39 (.pick (.t 33) (.k (.im (.sc (.bool true)))) (.t 38))])
 (.cond (.t 39)
 (.seq (.region [o 4 (.mv (.k (.im (.sc (.bool false)))))])
 .ret)
 .skip))
 (.seq (.seq (.region [o 5 (.mv (.k (.im (.sc (.int .i64 0)))))])
 (.block 0 (.loop [4, 5] [2, 3] (.seq (.seq (.region [o 40 (.mv (.t 5)),
 o 41 (.off 0 (.b 2)),
 o 42 (.ld 1 false (.t 41)),
 o 43 (.len .sl (.t 42)),
 o 44 (.bin .lss 3 false false (.t 40) (.t 43))])
 (.cond (.t 44)
 .skip
 (.exit 0)))
 (.seq (.block 1 (.seq (.draw [o 47 (.off 0 (.b 2)),
 o 48 (.ld 1 false (.t 47)),
 o 49 (.mv (.t 5)),
 o 50 (.idxA 12 none (.t 48) (.t 49)),
 o 51 (.ld 12 true (.t 50)),
 o 52 (.off 0 (.b 3)),
 o 53 (.ld 1 false (.t 52)),
 o 54 (.mv (.t 5)),
 o 55 (.idxA 12 none (.t 53) (.t 54)),
 o 56 (.ld 12 true (.t 55)),
 o 57 (.call 57 [(.t 51), (.t 56)]),
 o 58 (.un .not (.t 57))] [0, 0, 3, 0, 0, 31, 31, 127, 31, 31, 0, 0])
 (.cond (.t 58)
 (.seq (.region [o 4 (.mv (.k (.im (.sc (.bool false)))))])
 .ret)
 .skip)))
 (.region [o 45 (.mv (.t 5)),
 o 46 (.bin .add 3 false true (.t 45) (.k (.im (.sc (.int .i64 1))))),
 o 5 (.mv (.t 46))]))))))
 (.seq (.seq (.region [o 6 (.mv (.k (.im (.sc (.int .i64 0)))))])
 (.block 2 (.loop [4, 6] [2, 3] (.seq (.seq (.region [o 59 (.mv (.t 6)),
 o 60 (.off 1 (.b 2)),
 o 61 (.ld 1 false (.t 60)),
 o 62 (.len .sl (.t 61)),
 o 63 (.bin .lss 3 false false (.t 59) (.t 62))])
 (.cond (.t 63)
 .skip
 (.exit 2)))
 (.seq (.block 3 (.seq (.draw [o 66 (.off 1 (.b 2)),
 o 67 (.ld 1 false (.t 66)),
 o 68 (.mv (.t 6)),
 o 69 (.idxA 12 none (.t 67) (.t 68)),
 o 70 (.ld 12 true (.t 69)),
 o 71 (.off 1 (.b 3)),
 o 72 (.ld 1 false (.t 71)),
 o 73 (.mv (.t 6)),
 o 74 (.idxA 12 none (.t 72) (.t 73)),
 o 75 (.ld 12 true (.t 74)),
 o 76 (.call 58 [(.t 70), (.t 75)]),
 o 77 (.un .not (.t 76))] [0, 0, 3, 0, 0, 31, 31, 127, 31, 31, 0, 0])
 (.cond (.t 77)
 (.seq (.region [o 4 (.mv (.k (.im (.sc (.bool false)))))])
 .ret)
 .skip)))
 (.region [o 64 (.mv (.t 6)),
 o 65 (.bin .add 3 false true (.t 64) (.k (.im (.sc (.int .i64 1))))),
 o 6 (.mv (.t 65))]))))))
 (.seq (.seq (.region [o 7 (.mv (.k (.im (.sc (.int .i64 0)))))])
 (.block 4 (.loop [4, 7] [2, 3] (.seq (.seq (.region [o 78 (.mv (.t 7)),
 o 79 (.off 2 (.b 2)),
 o 80 (.ld 1 false (.t 79)),
 o 81 (.len .sl (.t 80)),
 o 82 (.bin .lss 3 false false (.t 78) (.t 81))])
 (.cond (.t 82)
 .skip
 (.exit 4)))
 (.seq (.block 5 (.seq (.draw [o 85 (.off 2 (.b 2)),
 o 86 (.ld 1 false (.t 85)),
 o 87 (.mv (.t 7)),
 o 88 (.idxA 4 none (.t 86) (.t 87)),
 o 89 (.off 0 (.t 88)),
 o 90 (.ld 2 true (.t 89)),
 o 91 (.off 2 (.b 3)),
 o 92 (.ld 1 false (.t 91)),
 o 93 (.mv (.t 7)),
 o 94 (.idxA 4 none (.t 92) (.t 93)),
 o 95 (.off 0 (.t 94)),
 o 96 (.ld 2 true (.t 95)),
 o 97 (.call 59 [(.t 90), (.t 96)]),
 o 98 (.un .not (.t 97)),
 o 99 (.mv (.t 98)),
 ⟨(some 100), .off 2 (.b 2), (some (99, false))⟩,
 ⟨(some 101), .ld 1 false (.t 100), (some (99, false))⟩,
 ⟨(some 102), .mv (.t 7), (some (99, false))⟩,
 ⟨(some 103), .idxA 4 none (.t 101) (.t 102), (some (99, false))⟩,
 ⟨(some 104), .off 2 (.t 103), (some (99, false))⟩,
 ⟨(some 105), .ld 2 true (.t 104), (some (99, false))⟩,
 ⟨(some 106), .off 2 (.b 3), (some (99, false))⟩,
 ⟨(some 107), .ld 1 false (.t 106), (some (99, false))⟩,
 ⟨(some 108), .mv (.t 7), (some (99, false))⟩,
 ⟨(some 109), .idxA 4 none (.t 107) (.t 108), (some (99, false))⟩,
 ⟨(some 110), .off 2 (.t 109), (some (99, false))⟩,
 ⟨(some 111), .ld 2 true (.t 110), (some (99, false))⟩,
 ⟨(some 112), .call 59 [(.t 105), (.t 111)], (some (99, false))⟩,
 ⟨(some 113), .un .not (.t 112), (some (99, false))⟩,
 o 114 (.pick (.t 99) (.k (.im (.sc (.bool true)))) (.t 113))] [0, 0, 3, 0, 0, 0, 63, 63, 255, 63, 63, 63, 0, 0, 0, 0, 0, 98304, 0, 0, 0, 2064384, 2064384, 8355840, 2064384, 2064384, 2064384, 0, 0, 0])
 (.cond (.t 114)
 (.seq (.region [o 4 (.mv (.k (.im (.sc (.bool false)))))])
 .ret)
 .skip)))
 (.region [o 83 (.mv (.t 7)),
 o 84 (.bin .add 3 false true (.t 83) (.k (.im (.sc (.int .i64 1))))),
 o 7 (.mv (.t 84))]))))))
 (.seq (.region [o 4 (.mv (.k (.im (.sc (.bool true)))))])
 .ret)))))) }
def b22 : List Nat := [2, 3]

def f23 : IFunc :=
 { np := 2, res := [.tmp 4], body :=
 (.seq (.region [o 4 (.mv (.k (.im (.sc (.bool false)))))])
 (.seq (.seq (.region [o 6 (.mv (.t 0)),
 o 7 (.len .sl (.t 6)),
 o 8 (.mv (.t 1)),
 o 9 (.len .sl (.t 8)),
 o 10 (.bin .neq 3 false false (.t 7) (.t 9))])
 (.cond (.t 10)
 (.seq (.region [o 4 (.mv (.k (.im (.sc (.bool false)))))])
 .ret)
 .skip))
 (.seq (.seq (.region [o 5 (.mv (.k (.im (.sc (.int .i64 0)))))])
 (.block 0 (.loop [0, 1, 4, 5] [] (.seq (.seq (.region [o 11 (.mv (.t 5)),
 o 12 (.mv (.t 0)),
 o 13 (.len .sl (.t 12)),
 o 14 (.bin .lss 3 false false (.t 11) (.t 13))])
 (.cond (.t 14)
 .skip
 (.exit 0)))
 (.seq (.block 1 (.seq (.draw [o 17 (.mv (.t 0)),
 o 18 (.mv (.t 5)),
 o 19 (.idxA 8 none (.t 17) (.t 18)),
 o 20 (.off 0 (.t 19)),
 o 21 (.ld 1 false (.t 20)),
 o 22 (.mv (.t 1)),
 o 23 (.mv (.t 5)),
 o 24 (.idxA 8 none (.t 22) (.t 23)),
 o 25 (.off 0 (.t 24)),
 o 26 (.ld 1 false (.t 25)),
 o 27 (.bin .neq 3 false false (.t 21) (.t 26)),
 o 28 (.mv (.t 27)),
 ⟨(some 29), .mv (.t 0), (some (28, false))⟩,
 ⟨(some 30), .mv (.t 5), (some (28, false))⟩,
 ⟨(some 31), .idxA 8 none (.t 29) (.t 30), (some (28, false))⟩,
 ⟨(some 32), .off 1 (.t 31), (some (28, false))⟩,
 ⟨(some 33), .ld 1 false (.t 32), (some (28, false))⟩,
 ⟨(some 34), .mv (.t 1), (some (28, false))⟩,
 ⟨(some 35), .mv (.t 5), (some (28, false))⟩,
 ⟨(some 36), .idxA 8 none (.t 34) (.t 35), (some (28, false))⟩,
 ⟨(some 37), .off 1 (.t 36), (some (28, false))⟩,
 ⟨(some 38), .ld 1 false (.t 37), (some (28, false))⟩,
 ⟨(some 39), .call 21 [(.t 33), (.t 38)], (some (28, false))⟩,
 ⟨(some 40), .un .not (.t 39), (some (28, false))⟩,
 o 41 (.pick (.t 28) (.k (.im (.sc (.bool true)))) (.t 40)),
 o 42 (.mv (.t 41)),
 ⟨(some 43), .mv (.t 0), (some (42, false))⟩,
 ⟨(some 44), .mv (.t 5), (some (42, false))⟩,
 ⟨(some 45), .idxA 8 none (.t 43) (.t 44), (some (42, false))⟩,
 ⟨(some 46), .off 2 (.t 45), (some (42, false))⟩,
 ⟨(some 47), .ld 1 false (.t 46), (some (42, false))⟩,
 ⟨(some 48), .mv (.t 1), (some (42, false))⟩,
 ⟨(some 49), .mv (.t 5), (some (42, false))⟩,
 ⟨(some 50), .idxA 8 none (.t 48) (.t 49), (some (42, false))⟩,
 ⟨(some 51), .off 2 (.t 50), (some (42, false))⟩,
 ⟨(some 52), .ld 1 false (.t 51), (some (42, false))⟩,
 ⟨(some 53), .call 60 [(.t 47), (.t 52)], (some (42, false))⟩,
 ⟨(some 54), .un .not (.t 53), (some (42, false))⟩,
 o 55 (.pick (.t 42) (.k (.im (.sc (.bool true)))) (.t 54)),
 o 56 (.mv (.t 55)),
 ⟨(some 57), .mv (.t 0), (some (56, false))⟩,
 ⟨(some 58), .mv (.t 5), (some (56, false))⟩,
 ⟨(some 59), .idxA 8 none (.t 57) (.t 58), (some (56, false))⟩,
 ⟨(some 60), .off 3 (.t 59), (some (56, false))⟩,
 ⟨(some 61), .ld 5 true (.t 60), (some (56, false))⟩,
 ⟨(some 62), .mv (.t 1), (some (56, false))⟩,
 ⟨(some 63), .mv (.t 5), (some (56, false))⟩,
 ⟨(some 64), .idxA 8 none (.t 62) (.t 63), (some (56, false))⟩,
 ⟨(some 65), .off 3 (.t 64), (some (56, false))⟩,
 ⟨(some 66), .ld 5 true (.t 65), (some (56, false))⟩,
 ⟨(some 67), .call 16 [(.t 61), (.t 66)], (some (56, false))⟩,
 ⟨(some 68), .un .not (.t 67), (some (56, false))⟩,
 o 69 (.pick (.t 56) (.k (.im (.sc (.bool true)))) (.t 68))] [0, 1, 0, 0, 0, 31, 63, 31, 31, 31, 0, 0, 0, 4096, 0, 0, 0, 126976, 258048, 126976, 126976, 126976, 0, 0, 0, 0, 0, 67108864, 0, 0, 0, 2080374784, 4227858432, 2080374784, 2080374784, 2080374784, 0, 0, 0, 0, 0, 1099511627776, 0, 0, 0, 34084860461056, 69269232549888, 34084860461056, 34084860461056, 34084860461056, 0, 0, 0])
 (.cond (.t 69)
 (.seq (.region [o 4 (.mv (.k (.im (.sc (.bool false)))))])
 .ret)
 .skip)))
 (.region [o 15 (.mv (.t 5)),
 o 16 (.bin .add 3 false true (.t 15) (.k (.im (.sc (.int .i64 1))))),
 o 5 (.mv (.t 16))]))))))
 (.seq (.region [o 4 (.mv (.k (.im (.sc (.bool true)))))])
 .ret)))) }
def b23 : List Nat := []

def f24 : IFunc :=
 { np := 2, res := [.cell 4 23 true], body :=
 (.seq (.region [o 3 (.lbox (.t 1)),
 o 4 (.lalloc [(.im (.sc (.int .i64 0))), (.im (.sc (.string ⟨#[]⟩))), (.im (.sc (.int .i64 0))), (.im (.sc (.int .i64 0))), (.im (.sc (.int .i64 0))), (.im (.sc (.string ⟨#[]⟩))), (.im (.sl [] .nil)), (.im (.sl [] .nil)), (.im (.sc (.int .i64 0))), (.im (.sc (.int .i64 0))), (.im (.sc (.string ⟨#[]⟩))), (.im (.sl [] .nil)), (.im (.sl [] .nil)), (.im (.sc (.int .i64 0))), (.im (.sl [] .nil)), (.im (.sc (.int .i64 0))), (.im (.sc (.int .i64 0))), (.im (.sc (.int .i64 0))), (.im (.sc (.string ⟨#[]⟩))), (.im (.sl [] .nil)), (.im (.sl [] .nil)), (.im (.sl [] .nil)), (.im (.sl [] .nil))])])
 (.seq (.region [o 5 (.mv (.t 0)),
 o 6 (.ld 5 true (.b 3)),
 o 7 (.build [(.im (.sc (.int .i64 0))), (.im (.sc (.string ⟨#[]⟩))), (.im (.sc (.int .i64 0))), (.im (.sc (.int .i64 0))), (.im (.sc (.int .i64 0))), (.im (.sc (.string ⟨#[]⟩))), (.im (.sl [] .nil)), (.im (.sl [] .nil)), (.im (.sc (.int .i64 0))), (.im (.sc (.int .i64 0))), (.im (.sc (.string ⟨#[]⟩))), (.im (.sl [] .nil)), (.im (.sl [] .nil)), (.im (.sc (.int .i64 0))), (.im (.sl [] .nil)), (.im (.sc (.int .i64 0))), (.im (.sc (.int .i64 0))), (.im (.sc (.int .i64 0))), (.im (.sc (.string ⟨#[]⟩))), (.im (.sl [] .nil)), (.im (.sl [] .nil)), (.im (.sl [] .nil)), (.im (.sl [] .nil))] [(0, 1, (.k (.im (.sc (.int .i64 0))))), (1, 1, (.t 5)), (3, 5, (.t 6))]),
 e (.st 23 (.b 4) (.t 7))])
 .ret)) }
def b24 : List Nat := [3, 4]

def f25 : IFunc :=
 { np := 2, res := [.cell 4 5 true], body :=
 (.seq (.region [o 2 (.lbox (.t 0)),
 o 3 (.lbox (.t 1)),
 o 4 (.lalloc [(.im (.sc (.int .i64 0))), (.im (.sc (.int .i64 0))), (.im (.sc (.string ⟨#[]⟩))), (.im (.sl [] .nil)), (.im (.sl [] .nil))])])
 (.seq (.region [o 8 (.ld 5 true (.b 3)),
 o 9 (.call 61 [(.t 8), (.k (.im (.sc (.int .i64 1)))), (.k (.im (.sc (.int .i64 0))))]),
 o 7 (.mv (.t 9)),
 o 10 (.extract (.t 7) 0),
 o 11 (.extract (.t 7) 1),
 o 5 (.lalloc [(.im (.sc (.int .i64 0))), (.im (.sc (.int .i64 0))), (.im (.sc (.string ⟨#[]⟩))), (.im (.sl [] .nil)), (.im (.sl [] .nil))]),
 e (.st 5 (.b 5) (.t 10)),
 o 6 (.mv (.t 11))])
 (.seq (.region [o 12 (.ld 5 true (.b 2)),
 o 13 (.ld 5 true (.b 5)),
 o 14 (.mkS 5 2 [(.im (.sc (.int .i64 0))), (.im (.sc (.int .i64 0))), (.im (.sc (.string ⟨#[]⟩))), (.im (.sl [] .nil)), (.im (.sl [] .nil))] [(0, (.t 12)), (1, (.t 13))]),
 o 15 (.build [(.im (.sc (.int .i64 0))), (.im (.sc (.int .i64 0))), (.im (.sc (.string ⟨#[]⟩))), (.im (.sl [] .nil)), (.im (.sl [] .nil))] [(0, 1, (.k (.im (.sc (.int .i64 6))))), (4, 1, (.t 14))]),
 e (.st 5 (.b 4) (.t 15))])
 .ret))) }
def b25 : List Nat := [2, 3, 4, 5]

def f26 : IFunc :=
 { np := 1, res := [.cell 2 1 false], body :=
 (.seq (.region [o 4 (.mv (.t 0)),
 o 5 (.calld (.t 4) [])])
 (.seq (.region [e (.st 1 (.t 2) (.k (.im (.sc (.int .i64 0)))))])
 .ret)), pre := some ([(.region [o 2 (.halloc [(.im (.sc (.int .i64 0)))])])], [o 3 (.mkfn (.func 62) [] [(.t 2)] [])], (.t 3)) }
def b26 : List Nat := []

def f27 : IFunc :=
 { np := 4, res := [], body :=
 (.seq (.region [o 13 (.off 5 (.t 0)),
 o 14 (.ld 1 false (.t 13)),
 o 15 (.len .sl (.t 14)),
 o 16 (.bin .gtr 3 false true (.t 15) (.k (.im (.sc (.int .i64 0))))),
 o 17 (.call 28 [(.t 16), (.k (.im (.sc (.int .i64 25))))])])
 (.seq (.draw [o 18 (.off 5 (.t 0)),
 o 19 (.ld 1 false (.t 18)),
 o 20 (.idxA 8 none (.t 19) (.k (.im (.sc (.int .i64 0))))),
 o 21 (.ld 8 true (.t 20)),
 o 22 (.off 5 (.t 0)),
 o 23 (.ld 1 false (.t 22)),
 o 24 (.slc 36 8 (.t 23) (some (.k (.im (.sc (.int .i64 1))))) none none),
 o 4 (.lalloc [(.im (.sc (.int .i64 0))), (.im (.sl [] .nil)), (.im (.sl [] .nil)), (.im (.sc (.int .i64 0))), (.im (.sc (.int .i64 0))), (.im (.sc (.string ⟨#[]⟩))), (.im (.sl [] .nil)), (.im (.sl [] .nil))]),
 e (.st 8 (.b 4) (.t 21)),
 o 5 (.mv (.t 24))] [0, 0, 0, 0, 15, 15, 15, 127, 112, 0])
 (.seq (.region [o 6 (.mv (.k (.im (.sl [] .nil))))])
 (.seq (.seq (.region [o 25 (.ld 1 false (.t 1)),
 o 26 (.len .sl (.t 25)),
 o 27 (.mv (.k (.im (.sc (.int .i64 0)))))])
 (.block 0 (.loop [0, 2, 3, 5, 6, 25, 26, 27] [4] (.seq (.region [o 28 (.bin .lss 3 false false (.t 27) (.t 26))])
 (.seq (.cond (.t 28)
 .skip
 (.exit 0))
 (.seq (.block 1 (.seq (.region [o 29 (.idxA 8 none (.t 25) (.t 27)),
 o 30 (.ld 8 true (.t 29)),
 o 8 (.lalloc [(.im (.sc (.int .i64 0))), (.im (.sl [] .nil)), (.im (.sl [] .nil)), (.im (.sc (.int .i64 0))), (.im (.sc (.int .i64 0))), (.im (.sc (.string ⟨#[]⟩))), (.im (.sl [] .nil)), (.im (.sl [] .nil))]),
 e (.st 8 (.b 8) (.t 30))])
 (.seq (.region [o 31 (.off 1 (.b 8)),
 o 32 (.ld 1 false (.t 31)),
 o 33 (.len .sl (.t 32)),
 o 34 (.off 2 (.b 8)),
 o 35 (.ld 1 false (.t 34)),
 o 36 (.len .sl (.t 35)),
 o 37 (.bin .eql 3 false false (.t 33) (.t 36)),
 o 38 (.call 28 [(.t 37), (.k (.im (.sc (.int .i64 6))))])])
 (.seq (.region [o 39 (.off 1 (.t 0)),
 o 40 (.off 0 (.t 39)),
 o 41 (.ld 1 false (.t 40)),
 o 42 (.len .sl (.t 41)),
 o 43 (.off 0 (.b 8)),
 e (.st 1 (.t 43) (.t 42))])
 (.seq (.region [o 45 (.off 1 (.t 0)),
 o 46 (.off 0 (.t 45)),
 o 47 (.ld 1 false (.t 46)),
 o 48 (.off 2 (.b 8)),
 o 49 (.ld 1 false (.t 48)),
 o 50 (.off 3 (.b 8)),
 o 51 (.ld 5 true (.t 50)),
 o 52 (.call 29 [(.t 47), (.t 49), (.t 51), (.k (.im (.sc (.bool false))))]),
 o 44 (.mv (.t 52)),
 o 53 (.extract (.t 44) 0),
 o 54 (.extract (.t 44) 1),
 o 55 (.extract (.t 44) 2),
 o 10 (.lalloc [(.im (.sc (.int .i64 0))), (.im (.sc (.int .i64 0))), (.im (.sc (.string ⟨#[]⟩))), (.im (.sl [] .nil)), (.im (.sl [] .nil))]),
 o 9 (.mv (.t 53)),
 e (.st 5 (.b 10) (.t 54)),
 o 11 (.mv (.t 55))])
 (.seq (.region [o 56 (.mv (.t 11)),
 o 57 (.bin .eql 39 false true (.t 56) (.k (.im (.sc (.int .i64 0))))),
 o 58 (.mv (.t 11)),
 o 59 (.call 28 [(.t 57), (.t 58)])])
 (.region [o 60 (.mv (.t 9)),
 o 61 (.mv (.t 6)),
 o 62 (.ld 8 true (.b 8)),
 o 63 (.mkS 8 1 [(.im (.sc (.int .i64 0))), (.im (.sl [] .nil)), (.im (.sl [] .nil)), (.im (.sc (.int .i64 0))), (.im (.sc (.int .i64 0))), (.im (.sc (.string ⟨#[]⟩))), (.im (.sl [] .nil)), (.im (.sl [] .nil))] [(0, (.t 62))]),
 o 64 (.append 8 false (.t 61) (.t 63)),
 o 65 (.off 1 (.t 0)),
 o 66 (.off 0 (.t 65)),
 e (.st 1 (.t 66) (.t 60)),
 o 6 (.mv (.t 64))])))))))
 (.region [o 67 (.bin .add 3 false true (.t 27) (.k (.im (.sc (.int .i64 1))))),
 o 27 (.mv (.t 67))])))))))
 (.seq (.region [o 68 (.ld 5 true (.t 2)),
 o 69 (.off 2 (.b 4)),
 o 70 (.ld 1 false (.t 69)),
 o 71 (.len .sl (.t 70)),
 o 72 (.off 1 (.t 0)),
 o 73 (.off 0 (.t 72)),
 o 74 (.ld 1 false (.t 73)),
 o 75 (.len .sl (.t 74)),
 o 76 (.call 18 [(.t 68), (.t 71), (.k (.im (.sc (.int .i64 8)))), (.t 75), (.k (.im (.sc (.int .i64 65536))))]),
 o 12 (.mv (.t 76))])
 (.seq (.region [o 77 (.mv (.t 12)),
 o 78 (.bin .eql 39 false true (.t 77) (.k (.im (.sc (.int .i64 0))))),
 o 79 (.mv (.t 12)),
 o 80 (.call 28 [(.t 78), (.t 79)])])
 (.seq (.region [o 81 (.ld 1 false (.t 3)),
 o 82 (.off 1 (.t 0)),
 o 83 (.ld 4 true (.t 82)),
 o 84 (.ld 8 true (.b 4)),
 o 85 (.ld 5 true (.t 2)),
 o 86 (.call 30 [(.t 81), (.t 83), (.t 84), (.t 85)]),
 o 87 (.off 1 (.t 0)),
 e (.st 4 (.t 87) (.t 86))])
 (.seq (.draw [o 88 (.off 1 (.t 0)),
 o 89 (.off 0 (.t 88)),
 o 90 (.ld 1 false (.t 89)),
 o 91 (.off 0 (.b 4)),
 o 92 (.ld 1 false (.t 91)),
 o 93 (.off 2 (.b 4)),
 o 94 (.ld 1 false (.t 93)),
 o 95 (.ld 5 true (.t 2)),
 o 96 (.call 33 [(.t 94), (.t 95)]),
 o 97 (.call 32 [(.t 90), (.t 92), (.t 96)]),
 o 98 (.extract (.t 97) 0),
 o 99 (.extract (.t 97) 1),
 o 100 (.call 31 [(.t 98), (.t 99)]),
 o 101 (.off 1 (.t 0)),
 o 102 (.off 0 (.t 101)),
 e (.st 1 (.t 102) (.t 100))] [0, 0, 0, 7, 7, 31, 31, 127, 31, 0, 0, 1024, 0, 0, 0, 0])
 (.region [o 103 (.mv (.t 6)),
 o 104 (.mv (.t 5)),
 o 105 (.append 8 false (.t 103) (.t 104)),
 o 106 (.mkfn (.func 35) [] [(.t 0)] []),
 o 107 (.call 34 [(.t 105), (.t 106)]),
 o 108 (.off 5 (.t 0)),
 e (.st 1 (.t 108) (.t 107))]))))))))) }
def b27 : List Nat := [4, 8, 10]

def f28 : IFunc :=
 { np := 2, res := [], body :=
 (.seq (.region [o 4 (.mv (.t 0)),
 o 5 (.un .not (.t 4))])
 (.cond (.t 5)
 (.region [o 6 (.mv (.t 1)),
 o 7 (.build [(.im (.sc (.int .i64 0)))] [(0, 1, (.t 6))]),
 o 8 (.mkifc 126 (.t 7)),
 e (.pan (.t 8))])
 .skip)) }
def b28 : List Nat := []

def f29 : IFunc :=
 { np := 4, res := [.tmp 8, .cell 9 5 true, .tmp 10], body :=
 (.seq (.region [o 6 (.lbox (.t 2)),
 o 8 (.mv (.k (.im (.sl [] .nil)))),
 o 9 (.lalloc [(.im (.sc (.int .i64 0))), (.im (.sc (.int .i64 0))), (.im (.sc (.string ⟨#[]⟩))), (.im (.sl [] .nil)), (.im (.sl [] .nil))]),
 o 10 (.mv (.k (.im (.sc (.int .i64 0)))))])
 (.seq (.seq (.region [o 13 (.mv (.t 0)),
 o 14 (.len .sl (.t 13)),
 o 15 (.bin .geq 3 false true (.t 14) (.k (.im (.sc (.int .i64 2000)))))])
 (.cond (.t 15)
 (.seq (.region [o 16 (.build [(.im (.sc (.int .i64 0))), (.im (.sc (.int .i64 0))), (.im (.sc (.string ⟨#[]⟩))), (.im (.sl [] .nil)), (.im (.sl [] .nil))] []),
 o 8 (.mv (.k (.im (.sl [] .nil)))),
 e (.st 5 (.b 9) (.t 16)),
 o 10 (.mv (.k (.im (.sc (.int .i64 6)))))])
 .ret)
 .skip))
 (.seq (.region [o 17 (.mv (.t 1)),
 o 18 (.ld 5 true (.b 6)),
 o 19 (.call 63 [(.t 17), (.t 18)]),
 o 11 (.lalloc [(.im (.sc (.int .i64 0))), (.im (.sc (.int .i64 0))), (.im (.sc (.string ⟨#[]⟩))), (.im (.sl [] .nil)), (.im (.sl [] .nil))]),
 e (.st 5 (.b 11) (.t 19))])
 (.seq (.block 0 (.seq (.region [o 21 (.ld 5 true (.b 11)),
 o 22 (.call 64 [(.t 21)]),
 o 23 (.bin .gtr 3 false true (.t 22) (.k (.im (.sc (.int .i64 4096))))),
 o 20 (.mv (.t 23))])
 (.cond (.t 20)
 (.seq (.region [o 24 (.build [(.im (.sc (.int .i64 0))), (.im (.sc (.int .i64 0))), (.im (.sc (.string ⟨#[]⟩))), (.im (.sl [] .nil)), (.im (.sl [] .nil))] []),
 o 8 (.mv (.k (.im (.sl [] .nil)))),
 e (.st 5 (.b 9) (.t 24)),
 o 10 (.mv (.k (.im (.sc (.int .i64 5)))))])
 .ret)
 (.seq (.region [o 26 (.ld 5 true (.b 11)),
 o 27 (.call 54 [(.t 26)]),
 o 28 (.bin .gtr 3 false true (.t 27) (.k (.im (.sc (.int .i64 200))))),
 o 25 (.mv (.t 28))])
 (.cond (.t 25)
 (.seq (.region [o 29 (.build [(.im (.sc (.int .i64 0))), (.im (.sc (.int .i64 0))), (.im (.sc (.string ⟨#[]⟩))), (.im (.sl [] .nil)), (.im (.sl [] .nil))] []),
 o 8 (.mv (.k (.im (.sl [] .nil)))),
 e (.st 5 (.b 9) (.t 29)),
 o 10 (.mv (.k (.im (.sc (.int .i64 7)))))])
 .ret)
 .skip)))))
 (.seq (.region [o 30 (.mv (.t 0)),
 o 31 (.len .sl (.t 30)),
 o 32 (.build [(.im (.sc (.int .i64 0))), (.im (.sc (.int .i64 0))), (.im (.sc (.string ⟨#[]⟩))), (.im (.sl [] .nil)), (.im (.sl [] .nil))] [(0, 1, (.k (.im (.sc (.int .i64 12))))), (1, 1, (.t 31))]),
 o 33 (.mv (.t 1)),
 o 34 (.len .sl (.t 33)),
 o 35 (.call 66 [(.t 34), (.k (.im (.sc (.int .i64 0))))]),
 o 36 (.call 65 [(.t 32), (.t 35)]),
 o 12 (.lalloc [(.im (.sc (.int .i64 0))), (.im (.sc (.int .i64 0))), (.im (.sc (.string ⟨#[]⟩))), (.im (.sl [] .nil)), (.im (.sl [] .nil))]),
 e (.st 5 (.b 12) (.t 36))])
 (.seq (.draw [o 37 (.mv (.t 0)),
 o 38 (.call 67 [(.t 37)]),
 o 39 (.ld 5 true (.b 11)),
 o 40 (.mv (.t 3)),
 o 41 (.build [(.im (.sc (.int .i64 0))), (.im (.sc (.int .i64 0))), (.im (.sc (.string ⟨#[]⟩))), (.im (.sl [] .nil)), (.im (.sl [] .nil)), (.im (.sc (.bool false))), (.im (.sc (.int .i64 0))), (.im (.sc (.int .i64 0))), (.im (.sc (.string ⟨#[]⟩))), (.im (.sl [] .nil)), (.im (.sl [] .nil)), (.im (.sc (.bool false)))] [(0, 5, (.t 39)), (11, 1, (.t 40))]),
 o 42 (.mkS 12 1 [(.im (.sc (.int .i64 0))), (.im (.sc (.int .i64 0))), (.im (.sc (.string ⟨#[]⟩))), (.im (.sl [] .nil)), (.im (.sl [] .nil)), (.im (.sc (.bool false))), (.im (.sc (.int .i64 0))), (.im (.sc (.int .i64 0))), (.im (.sc (.string ⟨#[]⟩))), (.im (.sl [] .nil)), (.im (.sl [] .nil)), (.im (.sc (.bool false)))] [(0, (.t 41))]),
 o 43 (.append 12 false (.t 38) (.t 42)),
 o 44 (.ld 5 true (.b 12)),
 o 8 (.mv (.t 43)),
 e (.st 5 (.b 9) (.t 44)),
 o 10 (.mv (.k (.im (.sc (.int .i64 0)))))] [0, 0, 3, 7, 3, 3, 0, 127, 128, 0, 0])
 .ret)))))) }
def b29 : List Nat := [6, 9, 11, 12]

def f30 : IFunc :=
 { np := 4, res := [.cell 8 4 true], body :=
 (.seq (.region [o 5 (.lbox (.t 1)),
 o 6 (.lbox (.t 2)),
 o 7 (.lbox (.t 3)),
 o 8 (.lalloc [(.im (.sl [] .nil)), (.im (.sl [] .nil)), (.im (.sl [] .nil)), (.im (.sc (.int .i64 0)))])])
 (.seq (.region [o 12 (.mv (.t 0)),
 o 13 (.off 0 (.b 5)),
 o 14 (.ld 1 false (.t 13)),
 o 15 (.off 2 (.b 6)),
 o 16 (.ld 1 false (.t 15)),
 o 17 (.ld 5 true (.b 7)),
 o 18 (.call 68 [(.t 12), (.t 14), (.t 16), (.t 17)]),
 o 11 (.mv (.t 18)),
 o 19 (.extract (.t 11) 0),
 o 20 (.extract (.t 11) 1),
 o 9 (.lalloc [(.im (.sc (.int .i64 0))), (.im (.sc (.int .i64 0))), (.im (.sc (.string ⟨#[]⟩))), (.im (.sl [] .nil)), (.im (.sl [] .nil))]),
 e (.st 5 (.b 9) (.t 19)),
 o 10 (.mv (.t 20))])
 (.seq (.seq (.region [o 21 (.mv (.t 10)),
 o 22 (.bin .eql 39 false true (.t 21) (.k (.im (.sc (.int .i64 23)))))])
 (.cond (.t 22)
 (.seq (.region [o 23 (.ld 4 true (.b 5)),
 e (.st 4 (.b 8) (.t 23))])
 .ret)
 .skip))
 (.seq (.region [o 24 (.mv (.t 10)),
 o 25 (.bin .eql 39 false true (.t 24) (.k (.im (.sc (.int .i64 0))))),
 o 26 (.mv (.t 10)),
 o 27 (.call 28 [(.t 25), (.t 26)])])
 (.seq (.region [o 28 (.mv (.t 0)),
 o 29 (.ld 4 true (.b 5)),
 o 30 (.off 2 (.b 6)),
 o 31 (.ld 1 false (.t 30)),
 o 32 (.ld 5 true (.b 9)),
 o 33 (.off 3 (.b 6)),
 o 34 (.ld 5 true (.t 33)),
 o 35 (.build [(.im (.sl [] .nil)), (.im (.sc (.int .i64 0))), (.im (.sc (.int .i64 0))), (.im (.sc (.string ⟨#[]⟩))), (.im (.sl [] .nil)), (.im (.sl [] .nil)), (.im (.sc (.int .i64 0))), (.im (.sc (.int .i64 0))), (.im (.sc (.string ⟨#[]⟩))), (.im (.sl [] .nil)), (.im (.sl [] .nil)), (.im (.sc (.bool false)))] [(0, 1, (.t 31)), (1, 5, (.t 32)), (6, 5, (.t 34)), (11, 1, (.k (.im (.sc (.bool true)))))]),
 o 36 (.call 70 [(.t 28), (.t 29), (.t 35)]),
 o 37 (.extract (.t 36) 0),
 o 38 (.extract (.t 36) 1),
 o 39 (.call 69 [(.t 37), (.t 38)]),
 e (.st 4 (.b 5) (.t 39))])
 (.seq (.region [o 40 (.mv (.t 0)),
 o 41 (.ld 4 true (.b 5)),
 o 42 (.call 71 [(.t 40), (.t 41)]),
 o 43 (.extract (.t 42) 0),
 o 44 (.extract (.t 42) 1),
 o 45 (.call 69 [(.t 43), (.t 44)]),
 e (.st 4 (.b 8) (.t 45))])
 .ret)))))) }
def b30 : List Nat := [5, 6, 7, 8, 9]

def f31 : IFunc :=
 { np := 2, res := [.tmp 4], body :=
 (.seq (.region [o 4 (.mv (.k (.im (.sl [] .nil))))])
 (.seq (.region [o 5 (.mv (.t 1)),
 o 6 (.bin .eql 39 false true (.t 5) (.k (.im (.sc (.int .i64 0))))),
 o 7 (.mv (.t 1)),
 o 8 (.call 28 [(.t 6), (.t 7)])])
 (.seq (.region [o 9 (.mv (.t 0)),
 o 4 (.mv (.t 9))])
 .ret))) }
def b31 : List Nat := []

def f32 : IFunc :=
 { np := 3, res := [.tmp 6, .tmp 7], body :=
 (.seq (.region [o 5 (.lbox (.t 2)),
 o 6 (.mv (.k (.im (.sl [] .nil)))),
 o 7 (.mv (.k (.im (.sc (.int .i64 0)))))])
 (.seq (.block 0 (.seq (.region [o 12 (.mv (.t 1)),
 o 13 (.bin .lss 3 false true (.t 12) (.k (.im (.sc (.int .i64 0))))),
 o 14 (.mv (.t 13)),
 ⟨(some 15), .mv (.t 1), (some (14, false))⟩,
 ⟨(some 16), .mv (.t 0), (some (14, false))⟩,
 ⟨(some 17), .len .sl (.t 16), (some (14, false))⟩,
 ⟨(some 18), .bin .geq 3 false false (.t 15) (.t 17), (some (14, false))⟩,
 o 19 (.pick (.t 14) (.k (.im (.sc (.bool true)))) (.t 18)),
 o 11 (.mv (.t 19))])
 (.cond (.t 11)
 (.seq (.region [o 6 (.mv (.k (.im (.sl [] .nil)))),
 o 7 (.mv (.k (.im (.sc (.int .i64 2)))))])
 .ret)
 (.seq (.region [o 21 (.mv (.t 0)),
 o 22 (.mv (.t 1)),
 o 23 (.idxA 12 none (.t 21) (.t 22)),
 o 24 (.off 5 (.t 23)),
 o 25 (.ld 1 false (.t 24)),
 o 20 (.mv (.t 25))])
 (.cond (.t 20)
 (.seq (.region [o 6 (.mv (.k (.im (.sl [] .nil)))),
 o 7 (.mv (.k (.im (.sc (.int .i64 8)))))])
 .ret)
 (.seq (.region [o 27 (.ld 5 true (.b 5)),
 o 28 (.call 72 [(.t 27)]),
 o 29 (.len .sl (.t 28)),
 o 30 (.bin .gtr 3 false true (.t 29) (.k (.im (.sc (.int .i64 0))))),
 o 26 (.mv (.t 30))])
 (.cond (.t 26)
 (.seq (.region [o 6 (.mv (.k (.im (.sl [] .nil)))),
 o 7 (.mv (.k (.im (.sc (.int .i64 24)))))])
 .ret)
 .skip)))))))
 (.seq (.region [o 32 (.mv (.t 0)),
 o 33 (.ld 5 true (.b 5)),
 o 34 (.call 73 [(.t 32), (.t 33)]),
 o 31 (.mv (.t 34)),
 o 35 (.extract (.t 31) 0),
 o 36 (.extract (.t 31) 1),
 o 8 (.lalloc [(.im (.sc (.int .i64 0))), (.im (.sc (.int .i64 0))), (.im (.sc (.string ⟨#[]⟩))), (.im (.sl [] .nil)), (.im (.sl [] .nil))]),
 e (.st 5 (.b 8) (.t 35)),
 o 9 (.mv (.t 36))])
 (.seq (.seq (.region [o 37 (.mv (.t 9)),
 o 38 (.bin .neq 39 false true (.t 37) (.k (.im (.sc (.int .i64 0)))))])
 (.cond (.t 38)
 (.seq (.region [o 39 (.mv (.t 9)),
 o 6 (.mv (.k (.im (.sl [] .nil)))),
 o 7 (.mv (.t 39))])
 .ret)
 .skip))
 (.seq (.seq (.region [o 40 (.ld 5 true (.b 8)),
 o 41 (.call 75 [(.t 40)]),
 o 42 (.mv (.t 1)),
 o 43 (.call 74 [(.t 41), (.t 42)])])
 (.cond (.t 43)
 (.seq (.region [o 6 (.mv (.k (.im (.sl [] .nil)))),
 o 7 (.mv (.k (.im (.sc (.int .i64 21)))))])
 .ret)
 .skip))
 (.seq (.region [o 44 (.mv (.t 0)),
 o 45 (.call 67 [(.t 44)]),
 o 10 (.mv (.t 45))])
 (.seq (.draw [o 46 (.mv (.t 10)),
 o 47 (.mv (.t 1)),
 o 48 (.mv (.t 10)),
 o 49 (.mv (.t 1)),
 o 50 (.ld 5 true (.b 5)),
 o 51 (.idxA 12 none (.t 46) (.t 47)),
 o 52 (.off 5 (.t 51)),
 e (.st 1 (.t 52) (.k (.im (.sc (.bool true))))),
 o 53 (.idxA 12 none (.t 48) (.t 49)),
 o 54 (.off 6 (.t 53)),
 e (.st 5 (.t 54) (.t 50))] [0, 1, 3, 7, 15, 28, 28, 28, 0, 0, 0])
 (.seq (.region [o 55 (.mv (.t 10)),
 o 6 (.mv (.t 55)),
 o 7 (.mv (.k (.im (.sc (.int .i64 0)))))])
 .ret)))))))) }
def b32 : List Nat := [5, 8]

def f33 : IFunc :=
 { np := 2, res := [.cell 4 5 true], body :=
 (.seq (.region [o 3 (.lbox (.t 1)),
 o 4 (.lalloc [(.im (.sc (.int .i64 0))), (.im (.sc (.int .i64 0))), (.im (.sc (.string ⟨#[]⟩))), (.im (.sl [] .nil)), (.im (.sl [] .nil))])])
 (.seq (.draw [o 5 (.call 76 [(.k (.im (.sc (.int .i64 5))))]),
 o 6 (.mv (.t 0)),
 o 7 (.ld 5 true (.b 3)),
 o 8 (.calld (.t 5) [(.t 6), (.t 7)]),
 e (.st 5 (.b 4) (.t 8))] [0, 1, 3, 0, 0])
 .ret)) }
def b33 : List Nat := [3, 4]

def f34 : IFunc :=
 { np := 2, res := [.tmp 4], body :=
 (.seq (.region [o 4 (.mv (.k (.im (.sl [] .nil))))])
 (.seq (.region [o 8 (.mv (.t 0)),
 o 9 (.mv (.t 1)),
 o 10 (.call 77 [(.t 8), (.t 9)]),
 o 5 (.mv (.t 10))])
 (.seq (.seq (.region [o 11 (.mv (.t 5)),
 o 12 (.bin .eql 3 false true (.t 11) (.k (.im (.sc (.int .i64 (-1))))))])
 (.cond (.t 12)
 (.seq (.region [o 13 (.mv (.t 0)),
 o 4 (.mv (.t 13))])
 .ret)
 .skip))
 (.seq (.seq (.region [o 14 (.mv (.t 5)),
 o 15 (.bin .add 3 false true (.t 14) (.k (.im (.sc (.int .i64 1))))),
 o 6 (.mv (.t 15))])
 (.block 0 (.loop [0, 1, 4, 5, 6] [] (.seq (.seq (.region [o 16 (.mv (.t 6)),
 o 17 (.mv (.t 0)),
 o 18 (.len .sl (.t 17)),
 o 19 (.bin .lss 3 false false (.t 16) (.t 18))])
 (.cond (.t 19)
 .skip
 (.exit 0)))
 (.seq (.block 1 (.seq (.region [o 22 (.mv (.t 0)),
 o 23 (.mv (.t 6)),
 o 24 (.idxA 8 none (.t 22) (.t 23)),
 o 25 (.ld 8 true (.t 24)),
 o 7 (.lalloc [(.im (.sc (.int .i64 0))), (.im (.sl [] .nil)), (.im (.sl [] .nil)), (.im (.sc (.int .i64 0))), (.im (.sc (.int .i64 0))), (.im (.sc (.string ⟨#[]⟩))), (.im (.sl [] .nil)), (.im (.sl [] .nil))]),
 e (.st 8 (.b 7) (.t 25))])
 (.seq (.region [o 26 (.mv (.t 1)),
 o 27 (.ld 8 true (.b 7)),
 o 28 (.calld (.t 26) [(.t 27)]),
 o 29 (.un .not (.t 28))])
 (.cond (.t 29)
 (.seq (.region [o 30 (.mv (.t 0)),
 o 31 (.mv (.t 5)),
 o 32 (.ld 8 true (.b 7)),
 o 33 (.idxA 8 none (.t 30) (.t 31)),
 e (.st 8 (.t 33) (.t 32))])
 (.region [o 34 (.mv (.t 5)),
 o 35 (.bin .add 3 false true (.t 34) (.k (.im (.sc (.int .i64 1))))),
 o 5 (.mv (.t 35))]))
 .skip))))
 (.region [o 20 (.mv (.t 6)),
 o 21 (.bin .add 3 false true (.t 20) (.k (.im (.sc (.int .i64 1))))),
 o 6 (.mv (.t 21))]))))))
 (.seq (.region [o 36 (.mv (.t 0)),
 o 37 (.mv (.t 5)),
 o 38 (.slc 36 8 (.t 36) (some (.t 37)) none none),
 e (.bad)])
 (.seq (.region [o 39 (.mv (.t 0)),
 o 40 (.mv (.t 5)),
 o 41 (.slc 36 8 (.t 39) none (some (.t 40)) none),
 o 4 (.mv (.t 41))])
 .ret)))))) }
def b34 : List Nat := [7]

def f35 : IFunc :=
 { np := 2, res := [.tmp 3], body :=
 (.seq (.region [o 2 (.lbox (.t 0)),
 o 3 (.mv (.k (.im (.sc (.bool false)))))])
 (.seq (.region [o 4 (.off 1 (.t 1)),
 o 5 (.ld 4 true (.t 4)),
 o 6 (.ld 8 true (.b 2)),
 o 7 (.call 36 [(.t 5), (.t 6)]),
 o 3 (.mv (.t 7))])
 .ret)) }
def b35 : List Nat := [2]

def f36 : IFunc :=
 { np := 2, res := [.tmp 4], body :=
 (.seq (.region [o 2 (.lbox (.t 0)),
 o 3 (.lbox (.t 1)),
 o 4 (.mv (.k (.im (.sc (.bool false)))))])
 (.seq (.region [o 5 (.off 0 (.b 3)),
 o 6 (.ld 1 false (.t 5)),
 o 7 (.bin .geq 3 false true (.t 6) (.k (.im (.sc (.int .i64 0))))),
 o 8 (.mv (.t 7)),
 ⟨(some 9), .off 0 (.b 3), (some (8, true))⟩,
 ⟨(some 10), .ld 1 false (.t 9), (some (8, true))⟩,
 ⟨(some 11), .off 0 (.b 2), (some (8, true))⟩,
 ⟨(some 12), .ld 1 false (.t 11), (some (8, true))⟩,
 ⟨(some 13), .len .sl (.t 12), (some (8, true))⟩,
 ⟨(some 14), .bin .lss 3 false false (.t 10) (.t 13), (some (8, true))⟩,
 o 15 (.pick (.t 8) (.t 14) (.k (.im (.sc (.bool false))))),
 o 16 (.mv (.t 15)),
 ⟨(some 17), .off 0 (.b 2), (some (16, true))⟩,
 ⟨(some 18), .ld 1 false (.t 17), (some (16, true))⟩,
 ⟨(some 19), .off 0 (.b 3), (some (16, true))⟩,
 ⟨(some 20), .ld 1 false (.t 19), (some (16, true))⟩,
 ⟨(some 21), .idxA 12 none (.t 18) (.t 20), (some (16, true))⟩,
 ⟨(some 22), .off 5 (.t 21), (some (16, true))⟩,
 ⟨(some 23), .ld 1 false (.t 22), (some (16, true))⟩,
 o 24 (.pick (.t 16) (.t 23) (.k (.im (.sc (.bool false))))),
 o 4 (.mv (.t 24))])
 .ret)) }
def b36 : List Nat := [2, 3]

def f37 : IFunc :=
 { np := 3, res := [], body :=
 (.seq (.region [o 5 (.off 5 (.t 0)),
 o 6 (.ld 1 false (.t 5)),
 o 7 (.len .sl (.t 6)),
 o 8 (.bin .eql 3 false true (.t 7) (.k (.im (.sc (.int .i64 0))))),
 o 9 (.call 28 [(.t 8), (.k (.im (.sc (.int .i64 25))))])])
 (.seq (.region [o 10 (.ld 1 false (.t 1)),
 o 11 (.off 1 (.t 0)),
 o 12 (.ld 4 true (.t 11)),
 o 13 (.call 39 [(.t 10), (.t 12)]),
 o 14 (.extract (.t 13) 0),
 o 15 (.extract (.t 13) 1),
 o 16 (.call 38 [(.t 14), (.t 15)]),
 o 3 (.mv (.t 16))])
 (.seq (.region [o 17 (.off 1 (.t 0)),
 o 18 (.ld 4 true (.t 17)),
 o 19 (.mv (.t 3)),
 o 20 (.off 11 (.t 0)),
 o 21 (.ld 5 true (.t 20)),
 o 22 (.call 41 [(.t 18), (.t 19), (.t 21)]),
 o 23 (.extract (.t 22) 0),
 o 24 (.extract (.t 22) 1),
 o 25 (.call 40 [(.t 23), (.t 24)]),
 e (.st 5 (.t 2) (.t 25))])
 (.seq (.region [o 26 (.ld 1 false (.t 1)),
 o 27 (.ld 5 true (.t 2)),
 o 28 (.off 6 (.t 0)),
 o 29 (.ld 5 true (.t 28)),
 o 30 (.call 42 [(.t 26), (.k (.im (.sl [] .nil))), (.t 27), (.t 29)]),
 o 4 (.mv (.t 30))])
 (.region [o 31 (.mv (.t 4)),
 o 32 (.bin .eql 39 false true (.t 31) (.k (.im (.sc (.int .i64 0))))),
 o 33 (.mv (.t 4)),
 o 34 (.call 28 [(.t 32), (.t 33)])]))))) }
def b37 : List Nat := []

def f38 : IFunc :=
 { np := 2, res := [.tmp 4], body :=
 (.seq (.region [o 4 (.mv (.k (.im (.sl [] .nil))))])
 (.seq (.region [o 5 (.mv (.t 1)),
 o 6 (.bin .eql 39 false true (.t 5) (.k (.im (.sc (.int .i64 0))))),
 o 7 (.mv (.t 1)),
 o 8 (.call 28 [(.t 6), (.t 7)])])
 (.seq (.region [o 9 (.mv (.t 0)),
 o 4 (.mv (.t 9))])
 .ret))) }
def b38 : List Nat := []

def f39 : IFunc :=
 { np := 2, res := [.tmp 4, .tmp 5], body :=
 (.seq (.region [o 3 (.lbox (.t 1)),
 o 4 (.mv (.k (.im (.sl [] .nil)))),
 o 5 (.mv (.k (.im (.sc (.int .i64 0)))))])
 (.seq (.seq (.region [o 9 (.off 1 (.b 3)),
 o 10 (.ld 1 false (.t 9)),
 o 11 (.len .sl (.t 10)),
 o 12 (.bin .gtr 3 false true (.t 11) (.k (.im (.sc (.int .i64 0)))))])
 (.cond (.t 12)
 (.seq (.region [o 4 (.mv (.k (.im (.sl [] .nil)))),
 o 5 (.mv (.k (.im (.sc (.int .i64 19)))))])
 .ret)
 .skip))
 (.seq (.seq (.region [o 13 (.off 0 (.b 3)),
 o 14 (.ld 1 false (.t 13)),
 o 15 (.call 78 [(.t 14), (.k (.im (.fn (.func 79) [] [])))])])
 (.cond (.t 15)
 (.seq (.region [o 4 (.mv (.k (.im (.sl [] .nil)))),
 o 5 (.mv (.k (.im (.sc (.int .i64 23)))))])
 .ret)
 .skip))
 (.seq (.region [o 17 (.off 3 (.b 3)),
 o 18 (.ld 1 false (.t 17)),
 o 19 (.off 2 (.b 3)),
 o 20 (.ld 1 false (.t 19)),
 o 21 (.call 46 [(.t 18), (.t 20)]),
 o 16 (.mv (.t 21)),
 o 22 (.extract (.t 16) 0),
 o 23 (.extract (.t 16) 1),
 o 24 (.extract (.t 16) 2),
 o 6 (.mv (.t 22)),
 o 7 (.mv (.t 23)),
 o 8 (.mv (.t 24))])
 (.seq (.region [o 25 (.mv (.t 6)),
 o 26 (.mv (.t 8)),
 o 4 (.mv (.t 25)),
 o 5 (.mv (.t 26))])
 .ret))))) }
def b39 : List Nat := [3]

def f40 : IFunc :=
 { np := 2, res := [.cell 4 5 true], body :=
 (.seq (.region [o 2 (.lbox (.t 0)),
 o 4 (.lalloc [(.im (.sc (.int .i64 0))), (.im (.sc (.int .i64 0))), (.im (.sc (.string ⟨#[]⟩))), (.im (.sl [] .nil)), (.im (.sl [] .nil))])])
 (.seq (.region [o 5 (.mv (.t 1)),
 o 6 (.bin .eql 39 false true (.t 5) (.k (.im (.sc (.int .i64 0))))),
 o 7 (.mv (.t 1)),
 o 8 (.call 28 [(.t 6), (.t 7)])])
 (.seq (.region [o 9 (.ld 5 true (.b 2)),
 e (.st 5 (.b 4) (.t 9))])
 .ret))) }
def b40 : List Nat := [2, 4]

def f41 : IFunc :=
 { np := 3, res := [.cell 6 5 true, .tmp 7], body :=
 (.seq (.region [o 3 (.lbox (.t 0)),
 o 5 (.lbox (.t 2)),
 o 6 (.lalloc [(.im (.sc (.int .i64 0))), (.im (.sc (.int .i64 0))), (.im (.sc (.string ⟨#[]⟩))), (.im (.sl [] .nil)), (.im (.sl [] .nil))]),
 o 7 (.mv (.k (.im (.sc (.int .i64 0)))))])
 (.seq (.region [o 11 (.off 0 (.b 3)),
 o 12 (.ld 1 false (.t 11)),
 o 13 (.ld 5 true (.b 5)),
 o 14 (.call 73 [(.t 12), (.t 13)]),
 o 10 (.mv (.t 14)),
 o 15 (.extract (.t 10) 0),
 o 16 (.extract (.t 10) 1),
 o 8 (.lalloc [(.im (.sc (.int .i64 0))), (.im (.sc (.int .i64 0))), (.im (.sc (.string ⟨#[]⟩))), (.im (.sl [] .nil)), (.im (.sl [] .nil))]),
 e (.st 5 (.b 8) (.t 15)),
 o 9 (.mv (.t 16))])
 (.seq (.seq (.region [o 17 (.mv (.t 9)),
 o 18 (.bin .neq 39 false true (.t 17) (.k (.im (.sc (.int .i64 0)))))])
 (.cond (.t 18)
 (.seq (.region [o 19 (.build [(.im (.sc (.int .i64 0))), (.im (.sc (.int .i64 0))), (.im (.sc (.string ⟨#[]⟩))), (.im (.sl [] .nil)), (.im (.sl [] .nil))] []),
 o 20 (.mv (.t 9)),
 e (.st 5 (.b 6) (.t 19)),
 o 7 (.mv (.t 20))])
 .ret)
 .skip))
 (.seq (.seq (.region [o 21 (.ld 5 true (.b 8)),
 o 22 (.call 75 [(.t 21)]),
 o 23 (.len .sl (.t 22)),
 o 24 (.bin .gtr 3 false true (.t 23) (.k (.im (.sc (.int .i64 0)))))])
 (.cond (.t 24)
 (.seq (.region [o 25 (.build [(.im (.sc (.int .i64 0))), (.im (.sc (.int .i64 0))), (.im (.sc (.string ⟨#[]⟩))), (.im (.sl [] .nil)), (.im (.sl [] .nil))] []),
 e (.st 5 (.b 6) (.t 25)),
 o 7 (.mv (.k (.im (.sc (.int .i64 23)))))])
 .ret)
 .skip))
 (.seq (.seq (.region [o 26 (.ld 5 true (.b 8)),
 o 27 (.mv (.t 1)),
 o 28 (.len .sl (.t 27)),
 o 29 (.call 80 [(.t 26), (.t 28)])])
 (.cond (.t 29)
 (.seq (.region [o 30 (.build [(.im (.sc (.int .i64 0))), (.im (.sc (.int .i64 0))), (.im (.sc (.string ⟨#[]⟩))), (.im (.sl [] .nil)), (.im (.sl [] .nil))] []),
 e (.st 5 (.b 6) (.t 30)),
 o 7 (.mv (.k (.im (.sc (.int .i64 24)))))])
 .ret)
 .skip))
 (.seq (.region [o 32 (.ld 5 true (.b 8)),
 o 33 (.mv (.t 1)),
 o 34 (.call 81 [(.t 32), (.t 33)]),
 o 31 (.mv (.t 34)),
 o 35 (.extract (.t 31) 0),
 o 36 (.extract (.t 31) 1),
 e (.st 5 (.b 8) (.t 35)),
 o 9 (.mv (.t 36))])
 (.seq (.seq (.region [o 37 (.mv (.t 9)),
 o 38 (.bin .neq 39 false true (.t 37) (.k (.im (.sc (.int .i64 0)))))])
 (.cond (.t 38)
 (.seq (.region [o 39 (.build [(.im (.sc (.int .i64 0))), (.im (.sc (.int .i64 0))), (.im (.sc (.string ⟨#[]⟩))), (.im (.sl [] .nil)), (.im (.sl [] .nil))] []),
 o 40 (.mv (.t 9)),
 e (.st 5 (.b 6) (.t 39)),
 o 7 (.mv (.t 40))])
 .ret)
 .skip))
 (.seq (.region [o 41 (.ld 5 true (.b 8)),
 e (.st 5 (.b 6) (.t 41)),
 o 7 (.mv (.k (.im (.sc (.int .i64 0)))))])
 .ret)))))))) }
def b41 : List Nat := [3, 5, 6, 8]

def f42 : IFunc :=
 { np := 4, res := [.cell 8 1 false], body :=
 (.seq (.region [o 10 (.mv (.t 0)),
 o 11 (.build [(.im (.sl [] .nil))] [(0, 1, (.t 10))]),
 o 12 (.mv (.t 1)),
 o 13 (.ld 5 true (.b 6)),
 o 14 (.ld 5 true (.b 7)),
 o 15 (.call 84 [(.t 11), (.t 12), (.t 13), (.t 14)])])
 (.seq (.region [e (.st 1 (.t 8) (.k (.im (.sc (.int .i64 0)))))])
 .ret)), pre := some ([(.region [o 6 (.lbox (.t 2)),
 o 7 (.lbox (.t 3)),
 o 8 (.halloc [(.im (.sc (.int .i64 0)))])])], [o 9 (.mkfn (.func 82) [] [(.t 8)] [])], (.t 9)) }
def b42 : List Nat := [6, 7]

def f43 : IFunc :=
 { np := 2, res := [.tmp 4], body :=
 (.seq (.region [o 4 (.mv (.k (.im (.sc (.bool false)))))])
 (.seq (.seq (.region [o 6 (.mv (.t 0)),
 o 7 (.len .sl (.t 6)),
 o 8 (.mv (.t 1)),
 o 9 (.len .sl (.t 8)),
 o 10 (.bin .neq 3 false false (.t 7) (.t 9))])
 (.cond (.t 10)
 (.seq (.region [o 4 (.mv (.k (.im (.sc (.bool false)))))])
 .ret)
 .skip))
 (.seq (.seq (.region [o 5 (.mv (.k (.im (.sc (.int .i64 0)))))])
 (.block 0 (.loop [0, 1, 4, 5] [] (.seq (.seq (.region [o 11 (.mv (.t 5)),
 o 12 (.mv (.t 0)),
 o 13 (.len .sl (.t 12)),
 o 14 (.bin .lss 3 false false (.t 11) (.t 13))])
 (.cond (.t 14)
 .skip
 (.exit 0)))
 (.seq (.block 1 (.seq (.draw [o 17 (.mv (.t 0)),
 o 18 (.mv (.t 5)),
 o 19 (.idxA 2 none (.t 17) (.t 18)),
 o 20 (.ld 2 true (.t 19)),
 o 21 (.mv (.t 1)),
 o 22 (.mv (.t 5)),
 o 23 (.idxA 2 none (.t 21) (.t 22)),
 o 24 (.ld 2 true (.t 23)),
 o 25 (.call 59 [(.t 20), (.t 24)]),
 o 26 (.un .not (.t 25))] [0, 1, 0, 0, 15, 31, 15, 15, 0, 0])
 (.cond (.t 26)
 (.seq (.region [o 4 (.mv (.k (.im (.sc (.bool false)))))])
 .ret)
 .skip)))
 (.region [o 15 (.mv (.t 5)),
 o 16 (.bin .add 3 false true (.t 15) (.k (.im (.sc (.int .i64 1))))),
 o 5 (.mv (.t 16))]))))))
 (.seq (.region [o 4 (.mv (.k (.im (.sc (.bool true)))))])
 .ret)))) }
def b43 : List Nat := []

def f44 : IFunc :=
 { np := 2, res := [], body :=
 (.seq (.seq (.region [o 16 (.off 5 (.t 0)),
 o 17 (.ld 1 false (.t 16)),
 o 18 (.len .sl (.t 17)),
 o 19 (.mv (.k (.im (.sc (.int .i64 0)))))])
 (.block 0 (.loop [0, 1, 18, 19] [] (.seq (.region [o 20 (.bin .lss 3 false false (.t 19) (.t 18))])
 (.seq (.cond (.t 20)
 .skip
 (.exit 0))
 (.seq (.block 1 (.seq (.region [o 21 (.mv (.t 19)),
 o 2 (.mv (.t 21))])
 (.region [o 22 (.ld 16 true (.t 0)),
 o 23 (.mv (.t 2)),
 o 24 (.call 45 [(.t 22), (.t 23)])])))
 (.region [o 25 (.bin .add 3 false true (.t 19) (.k (.im (.sc (.int .i64 1))))),
 o 19 (.mv (.t 25))])))))))
 (.seq (.region [o 26 (.off 1 (.t 0)),
 o 27 (.off 1 (.t 26)),
 o 28 (.ld 1 false (.t 27)),
 o 29 (.len .sl (.t 28)),
 o 30 (.bin .eql 3 false true (.t 29) (.k (.im (.sc (.int .i64 0))))),
 o 31 (.call 28 [(.t 30), (.k (.im (.sc (.int .i64 19))))])])
 (.seq (.region [o 33 (.off 1 (.t 0)),
 o 34 (.off 3 (.t 33)),
 o 35 (.ld 1 false (.t 34)),
 o 36 (.off 1 (.t 0)),
 o 37 (.off 2 (.t 36)),
 o 38 (.ld 1 false (.t 37)),
 o 39 (.call 46 [(.t 35), (.t 38)]),
 o 32 (.mv (.t 39)),
 o 40 (.extract (.t 32) 0),
 o 41 (.extract (.t 32) 1),
 o 42 (.extract (.t 32) 2),
 o 3 (.mv (.t 40)),
 o 4 (.mv (.t 41)),
 o 5 (.mv (.t 42))])
 (.seq (.region [o 43 (.mv (.t 5)),
 o 44 (.bin .eql 39 false true (.t 43) (.k (.im (.sc (.int .i64 0))))),
 o 45 (.mv (.t 5)),
 o 46 (.call 28 [(.t 44), (.t 45)])])
 (.seq (.seq (.region [o 47 (.off 5 (.t 0)),
 o 48 (.ld 1 false (.t 47)),
 o 49 (.len .sl (.t 48)),
 o 50 (.mv (.k (.im (.sc (.int .i64 0)))))])
 (.block 2 (.loop [0, 1, 3, 5, 49, 50] [] (.seq (.region [o 51 (.bin .lss 3 false false (.t 50) (.t 49))])
 (.seq (.cond (.t 51)
 .skip
 (.exit 2))
 (.seq (.block 3 (.seq (.region [o 52 (.mv (.t 50)),
 o 6 (.mv (.t 52))])
 (.seq (.draw [o 54 (.ld 1 false (.t 1)),
 o 55 (.mv (.t 6)),
 o 56 (.call 48 [(.t 55)]),
 o 57 (.call 47 [(.t 54), (.t 56)]),
 o 53 (.mv (.t 57)),
 o 58 (.extract (.t 53) 0),
 o 59 (.extract (.t 53) 1),
 o 7 (.lalloc [(.im (.sc (.int .i64 0))), (.im (.sc (.int .i64 0))), (.im (.sc (.int .i64 0))), (.im (.sc (.int .i64 0))), (.im (.sc (.int .i64 0))), (.im (.sc (.int .i64 0))), (.im (.sc (.string ⟨#[]⟩))), (.im (.sl [] .nil)), (.im (.sl [] .nil))]),
 e (.st 9 (.b 7) (.t 58)),
 o 8 (.mv (.t 59))] [0, 1, 1, 0, 0, 0, 32, 127, 64, 0])
 (.region [o 60 (.mv (.t 8)),
 o 61 (.bin .neq 39 false true (.t 60) (.k (.im (.sc (.int .i64 0))))),
 o 62 (.call 28 [(.t 61), (.k (.im (.sc (.int .i64 8))))])]))))
 (.region [o 63 (.bin .add 3 false true (.t 50) (.k (.im (.sc (.int .i64 1))))),
 o 50 (.mv (.t 63))])))))))
 (.seq (.region [o 64 (.ld 16 true (.t 0)),
 o 65 (.mv (.t 3)),
 o 66 (.build [(.im (.sl [] .nil)), (.im (.sl [] .nil)), (.im (.sl [] .nil)), (.im (.sl [] .nil)), (.im (.sc (.int .i64 0))), (.im (.sl [] .nil)), (.im (.sc (.int .i64 0))), (.im (.sc (.int .i64 0))), (.im (.sc (.string ⟨#[]⟩))), (.im (.sl [] .nil)), (.im (.sl [] .nil)), (.im (.sc (.int .i64 0))), (.im (.sc (.int .i64 0))), (.im (.sc (.string ⟨#[]⟩))), (.im (.sl [] .nil)), (.im (.sl [] .nil)), (.im (.sl [] .nil))] [(0, 16, (.t 64)), (16, 1, (.t 65))]),
 o 9 (.lalloc [(.im (.sl [] .nil)), (.im (.sl [] .nil)), (.im (.sl [] .nil)), (.im (.sl [] .nil)), (.im (.sc (.int .i64 0))), (.im (.sl [] .nil)), (.im (.sc (.int .i64 0))), (.im (.sc (.int .i64 0))), (.im (.sc (.string ⟨#[]⟩))), (.im (.sl [] .nil)), (.im (.sl [] .nil)), (.im (.sc (.int .i64 0))), (.im (.sc (.int .i64 0))), (.im (.sc (.string ⟨#[]⟩))), (.im (.sl [] .nil)), (.im (.sl [] .nil)), (.im (.sl [] .nil))]),
 e (.st 17 (.b 9) (.t 66))])
 (.seq (.region [o 67 (.ld 1 false (.t 1)),
 o 68 (.call 49 [(.t 67)]),
 o 10 (.mv (.t 68))])
 (.seq (.seq (.region [o 69 (.off 5 (.t 0)),
 o 70 (.ld 1 false (.t 69)),
 o 71 (.len .sl (.t 70)),
 o 72 (.mv (.k (.im (.sc (.int .i64 0)))))])
 (.block 4 (.loop [0, 1, 5, 10, 70, 71, 72] [9] (.seq (.region [o 73 (.bin .lss 3 false false (.t 72) (.t 71))])
 (.seq (.cond (.t 73)
 .skip
 (.exit 4))
 (.seq (.block 5 (.seq (.region [o 74 (.mv (.t 72)),
 o 75 (.idxA 8 none (.t 70) (.t 72)),
 o 76 (.ld 8 true (.t 75)),
 o 12 (.lalloc [(.im (.sc (.int .i64 0))), (.im (.sl [] .nil)), (.im (.sl [] .nil)), (.im (.sc (.int .i64 0))), (.im (.sc (.int .i64 0))), (.im (.sc (.string ⟨#[]⟩))), (.im (.sl [] .nil)), (.im (.sl [] .nil))]),
 o 11 (.mv (.t 74)),
 e (.st 8 (.b 12) (.t 76))])
 (.draw [o 77 (.mv (.t 10)),
 o 78 (.mv (.t 11)),
 o 79 (.call 48 [(.t 78)]),
 o 80 (.ld 17 true (.b 9)),
 o 81 (.off 1 (.t 0)),
 o 82 (.off 0 (.t 81)),
 o 83 (.ld 1 false (.t 82)),
 o 84 (.off 0 (.b 12)),
 o 85 (.ld 1 false (.t 84)),
 o 86 (.idxA 12 none (.t 83) (.t 85)),
 o 87 (.off 0 (.t 86)),
 o 88 (.ld 5 true (.t 87)),
 o 89 (.call 50 [(.t 80), (.t 88)]),
 o 90 (.build [(.im (.sc (.int .i64 0))), (.im (.sc (.string ⟨#[]⟩))), (.im (.sc (.int .i64 0))), (.im (.sc (.int .i64 0))), (.im (.sc (.int .i64 0))), (.im (.sc (.string ⟨#[]⟩))), (.im (.sl [] .nil)), (.im (.sl [] .nil)), (.im (.sc (.int .i64 0))), (.im (.sc (.int .i64 0))), (.im (.sc (.string ⟨#[]⟩))), (.im (.sl [] .nil)), (.im (.sl [] .nil)), (.im (.sc (.int .i64 0))), (.im (.sl [] .nil)), (.im (.sc (.int .i64 0))), (.im (.sc (.int .i64 0))), (.im (.sc (.int .i64 0))), (.im (.sc (.string ⟨#[]⟩))), (.im (.sl [] .nil)), (.im (.sl [] .nil)), (.im (.sl [] .nil)), (.im (.sl [] .nil))] [(0, 1, (.k (.im (.sc (.int .i64 0))))), (1, 1, (.t 79)), (2, 1, (.k (.im (.sc (.int .i64 8))))), (3, 5, (.t 89))]),
 o 91 (.mkS 23 1 [(.im (.sc (.int .i64 0))), (.im (.sc (.string ⟨#[]⟩))), (.im (.sc (.int .i64 0))), (.im (.sc (.int .i64 0))), (.im (.sc (.int .i64 0))), (.im (.sc (.string ⟨#[]⟩))), (.im (.sl [] .nil)), (.im (.sl [] .nil)), (.im (.sc (.int .i64 0))), (.im (.sc (.int .i64 0))), (.im (.sc (.string ⟨#[]⟩))), (.im (.sl [] .nil)), (.im (.sl [] .nil)), (.im (.sc (.int .i64 0))), (.im (.sl [] .nil)), (.im (.sc (.int .i64 0))), (.im (.sc (.int .i64 0))), (.im (.sc (.int .i64 0))), (.im (.sc (.string ⟨#[]⟩))), (.im (.sl [] .nil)), (.im (.sl [] .nil)), (.im (.sl [] .nil)), (.im (.sl [] .nil))] [(0, (.t 90))]),
 o 92 (.append 23 false (.t 77) (.t 91)),
 o 10 (.mv (.t 92))] [0, 1, 1, 7, 15, 15, 15, 127, 127, 15, 15, 15, 1, 1, 1, 0, 0])))
 (.region [o 93 (.bin .add 3 false true (.t 72) (.k (.im (.sc (.int .i64 1))))),
 o 72 (.mv (.t 93))])))))))
 (.seq (.region [o 94 (.ld 17 true (.b 9)),
 o 95 (.off 11 (.t 0)),
 o 96 (.ld 5 true (.t 95)),
 o 97 (.call 50 [(.t 94), (.t 96)]),
 o 13 (.lalloc [(.im (.sc (.int .i64 0))), (.im (.sc (.int .i64 0))), (.im (.sc (.string ⟨#[]⟩))), (.im (.sl [] .nil)), (.im (.sl [] .nil))]),
 e (.st 5 (.b 13) (.t 97))])
 (.seq (.seq (.region [o 98 (.mv (.t 10)),
 o 99 (.ld 1 false (.t 1)),
 o 100 (.len .sl (.t 99)),
 o 101 (.slc 47 23 (.t 98) (some (.t 100)) none none),
 o 102 (.len .sl (.t 101)),
 o 103 (.mv (.k (.im (.sc (.int .i64 0)))))])
 (.block 6 (.loop [0, 5, 10, 101, 102, 103] [13] (.seq (.region [o 104 (.bin .lss 3 false false (.t 103) (.t 102))])
 (.seq (.cond (.t 104)
 .skip
 (.exit 6))
 (.seq (.block 7 (.seq (.region [o 105 (.idxA 23 none (.t 101) (.t 103)),
 o 106 (.ld 23 true (.t 105)),
 o 15 (.lalloc [(.im (.sc (.int .i64 0))), (.im (.sc (.string ⟨#[]⟩))), (.im (.sc (.int .i64 0))), (.im (.sc (.int .i64 0))), (.im (.sc (.int .i64 0))), (.im (.sc (.string ⟨#[]⟩))), (.im (.sl [] .nil)), (.im (.sl [] .nil)), (.im (.sc (.int .i64 0))), (.im (.sc (.int .i64 0))), (.im (.sc (.string ⟨#[]⟩))), (.im (.sl [] .nil)), (.im (.sl [] .nil)), (.im (.sc (.int .i64 0))), (.im (.sl [] .nil)), (.im (.sc (.int .i64 0))), (.im (.sc (.int .i64 0))), (.im (.sc (.int .i64 0))), (.im (.sc (.string ⟨#[]⟩))), (.im (.sl [] .nil)), (.im (.sl [] .nil)), (.im (.sl [] .nil)), (.im (.sl [] .nil))]),
 e (.st 23 (.b 15) (.t 106))])
 (.region [o 107 (.mv (.t 10)),
 o 108 (.off 3 (.b 15)),
 o 109 (.ld 5 true (.t 108)),
 o 110 (.call 51 [(.t 107), (.k (.im (.sl [] .nil))), (.t 109)]),
 o 111 (.extract (.t 110) 0),
 o 112 (.extract (.t 110) 1),
 o 113 (.call 40 [(.t 111), (.t 112)])])))
 (.region [o 114 (.bin .add 3 false true (.t 103) (.k (.im (.sc (.int .i64 1))))),
 o 103 (.mv (.t 114))])))))))
 (.seq (.region [o 115 (.mv (.t 10)),
 o 116 (.ld 5 true (.b 13)),
 o 117 (.off 6 (.t 0)),
 o 118 (.ld 5 true (.t 117)),
 o 119 (.call 42 [(.t 115), (.k (.im (.sl [] .nil))), (.t 116), (.t 118)]),
 o 5 (.mv (.t 119))])
 (.region [o 120 (.mv (.t 5)),
 o 121 (.bin .eql 39 false true (.t 120) (.k (.im (.sc (.int .i64 0))))),
 o 122 (.mv (.t 5)),
 o 123 (.call 28 [(.t 121), (.t 122)])])))))))))))) }
def b44 : List Nat := [7, 9, 12, 13, 15]

def f45 : IFunc :=
 { np := 2, res := [], body :=
 (.seq (.region [o 2 (.lbox (.t 0))])
 (.seq (.region [o 7 (.off 5 (.b 2)),
 o 8 (.ld 1 false (.t 7)),
 o 9 (.mv (.t 1)),
 o 10 (.idxA 8 none (.t 8) (.t 9)),
 o 11 (.ld 8 true (.t 10)),
 o 4 (.halloc [(.im (.sc (.int .i64 0))), (.im (.sl [] .nil)), (.im (.sl [] .nil)), (.im (.sc (.int .i64 0))), (.im (.sc (.int .i64 0))), (.im (.sc (.string ⟨#[]⟩))), (.im (.sl [] .nil)), (.im (.sl [] .nil))]),
 e (.st 8 (.t 4) (.t 11))])
 (.seq (.region [o 12 (.off 1 (.t 4)),
 o 13 (.ld 1 false (.t 12)),
 o 14 (.len .sl (.t 13)),
 o 15 (.off 2 (.t 4)),
 o 16 (.ld 1 false (.t 15)),
 o 17 (.len .sl (.t 16)),
 o 18 (.bin .eql 3 false false (.t 14) (.t 17)),
 o 19 (.call 28 [(.t 18), (.k (.im (.sc (.int .i64 6))))])])
 (.seq (.region [o 20 (.off 0 (.t 4)),
 o 21 (.ld 1 false (.t 20)),
 o 22 (.bin .geq 3 false true (.t 21) (.k (.im (.sc (.int .i64 0))))),
 o 23 (.mv (.t 22)),
 ⟨(some 24), .off 0 (.t 4), (some (23, true))⟩,
 ⟨(some 25), .ld 1 false (.t 24), (some (23, true))⟩,
 ⟨(some 26), .off 1 (.b 2), (some (23, true))⟩,
 ⟨(some 27), .off 0 (.t 26), (some (23, true))⟩,
 ⟨(some 28), .ld 1 false (.t 27), (some (23, true))⟩,
 ⟨(some 29), .len .sl (.t 28), (some (23, true))⟩,
 ⟨(some 30), .bin .lss 3 false false (.t 25) (.t 29), (some (23, true))⟩,
 o 31 (.pick (.t 23) (.t 30) (.k (.im (.sc (.bool false))))),
 o 32 (.mv (.t 31)),
 ⟨(some 33), .off 1 (.b 2), (some (32, true))⟩,
 ⟨(some 34), .off 0 (.t 33), (some (32, true))⟩,
 ⟨(some 35), .ld 1 false (.t 34), (some (32, true))⟩,
 ⟨(some 36), .off 0 (.t 4), (some (32, true))⟩,
 ⟨(some 37), .ld 1 false (.t 36), (some (32, true))⟩,
 ⟨(some 38), .idxA 12 none (.t 35) (.t 37), (some (32, true))⟩,
 ⟨(some 39), .off 5 (.t 38), (some (32, true))⟩,
 ⟨(some 40), .ld 1 false (.t 39), (some (32, true))⟩,
 ⟨(some 41), .un .not (.t 40), (some (32, true))⟩,
 o 42 (.pick (.t 32) (.t 41) (.k (.im (.sc (.bool false))))),
 o 43 (.call 28 [(.t 42), (.k (.im (.sc (.int .i64 2))))])])
 (.seq (.region [o 44 (.off 5 (.b 2)),
 o 45 (.ld 1 false (.t 44)),
 o 46 (.mv (.t 1)),
 o 47 (.slc 36 8 (.t 45) none (some (.t 46)) none),
 o 48 (.mkfn (.func 86) [] [(.t 4)] [true]),
 o 49 (.call 85 [(.t 47), (.t 48)]),
 o 50 (.un .not (.t 49)),
 o 51 (.call 28 [(.t 50), (.k (.im (.sc (.int .i64 8))))])])
 (.seq (.draw [o 52 (.off 1 (.b 2)),
 o 53 (.off 0 (.t 52)),
 o 54 (.ld 1 false (.t 53)),
 o 55 (.off 1 (.b 2)),
 o 56 (.off 0 (.t 55)),
 o 57 (.ld 1 false (.t 56)),
 o 58 (.off 0 (.t 4)),
 o 59 (.ld 1 false (.t 58)),
 o 60 (.idxA 12 none (.t 57) (.t 59)),
 o 61 (.off 0 (.t 60)),
 o 62 (.ld 5 true (.t 61)),
 o 63 (.call 73 [(.t 54), (.t 62)]),
 o 64 (.extract (.t 63) 0),
 o 65 (.extract (.t 63) 1),
 o 66 (.call 40 [(.t 64), (.t 65)]),
 o 5 (.lalloc [(.im (.sc (.int .i64 0))), (.im (.sc (.int .i64 0))), (.im (.sc (.string ⟨#[]⟩))), (.im (.sl [] .nil)), (.im (.sl [] .nil))]),
 e (.st 5 (.b 5) (.t 66))] [0, 0, 0, 7, 7, 7, 63, 63, 7, 7, 7, 0, 0, 4096, 0, 32767, 0])
 (.seq (.draw [o 67 (.off 1 (.b 2)),
 o 68 (.off 0 (.t 67)),
 o 69 (.ld 1 false (.t 68)),
 o 70 (.off 2 (.t 4)),
 o 71 (.ld 1 false (.t 70)),
 o 72 (.off 3 (.t 4)),
 o 73 (.ld 5 true (.t 72)),
 o 74 (.call 63 [(.t 71), (.t 73)]),
 o 75 (.call 73 [(.t 69), (.t 74)]),
 o 76 (.extract (.t 75) 0),
 o 77 (.extract (.t 75) 1),
 o 78 (.call 40 [(.t 76), (.t 77)]),
 o 6 (.lalloc [(.im (.sc (.int .i64 0))), (.im (.sc (.int .i64 0))), (.im (.sc (.string ⟨#[]⟩))), (.im (.sl [] .nil)), (.im (.sl [] .nil))]),
 e (.st 5 (.b 6) (.t 78))] [0, 0, 0, 7, 7, 31, 31, 7, 0, 0, 512, 0, 4095, 0])
 (.region [o 79 (.ld 5 true (.b 5)),
 o 80 (.ld 5 true (.b 6)),
 o 81 (.call 87 [(.t 79), (.t 80)]),
 o 82 (.call 28 [(.t 81), (.k (.im (.sc (.int .i64 3))))])])))))))) }
def b45 : List Nat := [2, 5, 6]

def f46 : IFunc :=
 { np := 2, res := [.tmp 4, .tmp 5, .tmp 6], body :=
 (.seq (.region [o 4 (.mv (.k (.im (.sl [] .nil)))),
 o 5 (.mv (.k (.im (.sc (.int .i64 0))))),
 o 6 (.mv (.k (.im (.sc (.int .i64 0)))))])
 (.seq (.seq (.region [o 16 (.mv (.t 0)),
 o 17 (.mv (.t 1)),
 o 18 (.call 88 [(.t 16), (.t 17)]),
 o 15 (.mv (.t 18)),
 o 19 (.extract (.t 15) 0),
 o 20 (.extract (.t 15) 1),
 o 7 (.mv (.t 19)),
 o 8 (.mv (.t 20))])
 (.seq (.region [o 21 (.mv (.t 8)),
 o 22 (.bin .neq 39 false true (.t 21) (.k (.im (.sc (.int .i64 0)))))])
 (.cond (.t 22)
 (.seq (.region [o 23 (.mv (.t 7)),
 o 24 (.mv (.t 8)),
 o 4 (.mv (.k (.im (.sl [] .nil)))),
 o 5 (.mv (.t 23)),
 o 6 (.mv (.t 24))])
 .ret)
 .skip)))
 (.seq (.region [o 25 (.mv (.t 0)),
 o 26 (.mkslice 2 [(.im (.sc (.int .i64 0))), (.im (.sl [] .nil))] (.t 25) (.t 25)),
 o 9 (.mv (.t 26))])
 (.seq .skip
 (.seq (.block 0 (.loop [1, 4, 5, 6, 9] [] (.block 1 (.seq (.region [o 10 (.mv (.k (.im (.sc (.bool false)))))])
 (.seq (.seq (.region [o 27 (.mv (.t 1)),
 o 28 (.len .sl (.t 27)),
 o 29 (.mv (.k (.im (.sc (.int .i64 0)))))])
 (.block 2 (.loop [1, 4, 5, 6, 9, 10, 27, 28, 29] [] (.seq (.region [o 30 (.bin .lss 3 false false (.t 29) (.t 28))])
 (.seq (.cond (.t 30)
 .skip
 (.exit 2))
 (.seq (.block 3 (.seq (.region [o 31 (.mv (.t 29)),
 o 32 (.idxA 4 none (.t 27) (.t 29)),
 o 33 (.ld 4 true (.t 32)),
 o 12 (.lalloc [(.im (.sc (.int .i64 0))), (.im (.sl [] .nil)), (.im (.sc (.int .i64 0))), (.im (.sl [] .nil))]),
 o 11 (.mv (.t 31)),
 e (.st 4 (.b 12) (.t 33))])
 (.seq (.region [o 35 (.mv (.t 9)),
 o 36 (.ld 4 true (.b 12)),
 o 37 (.call 89 [(.t 35), (.t 36)]),
 o 34 (.mv (.t 37)),
 o 38 (.extract (.t 34) 0),
 o 39 (.extract (.t 34) 1),
 o 13 (.mv (.t 38)),
 o 14 (.mv (.t 39))])
 (.seq (.seq (.region [o 40 (.mv (.t 14)),
 o 41 (.bin .neq 39 false true (.t 40) (.k (.im (.sc (.int .i64 0)))))])
 (.cond (.t 41)
 (.seq (.region [o 42 (.mv (.t 11)),
 o 43 (.mv (.t 14)),
 o 4 (.mv (.k (.im (.sl [] .nil)))),
 o 5 (.mv (.t 42)),
 o 6 (.mv (.t 43))])
 .ret)
 .skip))
 (.region [o 44 (.mv (.t 10)),
 o 45 (.mv (.t 44)),
 ⟨(some 46), .mv (.t 13), (some (45, false))⟩,
 o 47 (.pick (.t 45) (.k (.im (.sc (.bool true)))) (.t 46)),
 o 10 (.mv (.t 47))])))))
 (.region [o 48 (.bin .add 3 false true (.t 29) (.k (.im (.sc (.int .i64 1))))),
 o 29 (.mv (.t 48))])))))))
 (.seq (.region [o 49 (.mv (.t 10)),
 o 50 (.un .not (.t 49))])
 (.cond (.t 50)
 (.exit 0)
 .skip)))))))
 (.seq (.region [o 51 (.mv (.t 9)),
 o 4 (.mv (.t 51)),
 o 5 (.mv (.k (.im (.sc (.int .i64 0))))),
 o 6 (.mv (.k (.im (.sc (.int .i64 0)))))])
 .ret)))))) }
def b46 : List Nat := [12]

def f47 : IFunc :=
 { np := 2, res := [.cell 4 9 true, .cell 5 1 false], body :=
 (.seq (.region [o 3 (.hbox (.t 1)),
 o 4 (.halloc [(.im (.sc (.int .i64 0))), (.im (.sc (.int .i64 0))), (.im (.sc (.int .i64 0))), (.im (.sc (.int .i64 0))), (.im (.sc (.int .i64 0))), (.im (.sc (.int .i64 0))), (.im (.sc (.string ⟨#[]⟩))), (.im (.sl [] .nil)), (.im (.sl [] .nil))]),
 o 5 (.halloc [(.im (.sc (.int .i64 0)))])])
 (.seq (.seq (.region [o 10 (.mv (.t 0)),
 o 11 (.len .sl (.t 10)),
 o 12 (.mv (.k (.im (.sc (.int .i64 0)))))])
 (.block 0 (.loop [3, 4, 5, 10, 11, 12] [] (.seq (.region [o 13 (.bin .lss 3 false false (.t 12) (.t 11))])
 (.seq (.cond (.t 13)
 .skip
 (.exit 0))
 (.seq (.block 1 (.seq (.region [o 14 (.mv (.t 12)),
 o 15 (.idxA 23 none (.t 10) (.t 12)),
 o 16 (.ld 23 true (.t 15)),
 o 7 (.lalloc [(.im (.sc (.int .i64 0))), (.im (.sc (.string ⟨#[]⟩))), (.im (.sc (.int .i64 0))), (.im (.sc (.int .i64 0))), (.im (.sc (.int .i64 0))), (.im (.sc (.string ⟨#[]⟩))), (.im (.sl [] .nil)), (.im (.sl [] .nil)), (.im (.sc (.int .i64 0))), (.im (.sc (.int .i64 0))), (.im (.sc (.string ⟨#[]⟩))), (.im (.sl [] .nil)), (.im (.sl [] .nil)), (.im (.sc (.int .i64 0))), (.im (.sl [] .nil)), (.im (.sc (.int .i64 0))), (.im (.sc (.int .i64 0))), (.im (.sc (.int .i64 0))), (.im (.sc (.string ⟨#[]⟩))), (.im (.sl [] .nil)), (.im (.sl [] .nil)), (.im (.sl [] .nil)), (.im (.sl [] .nil))]),
 o 6 (.mv (.t 14)),
 e (.st 23 (.b 7) (.t 16))])
 (.seq (.region [o 17 (.ld 23 true (.b 7)),
 o 18 (.mv (.t 6)),
 o 19 (.call 90 [(.t 17), (.t 18)])])
 (.block 2 (.rangeFunc (.t 19) [20, 21] [3, 4, 5]
 (.seq (.region [o 8 (.mv (.t 20))])
 (.region [o 9 (.lalloc [(.im (.sc (.int .i64 0))), (.im (.sc (.int .i64 0))), (.im (.sc (.int .i64 0))), (.im (.sc (.int .i64 0))), (.im (.sc (.int .i64 0))), (.im (.sc (.int .i64 0))), (.im (.sc (.string ⟨#[]⟩))), (.im (.sl [] .nil)), (.im (.sl [] .nil))]),
 e (.st 9 (.b 9) (.t 21))]))
 (.block 3 (.seq (.region [o 22 (.mv (.t 8)),
 o 23 (.ld 1 false (.t 3)),
 o 24 (.bin .eql 9 false false (.t 22) (.t 23))])
 (.cond (.t 24)
 (.seq (.region [o 25 (.ld 9 true (.b 9)),
 e (.st 9 (.t 4) (.t 25)),
 e (.st 1 (.t 5) (.k (.im (.sc (.int .i64 0)))))])
 .ret)
 .skip))))))))
 (.region [o 26 (.bin .add 3 false true (.t 12) (.k (.im (.sc (.int .i64 1))))),
 o 12 (.mv (.t 26))])))))))
 (.seq (.region [o 27 (.build [(.im (.sc (.int .i64 0))), (.im (.sc (.int .i64 0))), (.im (.sc (.int .i64 0))), (.im (.sc (.int .i64 0))), (.im (.sc (.int .i64 0))), (.im (.sc (.int .i64 0))), (.im (.sc (.string ⟨#[]⟩))), (.im (.sl [] .nil)), (.im (.sl [] .nil))] []),
 e (.st 9 (.t 4) (.t 27)),
 e (.st 1 (.t 5) (.k (.im (.sc (.int .i64 9)))))])
 .ret))) }
def b47 : List Nat := [7, 9]

def f48 : IFunc :=
 { np := 1, res := [.tmp 2], body :=
 (.seq (.region [o 2 (.mv (.k (.im (.sc (.string ⟨#[]⟩)))))])
 (.seq (.region [o 3 (.mv (.t 0)),
 o 4 (.call 91 [(.t 3)]),
 o 5 (.bin .add 9 true false (.k (.im (.sc (.string ⟨#[103, 111, 97, 108, 39]⟩)))) (.t 4)),
 o 2 (.mv (.t 5))])
 .ret)) }
def b48 : List Nat := []

def f49 : IFunc :=
 { np := 1, res := [.tmp 2], body :=
 (.seq (.region [o 2 (.mv (.k (.im (.sl [] .nil))))])
 (.seq (.seq (.region [o 3 (.mv (.t 0)),
 o 4 (.isnil .sl false (.t 3))])
 (.cond (.t 4)
 (.seq (.region [o 2 (.mv (.k (.im (.sl [] .nil))))])
 .ret)
 .skip))
 (.seq (.region [o 5 (.mkS 23 0 [(.im (.sc (.int .i64 0))), (.im (.sc (.string ⟨#[]⟩))), (.im (.sc (.int .i64 0))), (.im (.sc (.int .i64 0))), (.im (.sc (.int .i64 0))), (.im (.sc (.string ⟨#[]⟩))), (.im (.sl [] .nil)), (.im (.sl [] .nil)), (.im (.sc (.int .i64 0))), (.im (.sc (.int .i64 0))), (.im (.sc (.string ⟨#[]⟩))), (.im (.sl [] .nil)), (.im (.sl [] .nil)), (.im (.sc (.int .i64 0))), (.im (.sl [] .nil)), (.im (.sc (.int .i64 0))), (.im (.sc (.int .i64 0))), (.im (.sc (.int .i64 0))), (.im (.sc (.string ⟨#[]⟩))), (.im (.sl [] .nil)), (.im (.sl [] .nil)), (.im (.sl [] .nil)), (.im (.sl [] .nil))] []),
 o 6 (.mv (.t 0)),
 o 7 (.append 23 false (.t 5) (.t 6)),
 o 2 (.mv (.t 7))])
 .ret))) }
def b49 : List Nat := []

def f50 : IFunc :=
 { np := 2, res := [.cell 4 5 true], body :=
 (.seq (.region [o 2 (.lbox (.t 0)),
 o 3 (.lbox (.t 1)),
 o 4 (.lalloc [(.im (.sc (.int .i64 0))), (.im (.sc (.int .i64 0))), (.im (.sc (.string ⟨#[]⟩))), (.im (.sl [] .nil)), (.im (.sl [] .nil))])])
 (.seq (.region [o 6 (.off 0 (.b 2)),
 o 7 (.off 1 (.t 6)),
 o 8 (.off 0 (.t 7)),
 o 9 (.ld 1 false (.t 8)),
 o 10 (.ld 5 true (.b 3)),
 o 11 (.call 73 [(.t 9), (.t 10)]),
 o 12 (.extract (.t 11) 0),
 o 13 (.extract (.t 11) 1),
 o 14 (.call 40 [(.t 12), (.t 13)]),
 o 5 (.lalloc [(.im (.sc (.int .i64 0))), (.im (.sc (.int .i64 0))), (.im (.sc (.string ⟨#[]⟩))), (.im (.sl [] .nil)), (.im (.sl [] .nil))]),
 e (.st 5 (.b 5) (.t 14))])
 (.seq (.draw [o 15 (.ld 17 true (.b 2)),
 o 16 (.ld 5 true (.b 5)),
 o 17 (.call 92 [(.t 15), (.t 16)]),
 o 18 (.off 16 (.b 2)),
 o 19 (.ld 1 false (.t 18)),
 o 20 (.call 81 [(.t 17), (.t 19)]),
 o 21 (.extract (.t 20) 0),
 o 22 (.extract (.t 20) 1),
 o 23 (.call 40 [(.t 21), (.t 22)]),
 e (.st 5 (.b 4) (.t 23))] [0, 1, 0, 7, 7, 0, 0, 64, 0, 0])
 .ret))) }
def b50 : List Nat := [2, 3, 4, 5]

def f51 : IFunc :=
 { np := 3, res := [.cell 6 5 true, .cell 7 1 false], body :=
 (.seq (.region [o 9 (.mv (.t 0)),
 o 10 (.build [(.im (.sl [] .nil))] [(0, 1, (.t 9))]),
 o 11 (.mv (.t 1)),
 o 12 (.ld 5 true (.b 5)),
 o 13 (.call 95 [(.t 10), (.t 11), (.t 12)]),
 o 14 (.call 94 [(.t 13)]),
 e (.st 5 (.t 6) (.t 14)),
 e (.st 1 (.t 7) (.k (.im (.sc (.int .i64 0)))))])
 .ret), pre := some ([(.region [o 5 (.lbox (.t 2)),
 o 6 (.halloc [(.im (.sc (.int .i64 0))), (.im (.sc (.int .i64 0))), (.im (.sc (.string ⟨#[]⟩))), (.im (.sl [] .nil)), (.im (.sl [] .nil))]),
 o 7 (.halloc [(.im (.sc (.int .i64 0)))])])], [o 8 (.mkfn (.func 93) [] [(.t 6), (.t 7)] [])], (.t 8)) }
def b51 : List Nat := [5]

def f52 : IFunc :=
 { np := 1, res := [.tmp 2], body :=
 (.seq (.region [o 1 (.hbox (.t 0)),
 o 2 (.mv (.k (.im (.sc .nilFunc))))])
 (.seq (.region [o 3 (.mkfn (.func 96) [] [(.t 1)] []),
 o 2 (.mv (.t 3))])
 .ret)) }
def b52 : List Nat := []

def f53 : IFunc :=
 { np := 3, res := [.tmp 6], body :=
 (.seq (.region [o 3 (.lbox (.t 0)),
 o 4 (.lbox (.t 1)),
 o 6 (.mv (.k (.im (.sc (.int .i64 0)))))])
 (.seq (.seq (.region [o 10 (.ld 5 true (.b 4)),
 o 11 (.call 99 [(.t 10)]),
 o 12 (.un .not (.t 11))])
 (.cond (.t 12)
 (.seq (.region [o 6 (.mv (.k (.im (.sc (.int .i64 3)))))])
 .ret)
 .skip))
 (.seq (.seq (.region [o 13 (.off 0 (.b 4)),
 o 14 (.ld 1 false (.t 13)),
 o 15 (.bin .eql 3 false true (.t 14) (.k (.im (.sc (.int .i64 3)))))])
 (.cond (.t 15)
 (.seq (.seq (.region [o 16 (.off 2 (.b 4)),
 o 17 (.ld 1 false (.t 16)),
 o 18 (.call 100 [(.t 17)]),
 o 19 (.un .not (.t 18))])
 (.cond (.t 19)
 (.seq (.region [o 6 (.mv (.k (.im (.sc (.int .i64 29)))))])
 .ret)
 .skip))
 (.seq (.region [o 20 (.off 3 (.b 4)),
 o 21 (.ld 1 false (.t 20)),
 o 22 (.len .sl (.t 21)),
 o 23 (.bin .gtr 3 false true (.t 22) (.k (.im (.sc (.int .i64 8)))))])
 (.cond (.t 23)
 (.seq (.region [o 6 (.mv (.k (.im (.sc (.int .i64 6)))))])
 .ret)
 .skip)))
 .skip))
 (.seq (.seq (.region [o 24 (.off 3 (.b 4)),
 o 25 (.ld 1 false (.t 24)),
 o 26 (.len .sl (.t 25)),
 o 27 (.mv (.k (.im (.sc (.int .i64 0)))))])
 (.block 0 (.loop [2, 6, 25, 26, 27] [3, 4] (.seq (.region [o 28 (.bin .lss 3 false false (.t 27) (.t 26))])
 (.seq (.cond (.t 28)
 .skip
 (.exit 0))
 (.seq (.block 1 (.seq (.region [o 29 (.idxA 2 none (.t 25) (.t 27)),
 o 30 (.ld 2 true (.t 29)),
 o 8 (.lalloc [(.im (.sc (.int .i64 0))), (.im (.sl [] .nil))]),
 e (.st 2 (.b 8) (.t 30))])
 (.seq (.region [o 31 (.ld 4 true (.b 3)),
 o 32 (.ld 2 true (.b 8)),
 o 33 (.call 101 [(.t 31), (.t 32)]),
 o 9 (.mv (.t 33))])
 (.seq (.region [o 34 (.mv (.t 9)),
 o 35 (.bin .neq 39 false true (.t 34) (.k (.im (.sc (.int .i64 0)))))])
 (.cond (.t 35)
 (.seq (.region [o 36 (.mv (.t 9)),
 o 6 (.mv (.t 36))])
 .ret)
 .skip)))))
 (.region [o 37 (.bin .add 3 false true (.t 27) (.k (.im (.sc (.int .i64 1))))),
 o 27 (.mv (.t 37))])))))))
 (.seq (.block 2 (.seq (.region [o 39 (.off 0 (.b 4)),
 o 40 (.ld 1 false (.t 39)),
 o 41 (.bin .eql 3 false true (.t 40) (.k (.im (.sc (.int .i64 0))))),
 o 42 (.mv (.t 41)),
 ⟨(some 43), .off 1 (.b 4), (some (42, true))⟩,
 ⟨(some 44), .ld 1 false (.t 43), (some (42, true))⟩,
 ⟨(some 45), .bin .lss 3 false true (.t 44) (.k (.im (.sc (.int .i64 0)))), (some (42, true))⟩,
 ⟨(some 46), .mv (.t 45), (some (42, true))⟩,
 ⟨(some 47), .off 1 (.b 4), (some (46, false))⟩,
 ⟨(some 48), .ld 1 false (.t 47), (some (46, false))⟩,
 ⟨(some 49), .mv (.t 2), (some (46, false))⟩,
 ⟨(some 50), .bin .sub 3 false false (.t 48) (.t 49), (some (46, false))⟩,
 ⟨(some 51), .off 0 (.b 3), (some (46, false))⟩,
 ⟨(some 52), .ld 1 false (.t 51), (some (46, false))⟩,
 ⟨(some 53), .bin .geq 3 false false (.t 50) (.t 52), (some (46, false))⟩,
 ⟨(some 54), .pick (.t 46) (.k (.im (.sc (.bool true)))) (.t 53), (some (42, true))⟩,
 o 55 (.pick (.t 42) (.t 54) (.k (.im (.sc (.bool false))))),
 o 38 (.mv (.t 55))])
 (.cond (.t 38)
 (.seq (.region [o 6 (.mv (.k (.im (.sc (.int .i64 24)))))])
 .ret)
 (.seq (.region [o 57 (.off 0 (.b 4)),
 o 58 (.ld 1 false (.t 57)),
 o 59 (.bin .eql 3 false true (.t 58) (.k (.im (.sc (.int .i64 12))))),
 o 60 (.mv (.t 59)),
 ⟨(some 61), .off 1 (.b 4), (some (60, true))⟩,
 ⟨(some 62), .ld 1 false (.t 61), (some (60, true))⟩,
 ⟨(some 63), .bin .lss 3 false true (.t 62) (.k (.im (.sc (.int .i64 0)))), (some (60, true))⟩,
 ⟨(some 64), .mv (.t 63), (some (60, true))⟩,
 ⟨(some 65), .off 1 (.b 4), (some (64, false))⟩,
 ⟨(some 66), .ld 1 false (.t 65), (some (64, false))⟩,
 ⟨(some 67), .off 2 (.b 3), (some (64, false))⟩,
 ⟨(some 68), .ld 1 false (.t 67), (some (64, false))⟩,
 ⟨(some 69), .bin .geq 3 false false (.t 66) (.t 68), (some (64, false))⟩,
 ⟨(some 70), .pick (.t 64) (.k (.im (.sc (.bool true)))) (.t 69), (some (60, true))⟩,
 o 71 (.pick (.t 60) (.t 70) (.k (.im (.sc (.bool false))))),
 o 56 (.mv (.t 71))])
 (.cond (.t 56)
 (.seq (.region [o 6 (.mv (.k (.im (.sc (.int .i64 23)))))])
 .ret)
 .skip)))))
 (.seq (.region [o 6 (.mv (.k (.im (.sc (.int .i64 0)))))])
 .ret)))))) }
def b53 : List Nat := [3, 4, 8]

def f54 : IFunc :=
 { np := 1, res := [.tmp 2], body :=
 (.seq (.region [o 1 (.lbox (.t 0)),
 o 2 (.mv (.k (.im (.sc (.int .i64 0)))))])
 (.seq (.region [o 3 (.mv (.k (.im (.sc (.int .i64 0)))))])
 (.seq (.seq (.region [o 6 (.off 4 (.b 1)),
 o 7 (.ld 1 false (.t 6)),
 o 8 (.len .sl (.t 7)),
 o 9 (.mv (.k (.im (.sc (.int .i64 0)))))])
 (.block 0 (.loop [2, 3, 7, 8, 9] [] (.seq (.region [o 10 (.bin .lss 3 false false (.t 9) (.t 8))])
 (.seq (.cond (.t 10)
 .skip
 (.exit 0))
 (.seq (.block 1 (.seq (.region [o 11 (.idxA 5 none (.t 7) (.t 9)),
 o 12 (.ld 5 true (.t 11)),
 o 5 (.lalloc [(.im (.sc (.int .i64 0))), (.im (.sc (.int .i64 0))), (.im (.sc (.string ⟨#[]⟩))), (.im (.sl [] .nil)), (.im (.sl [] .nil))]),
 e (.st 5 (.b 5) (.t 12))])
 (.region [o 13 (.mv (.t 3)),
 o 14 (.ld 5 true (.b 5)),
 o 15 (.call 54 [(.t 14)]),
 o 16 (.sbuiltin .max [3, 3] 3 [(.t 13), (.t 15)]),
 o 3 (.mv (.t 16))])))
 (.region [o 17 (.bin .add 3 false true (.t 9) (.k (.im (.sc (.int .i64 1))))),
 o 9 (.mv (.t 17))])))))))
 (.seq (.region [o 18 (.mv (.t 3)),
 o 19 (.bin .add 3 false true (.t 18) (.k (.im (.sc (.int .i64 1))))),
 o 2 (.mv (.t 19))])
 .ret)))) }
def b54 : List Nat := [1, 5]

def f55 : IFunc :=
 { np := 6, res := [.tmp 12], body :=
 (.seq (.region [o 6 (.lbox (.t 0)),
 o 12 (.mv (.k (.im (.sc (.int .i64 0)))))])
 (.seq (.seq (.region [o 17 (.ld 5 true (.b 6)),
 o 18 (.call 102 [(.t 17)]),
 o 19 (.un .not (.t 18))])
 (.cond (.t 19)
 (.seq (.region [o 12 (.mv (.k (.im (.sc (.int .i64 3)))))])
 .ret)
 .skip))
 (.seq (.seq (.region [o 20 (.off 0 (.b 6)),
 o 21 (.ld 1 false (.t 20)),
 o 22 (.bin .eql 3 false true (.t 21) (.k (.im (.sc (.int .i64 3))))),
 o 23 (.mv (.t 22)),
 ⟨(some 24), .off 2 (.b 6), (some (23, true))⟩,
 ⟨(some 25), .ld 1 false (.t 24), (some (23, true))⟩,
 ⟨(some 26), .call 103 [(.t 25)], (some (23, true))⟩,
 ⟨(some 27), .un .not (.t 26), (some (23, true))⟩,
 o 28 (.pick (.t 23) (.t 27) (.k (.im (.sc (.bool false)))))])
 (.cond (.t 28)
 (.seq (.region [o 12 (.mv (.k (.im (.sc (.int .i64 29)))))])
 .ret)
 .skip))
 (.seq (.seq (.region [o 29 (.off 3 (.b 6)),
 o 30 (.ld 1 false (.t 29)),
 o 31 (.len .sl (.t 30)),
 o 32 (.bin .gtr 3 false true (.t 31) (.k (.im (.sc (.int .i64 8)))))])
 (.cond (.t 32)
 (.seq (.region [o 12 (.mv (.k (.im (.sc (.int .i64 6)))))])
 .ret)
 .skip))
 (.seq (.seq (.region [o 13 (.mv (.k (.im (.sc (.int .i64 0)))))])
 (.block 0 (.loop [1, 2, 3, 4, 5, 12, 13] [6] (.seq (.seq (.region [o 33 (.mv (.t 13)),
 o 34 (.off 3 (.b 6)),
 o 35 (.ld 1 false (.t 34)),
 o 36 (.len .sl (.t 35)),
 o 37 (.bin .lss 3 false false (.t 33) (.t 36))])
 (.cond (.t 37)
 .skip
 (.exit 0)))
 (.seq (.block 1 (.seq (.region [o 40 (.off 3 (.b 6)),
 o 41 (.ld 1 false (.t 40)),
 o 42 (.mv (.t 13)),
 o 43 (.idxA 2 none (.t 41) (.t 42)),
 o 44 (.ld 2 true (.t 43)),
 o 45 (.mv (.t 3)),
 o 46 (.mv (.t 5)),
 o 47 (.call 104 [(.t 44), (.t 45), (.t 46)]),
 o 14 (.mv (.t 47))])
 (.seq (.region [o 48 (.mv (.t 14)),
 o 49 (.bin .neq 3 false true (.t 48) (.k (.im (.sc (.int .i64 0)))))])
 (.cond (.t 49)
 (.seq (.region [o 50 (.mv (.t 14)),
 o 12 (.mv (.t 50))])
 .ret)
 .skip))))
 (.region [o 38 (.mv (.t 13)),
 o 39 (.bin .add 3 false true (.t 38) (.k (.im (.sc (.int .i64 1))))),
 o 13 (.mv (.t 39))]))))))
 (.seq (.seq (.region [o 51 (.off 0 (.b 6)),
 o 52 (.ld 1 false (.t 51)),
 o 53 (.bin .eql 3 false true (.t 52) (.k (.im (.sc (.int .i64 0))))),
 o 54 (.mv (.t 53)),
 ⟨(some 55), .off 1 (.b 6), (some (54, true))⟩,
 ⟨(some 56), .ld 1 false (.t 55), (some (54, true))⟩,
 ⟨(some 57), .bin .lss 3 false true (.t 56) (.k (.im (.sc (.int .i64 0)))), (some (54, true))⟩,
 ⟨(some 58), .mv (.t 57), (some (54, true))⟩,
 ⟨(some 59), .off 1 (.b 6), (some (58, false))⟩,
 ⟨(some 60), .ld 1 false (.t 59), (some (58, false))⟩,
 ⟨(some 61), .mv (.t 1), (some (58, false))⟩,
 ⟨(some 62), .bin .sub 3 false false (.t 60) (.t 61), (some (58, false))⟩,
 ⟨(some 63), .mv (.t 2), (some (58, false))⟩,
 ⟨(some 64), .bin .geq 3 false false (.t 62) (.t 63), (some (58, false))⟩,
 ⟨(some 65), .pick (.t 58) (.k (.im (.sc (.bool true)))) (.t 64), (some (54, true))⟩,
 o 66 (.pick (.t 54) (.t 65) (.k (.im (.sc (.bool false)))))])
 (.cond (.t 66)
 (.seq (.region [o 12 (.mv (.k (.im (.sc (.int .i64 24)))))])
 .ret)
 .skip))
 (.seq (.seq (.region [o 67 (.off 0 (.b 6)),
 o 68 (.ld 1 false (.t 67)),
 o 69 (.bin .eql 3 false true (.t 68) (.k (.im (.sc (.int .i64 12))))),
 o 70 (.mv (.t 69)),
 ⟨(some 71), .off 1 (.b 6), (some (70, true))⟩,
 ⟨(some 72), .ld 1 false (.t 71), (some (70, true))⟩,
 ⟨(some 73), .bin .lss 3 false true (.t 72) (.k (.im (.sc (.int .i64 0)))), (some (70, true))⟩,
 ⟨(some 74), .mv (.t 73), (some (70, true))⟩,
 ⟨(some 75), .off 1 (.b 6), (some (74, false))⟩,
 ⟨(some 76), .ld 1 false (.t 75), (some (74, false))⟩,
 ⟨(some 77), .mv (.t 4), (some (74, false))⟩,
 ⟨(some 78), .bin .geq 3 false false (.t 76) (.t 77), (some (74, false))⟩,
 ⟨(some 79), .pick (.t 74) (.k (.im (.sc (.bool true)))) (.t 78), (some (70, true))⟩,
 o 80 (.pick (.t 70) (.t 79) (.k (.im (.sc (.bool false)))))])
 (.cond (.t 80)
 (.seq (.region [o 12 (.mv (.k (.im (.sc (.int .i64 23)))))])
 .ret)
 .skip))
 (.seq (.seq (.region [o 15 (.mv (.k (.im (.sc (.int .i64 0)))))])
 (.block 2 (.loop [1, 2, 3, 4, 5, 12, 15] [6] (.seq (.seq (.region [o 81 (.mv (.t 15)),
 o 82 (.off 4 (.b 6)),
 o 83 (.ld 1 false (.t 82)),
 o 84 (.len .sl (.t 83)),
 o 85 (.bin .lss 3 false false (.t 81) (.t 84))])
 (.cond (.t 85)
 .skip
 (.exit 2)))
 (.seq (.block 3 (.seq (.draw [o 88 (.off 4 (.b 6)),
 o 89 (.ld 1 false (.t 88)),
 o 90 (.mv (.t 15)),
 o 91 (.idxA 5 none (.t 89) (.t 90)),
 o 92 (.ld 5 true (.t 91)),
 o 93 (.mv (.t 1)),
 o 94 (.off 0 (.b 6)),
 o 95 (.ld 1 false (.t 94)),
 o 96 (.mv (.t 15)),
 o 97 (.call 105 [(.t 95), (.t 96)]),
 o 98 (.bin .add 3 false false (.t 93) (.t 97)),
 o 99 (.mv (.t 2)),
 o 100 (.mv (.t 3)),
 o 101 (.mv (.t 4)),
 o 102 (.mv (.t 5)),
 o 103 (.call 55 [(.t 92), (.t 98), (.t 99), (.t 100), (.t 101), (.t 102)]),
 o 16 (.mv (.t 103))] [0, 0, 3, 0, 0, 31, 63, 63, 255, 63, 31, 2047, 4095, 8191, 16383, 0, 0])
 (.seq (.region [o 104 (.mv (.t 16)),
 o 105 (.bin .neq 3 false true (.t 104) (.k (.im (.sc (.int .i64 0)))))])
 (.cond (.t 105)
 (.seq (.region [o 106 (.mv (.t 16)),
 o 12 (.mv (.t 106))])
 .ret)
 .skip))))
 (.region [o 86 (.mv (.t 15)),
 o 87 (.bin .add 3 false true (.t 86) (.k (.im (.sc (.int .i64 1))))),
 o 15 (.mv (.t 87))]))))))
 (.seq (.region [o 12 (.mv (.k (.im (.sc (.int .i64 0)))))])
 .ret))))))))) }
def b55 : List Nat := [6]

def f56 : IFunc :=
 { np := 1, res := [.tmp 2], body :=
 (.seq (.region [o 1 (.lbox (.t 0)),
 o 2 (.mv (.k (.im (.sc (.int .i64 0)))))])
 (.seq (.region [o 3 (.mv (.k (.im (.sc (.int .i64 0)))))])
 (.seq (.seq (.region [o 4 (.mv (.k (.im (.sc (.int .i64 0)))))])
 (.block 0 (.loop [2, 3, 4] [1] (.seq (.seq (.region [o 5 (.mv (.t 4)),
 o 6 (.off 4 (.b 1)),
 o 7 (.ld 1 false (.t 6)),
 o 8 (.len .sl (.t 7)),
 o 9 (.bin .lss 3 false false (.t 5) (.t 8))])
 (.cond (.t 9)
 .skip
 (.exit 0)))
 (.seq (.block 1 (.region [o 12 (.mv (.t 3)),
 o 13 (.off 4 (.b 1)),
 o 14 (.ld 1 false (.t 13)),
 o 15 (.mv (.t 4)),
 o 16 (.idxA 5 none (.t 14) (.t 15)),
 o 17 (.ld 5 true (.t 16)),
 o 18 (.call 56 [(.t 17)]),
 o 19 (.sbuiltin .max [3, 3] 3 [(.t 12), (.t 18)]),
 o 3 (.mv (.t 19))]))
 (.region [o 10 (.mv (.t 4)),
 o 11 (.bin .add 3 false true (.t 10) (.k (.im (.sc (.int .i64 1))))),
 o 4 (.mv (.t 11))]))))))
 (.seq (.region [o 20 (.mv (.t 3)),
 o 21 (.bin .add 3 false true (.t 20) (.k (.im (.sc (.int .i64 1))))),
 o 2 (.mv (.t 21))])
 .ret)))) }
def b56 : List Nat := [1]

def f57 : IFunc :=
 { np := 2, res := [.tmp 4], body :=
 (.seq (.region [o 2 (.lbox (.t 0)),
 o 3 (.lbox (.t 1)),
 o 4 (.mv (.k (.im (.sc (.bool false)))))])
 (.seq (.region [o 5 (.off 0 (.b 2)),
 o 6 (.ld 5 true (.t 5)),
 o 7 (.off 0 (.b 3)),
 o 8 (.ld 5 true (.t 7)),
 o 9 (.call 16 [(.t 6), (.t 8)]),
 o 10 (.mv (.t 9)),
 ⟨(some 11), .off 5 (.b 2), (some (10, true))⟩,
 ⟨(some 12), .ld 1 false (.t 11), (some (10, true))⟩,
 ⟨(some 13), .off 5 (.b 3), (some (10, true))⟩,
 ⟨(some 14), .ld 1 false (.t 13), (some (10, true))⟩,
 ⟨(some 15), .bin .eql 4 false false (.t 12) (.t 14), (some (10, true))⟩,
 o 16 (.pick (.t 10) (.t 15) (.k (.im (.sc (.bool false))))),
 o 17 (.mv (.t 16)),
 ⟨(some 18), .off 6 (.b 2), (some (17, true))⟩,
 ⟨(some 19), .ld 5 true (.t 18), (some (17, true))⟩,
 ⟨(some 20), .off 6 (.b 3), (some (17, true))⟩,
 ⟨(some 21), .ld 5 true (.t 20), (some (17, true))⟩,
 ⟨(some 22), .call 16 [(.t 19), (.t 21)], (some (17, true))⟩,
 o 23 (.pick (.t 17) (.t 22) (.k (.im (.sc (.bool false))))),
 o 24 (.mv (.t 23)),
 ⟨(some 25), .off 11 (.b 2), (some (24, true))⟩,
 ⟨(some 26), .ld 1 false (.t 25), (some (24, true))⟩,
 ⟨(some 27), .off 11 (.b 3), (some (24, true))⟩,
 ⟨(some 28), .ld 1 false (.t 27), (some (24, true))⟩,
 ⟨(some 29), .bin .eql 4 false false (.t 26) (.t 28), (some (24, true))⟩,
 o 30 (.pick (.t 24) (.t 29) (.k (.im (.sc (.bool false))))),
 o 4 (.mv (.t 30))])
 .ret)) }
def b57 : List Nat := [2, 3]

def f58 : IFunc :=
 { np := 2, res := [.tmp 4], body :=
 (.seq (.region [o 2 (.lbox (.t 0)),
 o 3 (.lbox (.t 1)),
 o 4 (.mv (.k (.im (.sc (.bool false)))))])
 (.seq (.region [o 5 (.off 0 (.b 2)),
 o 6 (.ld 1 false (.t 5)),
 o 7 (.off 0 (.b 3)),
 o 8 (.ld 1 false (.t 7)),
 o 9 (.call 60 [(.t 6), (.t 8)]),
 o 10 (.mv (.t 9)),
 ⟨(some 11), .off 1 (.b 2), (some (10, true))⟩,
 ⟨(some 12), .ld 5 true (.t 11), (some (10, true))⟩,
 ⟨(some 13), .off 1 (.b 3), (some (10, true))⟩,
 ⟨(some 14), .ld 5 true (.t 13), (some (10, true))⟩,
 ⟨(some 15), .call 16 [(.t 12), (.t 14)], (some (10, true))⟩,
 o 16 (.pick (.t 10) (.t 15) (.k (.im (.sc (.bool false))))),
 o 17 (.mv (.t 16)),
 ⟨(some 18), .off 6 (.b 2), (some (17, true))⟩,
 ⟨(some 19), .ld 5 true (.t 18), (some (17, true))⟩,
 ⟨(some 20), .off 6 (.b 3), (some (17, true))⟩,
 ⟨(some 21), .ld 5 true (.t 20), (some (17, true))⟩,
 ⟨(some 22), .call 16 [(.t 19), (.t 21)], (some (17, true))⟩,
 o 23 (.pick (.t 17) (.t 22) (.k (.im (.sc (.bool false))))),
 o 24 (.mv (.t 23)),
 ⟨(some 25), .off 11 (.b 2), (some (24, true))⟩,
 ⟨(some 26), .ld 1 false (.t 25), (some (24, true))⟩,
 ⟨(some 27), .off 11 (.b 3), (some (24, true))⟩,
 ⟨(some 28), .ld 1 false (.t 27), (some (24, true))⟩,
 ⟨(some 29), .bin .eql 4 false false (.t 26) (.t 28), (some (24, true))⟩,
 o 30 (.pick (.t 24) (.t 29) (.k (.im (.sc (.bool false))))),
 o 4 (.mv (.t 30))])
 .ret)) }
def b58 : List Nat := [2, 3]

def f59 : IFunc :=
 { np := 2, res := [.tmp 4], body :=
 (.seq (.region [o 2 (.lbox (.t 0)),
 o 3 (.lbox (.t 1)),
 o 4 (.mv (.k (.im (.sc (.bool false)))))])
 (.seq (.seq (.region [o 6 (.off 0 (.b 2)),
 o 7 (.ld 1 false (.t 6)),
 o 8 (.off 0 (.b 3)),
 o 9 (.ld 1 false (.t 8)),
 o 10 (.bin .neq 3 false false (.t 7) (.t 9)),
 o 11 (.mv (.t 10)),
 ⟨(some 12), .off 1 (.b 2), (some (11, false))⟩,
 ⟨(some 13), .ld 1 false (.t 12), (some (11, false))⟩,
 ⟨(some 14), .len .sl (.t 13), (some (11, false))⟩,
 ⟨(some 15), .off 1 (.b 3), (some (11, false))⟩,
 ⟨(some 16), .ld 1 false (.t 15), (some (11, false))⟩,
 ⟨(some 17), .len .sl (.t 16), (some (11, false))⟩,
 ⟨(some 18), .bin .neq 3 false false (.t 14) (.t 17), (some (11, false))⟩,
 o 19 (.pick (.t 11) (.k (.im (.sc (.bool true)))) (.t 18))])
 (.cond (.t 19)
 (.seq (.region [o 4 (.mv (.k (.im (.sc (.bool false)))))])
 .ret)
 .skip))
 (.seq (.seq (.region [o 5 (.mv (.k (.im (.sc (.int .i64 0)))))])
 (.block 0 (.loop [4, 5] [2, 3] (.seq (.seq (.region [o 20 (.mv (.t 5)),
 o 21 (.off 1 (.b 2)),
 o 22 (.ld 1 false (.t 21)),
 o 23 (.len .sl (.t 22)),
 o 24 (.bin .lss 3 false false (.t 20) (.t 23))])
 (.cond (.t 24)
 .skip
 (.exit 0)))
 (.seq (.block 1 (.seq (.draw [o 27 (.off 1 (.b 2)),
 o 28 (.ld 1 false (.t 27)),
 o 29 (.mv (.t 5)),
 o 30 (.idxA 2 none (.t 28) (.t 29)),
 o 31 (.ld 2 true (.t 30)),
 o 32 (.off 1 (.b 3)),
 o 33 (.ld 1 false (.t 32)),
 o 34 (.mv (.t 5)),
 o 35 (.idxA 2 none (.t 33) (.t 34)),
 o 36 (.ld 2 true (.t 35)),
 o 37 (.bin .neq 167 false false (.t 31) (.t 36))] [0, 0, 3, 0, 0, 31, 31, 127, 31, 31, 0])
 (.cond (.t 37)
 (.seq (.region [o 4 (.mv (.k (.im (.sc (.bool false)))))])
 .ret)
 .skip)))
 (.region [o 25 (.mv (.t 5)),
 o 26 (.bin .add 3 false true (.t 25) (.k (.im (.sc (.int .i64 1))))),
 o 5 (.mv (.t 26))]))))))
 (.seq (.region [o 4 (.mv (.k (.im (.sc (.bool true)))))])
 .ret)))) }
def b59 : List Nat := [2, 3]

def f60 : IFunc :=
 { np := 2, res := [.tmp 4], body :=
 (.seq (.region [o 4 (.mv (.k (.im (.sc (.bool false)))))])
 (.seq (.seq (.region [o 6 (.mv (.t 0)),
 o 7 (.len .sl (.t 6)),
 o 8 (.mv (.t 1)),
 o 9 (.len .sl (.t 8)),
 o 10 (.bin .neq 3 false false (.t 7) (.t 9))])
 (.cond (.t 10)
 (.seq (.region [o 4 (.mv (.k (.im (.sc (.bool false)))))])
 .ret)
 .skip))
 (.seq (.seq (.region [o 5 (.mv (.k (.im (.sc (.int .i64 0)))))])
 (.block 0 (.loop [0, 1, 4, 5] [] (.seq (.seq (.region [o 11 (.mv (.t 5)),
 o 12 (.mv (.t 0)),
 o 13 (.len .sl (.t 12)),
 o 14 (.bin .lss 3 false false (.t 11) (.t 13))])
 (.cond (.t 14)
 .skip
 (.exit 0)))
 (.seq (.block 1 (.seq (.draw [o 17 (.mv (.t 0)),
 o 18 (.mv (.t 5)),
 o 19 (.idxA 5 none (.t 17) (.t 18)),
 o 20 (.ld 5 true (.t 19)),
 o 21 (.mv (.t 1)),
 o 22 (.mv (.t 5)),
 o 23 (.idxA 5 none (.t 21) (.t 22)),
 o 24 (.ld 5 true (.t 23)),
 o 25 (.call 16 [(.t 20), (.t 24)]),
 o 26 (.un .not (.t 25))] [0, 1, 0, 0, 15, 31, 15, 15, 0, 0])
 (.cond (.t 26)
 (.seq (.region [o 4 (.mv (.k (.im (.sc (.bool false)))))])
 .ret)
 .skip)))
 (.region [o 15 (.mv (.t 5)),
 o 16 (.bin .add 3 false true (.t 15) (.k (.im (.sc (.int .i64 1))))),
 o 5 (.mv (.t 16))]))))))
 (.seq (.region [o 4 (.mv (.k (.im (.sc (.bool true)))))])
 .ret)))) }
def b60 : List Nat := []

def f61 : IFunc :=
 { np := 3, res := [.cell 6 5 true, .tmp 7], body :=
 (.seq (.region [o 3 (.lbox (.t 0)),
 o 6 (.lalloc [(.im (.sc (.int .i64 0))), (.im (.sc (.int .i64 0))), (.im (.sc (.string ⟨#[]⟩))), (.im (.sl [] .nil)), (.im (.sl [] .nil))]),
 o 7 (.mv (.k (.im (.sc (.int .i64 0)))))])
 (.seq (.seq (.region [o 10 (.mv (.t 2)),
 o 11 (.bin .lss 3 false true (.t 10) (.k (.im (.sc (.int .i64 0))))),
 o 12 (.mv (.t 11)),
 ⟨(some 13), .mv (.t 1), (some (12, false))⟩,
 ⟨(some 14), .bin .lss 3 false true (.t 13) (.k (.im (.sc (.int .i64 (-65536))))), (some (12, false))⟩,
 o 15 (.pick (.t 12) (.k (.im (.sc (.bool true)))) (.t 14)),
 o 16 (.mv (.t 15)),
 ⟨(some 17), .mv (.t 1), (some (16, false))⟩,
 ⟨(some 18), .bin .gtr 3 false true (.t 17) (.k (.im (.sc (.int .i64 65536)))), (some (16, false))⟩,
 o 19 (.pick (.t 16) (.k (.im (.sc (.bool true)))) (.t 18))])
 (.cond (.t 19)
 (.seq (.region [o 20 (.build [(.im (.sc (.int .i64 0))), (.im (.sc (.int .i64 0))), (.im (.sc (.string ⟨#[]⟩))), (.im (.sl [] .nil)), (.im (.sl [] .nil))] []),
 e (.st 5 (.b 6) (.t 20)),
 o 7 (.mv (.k (.im (.sc (.int .i64 2)))))])
 .ret)
 .skip))
 (.seq (.region [o 21 (.build [(.im (.sc (.int .i64 0))), (.im (.sc (.int .i64 0)))] []),
 o 22 (.hbox (.t 21)),
 o 8 (.mv (.t 22))])
 (.seq (.region [o 23 (.mv (.t 8)),
 o 24 (.ld 5 true (.b 3)),
 o 25 (.mv (.t 1)),
 o 26 (.mv (.t 2)),
 o 27 (.sbuiltin .min [3, 3] 3 [(.t 26), (.k (.im (.sc (.int .i64 65536))))]),
 o 28 (.call 106 [(.t 23), (.t 24), (.t 25), (.t 27), (.k (.im (.sc (.int .i64 0))))]),
 o 9 (.lalloc [(.im (.sc (.int .i64 0))), (.im (.sc (.int .i64 0))), (.im (.sc (.string ⟨#[]⟩))), (.im (.sl [] .nil)), (.im (.sl [] .nil))]),
 e (.st 5 (.b 9) (.t 28))])
 (.seq (.seq (.region [o 29 (.mv (.t 8)),
 o 30 (.nilc (.t 29)),
 o 31 (.off 0 (.t 30)),
 o 32 (.ld 1 false (.t 31)),
 o 33 (.bin .neq 3 false true (.t 32) (.k (.im (.sc (.int .i64 0)))))])
 (.cond (.t 33)
 (.seq (.draw [o 34 (.build [(.im (.sc (.int .i64 0))), (.im (.sc (.int .i64 0))), (.im (.sc (.string ⟨#[]⟩))), (.im (.sl [] .nil)), (.im (.sl [] .nil))] []),
 o 35 (.mv (.t 8)),
 o 36 (.nilc (.t 35)),
 o 37 (.off 0 (.t 36)),
 o 38 (.ld 1 false (.t 37)),
 e (.st 5 (.b 6) (.t 34)),
 o 7 (.mv (.t 38))] [0, 1, 1, 1, 1, 30, 0])
 .ret)
 .skip))
 (.seq (.region [o 39 (.ld 5 true (.b 9)),
 e (.st 5 (.b 6) (.t 39)),
 o 7 (.mv (.k (.im (.sc (.int .i64 0)))))])
 .ret)))))) }
def b61 : List Nat := [3, 6, 9]

def f62 : IFunc :=
 { np := 1, res := [], body :=
 (.seq (.region [o 5 (.mv (.t 1)),
 o 6 (.isnil .ifc true (.t 5))])
 (.cond (.t 6)
 (.seq (.region [o 8 (.mv (.t 1)),
 o 9 (.tass 126 [(.im (.sc (.int .i64 0)))] true true (.t 8)),
 o 7 (.mv (.t 9)),
 o 10 (.extract (.t 7) 0),
 o 11 (.extract (.t 7) 1),
 o 2 (.lalloc [(.im (.sc (.int .i64 0)))]),
 e (.st 1 (.b 2) (.t 10)),
 o 3 (.mv (.t 11))])
 (.seq (.seq (.region [o 12 (.mv (.t 3)),
 o 13 (.un .not (.t 12))])
 (.cond (.t 13)
 (.region [o 14 (.mv (.t 1)),
 e (.pan (.t 14))])
 .skip))
 (.region [o 15 (.off 0 (.b 2)),
 o 16 (.ld 1 false (.t 15)),
 e (.st 1 (.t 0) (.t 16))])))
 .skip)), rcv := some (4, [o 1 (.mv (.t 4))]) }
def b62 : List Nat := [2]

def f63 : IFunc :=
 { np := 2, res := [.cell 4 5 true], body :=
 (.seq (.region [o 3 (.lbox (.t 1)),
 o 4 (.lalloc [(.im (.sc (.int .i64 0))), (.im (.sc (.int .i64 0))), (.im (.sc (.string ⟨#[]⟩))), (.im (.sl [] .nil)), (.im (.sl [] .nil))])])
 (.seq (.draw [o 5 (.call 76 [(.k (.im (.sc (.int .i64 6))))]),
 o 6 (.mv (.t 0)),
 o 7 (.ld 5 true (.b 3)),
 o 8 (.calld (.t 5) [(.t 6), (.t 7)]),
 e (.st 5 (.b 4) (.t 8))] [0, 1, 3, 0, 0])
 .ret)) }
def b63 : List Nat := [3, 4]

def f64 : IFunc :=
 { np := 1, res := [.tmp 2], body :=
 (.seq (.region [o 1 (.lbox (.t 0)),
 o 2 (.mv (.k (.im (.sc (.int .i64 0)))))])
 (.seq (.region [o 3 (.halloc [(.im (.sc (.int .i64 0)))]),
 e (.st 1 (.t 3) (.k (.im (.sc (.int .i64 0)))))])
 (.seq (.seq (.region [o 4 (.ld 5 true (.b 1)),
 o 5 (.call 52 [(.t 4)])])
 (.block 0 (.rangeFunc (.t 5) [6, 7] [3]
 .skip
 (.block 1 (.region [o 8 (.ld 1 false (.t 3)),
 o 9 (.bin .add 3 false true (.t 8) (.k (.im (.sc (.int .i64 1))))),
 e (.st 1 (.t 3) (.t 9))])))))
 (.seq (.region [o 10 (.ld 1 false (.t 3)),
 o 2 (.mv (.t 10))])
 .ret)))) }
def b64 : List Nat := [1]

def f65 : IFunc :=
 { np := 2, res := [.cell 4 5 true], body :=
 (.seq (.region [o 2 (.lbox (.t 0)),
 o 4 (.lalloc [(.im (.sc (.int .i64 0))), (.im (.sc (.int .i64 0))), (.im (.sc (.string ⟨#[]⟩))), (.im (.sl [] .nil)), (.im (.sl [] .nil))])])
 (.seq (.seq (.region [o 7 (.mv (.t 1)),
 o 8 (.len .sl (.t 7)),
 o 9 (.mv (.k (.im (.sc (.int .i64 0)))))])
 (.block 0 (.loop [7, 8, 9] [2, 4] (.seq (.region [o 10 (.bin .lss 3 false false (.t 9) (.t 8))])
 (.seq (.cond (.t 10)
 .skip
 (.exit 0))
 (.seq (.block 1 (.seq (.region [o 11 (.idxA 5 none (.t 7) (.t 9)),
 o 12 (.ld 5 true (.t 11)),
 o 6 (.lalloc [(.im (.sc (.int .i64 0))), (.im (.sc (.int .i64 0))), (.im (.sc (.string ⟨#[]⟩))), (.im (.sl [] .nil)), (.im (.sl [] .nil))]),
 e (.st 5 (.b 6) (.t 12))])
 (.region [o 13 (.ld 5 true (.b 2)),
 o 14 (.ld 5 true (.b 6)),
 o 15 (.mkS 5 2 [(.im (.sc (.int .i64 0))), (.im (.sc (.int .i64 0))), (.im (.sc (.string ⟨#[]⟩))), (.im (.sl [] .nil)), (.im (.sl [] .nil))] [(0, (.t 13)), (1, (.t 14))]),
 o 16 (.build [(.im (.sc (.int .i64 0))), (.im (.sc (.int .i64 0))), (.im (.sc (.string ⟨#[]⟩))), (.im (.sl [] .nil)), (.im (.sl [] .nil))] [(0, 1, (.k (.im (.sc (.int .i64 4))))), (4, 1, (.t 15))]),
 e (.st 5 (.b 2) (.t 16))])))
 (.region [o 17 (.bin .add 3 false true (.t 9) (.k (.im (.sc (.int .i64 1))))),
 o 9 (.mv (.t 17))])))))))
 (.seq (.region [o 18 (.ld 5 true (.b 2)),
 e (.st 5 (.b 4) (.t 18))])
 .ret))) }
def b65 : List Nat := [2, 4, 6]

def f66 : IFunc :=
 { np := 2, res := [.tmp 4], body :=
 (.seq (.region [o 4 (.mv (.k (.im (.sl [] .nil))))])
 (.seq (.seq (.region [o 7 (.mv (.t 0)),
 o 8 (.bin .lss 3 false true (.t 7) (.k (.im (.sc (.int .i64 1))))),
 o 9 (.mv (.t 8)),
 ⟨(some 10), .mv (.t 0), (some (9, false))⟩,
 ⟨(some 11), .bin .gtr 3 false true (.t 10) (.k (.im (.sc (.int .i64 4096)))), (some (9, false))⟩,
 o 12 (.pick (.t 9) (.k (.im (.sc (.bool true)))) (.t 11)),
 o 13 (.mv (.t 12)),
 ⟨(some 14), .mv (.t 1), (some (13, false))⟩,
 ⟨(some 15), .bin .lss 3 false true (.t 14) (.k (.im (.sc (.int .i64 0)))), (some (13, false))⟩,
 o 16 (.pick (.t 13) (.k (.im (.sc (.bool true)))) (.t 15))])
 (.cond (.t 16)
 (.seq (.region [o 4 (.mv (.k (.im (.sl [] .nil))))])
 .ret)
 .skip))
 (.seq (.region [o 17 (.mv (.t 0)),
 o 18 (.mkslice 5 [(.im (.sc (.int .i64 0))), (.im (.sc (.int .i64 0))), (.im (.sc (.string ⟨#[]⟩))), (.im (.sl [] .nil)), (.im (.sl [] .nil))] (.t 17) (.t 17)),
 o 5 (.mv (.t 18))])
 (.seq (.seq (.region [o 19 (.mv (.t 5)),
 o 20 (.len .sl (.t 19)),
 o 21 (.mv (.k (.im (.sc (.int .i64 0)))))])
 (.block 0 (.loop [0, 1, 4, 5, 20, 21] [] (.seq (.region [o 22 (.bin .lss 3 false false (.t 21) (.t 20))])
 (.seq (.cond (.t 22)
 .skip
 (.exit 0))
 (.seq (.block 1 (.seq (.region [o 23 (.mv (.t 21)),
 o 6 (.mv (.t 23))])
 (.region [o 24 (.mv (.t 5)),
 o 25 (.mv (.t 6)),
 o 26 (.mv (.t 1)),
 o 27 (.mv (.t 0)),
 o 28 (.bin .add 3 false false (.t 26) (.t 27)),
 o 29 (.bin .sub 3 false true (.t 28) (.k (.im (.sc (.int .i64 1))))),
 o 30 (.mv (.t 6)),
 o 31 (.bin .sub 3 false false (.t 29) (.t 30)),
 o 32 (.build [(.im (.sc (.int .i64 0))), (.im (.sc (.int .i64 0))), (.im (.sc (.string ⟨#[]⟩))), (.im (.sl [] .nil)), (.im (.sl [] .nil))] [(0, 1, (.k (.im (.sc (.int .i64 0))))), (1, 1, (.t 31))]),
 o 33 (.idxA 5 none (.t 24) (.t 25)),
 e (.st 5 (.t 33) (.t 32))])))
 (.region [o 34 (.bin .add 3 false true (.t 21) (.k (.im (.sc (.int .i64 1))))),
 o 21 (.mv (.t 34))])))))))
 (.seq (.region [o 35 (.mv (.t 5)),
 o 4 (.mv (.t 35))])
 .ret))))) }
def b66 : List Nat := []

def f67 : IFunc :=
 { np := 1, res := [.tmp 2], body :=
 (.seq (.region [o 2 (.mv (.k (.im (.sl [] .nil))))])
 (.seq (.seq (.region [o 3 (.mv (.t 0)),
 o 4 (.isnil .sl false (.t 3))])
 (.cond (.t 4)
 (.seq (.region [o 2 (.mv (.k (.im (.sl [] .nil))))])
 .ret)
 .skip))
 (.seq (.region [o 5 (.mkS 12 0 [(.im (.sc (.int .i64 0))), (.im (.sc (.int .i64 0))), (.im (.sc (.string ⟨#[]⟩))), (.im (.sl [] .nil)), (.im (.sl [] .nil)), (.im (.sc (.bool false))), (.im (.sc (.int .i64 0))), (.im (.sc (.int .i64 0))), (.im (.sc (.string ⟨#[]⟩))), (.im (.sl [] .nil)), (.im (.sl [] .nil)), (.im (.sc (.bool false)))] []),
 o 6 (.mv (.t 0)),
 o 7 (.append 12 true (.t 5) (.t 6)),
 o 2 (.mv (.t 7))])
 .ret))) }
def b67 : List Nat := []

def f68 : IFunc :=
 { np := 4, res := [.cell 8 5 true, .cell 9 1 false], body :=
 (.seq (.region [o 13 (.mv (.t 1)),
 o 14 (.call 109 [(.t 13)]),
 o 10 (.mv (.t 14))])
 (.seq (.region [o 15 (.mv (.t 0)),
 o 16 (.mv (.t 1)),
 o 17 (.mv (.t 10)),
 o 18 (.build [(.im (.sl [] .nil)), (.im (.sl [] .nil)), (.im (.sc .nilFunc)), (.im (.sc (.int .i64 0)))] [(0, 1, (.t 15)), (1, 1, (.t 16)), (2, 1, (.t 17))]),
 o 19 (.hbox (.t 18)),
 o 11 (.mv (.t 19))])
 (.seq (.region [o 20 (.mv (.t 11)),
 o 21 (.mv (.t 2)),
 o 22 (.mv (.t 10)),
 o 23 (.ld 5 true (.b 7)),
 o 24 (.calld (.t 22) [(.t 23)]),
 o 25 (.call 110 [(.t 20), (.t 21), (.t 24)]),
 e (.st 5 (.t 8) (.t 25)),
 e (.st 1 (.t 9) (.k (.im (.sc (.int .i64 0)))))])
 .ret))), pre := some ([(.region [o 7 (.lbox (.t 3)),
 o 8 (.halloc [(.im (.sc (.int .i64 0))), (.im (.sc (.int .i64 0))), (.im (.sc (.string ⟨#[]⟩))), (.im (.sl [] .nil)), (.im (.sl [] .nil))]),
 o 9 (.halloc [(.im (.sc (.int .i64 0)))])])], [o 12 (.mkfn (.func 107) [] [(.t 8), (.t 9)] [])], (.t 12)) }
def b68 : List Nat := [7]

def f69 : IFunc :=
 { np := 2, res := [.cell 4 4 true], body :=
 (.seq (.region [o 2 (.lbox (.t 0)),
 o 4 (.lalloc [(.im (.sl [] .nil)), (.im (.sl [] .nil)), (.im (.sl [] .nil)), (.im (.sc (.int .i64 0)))])])
 (.seq (.region [o 5 (.mv (.t 1)),
 o 6 (.bin .eql 39 false true (.t 5) (.k (.im (.sc (.int .i64 0))))),
 o 7 (.mv (.t 1)),
 o 8 (.call 28 [(.t 6), (.t 7)])])
 (.seq (.region [o 9 (.ld 4 true (.b 2)),
 e (.st 4 (.b 4) (.t 9))])
 .ret))) }
def b69 : List Nat := [2, 4]

def f70 : IFunc :=
 { np := 3, res := [.cell 6 4 true, .cell 7 1 false], body :=
 (.seq (.region [o 10 (.mv (.t 0)),
 o 11 (.ld 4 true (.b 4)),
 o 12 (.ld 12 true (.b 5)),
 o 13 (.mkS 12 1 [(.im (.sl [] .nil)), (.im (.sc (.int .i64 0))), (.im (.sc (.int .i64 0))), (.im (.sc (.string ⟨#[]⟩))), (.im (.sl [] .nil)), (.im (.sl [] .nil)), (.im (.sc (.int .i64 0))), (.im (.sc (.int .i64 0))), (.im (.sc (.string ⟨#[]⟩))), (.im (.sl [] .nil)), (.im (.sl [] .nil)), (.im (.sc (.bool false)))] [(0, (.t 12))]),
 o 14 (.build [(.im (.sl [] .nil)), (.im (.sl [] .nil)), (.im (.sl [] .nil)), (.im (.sl [] .nil)), (.im (.sc (.int .i64 0))), (.im (.sl [] .nil))] [(0, 1, (.t 10)), (1, 4, (.t 11)), (5, 1, (.t 13))]),
 o 15 (.hbox (.t 14)),
 o 8 (.mv (.t 15))])
 (.seq (.draw [o 16 (.mv (.t 8)),
 o 17 (.mv (.t 8)),
 o 18 (.mv (.t 8)),
 o 19 (.off 0 (.b 4)),
 o 20 (.ld 1 false (.t 19)),
 o 21 (.call 67 [(.t 20)]),
 o 22 (.off 1 (.b 4)),
 o 23 (.ld 1 false (.t 22)),
 o 24 (.call 113 [(.t 23)]),
 o 25 (.off 2 (.b 4)),
 o 26 (.ld 1 false (.t 25)),
 o 27 (.call 114 [(.t 26)]),
 o 28 (.nilc (.t 16)),
 o 29 (.off 1 (.t 28)),
 o 30 (.off 0 (.t 29)),
 e (.st 1 (.t 30) (.t 21)),
 o 31 (.nilc (.t 17)),
 o 32 (.off 1 (.t 31)),
 o 33 (.off 1 (.t 32)),
 e (.st 1 (.t 33) (.t 24)),
 o 34 (.nilc (.t 18)),
 o 35 (.off 1 (.t 34)),
 o 36 (.off 2 (.t 35)),
 e (.st 1 (.t 36) (.t 27))] [0, 1, 3, 7, 7, 7, 63, 63, 7, 511, 511, 7, 6, 6, 6, 6, 4, 4, 4, 4, 0, 0, 0, 0])
 (.seq (.region [o 37 (.mv (.t 8)),
 o 38 (.call 115 [(.t 37)])])
 (.seq (.region [o 39 (.mv (.t 8)),
 o 40 (.nilc (.t 39)),
 o 41 (.off 1 (.t 40)),
 o 42 (.ld 4 true (.t 41)),
 e (.st 4 (.t 6) (.t 42)),
 e (.st 1 (.t 7) (.k (.im (.sc (.int .i64 0)))))])
 .ret)))), pre := some ([(.region [o 4 (.lbox (.t 1)),
 o 5 (.lbox (.t 2)),
 o 6 (.halloc [(.im (.sl [] .nil)), (.im (.sl [] .nil)), (.im (.sl [] .nil)), (.im (.sc (.int .i64 0)))]),
 o 7 (.halloc [(.im (.sc (.int .i64 0)))])])], [o 9 (.mkfn (.func 111) [] [(.t 6), (.t 7)] [])], (.t 9)) }
def b70 : List Nat := [4, 5]

def f71 : IFunc :=
 { np := 2, res := [.cell 4 4 true, .cell 5 1 false], body :=
 (.seq (.region [o 3 (.hbox (.t 1)),
 o 4 (.halloc [(.im (.sl [] .nil)), (.im (.sl [] .nil)), (.im (.sl [] .nil)), (.im (.sc (.int .i64 0)))]),
 o 5 (.halloc [(.im (.sc (.int .i64 0)))])])
 (.seq (.region [o 6 (.halloc [(.im (.sc (.int .i64 0)))]),
 e (.st 1 (.t 6) (.k (.im (.sc (.int .i64 0)))))])
 (.seq (.seq (.region [o 8 (.mv (.t 0)),
 o 9 (.ld 4 true (.t 3)),
 o 10 (.call 116 [(.t 8), (.t 9)])])
 (.block 0 (.rangeFunc (.t 10) [11] [3, 4, 5, 6]
 (.region [o 7 (.lalloc [(.im (.sl [] .nil)), (.im (.sl [] .nil)), (.im (.sl [] .nil)), (.im (.sc (.int .i64 0))), (.im (.sc (.int .i64 0)))]),
 e (.st 5 (.b 7) (.t 11))])
 (.block 1 (.seq (.seq (.region [o 12 (.off 4 (.b 7)),
 o 13 (.ld 1 false (.t 12)),
 o 14 (.bin .neq 39 false true (.t 13) (.k (.im (.sc (.int .i64 0)))))])
 (.cond (.t 14)
 (.seq (.draw [o 15 (.build [(.im (.sl [] .nil)), (.im (.sl [] .nil)), (.im (.sl [] .nil)), (.im (.sc (.int .i64 0)))] []),
 o 16 (.off 4 (.b 7)),
 o 17 (.ld 1 false (.t 16)),
 e (.st 4 (.t 4) (.t 15)),
 e (.st 1 (.t 5) (.t 17))] [0, 1, 1, 6, 0])
 .ret)
 .skip))
 (.seq (.seq (.draw [o 18 (.off 0 (.b 7)),
 o 19 (.ld 4 true (.t 18)),
 o 20 (.call 117 [(.t 19)]),
 o 21 (.ld 4 true (.t 3)),
 o 22 (.call 117 [(.t 21)]),
 o 23 (.bin .eql 186 false false (.t 20) (.t 22)),
 o 24 (.mv (.t 23)),
 ⟨(some 25), .off 0 (.b 7), (some (24, true))⟩,
 ⟨(some 26), .off 1 (.t 25), (some (24, true))⟩,
 ⟨(some 27), .ld 1 false (.t 26), (some (24, true))⟩,
 ⟨(some 28), .off 1 (.t 3), (some (24, true))⟩,
 ⟨(some 29), .ld 1 false (.t 28), (some (24, true))⟩,
 ⟨(some 30), .call 118 [(.t 27), (.t 29), (.k (.im (.fn (.func 119) [] [])))], (some (24, true))⟩,
 o 31 (.pick (.t 24) (.t 30) (.k (.im (.sc (.bool false)))))] [0, 0, 0, 7, 0, 0, 0, 0, 0, 0, 896, 896, 0, 0])
 (.cond (.t 31)
 (.seq (.region [o 32 (.off 0 (.b 7)),
 o 33 (.ld 4 true (.t 32)),
 e (.st 4 (.t 4) (.t 33)),
 e (.st 1 (.t 5) (.k (.im (.sc (.int .i64 0)))))])
 .ret)
 .skip))
 (.seq (.seq (.region [o 34 (.ld 1 false (.t 6)),
 o 35 (.bin .add 3 false true (.t 34) (.k (.im (.sc (.int .i64 1))))),
 e (.st 1 (.t 6) (.t 35))])
 (.seq (.region [o 36 (.ld 1 false (.t 6)),
 o 37 (.bin .geq 3 false true (.t 36) (.k (.im (.sc (.int .i64 200)))))])
 (.cond (.t 37)
 (.exit 0)
 .skip)))
 (.region [o 38 (.off 0 (.b 7)),
 o 39 (.ld 4 true (.t 38)),
 e (.st 4 (.t 3) (.t 39))]))))))))
 (.seq (.region [o 40 (.build [(.im (.sl [] .nil)), (.im (.sl [] .nil)), (.im (.sl [] .nil)), (.im (.sc (.int .i64 0)))] []),
 e (.st 4 (.t 4) (.t 40)),
 e (.st 1 (.t 5) (.k (.im (.sc (.int .i64 11)))))])
 .ret)))) }
def b71 : List Nat := [7]

def f72 : IFunc :=
 { np := 1, res := [.tmp 2], body :=
 (.seq (.region [o 1 (.lbox (.t 0)),
 o 2 (.mv (.k (.im (.sl [] .nil))))])
 (.seq (.region [o 8 (.mkmap),
 o 3 (.halloc [(.im (.sc (.map none)))]),
 e (.st 1 (.t 3) (.t 8))])
 (.seq (.region [o 4 (.halloc [(.im (.sl [] .nil))])])
 (.seq (.seq (.region [o 9 (.ld 5 true (.b 1)),
 o 10 (.call 52 [(.t 9)])])
 (.block 0 (.rangeFunc (.t 10) [11, 12] [3, 4]
 (.seq (.region [o 5 (.mv (.t 11))])
 (.region [o 6 (.lalloc [(.im (.sc (.int .i64 0))), (.im (.sc (.int .i64 0))), (.im (.sc (.string ⟨#[]⟩))), (.im (.sl [] .nil)), (.im (.sl [] .nil))]),
 e (.st 5 (.b 6) (.t 12))]))
 (.block 1 (.seq (.region [o 13 (.off 1 (.b 6)),
 o 14 (.ld 1 false (.t 13)),
 o 15 (.mv (.t 5)),
 o 16 (.bin .sub 3 false false (.t 14) (.t 15)),
 o 7 (.mv (.t 16))])
 (.seq (.region [o 17 (.off 0 (.b 6)),
 o 18 (.ld 1 false (.t 17)),
 o 19 (.bin .eql 3 false true (.t 18) (.k (.im (.sc (.int .i64 0))))),
 o 20 (.mv (.t 19)),
 ⟨(some 21), .off 1 (.b 6), (some (20, true))⟩,
 ⟨(some 22), .ld 1 false (.t 21), (some (20, true))⟩,
 ⟨(some 23), .mv (.t 5), (some (20, true))⟩,
 ⟨(some 24), .bin .geq 3 false false (.t 22) (.t 23), (some (20, true))⟩,
 o 25 (.pick (.t 20) (.t 24) (.k (.im (.sc (.bool false))))),
 o 26 (.mv (.t 25)),
 ⟨(some 27), .ld 1 false (.t 3), (some (26, true))⟩,
 ⟨(some 28), .mv (.t 7), (some (26, true))⟩,
 ⟨(some 29), .lookup .int [(.im (.sc (.bool false)))] false (.t 27) (.t 28) false, (some (26, true))⟩,
 ⟨(some 30), .un .not (.t 29), (some (26, true))⟩,
 o 31 (.pick (.t 26) (.t 30) (.k (.im (.sc (.bool false)))))])
 (.cond (.t 31)
 (.seq (.region [o 32 (.ld 1 false (.t 3)),
 o 33 (.mv (.t 7)),
 e (.mapset .int (.t 32) (.t 33) (.k (.im (.sc (.bool true)))))])
 (.region [o 34 (.ld 1 false (.t 4)),
 o 35 (.mv (.t 7)),
 o 36 (.mkS 1 1 [(.im (.sc (.int .i64 0)))] [(0, (.t 35))]),
 o 37 (.append 1 false (.t 34) (.t 36)),
 e (.st 1 (.t 4) (.t 37))]))
 .skip)))))))
 (.seq (.region [o 38 (.ld 1 false (.t 4)),
 o 39 (.call 120 [(.t 38)])])
 (.seq (.region [o 40 (.ld 1 false (.t 4)),
 o 2 (.mv (.t 40))])
 .ret)))))) }
def b72 : List Nat := [1, 6]

def f73 : IFunc :=
 { np := 2, res := [.cell 4 5 true, .cell 5 1 false], body :=
 (.seq (.draw [o 7 (.mv (.t 0)),
 o 8 (.call 109 [(.t 7)]),
 o 9 (.ld 5 true (.b 3)),
 o 10 (.calld (.t 8) [(.t 9)]),
 e (.st 5 (.t 4) (.t 10)),
 e (.st 1 (.t 5) (.k (.im (.sc (.int .i64 0)))))] [0, 0, 3, 0, 0, 0])
 .ret), pre := some ([(.region [o 3 (.lbox (.t 1)),
 o 4 (.halloc [(.im (.sc (.int .i64 0))), (.im (.sc (.int .i64 0))), (.im (.sc (.string ⟨#[]⟩))), (.im (.sl [] .nil)), (.im (.sl [] .nil))]),
 o 5 (.halloc [(.im (.sc (.int .i64 0)))])])], [o 6 (.mkfn (.func 121) [] [(.t 4), (.t 5)] [])], (.t 6)) }
def b73 : List Nat := [3]

def f74 : IFunc :=
 { np := 2, res := [.tmp 4], body :=
 (.seq (.region [o 4 (.mv (.k (.im (.sc (.bool false)))))])
 (.seq (.region [o 5 (.mv (.t 0)),
 o 6 (.mv (.t 1)),
 o 7 (.call 122 [(.t 5), (.t 6)]),
 o 8 (.bin .geq 3 false true (.t 7) (.k (.im (.sc (.int .i64 0))))),
 o 4 (.mv (.t 8))])
 .ret)) }
def b74 : List Nat := []

def f75 : IFunc :=
 { np := 1, res := [.tmp 2], body :=
 (.seq (.region [o 1 (.lbox (.t 0)),
 o 2 (.mv (.k (.im (.sl [] .nil))))])
 (.seq (.region [o 7 (.mkmap),
 o 3 (.halloc [(.im (.sc (.map none)))]),
 e (.st 1 (.t 3) (.t 7))])
 (.seq (.region [o 4 (.halloc [(.im (.sl [] .nil))])])
 (.seq (.seq (.region [o 8 (.ld 5 true (.b 1)),
 o 9 (.call 52 [(.t 8)])])
 (.block 0 (.rangeFunc (.t 9) [10, 11] [3, 4]
 (.region [o 6 (.lalloc [(.im (.sc (.int .i64 0))), (.im (.sc (.int .i64 0))), (.im (.sc (.string ⟨#[]⟩))), (.im (.sl [] .nil)), (.im (.sl [] .nil))]),
 e (.st 5 (.b 6) (.t 11))])
 (.block 1 (.seq (.region [o 12 (.off 0 (.b 6)),
 o 13 (.ld 1 false (.t 12)),
 o 14 (.bin .eql 3 false true (.t 13) (.k (.im (.sc (.int .i64 12))))),
 o 15 (.mv (.t 14)),
 ⟨(some 16), .ld 1 false (.t 3), (some (15, true))⟩,
 ⟨(some 17), .off 1 (.b 6), (some (15, true))⟩,
 ⟨(some 18), .ld 1 false (.t 17), (some (15, true))⟩,
 ⟨(some 19), .lookup .int [(.im (.sc (.bool false)))] false (.t 16) (.t 18) false, (some (15, true))⟩,
 ⟨(some 20), .un .not (.t 19), (some (15, true))⟩,
 o 21 (.pick (.t 15) (.t 20) (.k (.im (.sc (.bool false)))))])
 (.cond (.t 21)
 (.seq (.region [o 22 (.ld 1 false (.t 3)),
 o 23 (.off 1 (.b 6)),
 o 24 (.ld 1 false (.t 23)),
 e (.mapset .int (.t 22) (.t 24) (.k (.im (.sc (.bool true)))))])
 (.region [o 25 (.ld 1 false (.t 4)),
 o 26 (.off 1 (.b 6)),
 o 27 (.ld 1 false (.t 26)),
 o 28 (.mkS 1 1 [(.im (.sc (.int .i64 0)))] [(0, (.t 27))]),
 o 29 (.append 1 false (.t 25) (.t 28)),
 e (.st 1 (.t 4) (.t 29))]))
 .skip))))))
 (.seq (.region [o 30 (.ld 1 false (.t 4)),
 o 2 (.mv (.t 30))])
 .ret))))) }
def b75 : List Nat := [1, 6]

def f76 : IFunc :=
 { np := 1, res := [.tmp 2], body :=
 (.seq (.region [o 1 (.hbox (.t 0)),
 o 2 (.mv (.k (.im (.sc .nilFunc))))])
 (.seq (.region [o 3 (.mkfn (.func 123) [] [(.t 1)] [true]),
 o 2 (.mv (.t 3))])
 .ret)) }
def b76 : List Nat := []

def f77 : IFunc :=
 { np := 2, res := [.tmp 4], body :=
 (.seq (.region [o 4 (.mv (.k (.im (.sc (.int .i64 0)))))])
 (.seq (.seq (.region [o 6 (.mv (.t 0)),
 o 7 (.len .sl (.t 6)),
 o 8 (.mv (.k (.im (.sc (.int .i64 0)))))])
 (.block 0 (.loop [0, 1, 4, 7, 8] [] (.seq (.region [o 9 (.bin .lss 3 false false (.t 8) (.t 7))])
 (.seq (.cond (.t 9)
 .skip
 (.exit 0))
 (.seq (.block 1 (.seq (.region [o 10 (.mv (.t 8)),
 o 5 (.mv (.t 10))])
 (.seq (.region [o 11 (.mv (.t 1)),
 o 12 (.mv (.t 0)),
 o 13 (.mv (.t 5)),
 o 14 (.idxA 8 none (.t 12) (.t 13)),
 o 15 (.ld 8 true (.t 14)),
 o 16 (.calld (.t 11) [(.t 15)])])
 (.cond (.t 16)
 (.seq (.region [o 17 (.mv (.t 5)),
 o 4 (.mv (.t 17))])
 .ret)
 .skip))))
 (.region [o 18 (.bin .add 3 false true (.t 8) (.k (.im (.sc (.int .i64 1))))),
 o 8 (.mv (.t 18))])))))))
 (.seq (.region [o 4 (.mv (.k (.im (.sc (.int .i64 (-1))))))])
 .ret))) }
def b77 : List Nat := []

def f78 : IFunc :=
 { np := 2, res := [.tmp 4], body :=
 (.seq (.region [o 4 (.mv (.k (.im (.sc (.bool false)))))])
 (.seq (.region [o 5 (.mv (.t 0)),
 o 6 (.mv (.t 1)),
 o 7 (.call 125 [(.t 5), (.t 6)]),
 o 8 (.bin .geq 3 false true (.t 7) (.k (.im (.sc (.int .i64 0))))),
 o 4 (.mv (.t 8))])
 .ret)) }
def b78 : List Nat := []

def f79 : IFunc :=
 { np := 1, res := [.tmp 2], body :=
 (.seq (.region [o 1 (.lbox (.t 0)),
 o 2 (.mv (.k (.im (.sc (.bool false)))))])
 (.seq (.region [o 3 (.off 5 (.b 1)),
 o 4 (.ld 1 false (.t 3)),
 o 5 (.un .not (.t 4)),
 o 2 (.mv (.t 5))])
 .ret)) }
def b79 : List Nat := [1]

def f80 : IFunc :=
 { np := 2, res := [.tmp 4], body :=
 (.seq (.region [o 2 (.lbox (.t 0)),
 o 3 (.hbox (.t 1)),
 o 4 (.mv (.k (.im (.sc (.bool false)))))])
 (.seq (.region [o 6 (.mkfn (.func 126) [] [(.t 3)] []),
 o 5 (.mv (.t 6))])
 (.seq (.region [o 7 (.off 3 (.b 2)),
 o 8 (.ld 1 false (.t 7)),
 o 9 (.mv (.t 5)),
 o 10 (.call 129 [(.t 8), (.t 9)]),
 o 11 (.mv (.t 10)),
 ⟨(some 12), .off 4 (.b 2), (some (11, false))⟩,
 ⟨(some 13), .ld 1 false (.t 12), (some (11, false))⟩,
 ⟨(some 14), .mkfn (.func 131) [] [(.t 3)] [true], (some (11, false))⟩,
 ⟨(some 15), .call 130 [(.t 13), (.t 14)], (some (11, false))⟩,
 o 16 (.pick (.t 11) (.k (.im (.sc (.bool true)))) (.t 15)),
 o 4 (.mv (.t 16))])
 .ret))) }
def b80 : List Nat := [2]

def f81 : IFunc :=
 { np := 2, res := [.cell 4 5 true, .tmp 5], body :=
 (.seq (.region [o 2 (.lbox (.t 0)),
 o 3 (.hbox (.t 1)),
 o 4 (.lalloc [(.im (.sc (.int .i64 0))), (.im (.sc (.int .i64 0))), (.im (.sc (.string ⟨#[]⟩))), (.im (.sl [] .nil)), (.im (.sl [] .nil))]),
 o 5 (.mv (.k (.im (.sc (.int .i64 0)))))])
 (.seq (.region [o 6 (.ld 5 true (.b 2)),
 o 7 (.mkfn (.func 133) [] [(.t 3)] [true]),
 o 8 (.call 132 [(.t 6), (.t 7)]),
 o 9 (.extract (.t 8) 0),
 o 10 (.extract (.t 8) 1),
 e (.st 5 (.b 4) (.t 9)),
 o 5 (.mv (.t 10))])
 .ret)) }
def b81 : List Nat := [2, 4]

def f82 : IFunc :=
 { np := 1, res := [], body :=
 (.seq (.region [o 3 (.mv (.t 1)),
 o 4 (.isnil .ifc true (.t 3))])
 (.cond (.t 4)
 (.region [o 5 (.mv (.t 1)),
 o 6 (.call 83 [(.t 5)]),
 e (.st 1 (.t 0) (.t 6))])
 .skip)), rcv := some (2, [o 1 (.mv (.t 2))]) }
def b82 : List Nat := []

def f84 : IFunc :=
 { np := 4, res := [], body :=
 (.seq (.region [o 4 (.lbox (.t 0)),
 o 6 (.lbox (.t 2)),
 o 7 (.lbox (.t 3))])
 (.seq (.region [o 11 (.ld 1 true (.b 4)),
 o 12 (.mv (.t 1)),
 o 13 (.ld 5 true (.b 6)),
 o 14 (.call 135 [(.t 11), (.t 12), (.t 13)]),
 o 8 (.lalloc [(.im (.sc (.int .i64 0))), (.im (.sc (.int .i64 0))), (.im (.sc (.string ⟨#[]⟩))), (.im (.sl [] .nil)), (.im (.sl [] .nil))]),
 e (.st 5 (.b 8) (.t 14))])
 (.seq (.seq (.region [o 15 (.ld 5 true (.b 8)),
 o 16 (.ld 5 true (.b 7)),
 o 17 (.call 87 [(.t 15), (.t 16)])])
 (.cond (.t 17)
 .ret
 .skip))
 (.seq (.region [o 19 (.off 0 (.b 4)),
 o 20 (.ld 1 false (.t 19)),
 o 21 (.ld 5 true (.b 8)),
 o 22 (.ld 5 true (.b 7)),
 o 23 (.call 136 [(.t 20), (.t 21), (.t 22)]),
 o 18 (.mv (.t 23)),
 o 24 (.extract (.t 18) 0),
 o 25 (.extract (.t 18) 1),
 o 9 (.mv (.t 24)),
 o 10 (.mv (.t 25))])
 (.seq (.region [o 26 (.mv (.t 10)),
 o 27 (.call 137 [(.t 26)])])
 (.seq (.region [o 28 (.mv (.t 9)),
 o 29 (.un .not (.t 28))])
 (.cond (.t 29)
 (.region [o 30 (.call 137 [(.k (.im (.sc (.int .i64 10))))])])
 .skip))))))) }
def b84 : List Nat := [4, 6, 7, 8]

def f85 : IFunc :=
 { np := 2, res := [.tmp 4], body :=
 (.seq (.region [o 4 (.mv (.k (.im (.sc (.bool false)))))])
 (.seq (.region [o 5 (.mv (.t 0)),
 o 6 (.mv (.t 1)),
 o 7 (.call 77 [(.t 5), (.t 6)]),
 o 8 (.bin .geq 3 false true (.t 7) (.k (.im (.sc (.int .i64 0))))),
 o 4 (.mv (.t 8))])
 .ret)) }
def b85 : List Nat := []

def f87 : IFunc :=
 { np := 2, res := [.tmp 4], body :=
 (.seq (.region [o 2 (.lbox (.t 0)),
 o 3 (.lbox (.t 1)),
 o 4 (.mv (.k (.im (.sc (.bool false)))))])
 (.seq (.region [o 5 (.off 0 (.b 2)),
 o 6 (.ld 1 false (.t 5)),
 o 7 (.off 0 (.b 3)),
 o 8 (.ld 1 false (.t 7)),
 o 9 (.bin .eql 3 false false (.t 6) (.t 8)),
 o 10 (.mv (.t 9)),
 ⟨(some 11), .off 1 (.b 2), (some (10, true))⟩,
 ⟨(some 12), .ld 1 false (.t 11), (some (10, true))⟩,
 ⟨(some 13), .off 1 (.b 3), (some (10, true))⟩,
 ⟨(some 14), .ld 1 false (.t 13), (some (10, true))⟩,
 ⟨(some 15), .bin .eql 3 false false (.t 12) (.t 14), (some (10, true))⟩,
 o 16 (.pick (.t 10) (.t 15) (.k (.im (.sc (.bool false))))),
 o 17 (.mv (.t 16)),
 ⟨(some 18), .off 2 (.b 2), (some (17, true))⟩,
 ⟨(some 19), .ld 1 false (.t 18), (some (17, true))⟩,
 ⟨(some 20), .off 2 (.b 3), (some (17, true))⟩,
 ⟨(some 21), .ld 1 false (.t 20), (some (17, true))⟩,
 ⟨(some 22), .bin .eql 9 false false (.t 19) (.t 21), (some (17, true))⟩,
 o 23 (.pick (.t 17) (.t 22) (.k (.im (.sc (.bool false))))),
 o 24 (.mv (.t 23)),
 ⟨(some 25), .off 3 (.b 2), (some (24, true))⟩,
 ⟨(some 26), .ld 1 false (.t 25), (some (24, true))⟩,
 ⟨(some 27), .off 3 (.b 3), (some (24, true))⟩,
 ⟨(some 28), .ld 1 false (.t 27), (some (24, true))⟩,
 ⟨(some 29), .call 138 [(.t 26), (.t 28), (.k (.im (.fn (.func 139) [] [])))], (some (24, true))⟩,
 o 30 (.pick (.t 24) (.t 29) (.k (.im (.sc (.bool false))))),
 o 31 (.mv (.t 30)),
 ⟨(some 32), .off 4 (.b 2), (some (31, true))⟩,
 ⟨(some 33), .ld 1 false (.t 32), (some (31, true))⟩,
 ⟨(some 34), .off 4 (.b 3), (some (31, true))⟩,
 ⟨(some 35), .ld 1 false (.t 34), (some (31, true))⟩,
 ⟨(some 36), .call 140 [(.t 33), (.t 35), (.k (.im (.fn (.func 87) [] [])))], (some (31, true))⟩,
 o 37 (.pick (.t 31) (.t 36) (.k (.im (.sc (.bool false))))),
 o 4 (.mv (.t 37))])
 .ret)) }
def b87 : List Nat := [2, 3]

def f88 : IFunc :=
 { np := 2, res := [.tmp 4, .tmp 5], body :=
 (.seq (.region [o 4 (.mv (.k (.im (.sc (.int .i64 0))))),
 o 5 (.mv (.k (.im (.sc (.int .i64 0)))))])
 (.seq (.seq (.region [o 8 (.mv (.t 0)),
 o 9 (.bin .lss 3 false true (.t 8) (.k (.im (.sc (.int .i64 0))))),
 o 10 (.mv (.t 9)),
 ⟨(some 11), .mv (.t 0), (some (10, false))⟩,
 ⟨(some 12), .bin .gtr 3 false true (.t 11) (.k (.im (.sc (.int .i64 2000)))), (some (10, false))⟩,
 o 13 (.pick (.t 10) (.k (.im (.sc (.bool true)))) (.t 12))])
 (.cond (.t 13)
 (.seq (.region [o 4 (.mv (.k (.im (.sc (.int .i64 0))))),
 o 5 (.mv (.k (.im (.sc (.int .i64 2)))))])
 .ret)
 .skip))
 (.seq (.seq (.region [o 14 (.mv (.t 1)),
 o 15 (.len .sl (.t 14)),
 o 16 (.mv (.k (.im (.sc (.int .i64 0)))))])
 (.block 0 (.loop [0, 4, 5, 14, 15, 16] [] (.seq (.region [o 17 (.bin .lss 3 false false (.t 16) (.t 15))])
 (.seq (.cond (.t 17)
 .skip
 (.exit 0))
 (.seq (.block 1 (.seq (.region [o 18 (.mv (.t 16)),
 o 19 (.idxA 4 none (.t 14) (.t 16)),
 o 20 (.ld 4 true (.t 19)),
 o 7 (.lalloc [(.im (.sc (.int .i64 0))), (.im (.sl [] .nil)), (.im (.sc (.int .i64 0))), (.im (.sl [] .nil))]),
 o 6 (.mv (.t 18)),
 e (.st 4 (.b 7) (.t 20))])
 (.block 2 (.seq (.region [o 22 (.off 0 (.b 7)),
 o 23 (.ld 2 true (.t 22)),
 o 24 (.call 141 [(.t 23)]),
 o 25 (.un .not (.t 24)),
 o 26 (.mv (.t 25)),
 ⟨(some 27), .off 2 (.b 7), (some (26, false))⟩,
 ⟨(some 28), .ld 2 true (.t 27), (some (26, false))⟩,
 ⟨(some 29), .call 141 [(.t 28)], (some (26, false))⟩,
 ⟨(some 30), .un .not (.t 29), (some (26, false))⟩,
 o 31 (.pick (.t 26) (.k (.im (.sc (.bool true)))) (.t 30)),
 o 21 (.mv (.t 31))])
 (.cond (.t 21)
 (.seq (.region [o 32 (.mv (.t 6)),
 o 4 (.mv (.t 32)),
 o 5 (.mv (.k (.im (.sc (.int .i64 3)))))])
 .ret)
 (.seq (.region [o 34 (.off 0 (.b 7)),
 o 35 (.ld 2 true (.t 34)),
 o 36 (.mv (.t 0)),
 o 37 (.call 142 [(.t 35), (.t 36)]),
 o 38 (.mv (.t 37)),
 ⟨(some 39), .off 2 (.b 7), (some (38, false))⟩,
 ⟨(some 40), .ld 2 true (.t 39), (some (38, false))⟩,
 ⟨(some 41), .mv (.t 0), (some (38, false))⟩,
 ⟨(some 42), .call 142 [(.t 40), (.t 41)], (some (38, false))⟩,
 o 43 (.pick (.t 38) (.k (.im (.sc (.bool true)))) (.t 42)),
 o 33 (.mv (.t 43))])
 (.cond (.t 33)
 (.seq (.region [o 44 (.mv (.t 6)),
 o 4 (.mv (.t 44)),
 o 5 (.mv (.k (.im (.sc (.int .i64 24)))))])
 .ret)
 .skip)))))))
 (.region [o 45 (.bin .add 3 false true (.t 16) (.k (.im (.sc (.int .i64 1))))),
 o 16 (.mv (.t 45))])))))))
 (.seq (.region [o 4 (.mv (.k (.im (.sc (.int .i64 0))))),
 o 5 (.mv (.k (.im (.sc (.int .i64 0)))))])
 .ret)))) }
def b88 : List Nat := [7]

def f90 : IFunc :=
 { np := 2, res := [.tmp 4], body :=
 (.seq (.region [o 2 (.hbox (.t 0)),
 o 3 (.hbox (.t 1)),
 o 4 (.mv (.k (.im (.sc .nilFunc))))])
 (.seq (.region [o 5 (.mkfn (.func 148) [] [(.t 3), (.t 2)] [true, true]),
 o 4 (.mv (.t 5))])
 .ret)) }
def b90 : List Nat := []

def f91 : IFunc :=
 { np := 1, res := [.tmp 2], body :=
 (.seq (.region [o 2 (.mv (.k (.im (.sc (.string ⟨#[]⟩)))))])
 (.seq (.region [o 3 (.mv (.t 0)),
 o 4 (.call 149 [(.t 3)]),
 o 2 (.mv (.t 4))])
 .ret)) }
def b91 : List Nat := []

def f92 : IFunc :=
 { np := 2, res := [.cell 4 5 true], body :=
 (.seq (.region [o 2 (.lbox (.t 0)),
 o 3 (.hbox (.t 1)),
 o 4 (.lalloc [(.im (.sc (.int .i64 0))), (.im (.sc (.int .i64 0))), (.im (.sc (.string ⟨#[]⟩))), (.im (.sl [] .nil)), (.im (.sl [] .nil))])])
 (.seq (.seq (.region [o 11 (.off 0 (.t 3)),
 o 12 (.ld 1 false (.t 11)),
 o 13 (.bin .eql 3 false true (.t 12) (.k (.im (.sc (.int .i64 12)))))])
 (.cond (.t 13)
 (.seq (.region [o 14 (.off 0 (.b 2)),
 o 15 (.off 5 (.t 14)),
 o 16 (.ld 1 false (.t 15)),
 o 17 (.mkfn (.func 150) [] [(.t 3)] []),
 o 18 (.call 77 [(.t 16), (.t 17)]),
 o 5 (.mv (.t 18))])
 (.seq (.region [o 19 (.mv (.t 5)),
 o 20 (.bin .geq 3 false true (.t 19) (.k (.im (.sc (.int .i64 0))))),
 o 21 (.call 28 [(.t 20), (.k (.im (.sc (.int .i64 23))))])])
 (.seq (.region [o 22 (.mv (.t 5)),
 o 23 (.call 48 [(.t 22)]),
 o 24 (.build [(.im (.sc (.int .i64 0))), (.im (.sc (.int .i64 0))), (.im (.sc (.string ⟨#[]⟩))), (.im (.sl [] .nil)), (.im (.sl [] .nil))] [(0, 1, (.k (.im (.sc (.int .i64 3))))), (2, 1, (.t 23))]),
 o 6 (.lalloc [(.im (.sc (.int .i64 0))), (.im (.sc (.int .i64 0))), (.im (.sc (.string ⟨#[]⟩))), (.im (.sl [] .nil)), (.im (.sl [] .nil))]),
 e (.st 5 (.b 6) (.t 24))])
 (.seq (.seq (.region [o 25 (.mv (.k (.im (.sc (.int .i64 0)))))])
 (.block 0 (.loop [3, 25] [2, 4, 6] (.seq (.region [o 26 (.bin .lss 3 false true (.t 25) (.k (.im (.sc (.int .i64 8)))))])
 (.seq (.cond (.t 26)
 .skip
 (.exit 0))
 (.seq (.block 1 (.seq (.region [o 27 (.mv (.t 25)),
 o 7 (.mv (.t 27))])
 (.region [o 28 (.off 3 (.b 6)),
 o 29 (.ld 1 false (.t 28)),
 o 30 (.mv (.t 7)),
 o 31 (.build [(.im (.sc (.int .i64 0))), (.im (.sc (.int .i64 0)))] [(0, 1, (.t 30))]),
 o 32 (.mkS 2 1 [(.im (.sc (.int .i64 0))), (.im (.sc (.int .i64 0)))] [(0, (.t 31))]),
 o 33 (.build [(.im (.sc (.int .i64 0))), (.im (.sl [] .nil))] [(1, 1, (.t 32))]),
 o 34 (.mkS 2 1 [(.im (.sc (.int .i64 0))), (.im (.sl [] .nil))] [(0, (.t 33))]),
 o 35 (.append 2 false (.t 29) (.t 34)),
 o 36 (.off 3 (.b 6)),
 e (.st 1 (.t 36) (.t 35))])))
 (.region [o 37 (.bin .add 3 false true (.t 25) (.k (.im (.sc (.int .i64 1))))),
 o 25 (.mv (.t 37))])))))))
 (.seq (.region [o 38 (.ld 5 true (.b 6)),
 e (.st 5 (.b 4) (.t 38))])
 .ret)))))
 .skip))
 (.seq (.region [o 39 (.off 4 (.t 3)),
 o 40 (.ld 1 false (.t 39)),
 o 41 (.call 151 [(.t 40)]),
 o 8 (.mv (.t 41))])
 (.seq (.seq (.region [o 42 (.mv (.t 8)),
 o 43 (.len .sl (.t 42)),
 o 44 (.mv (.k (.im (.sc (.int .i64 0)))))])
 (.block 2 (.loop [3, 8, 42, 43, 44] [2, 4] (.seq (.region [o 45 (.bin .lss 3 false false (.t 44) (.t 43))])
 (.seq (.cond (.t 45)
 .skip
 (.exit 2))
 (.seq (.block 3 (.seq (.region [o 46 (.mv (.t 44)),
 o 47 (.idxA 5 none (.t 42) (.t 44)),
 o 48 (.ld 5 true (.t 47)),
 o 10 (.lalloc [(.im (.sc (.int .i64 0))), (.im (.sc (.int .i64 0))), (.im (.sc (.string ⟨#[]⟩))), (.im (.sl [] .nil)), (.im (.sl [] .nil))]),
 o 9 (.mv (.t 46)),
 e (.st 5 (.b 10) (.t 48))])
 (.region [o 49 (.mv (.t 8)),
 o 50 (.mv (.t 9)),
 o 51 (.ld 17 true (.b 2)),
 o 52 (.ld 5 true (.b 10)),
 o 53 (.call 92 [(.t 51), (.t 52)]),
 o 54 (.idxA 5 none (.t 49) (.t 50)),
 e (.st 5 (.t 54) (.t 53))])))
 (.region [o 55 (.bin .add 3 false true (.t 44) (.k (.im (.sc (.int .i64 1))))),
 o 44 (.mv (.t 55))])))))))
 (.seq (.region [o 56 (.mv (.t 8)),
 o 57 (.off 4 (.t 3)),
 e (.st 1 (.t 57) (.t 56))])
 (.seq (.region [o 58 (.ld 5 true (.t 3)),
 e (.st 5 (.b 4) (.t 58))])
 .ret)))))) }
def b92 : List Nat := [2, 4, 6, 10]

def f93 : IFunc :=
 { np := 2, res := [], body :=
 (.seq (.region [o 4 (.mv (.t 2)),
 o 5 (.isnil .ifc true (.t 4))])
 (.cond (.t 5)
 (.region [o 6 (.build [(.im (.sc (.int .i64 0))), (.im (.sc (.int .i64 0))), (.im (.sc (.string ⟨#[]⟩))), (.im (.sl [] .nil)), (.im (.sl [] .nil))] []),
 o 7 (.mv (.t 2)),
 o 8 (.call 83 [(.t 7)]),
 e (.st 5 (.t 0) (.t 6)),
 e (.st 1 (.t 1) (.t 8))])
 .skip)), rcv := some (3, [o 2 (.mv (.t 3))]) }
def b93 : List Nat := []

def f94 : IFunc :=
 { np := 1, res := [.cell 2 5 true], body :=
 (.seq (.region [o 1 (.lbox (.t 0)),
 o 2 (.lalloc [(.im (.sc (.int .i64 0))), (.im (.sc (.int .i64 0))), (.im (.sc (.string ⟨#[]⟩))), (.im (.sl [] .nil)), (.im (.sl [] .nil))])])
 (.seq (.region [o 6 (.ld 5 true (.b 1)),
 o 7 (.call 152 [(.t 6), (.k (.im (.sc (.int .i64 0)))), (.k (.im (.sc (.int .i64 0))))]),
 o 5 (.mv (.t 7)),
 o 8 (.extract (.t 5) 0),
 o 9 (.extract (.t 5) 1),
 o 3 (.lalloc [(.im (.sc (.int .i64 0))), (.im (.sc (.int .i64 0))), (.im (.sc (.string ⟨#[]⟩))), (.im (.sl [] .nil)), (.im (.sl [] .nil))]),
 e (.st 5 (.b 3) (.t 8)),
 o 4 (.mv (.t 9))])
 (.seq (.seq (.region [o 10 (.mv (.t 4)),
 o 11 (.bin .neq 39 false true (.t 10) (.k (.im (.sc (.int .i64 0)))))])
 (.cond (.t 11)
 (.seq (.region [o 12 (.ld 5 true (.b 1)),
 e (.st 5 (.b 2) (.t 12))])
 .ret)
 .skip))
 (.seq (.region [o 13 (.ld 5 true (.b 3)),
 e (.st 5 (.b 2) (.t 13))])
 .ret)))) }
def b94 : List Nat := [1, 2, 3]

def f95 : IFunc :=
 { np := 3, res := [.cell 6 5 true], body :=
 (.seq (.region [o 3 (.lbox (.t 0)),
 o 5 (.lbox (.t 2)),
 o 6 (.lalloc [(.im (.sc (.int .i64 0))), (.im (.sc (.int .i64 0))), (.im (.sc (.string ⟨#[]⟩))), (.im (.sl [] .nil)), (.im (.sl [] .nil))])])
 (.seq (.draw [o 8 (.ld 1 true (.b 3)),
 o 9 (.ld 1 true (.b 3)),
 o 10 (.mv (.t 1)),
 o 11 (.ld 5 true (.b 5)),
 o 12 (.call 135 [(.t 9), (.t 10), (.t 11)]),
 o 13 (.call 153 [(.t 8), (.t 12)]),
 o 7 (.lalloc [(.im (.sc (.int .i64 0))), (.im (.sc (.int .i64 0))), (.im (.sc (.string ⟨#[]⟩))), (.im (.sl [] .nil)), (.im (.sl [] .nil))]),
 e (.st 5 (.b 7) (.t 13))] [0, 1, 3, 7, 1, 0, 63, 0])
 (.seq (.seq (.region [o 14 (.off 0 (.b 7)),
 o 15 (.ld 1 false (.t 14)),
 o 16 (.bin .neq 3 false true (.t 15) (.k (.im (.sc (.int .i64 1))))),
 o 17 (.mv (.t 16)),
 ⟨(some 18), .off 0 (.b 7), (some (17, true))⟩,
 ⟨(some 19), .ld 1 false (.t 18), (some (17, true))⟩,
 ⟨(some 20), .bin .neq 3 false true (.t 19) (.k (.im (.sc (.int .i64 2)))), (some (17, true))⟩,
 o 21 (.pick (.t 17) (.t 20) (.k (.im (.sc (.bool false)))))])
 (.cond (.t 21)
 (.region [o 22 (.call 137 [(.k (.im (.sc (.int .i64 12))))])])
 .skip))
 (.seq (.region [o 23 (.ld 5 true (.b 7)),
 e (.st 5 (.b 6) (.t 23))])
 .ret)))) }
def b95 : List Nat := [3, 5, 6, 7]

def f96 : IFunc :=
 { np := 2, res := [], body :=
 (.seq (.region [o 2 (.hbox (.t 0))])
 (.seq (.region [o 5 (.call 97 []),
 o 3 (.halloc [(.im (.sc (.bool false))), (.im (.sc (.bool false))), (.im (.sc (.int .i64 0))), (.im (.sc (.int .i64 0))), (.im (.sc (.int .i64 0))), (.im (.sc (.bool false))), (.im (.sc (.bool false))), (.im (.sc (.int .i64 0))), (.im (.sc (.int .i64 0))), (.im (.sc (.int .i64 0))), (.im (.sc (.bool false))), (.im (.sc (.bool false))), (.im (.sc (.int .i64 0))), (.im (.sc (.int .i64 0))), (.im (.sc (.int .i64 0))), (.im (.sc (.bool false))), (.im (.sc (.bool false))), (.im (.sc (.int .i64 0))), (.im (.sc (.int .i64 0))), (.im (.sc (.int .i64 0))), (.im (.sc (.bool false))), (.im (.sc (.bool false))), (.im (.sc (.int .i64 0))), (.im (.sc (.int .i64 0))), (.im (.sc (.int .i64 0))), (.im (.sc (.bool false))), (.im (.sc (.bool false))), (.im (.sc (.int .i64 0))), (.im (.sc (.int .i64 0))), (.im (.sc (.int .i64 0))), (.im (.sc (.bool false))), (.im (.sc (.bool false))), (.im (.sc (.int .i64 0))), (.im (.sc (.int .i64 0))), (.im (.sc (.int .i64 0))), (.im (.sc (.bool false))), (.im (.sc (.bool false))), (.im (.sc (.int .i64 0))), (.im (.sc (.int .i64 0))), (.im (.sc (.int .i64 0))), (.im (.sc (.bool false))), (.im (.sc (.bool false))), (.im (.sc (.int .i64 0))), (.im (.sc (.int .i64 0))), (.im (.sc (.int .i64 0))), (.im (.sc (.bool false))), (.im (.sc (.bool false))), (.im (.sc (.int .i64 0))), (.im (.sc (.int .i64 0))), (.im (.sc (.int .i64 0))), (.im (.sc (.bool false))), (.im (.sc (.bool false))), (.im (.sc (.int .i64 0))), (.im (.sc (.int .i64 0))), (.im (.sc (.int .i64 0))), (.im (.sc (.bool false))), (.im (.sc (.bool false))), (.im (.sc (.int .i64 0))), (.im (.sc (.int .i64 0))), (.im (.sc (.int .i64 0))), (.im (.sc (.bool false))), (.im (.sc (.bool false))), (.im (.sc (.int .i64 0))), (.im (.sc (.int .i64 0))), (.im (.sc (.int .i64 0)))]),
 e (.st 65 (.t 3) (.t 5))])
 (.seq (.region [o 4 (.halloc [(.im (.sc .nilFunc))])])
 (.seq (.region [o 6 (.mkfn (.func 98) [] [(.t 2), (.t 3), (.t 4)] [true, true, false]),
 e (.st 1 (.t 4) (.t 6))])
 (.region [o 7 (.ld 1 false (.t 4)),
 o 8 (.ld 5 true (.t 1)),
 o 9 (.calld (.t 7) [(.t 8), (.k (.im (.sc (.int .i64 0))))])]))))) }
def b96 : List Nat := []

def f97 : IFunc :=
 { np := 0, res := [.cell 0 65 true], body :=
 (.seq (.region [o 0 (.lalloc [(.im (.sc (.bool false))), (.im (.sc (.bool false))), (.im (.sc (.int .i64 0))), (.im (.sc (.int .i64 0))), (.im (.sc (.int .i64 0))), (.im (.sc (.bool false))), (.im (.sc (.bool false))), (.im (.sc (.int .i64 0))), (.im (.sc (.int .i64 0))), (.im (.sc (.int .i64 0))), (.im (.sc (.bool false))), (.im (.sc (.bool false))), (.im (.sc (.int .i64 0))), (.im (.sc (.int .i64 0))), (.im (.sc (.int .i64 0))), (.im (.sc (.bool false))), (.im (.sc (.bool false))), (.im (.sc (.int .i64 0))), (.im (.sc (.int .i64 0))), (.im (.sc (.int .i64 0))), (.im (.sc (.bool false))), (.im (.sc (.bool false))), (.im (.sc (.int .i64 0))), (.im (.sc (.int .i64 0))), (.im (.sc (.int .i64 0))), (.im (.sc (.bool false))), (.im (.sc (.bool false))), (.im (.sc (.int .i64 0))), (.im (.sc (.int .i64 0))), (.im (.sc (.int .i64 0))), (.im (.sc (.bool false))), (.im (.sc (.bool false))), (.im (.sc (.int .i64 0))), (.im (.sc (.int .i64 0))), (.im (.sc (.int .i64 0))), (.im (.sc (.bool false))), (.im (.sc (.bool false))), (.im (.sc (.int .i64 0))), (.im (.sc (.int .i64 0))), (.im (.sc (.int .i64 0))), (.im (.sc (.bool false))), (.im (.sc (.bool false))), (.im (.sc (.int .i64 0))), (.im (.sc (.int .i64 0))), (.im (.sc (.int .i64 0))), (.im (.sc (.bool false))), (.im (.sc (.bool false))), (.im (.sc (.int .i64 0))), (.im (.sc (.int .i64 0))), (.im (.sc (.int .i64 0))), (.im (.sc (.bool false))), (.im (.sc (.bool false))), (.im (.sc (.int .i64 0))), (.im (.sc (.int .i64 0))), (.im (.sc (.int .i64 0))), (.im (.sc (.bool false))), (.im (.sc (.bool false))), (.im (.sc (.int .i64 0))), (.im (.sc (.int .i64 0))), (.im (.sc (.int .i64 0))), (.im (.sc (.bool false))), (.im (.sc (.bool false))), (.im (.sc (.int .i64 0))), (.im (.sc (.int .i64 0))), (.im (.sc (.int .i64 0)))])])
 (.seq (.region [o 1 (.build [(.im (.sc (.bool false))), (.im (.sc (.bool false))), (.im (.sc (.int .i64 0))), (.im (.sc (.int .i64 0))), (.im (.sc (.int .i64 0)))] [(0, 1, (.k (.im (.sc (.bool true))))), (4, 1, (.k (.im (.sc (.int .i64 (-1))))))]),
 o 2 (.build [(.im (.sc (.bool false))), (.im (.sc (.bool false))), (.im (.sc (.int .i64 0))), (.im (.sc (.int .i64 0))), (.im (.sc (.int .i64 0)))] [(4, 1, (.k (.im (.sc (.int .i64 (-1))))))]),
 o 3 (.build [(.im (.sc (.bool false))), (.im (.sc (.bool false))), (.im (.sc (.int .i64 0))), (.im (.sc (.int .i64 0))), (.im (.sc (.int .i64 0)))] [(2, 1, (.k (.im (.sc (.int .i64 1))))), (4, 1, (.k (.im (.sc (.int .i64 (-1))))))]),
 o 4 (.build [(.im (.sc (.bool false))), (.im (.sc (.bool false))), (.im (.sc (.int .i64 0))), (.im (.sc (.int .i64 0))), (.im (.sc (.int .i64 0)))] [(1, 1, (.k (.im (.sc (.bool true))))), (2, 1, (.k (.im (.sc (.int .i64 (-1)))))), (4, 1, (.k (.im (.sc (.int .i64 (-1))))))]),
 o 5 (.build [(.im (.sc (.bool false))), (.im (.sc (.bool false))), (.im (.sc (.int .i64 0))), (.im (.sc (.int .i64 0))), (.im (.sc (.int .i64 0)))] [(3, 1, (.k (.im (.sc (.int .i64 2))))), (4, 1, (.k (.im (.sc (.int .i64 (-1))))))]),
 o 6 (.build [(.im (.sc (.bool false))), (.im (.sc (.bool false))), (.im (.sc (.int .i64 0))), (.im (.sc (.int .i64 0))), (.im (.sc (.int .i64 0)))] [(3, 1, (.k (.im (.sc (.int .i64 2))))), (4, 1, (.k (.im (.sc (.int .i64 1)))))]),
 o 7 (.build [(.im (.sc (.bool false))), (.im (.sc (.bool false))), (.im (.sc (.int .i64 0))), (.im (.sc (.int .i64 0))), (.im (.sc (.int .i64 0)))] [(3, 1, (.k (.im (.sc (.int .i64 2))))), (4, 1, (.k (.im (.sc (.int .i64 1)))))]),
 o 8 (.build [(.im (.sc (.bool false))), (.im (.sc (.bool false))), (.im (.sc (.int .i64 0))), (.im (.sc (.int .i64 0))), (.im (.sc (.int .i64 0)))] [(3, 1, (.k (.im (.sc (.int .i64 2))))), (4, 1, (.k (.im (.sc (.int .i64 1)))))]),
 o 9 (.build [(.im (.sc (.bool false))), (.im (.sc (.bool false))), (.im (.sc (.int .i64 0))), (.im (.sc (.int .i64 0))), (.im (.sc (.int .i64 0)))] [(3, 1, (.k (.im (.sc (.int .i64 3))))), (4, 1, (.k (.im (.sc (.int .i64 (-1))))))]),
 o 10 (.build [(.im (.sc (.bool false))), (.im (.sc (.bool false))), (.im (.sc (.int .i64 0))), (.im (.sc (.int .i64 0))), (.im (.sc (.int .i64 0)))] [(3, 1, (.k (.im (.sc (.int .i64 1))))), (4, 1, (.k (.im (.sc (.int .i64 (-1))))))]),
 o 11 (.build [(.im (.sc (.bool false))), (.im (.sc (.bool false))), (.im (.sc (.int .i64 0))), (.im (.sc (.int .i64 0))), (.im (.sc (.int .i64 0)))] [(3, 1, (.k (.im (.sc (.int .i64 1))))), (4, 1, (.k (.im (.sc (.int .i64 (-1))))))]),
 o 12 (.build [(.im (.sc (.bool false))), (.im (.sc (.bool false))), (.im (.sc (.int .i64 0))), (.im (.sc (.int .i64 0))), (.im (.sc (.int .i64 0)))] [(3, 1, (.k (.im (.sc (.int .i64 3))))), (4, 1, (.k (.im (.sc (.int .i64 2)))))]),
 o 13 (.build [(.im (.sc (.bool false))), (.im (.sc (.bool false))), (.im (.sc (.int .i64 0))), (.im (.sc (.int .i64 0))), (.im (.sc (.int .i64 0)))] [(0, 1, (.k (.im (.sc (.bool true))))), (4, 1, (.k (.im (.sc (.int .i64 (-1))))))]),
 o 14 (.build [(.im (.sc (.bool false))), (.im (.sc (.bool false))), (.im (.sc (.int .i64 0))), (.im (.sc (.int .i64 0))), (.im (.sc (.int .i64 0))), (.im (.sc (.bool false))), (.im (.sc (.bool false))), (.im (.sc (.int .i64 0))), (.im (.sc (.int .i64 0))), (.im (.sc (.int .i64 0))), (.im (.sc (.bool false))), (.im (.sc (.bool false))), (.im (.sc (.int .i64 0))), (.im (.sc (.int .i64 0))), (.im (.sc (.int .i64 0))), (.im (.sc (.bool false))), (.im (.sc (.bool false))), (.im (.sc (.int .i64 0))), (.im (.sc (.int .i64 0))), (.im (.sc (.int .i64 0))), (.im (.sc (.bool false))), (.im (.sc (.bool false))), (.im (.sc (.int .i64 0))), (.im (.sc (.int .i64 0))), (.im (.sc (.int .i64 0))), (.im (.sc (.bool false))), (.im (.sc (.bool false))), (.im (.sc (.int .i64 0))), (.im (.sc (.int .i64 0))), (.im (.sc (.int .i64 0))), (.im (.sc (.bool false))), (.im (.sc (.bool false))), (.im (.sc (.int .i64 0))), (.im (.sc (.int .i64 0))), (.im (.sc (.int .i64 0))), (.im (.sc (.bool false))), (.im (.sc (.bool false))), (.im (.sc (.int .i64 0))), (.im (.sc (.int .i64 0))), (.im (.sc (.int .i64 0))), (.im (.sc (.bool false))), (.im (.sc (.bool false))), (.im (.sc (.int .i64 0))), (.im (.sc (.int .i64 0))), (.im (.sc (.int .i64 0))), (.im (.sc (.bool false))), (.im (.sc (.bool false))), (.im (.sc (.int .i64 0))), (.im (.sc (.int .i64 0))), (.im (.sc (.int .i64 0))), (.im (.sc (.bool false))), (.im (.sc (.bool false))), (.im (.sc (.int .i64 0))), (.im (.sc (.int .i64 0))), (.im (.sc (.int .i64 0))), (.im (.sc (.bool false))), (.im (.sc (.bool false))), (.im (.sc (.int .i64 0))), (.im (.sc (.int .i64 0))), (.im (.sc (.int .i64 0))), (.im (.sc (.bool false))), (.im (.sc (.bool false))), (.im (.sc (.int .i64 0))), (.im (.sc (.int .i64 0))), (.im (.sc (.int .i64 0)))] [(0, 5, (.t 1)), (5, 5, (.t 2)), (10, 5, (.t 3)), (15, 5, (.t 4)), (20, 5, (.t 5)), (25, 5, (.t 6)), (30, 5, (.t 7)), (35, 5, (.t 8)), (40, 5, (.t 9)), (45, 5, (.t 10)), (50, 5, (.t 11)), (55, 5, (.t 12)), (60, 5, (.t 13))]),
 e (.st 65 (.b 0) (.t 14))])
 .ret)) }
def b97 : List Nat := [0]

def f98 : IFunc :=
 { np := 5, res := [.tmp 7], body :=
 (.seq (.region [o 5 (.lbox (.t 0)),
 o 7 (.mv (.k (.im (.sc (.bool false)))))])
 (.seq (.seq (.region [o 12 (.ld 1 false (.t 2)),
 o 13 (.mv (.t 1)),
 o 14 (.ld 5 true (.b 5)),
 o 15 (.calld (.t 12) [(.t 13), (.t 14)]),
 o 16 (.un .not (.t 15))])
 (.cond (.t 16)
 (.seq (.region [o 7 (.mv (.k (.im (.sc (.bool false)))))])
 .ret)
 .skip))
 (.seq (.region [o 8 (.mv (.k (.im (.sc (.int .i64 (-1))))))])
 (.seq (.seq (.region [o 17 (.off 0 (.b 5)),
 o 18 (.ld 1 false (.t 17)),
 o 19 (.bin .geq 3 false true (.t 18) (.k (.im (.sc (.int .i64 0))))),
 o 20 (.mv (.t 19)),
 ⟨(some 21), .off 0 (.b 5), (some (20, true))⟩,
 ⟨(some 22), .ld 1 false (.t 21), (some (20, true))⟩,
 ⟨(some 23), .bin .lss 3 false true (.t 22) (.k (.im (.sc (.int .i64 13)))), (some (20, true))⟩,
 o 24 (.pick (.t 20) (.t 23) (.k (.im (.sc (.bool false)))))])
 (.cond (.t 24)
 (.region [o 25 (.off 0 (.b 5)),
 o 26 (.ld 1 false (.t 25)),
 o 27 (.idxA 5 (some 13) (.t 3) (.t 26)),
 o 28 (.off 4 (.t 27)),
 o 29 (.ld 1 false (.t 28)),
 o 8 (.mv (.t 29))])
 .skip))
 (.seq (.seq (.region [o 30 (.off 4 (.b 5)),
 o 31 (.ld 1 false (.t 30)),
 o 32 (.len .sl (.t 31)),
 o 33 (.mv (.k (.im (.sc (.int .i64 0)))))])
 (.block 0 (.loop [1, 4, 7, 8, 31, 32, 33] [] (.seq (.region [o 34 (.bin .lss 3 false false (.t 33) (.t 32))])
 (.seq (.cond (.t 34)
 .skip
 (.exit 0))
 (.seq (.block 1 (.seq (.region [o 35 (.mv (.t 33)),
 o 36 (.idxA 5 none (.t 31) (.t 33)),
 o 37 (.ld 5 true (.t 36)),
 o 10 (.lalloc [(.im (.sc (.int .i64 0))), (.im (.sc (.int .i64 0))), (.im (.sc (.string ⟨#[]⟩))), (.im (.sl [] .nil)), (.im (.sl [] .nil))]),
 o 9 (.mv (.t 35)),
 e (.st 5 (.b 10) (.t 37))])
 (.seq (.region [o 38 (.mv (.t 1)),
 o 11 (.mv (.t 38))])
 (.seq (.seq (.region [o 39 (.mv (.t 9)),
 o 40 (.mv (.t 8)),
 o 41 (.bin .eql 3 false false (.t 39) (.t 40))])
 (.cond (.t 41)
 (.region [o 42 (.mv (.t 11)),
 o 43 (.bin .add 3 false true (.t 42) (.k (.im (.sc (.int .i64 1))))),
 o 11 (.mv (.t 43))])
 .skip))
 (.seq (.region [o 44 (.ld 1 false (.t 4)),
 o 45 (.ld 5 true (.b 10)),
 o 46 (.mv (.t 11)),
 o 47 (.calld (.t 44) [(.t 45), (.t 46)]),
 o 48 (.un .not (.t 47))])
 (.cond (.t 48)
 (.seq (.region [o 7 (.mv (.k (.im (.sc (.bool false)))))])
 .ret)
 .skip))))))
 (.region [o 49 (.bin .add 3 false true (.t 33) (.k (.im (.sc (.int .i64 1))))),
 o 33 (.mv (.t 49))])))))))
 (.seq (.region [o 7 (.mv (.k (.im (.sc (.bool true)))))])
 .ret)))))) }
def b98 : List Nat := [5, 10]

def f99 : IFunc :=
 { np := 1, res := [.tmp 2], body :=
 (.seq (.region [o 1 (.lbox (.t 0)),
 o 2 (.mv (.k (.im (.sc (.bool false)))))])
 (.seq (.seq (.region [o 4 (.off 0 (.b 1)),
 o 5 (.ld 1 false (.t 4)),
 o 6 (.bin .lss 3 false true (.t 5) (.k (.im (.sc (.int .i64 0))))),
 o 7 (.mv (.t 6)),
 ⟨(some 8), .off 0 (.b 1), (some (7, false))⟩,
 ⟨(some 9), .ld 1 false (.t 8), (some (7, false))⟩,
 ⟨(some 10), .bin .geq 3 false true (.t 9) (.k (.im (.sc (.int .i64 13)))), (some (7, false))⟩,
 o 11 (.pick (.t 7) (.k (.im (.sc (.bool true)))) (.t 10))])
 (.cond (.t 11)
 (.seq (.region [o 2 (.mv (.k (.im (.sc (.bool false)))))])
 .ret)
 .skip))
 (.seq (.draw [o 12 (.call 97 []),
 o 13 (.off 0 (.b 1)),
 o 14 (.ld 1 false (.t 13)),
 o 15 (.idxV 160 5 true (some 13) (.t 12) (.t 14)),
 o 3 (.lalloc [(.im (.sc (.bool false))), (.im (.sc (.bool false))), (.im (.sc (.int .i64 0))), (.im (.sc (.int .i64 0))), (.im (.sc (.int .i64 0)))]),
 e (.st 5 (.b 3) (.t 15))] [0, 1, 1, 0, 15, 0])
 (.seq (.region [o 16 (.off 0 (.b 3)),
 o 17 (.ld 1 false (.t 16)),
 o 18 (.mv (.t 17)),
 ⟨(some 19), .off 1 (.b 1), (some (18, false))⟩,
 ⟨(some 20), .ld 1 false (.t 19), (some (18, false))⟩,
 ⟨(some 21), .bin .eql 3 false true (.t 20) (.k (.im (.sc (.int .i64 0)))), (some (18, false))⟩,
 o 22 (.pick (.t 18) (.k (.im (.sc (.bool true)))) (.t 21)),
 o 23 (.mv (.t 22)),
 ⟨(some 24), .off 1 (.b 3), (some (23, true))⟩,
 ⟨(some 25), .ld 1 false (.t 24), (some (23, true))⟩,
 ⟨(some 26), .mv (.t 25), (some (23, true))⟩,
 ⟨(some 27), .off 2 (.b 1), (some (26, false))⟩,
 ⟨(some 28), .ld 1 false (.t 27), (some (26, false))⟩,
 ⟨(some 29), .bin .eql 9 false true (.t 28) (.k (.im (.sc (.string ⟨#[]⟩)))), (some (26, false))⟩,
 ⟨(some 30), .pick (.t 26) (.k (.im (.sc (.bool true)))) (.t 29), (some (23, true))⟩,
 o 31 (.pick (.t 23) (.t 30) (.k (.im (.sc (.bool false))))),
 o 32 (.mv (.t 31)),
 ⟨(some 33), .off 2 (.b 3), (some (32, true))⟩,
 ⟨(some 34), .ld 1 false (.t 33), (some (32, true))⟩,
 ⟨(some 35), .bin .lss 3 false true (.t 34) (.k (.im (.sc (.int .i64 0)))), (some (32, true))⟩,
 ⟨(some 36), .mv (.t 35), (some (32, true))⟩,
 ⟨(some 37), .off 3 (.b 1), (some (36, false))⟩,
 ⟨(some 38), .ld 1 false (.t 37), (some (36, false))⟩,
 ⟨(some 39), .len .sl (.t 38), (some (36, false))⟩,
 ⟨(some 40), .off 2 (.b 3), (some (36, false))⟩,
 ⟨(some 41), .ld 1 false (.t 40), (some (36, false))⟩,
 ⟨(some 42), .bin .eql 3 false false (.t 39) (.t 41), (some (36, false))⟩,
 ⟨(some 43), .pick (.t 36) (.k (.im (.sc (.bool true)))) (.t 42), (some (32, true))⟩,
 o 44 (.pick (.t 32) (.t 43) (.k (.im (.sc (.bool false))))),
 o 45 (.mv (.t 44)),
 ⟨(some 46), .off 4 (.b 1), (some (45, true))⟩,
 ⟨(some 47), .ld 1 false (.t 46), (some (45, true))⟩,
 ⟨(some 48), .len .sl (.t 47), (some (45, true))⟩,
 ⟨(some 49), .off 3 (.b 3), (some (45, true))⟩,
 ⟨(some 50), .ld 1 false (.t 49), (some (45, true))⟩,
 ⟨(some 51), .bin .eql 3 false false (.t 48) (.t 50), (some (45, true))⟩,
 o 52 (.pick (.t 45) (.t 51) (.k (.im (.sc (.bool false))))),
 o 2 (.mv (.t 52))])
 .ret)))) }
def b99 : List Nat := [1, 3]

def f100 : IFunc :=
 { np := 1, res := [.tmp 2], body :=
 (.seq (.region [o 2 (.mv (.k (.im (.sc (.bool false)))))])
 (.seq (.region [o 3 (.mv (.k (.im (.sc (.bool true)))))])
 (.seq (.seq (.region [o 6 (.mv (.t 0)),
 o 7 (.len .str (.t 6)),
 o 8 (.mv (.k (.im (.sc (.int .i64 0)))))])
 (.block 0 (.loop [0, 2, 3, 7, 8] [] (.seq (.region [o 9 (.bin .lss 3 false false (.t 8) (.t 7))])
 (.seq (.cond (.t 9)
 .skip
 (.exit 0))
 (.seq (.block 1 (.seq (.region [o 10 (.mv (.t 8)),
 o 4 (.mv (.t 10))])
 (.seq (.region [o 11 (.mv (.t 0)),
 o 12 (.mv (.t 4)),
 o 13 (.idxV 9 1 false none (.t 11) (.t 12)),
 o 5 (.mv (.t 13))])
 (.block 2 (.seq (.region [o 15 (.mv (.t 5)),
 o 16 (.call 154 [(.t 15)]),
 o 14 (.mv (.t 16))])
 (.cond (.t 14)
 (.region [o 3 (.mv (.k (.im (.sc (.bool false)))))])
 (.seq (.region [o 18 (.mv (.t 3)),
 o 17 (.mv (.t 18))])
 (.cond (.t 17)
 (.seq (.region [o 2 (.mv (.k (.im (.sc (.bool false)))))])
 .ret)
 (.seq (.region [o 20 (.mv (.t 5)),
 o 21 (.bin .eql 5 false true (.t 20) (.k (.im (.sc (.int .u8 46))))),
 o 19 (.mv (.t 21))])
 (.cond (.t 19)
 (.region [o 3 (.mv (.k (.im (.sc (.bool true)))))])
 (.seq (.region [o 23 (.mv (.t 5)),
 o 24 (.bin .lss 5 false true (.t 23) (.k (.im (.sc (.int .u8 48))))),
 o 25 (.mv (.t 24)),
 ⟨(some 26), .mv (.t 5), (some (25, false))⟩,
 ⟨(some 27), .bin .gtr 5 false true (.t 26) (.k (.im (.sc (.int .u8 57)))), (some (25, false))⟩,
 o 28 (.pick (.t 25) (.k (.im (.sc (.bool true)))) (.t 27)),
 o 22 (.mv (.t 28))])
 (.cond (.t 22)
 (.seq (.region [o 29 (.mv (.t 5)),
 o 30 (.bin .neq 5 false true (.t 29) (.k (.im (.sc (.int .u8 39)))))])
 (.cond (.t 30)
 (.seq (.region [o 2 (.mv (.k (.im (.sc (.bool false)))))])
 .ret)
 .skip))
 .skip))))))))))))
 (.region [o 31 (.bin .add 3 false true (.t 8) (.k (.im (.sc (.int .i64 1))))),
 o 8 (.mv (.t 31))])))))))
 (.seq (.region [o 32 (.mv (.t 3)),
 o 33 (.un .not (.t 32)),
 o 34 (.mv (.t 33)),
 ⟨(some 35), .mv (.t 0), (some (34, true))⟩,
 ⟨(some 36), .len .str (.t 35), (some (34, true))⟩,
 ⟨(some 37), .bin .leq 3 false true (.t 36) (.k (.im (.sc (.int .i64 64)))), (some (34, true))⟩,
 o 38 (.pick (.t 34) (.t 37) (.k (.im (.sc (.bool false))))),
 o 2 (.mv (.t 38))])
 .ret)))) }
def b100 : List Nat := []

def f101 : IFunc :=
 { np := 2, res := [.tmp 4], body :=
 (.seq (.region [o 2 (.lbox (.t 0)),
 o 3 (.lbox (.t 1)),
 o 4 (.mv (.k (.im (.sc (.int .i64 0)))))])
 (.seq (.seq (.region [o 9 (.ld 2 true (.b 3)),
 o 10 (.call 141 [(.t 9)]),
 o 11 (.un .not (.t 10))])
 (.cond (.t 11)
 (.seq (.region [o 4 (.mv (.k (.im (.sc (.int .i64 3)))))])
 .ret)
 .skip))
 (.seq (.seq (.region [o 12 (.off 1 (.b 3)),
 o 13 (.ld 1 false (.t 12)),
 o 14 (.len .sl (.t 13)),
 o 15 (.mv (.k (.im (.sc (.int .i64 0)))))])
 (.block 0 (.loop [4, 13, 14, 15] [2, 3] (.seq (.region [o 16 (.bin .lss 3 false false (.t 15) (.t 14))])
 (.seq (.cond (.t 16)
 .skip
 (.exit 0))
 (.seq (.block 1 (.seq (.region [o 17 (.idxA 2 none (.t 13) (.t 15)),
 o 18 (.ld 2 true (.t 17)),
 o 6 (.lalloc [(.im (.sc (.int .i64 0))), (.im (.sc (.int .i64 0)))]),
 e (.st 2 (.b 6) (.t 18))])
 (.seq (.region [o 19 (.off 0 (.b 6)),
 o 20 (.ld 1 false (.t 19)),
 o 21 (.off 1 (.b 2)),
 o 22 (.ld 1 false (.t 21)),
 o 23 (.bin .geq 3 false false (.t 20) (.t 22))])
 (.cond (.t 23)
 (.seq (.region [o 4 (.mv (.k (.im (.sc (.int .i64 15)))))])
 .ret)
 .skip))))
 (.region [o 24 (.bin .add 3 false true (.t 15) (.k (.im (.sc (.int .i64 1))))),
 o 15 (.mv (.t 24))])))))))
 (.seq (.seq (.region [o 25 (.off 1 (.b 3)),
 o 26 (.ld 1 false (.t 25)),
 o 27 (.len .sl (.t 26)),
 o 28 (.mv (.k (.im (.sc (.int .i64 0)))))])
 (.block 2 (.loop [4, 26, 27, 28] [2] (.seq (.region [o 29 (.bin .lss 3 false false (.t 28) (.t 27))])
 (.seq (.cond (.t 29)
 .skip
 (.exit 2))
 (.seq (.block 3 (.seq (.region [o 30 (.idxA 2 none (.t 26) (.t 28)),
 o 31 (.ld 2 true (.t 30)),
 o 8 (.lalloc [(.im (.sc (.int .i64 0))), (.im (.sc (.int .i64 0)))]),
 e (.st 2 (.b 8) (.t 31))])
 (.seq (.region [o 32 (.off 0 (.b 8)),
 o 33 (.ld 1 false (.t 32)),
 o 34 (.bin .lss 3 false true (.t 33) (.k (.im (.sc (.int .i64 0))))),
 o 35 (.mv (.t 34)),
 ⟨(some 36), .off 0 (.b 8), (some (35, true))⟩,
 ⟨(some 37), .ld 1 false (.t 36), (some (35, true))⟩,
 ⟨(some 38), .bin .sub 3 true false (.k (.im (.sc (.int .i64 (-1))))) (.t 37), (some (35, true))⟩,
 ⟨(some 39), .off 3 (.b 2), (some (35, true))⟩,
 ⟨(some 40), .ld 1 false (.t 39), (some (35, true))⟩,
 ⟨(some 41), .bin .geq 3 false false (.t 38) (.t 40), (some (35, true))⟩,
 o 42 (.pick (.t 35) (.t 41) (.k (.im (.sc (.bool false)))))])
 (.cond (.t 42)
 (.seq (.region [o 4 (.mv (.k (.im (.sc (.int .i64 23)))))])
 .ret)
 .skip))))
 (.region [o 43 (.bin .add 3 false true (.t 28) (.k (.im (.sc (.int .i64 1))))),
 o 28 (.mv (.t 43))])))))))
 (.seq (.region [o 4 (.mv (.k (.im (.sc (.int .i64 0)))))])
 .ret))))) }
def b101 : List Nat := [2, 3, 6, 8]

def f102 : IFunc :=
 { np := 1, res := [.tmp 2], body :=
 (.seq (.region [o 1 (.lbox (.t 0)),
 o 2 (.mv (.k (.im (.sc (.bool false)))))])
 (.seq (.seq (.draw [o 3 (.off 0 (.b 1)),
 o 4 (.ld 1 false (.t 3)),
 o 5 (.bin .lss 3 false true (.t 4) (.k (.im (.sc (.int .i64 0))))),
 o 6 (.mv (.t 5)),
 ⟨(some 7), .off 0 (.b 1), (some (6, false))⟩,
 ⟨(some 8), .ld 1 false (.t 7), (some (6, false))⟩,
 ⟨(some 9), .bin .geq 3 false true (.t 8) (.k (.im (.sc (.int .i64 13)))), (some (6, false))⟩,
 o 10 (.pick (.t 6) (.k (.im (.sc (.bool true)))) (.t 9)),
 o 11 (.mv (.t 10)),
 ⟨(some 12), .off 4 (.b 1), (some (11, false))⟩,
 ⟨(some 13), .ld 1 false (.t 12), (some (11, false))⟩,
 ⟨(some 14), .len .sl (.t 13), (some (11, false))⟩,
 ⟨(some 15), .off 0 (.b 1), (some (11, false))⟩,
 ⟨(some 16), .ld 1 false (.t 15), (some (11, false))⟩,
 ⟨(some 17), .call 155 [(.t 16)], (some (11, false))⟩,
 ⟨(some 18), .bin .neq 3 false false (.t 14) (.t 17), (some (11, false))⟩,
 o 19 (.pick (.t 11) (.k (.im (.sc (.bool true)))) (.t 18))] [0, 0, 0, 0, 0, 0, 0, 0, 0, 0, 0, 0, 3584, 3584, 3584, 0, 0])
 (.cond (.t 19)
 (.seq (.region [o 2 (.mv (.k (.im (.sc (.bool false)))))])
 .ret)
 .skip))
 (.seq (.seq (.region [o 20 (.off 1 (.b 1)),
 o 21 (.ld 1 false (.t 20)),
 o 22 (.bin .neq 3 false true (.t 21) (.k (.im (.sc (.int .i64 0))))),
 o 23 (.mv (.t 22)),
 ⟨(some 24), .off 0 (.b 1), (some (23, true))⟩,
 ⟨(some 25), .ld 1 false (.t 24), (some (23, true))⟩,
 ⟨(some 26), .bin .neq 3 false true (.t 25) (.k (.im (.sc (.int .i64 0)))), (some (23, true))⟩,
 o 27 (.pick (.t 23) (.t 26) (.k (.im (.sc (.bool false))))),
 o 28 (.mv (.t 27)),
 ⟨(some 29), .off 0 (.b 1), (some (28, true))⟩,
 ⟨(some 30), .ld 1 false (.t 29), (some (28, true))⟩,
 ⟨(some 31), .bin .neq 3 false true (.t 30) (.k (.im (.sc (.int .i64 12)))), (some (28, true))⟩,
 o 32 (.pick (.t 28) (.t 31) (.k (.im (.sc (.bool false)))))])
 (.cond (.t 32)
 (.seq (.region [o 2 (.mv (.k (.im (.sc (.bool false)))))])
 .ret)
 .skip))
 (.seq (.seq (.region [o 33 (.off 2 (.b 1)),
 o 34 (.ld 1 false (.t 33)),
 o 35 (.bin .neq 9 false true (.t 34) (.k (.im (.sc (.string ⟨#[]⟩))))),
 o 36 (.mv (.t 35)),
 ⟨(some 37), .off 0 (.b 1), (some (36, true))⟩,
 ⟨(some 38), .ld 1 false (.t 37), (some (36, true))⟩,
 ⟨(some 39), .bin .neq 3 false true (.t 38) (.k (.im (.sc (.int .i64 3)))), (some (36, true))⟩,
 o 40 (.pick (.t 36) (.t 39) (.k (.im (.sc (.bool false)))))])
 (.cond (.t 40)
 (.seq (.region [o 2 (.mv (.k (.im (.sc (.bool false)))))])
 .ret)
 .skip))
 (.seq (.seq (.region [o 41 (.off 0 (.b 1)),
 o 42 (.ld 1 false (.t 41)),
 o 43 (.bin .eql 3 false true (.t 42) (.k (.im (.sc (.int .i64 2)))))])
 (.cond (.t 43)
 (.seq (.region [o 44 (.off 3 (.b 1)),
 o 45 (.ld 1 false (.t 44)),
 o 46 (.len .sl (.t 45)),
 o 47 (.bin .eql 3 false true (.t 46) (.k (.im (.sc (.int .i64 1))))),
 o 2 (.mv (.t 47))])
 .ret)
 .skip))
 (.seq (.region [o 48 (.off 3 (.b 1)),
 o 49 (.ld 1 false (.t 48)),
 o 50 (.len .sl (.t 49)),
 o 51 (.bin .eql 3 false true (.t 50) (.k (.im (.sc (.int .i64 0))))),
 o 52 (.mv (.t 51)),
 ⟨(some 53), .off 0 (.b 1), (some (52, false))⟩,
 ⟨(some 54), .ld 1 false (.t 53), (some (52, false))⟩,
 ⟨(some 55), .bin .eql 3 false true (.t 54) (.k (.im (.sc (.int .i64 3)))), (some (52, false))⟩,
 o 56 (.pick (.t 52) (.k (.im (.sc (.bool true)))) (.t 55)),
 o 2 (.mv (.t 56))])
 .ret)))))) }
def b102 : List Nat := [1]

def f103 : IFunc :=
 { np := 1, res := [.tmp 2], body :=
 (.seq (.region [o 2 (.mv (.k (.im (.sc (.bool false)))))])
 (.seq (.seq (.region [o 6 (.mv (.t 0)),
 o 7 (.bin .eql 9 false true (.t 6) (.k (.im (.sc (.string ⟨#[]⟩))))),
 o 8 (.mv (.t 7)),
 ⟨(some 9), .mv (.t 0), (some (8, false))⟩,
 ⟨(some 10), .len .str (.t 9), (some (8, false))⟩,
 ⟨(some 11), .bin .gtr 3 false true (.t 10) (.k (.im (.sc (.int .i64 64)))), (some (8, false))⟩,
 o 12 (.pick (.t 8) (.k (.im (.sc (.bool true)))) (.t 11))])
 (.cond (.t 12)
 (.seq (.region [o 2 (.mv (.k (.im (.sc (.bool false)))))])
 .ret)
 .skip))
 (.seq (.region [o 3 (.mv (.k (.im (.sc (.bool true)))))])
 (.seq (.seq (.region [o 4 (.mv (.k (.im (.sc (.int .i64 0)))))])
 (.block 0 (.loop [0, 2, 3, 4] [] (.seq (.seq (.region [o 13 (.mv (.t 4)),
 o 14 (.mv (.t 0)),
 o 15 (.len .str (.t 14)),
 o 16 (.bin .lss 3 false false (.t 13) (.t 15))])
 (.cond (.t 16)
 .skip
 (.exit 0)))
 (.seq (.block 1 (.seq (.region [o 19 (.mv (.t 0)),
 o 20 (.mv (.t 4)),
 o 21 (.idxV 9 1 false none (.t 19) (.t 20)),
 o 5 (.mv (.t 21))])
 (.seq (.seq (.region [o 22 (.mv (.t 3))])
 (.cond (.t 22)
 (.seq (.seq (.region [o 23 (.mv (.t 5)),
 o 24 (.call 156 [(.t 23)]),
 o 25 (.un .not (.t 24))])
 (.cond (.t 25)
 (.seq (.region [o 2 (.mv (.k (.im (.sc (.bool false)))))])
 .ret)
 .skip))
 (.seq (.region [o 3 (.mv (.k (.im (.sc (.bool false)))))])
 (.exit 1)))
 .skip))
 (.seq (.seq (.region [o 26 (.mv (.t 5)),
 o 27 (.bin .eql 5 false true (.t 26) (.k (.im (.sc (.int .u8 46)))))])
 (.cond (.t 27)
 (.seq (.region [o 3 (.mv (.k (.im (.sc (.bool true)))))])
 (.exit 1))
 .skip))
 (.seq (.region [o 28 (.mv (.t 5)),
 o 29 (.call 156 [(.t 28)]),
 o 30 (.un .not (.t 29)),
 o 31 (.mv (.t 30)),
 ⟨(some 32), .mv (.t 5), (some (31, true))⟩,
 ⟨(some 33), .bin .neq 5 false true (.t 32) (.k (.im (.sc (.int .u8 39)))), (some (31, true))⟩,
 o 34 (.pick (.t 31) (.t 33) (.k (.im (.sc (.bool false))))),
 o 35 (.mv (.t 34)),
 ⟨(some 36), .mv (.t 5), (some (35, true))⟩,
 ⟨(some 37), .bin .lss 5 false true (.t 36) (.k (.im (.sc (.int .u8 48)))), (some (35, true))⟩,
 ⟨(some 38), .mv (.t 37), (some (35, true))⟩,
 ⟨(some 39), .mv (.t 5), (some (38, false))⟩,
 ⟨(some 40), .bin .gtr 5 false true (.t 39) (.k (.im (.sc (.int .u8 57)))), (some (38, false))⟩,
 ⟨(some 41), .pick (.t 38) (.k (.im (.sc (.bool true)))) (.t 40), (some (35, true))⟩,
 o 42 (.pick (.t 35) (.t 41) (.k (.im (.sc (.bool false)))))])
 (.cond (.t 42)
 (.seq (.region [o 2 (.mv (.k (.im (.sc (.bool false)))))])
 .ret)
 .skip))))))
 (.region [o 17 (.mv (.t 4)),
 o 18 (.bin .add 3 false true (.t 17) (.k (.im (.sc (.int .i64 1))))),
 o 4 (.mv (.t 18))]))))))
 (.seq (.region [o 43 (.mv (.t 3)),
 o 44 (.un .not (.t 43)),
 o 2 (.mv (.t 44))])
 .ret))))) }
def b103 : List Nat := []

def f104 : IFunc :=
 { np := 3, res := [.tmp 6], body :=
 (.seq (.region [o 3 (.lbox (.t 0)),
 o 6 (.mv (.k (.im (.sc (.int .i64 0)))))])
 (.seq (.seq (.region [o 9 (.ld 2 true (.b 3)),
 o 10 (.call 157 [(.t 9)]),
 o 11 (.un .not (.t 10))])
 (.cond (.t 11)
 (.seq (.region [o 6 (.mv (.k (.im (.sc (.int .i64 3)))))])
 .ret)
 .skip))
 (.seq (.seq (.region [o 7 (.mv (.k (.im (.sc (.int .i64 0)))))])
 (.block 0 (.loop [1, 2, 6, 7] [3] (.seq (.seq (.region [o 12 (.mv (.t 7)),
 o 13 (.off 1 (.b 3)),
 o 14 (.ld 1 false (.t 13)),
 o 15 (.len .sl (.t 14)),
 o 16 (.bin .lss 3 false false (.t 12) (.t 15))])
 (.cond (.t 16)
 .skip
 (.exit 0)))
 (.seq (.block 1 (.seq (.region [o 19 (.off 1 (.b 3)),
 o 20 (.ld 1 false (.t 19)),
 o 21 (.mv (.t 7)),
 o 22 (.idxA 2 none (.t 20) (.t 21)),
 o 23 (.off 0 (.t 22)),
 o 24 (.ld 1 false (.t 23)),
 o 25 (.bin .geq 3 false true (.t 24) (.k (.im (.sc (.int .i64 0))))),
 o 26 (.mv (.t 25)),
 ⟨(some 27), .off 1 (.b 3), (some (26, true))⟩,
 ⟨(some 28), .ld 1 false (.t 27), (some (26, true))⟩,
 ⟨(some 29), .mv (.t 7), (some (26, true))⟩,
 ⟨(some 30), .idxA 2 none (.t 28) (.t 29), (some (26, true))⟩,
 ⟨(some 31), .off 0 (.t 30), (some (26, true))⟩,
 ⟨(some 32), .ld 1 false (.t 31), (some (26, true))⟩,
 ⟨(some 33), .mv (.t 1), (some (26, true))⟩,
 ⟨(some 34), .bin .geq 3 false false (.t 32) (.t 33), (some (26, true))⟩,
 o 35 (.pick (.t 26) (.t 34) (.k (.im (.sc (.bool false)))))])
 (.cond (.t 35)
 (.seq (.region [o 6 (.mv (.k (.im (.sc (.int .i64 15)))))])
 .ret)
 .skip)))
 (.region [o 17 (.mv (.t 7)),
 o 18 (.bin .add 3 false true (.t 17) (.k (.im (.sc (.int .i64 1))))),
 o 7 (.mv (.t 18))]))))))
 (.seq (.seq (.region [o 8 (.mv (.k (.im (.sc (.int .i64 0)))))])
 (.block 2 (.loop [2, 6, 8] [3] (.seq (.seq (.region [o 36 (.mv (.t 8)),
 o 37 (.off 1 (.b 3)),
 o 38 (.ld 1 false (.t 37)),
 o 39 (.len .sl (.t 38)),
 o 40 (.bin .lss 3 false false (.t 36) (.t 39))])
 (.cond (.t 40)
 .skip
 (.exit 2)))
 (.seq (.block 3 (.seq (.region [o 43 (.off 1 (.b 3)),
 o 44 (.ld 1 false (.t 43)),
 o 45 (.mv (.t 8)),
 o 46 (.idxA 2 none (.t 44) (.t 45)),
 o 47 (.off 0 (.t 46)),
 o 48 (.ld 1 false (.t 47)),
 o 49 (.bin .lss 3 false true (.t 48) (.k (.im (.sc (.int .i64 0))))),
 o 50 (.mv (.t 49)),
 ⟨(some 51), .off 1 (.b 3), (some (50, true))⟩,
 ⟨(some 52), .ld 1 false (.t 51), (some (50, true))⟩,
 ⟨(some 53), .mv (.t 8), (some (50, true))⟩,
 ⟨(some 54), .idxA 2 none (.t 52) (.t 53), (some (50, true))⟩,
 ⟨(some 55), .off 0 (.t 54), (some (50, true))⟩,
 ⟨(some 56), .ld 1 false (.t 55), (some (50, true))⟩,
 ⟨(some 57), .bin .sub 3 true false (.k (.im (.sc (.int .i64 (-1))))) (.t 56), (some (50, true))⟩,
 ⟨(some 58), .mv (.t 2), (some (50, true))⟩,
 ⟨(some 59), .bin .geq 3 false false (.t 57) (.t 58), (some (50, true))⟩,
 o 60 (.pick (.t 50) (.t 59) (.k (.im (.sc (.bool false)))))])
 (.cond (.t 60)
 (.seq (.region [o 6 (.mv (.k (.im (.sc (.int .i64 23)))))])
 .ret)
 .skip)))
 (.region [o 41 (.mv (.t 8)),
 o 42 (.bin .add 3 false true (.t 41) (.k (.im (.sc (.int .i64 1))))),
 o 8 (.mv (.t 42))]))))))
 (.seq (.region [o 6 (.mv (.k (.im (.sc (.int .i64 0)))))])
 .ret))))) }
def b104 : List Nat := [3]

def f105 : IFunc :=
 { np := 2, res := [.tmp 4], body :=
 (.seq (.region [o 4 (.mv (.k (.im (.sc (.int .i64 0)))))])
 (.seq (.seq (.region [o 5 (.mv (.t 1)),
 o 6 (.bin .eql 3 false true (.t 5) (.k (.im (.sc (.int .i64 1))))),
 o 7 (.mv (.t 6)),
 ⟨(some 8), .mv (.t 0), (some (7, true))⟩,
 ⟨(some 9), .bin .eql 3 false true (.t 8) (.k (.im (.sc (.int .i64 5)))), (some (7, true))⟩,
 ⟨(some 10), .mv (.t 9), (some (7, true))⟩,
 ⟨(some 11), .mv (.t 0), (some (10, false))⟩,
 ⟨(some 12), .bin .eql 3 false true (.t 11) (.k (.im (.sc (.int .i64 6)))), (some (10, false))⟩,
 ⟨(some 13), .pick (.t 10) (.k (.im (.sc (.bool true)))) (.t 12), (some (7, true))⟩,
 ⟨(some 14), .mv (.t 13), (some (7, true))⟩,
 ⟨(some 15), .mv (.t 0), (some (14, false))⟩,
 ⟨(some 16), .bin .eql 3 false true (.t 15) (.k (.im (.sc (.int .i64 7)))), (some (14, false))⟩,
 ⟨(some 17), .pick (.t 14) (.k (.im (.sc (.bool true)))) (.t 16), (some (7, true))⟩,
 o 18 (.pick (.t 7) (.t 17) (.k (.im (.sc (.bool false))))),
 o 19 (.mv (.t 18)),
 ⟨(some 20), .mv (.t 1), (some (19, false))⟩,
 ⟨(some 21), .bin .eql 3 false true (.t 20) (.k (.im (.sc (.int .i64 2)))), (some (19, false))⟩,
 ⟨(some 22), .mv (.t 21), (some (19, false))⟩,
 ⟨(some 23), .mv (.t 0), (some (22, true))⟩,
 ⟨(some 24), .bin .eql 3 false true (.t 23) (.k (.im (.sc (.int .i64 11)))), (some (22, true))⟩,
 ⟨(some 25), .pick (.t 22) (.t 24) (.k (.im (.sc (.bool false)))), (some (19, false))⟩,
 o 26 (.pick (.t 19) (.k (.im (.sc (.bool true)))) (.t 25))])
 (.cond (.t 26)
 (.seq (.region [o 4 (.mv (.k (.im (.sc (.int .i64 1)))))])
 .ret)
 .skip))
 (.seq (.region [o 4 (.mv (.k (.im (.sc (.int .i64 0)))))])
 .ret))) }
def b105 : List Nat := []

def f106 : IFunc :=
 { np := 5, res := [.cell 10 5 true], body :=
 (.seq (.region [o 6 (.lbox (.t 1)),
 o 10 (.lalloc [(.im (.sc (.int .i64 0))), (.im (.sc (.int .i64 0))), (.im (.sc (.string ⟨#[]⟩))), (.im (.sl [] .nil)), (.im (.sl [] .nil))])])
 (.seq (.seq (.region [o 13 (.off 0 (.b 6)),
 o 14 (.ld 1 false (.t 13)),
 o 15 (.bin .eql 3 false true (.t 14) (.k (.im (.sc (.int .i64 0)))))])
 (.cond (.t 15)
 (.seq (.seq (.region [o 16 (.off 1 (.b 6)),
 o 17 (.ld 1 false (.t 16)),
 o 18 (.mv (.t 3)),
 o 19 (.mv (.t 4)),
 o 20 (.bin .add 3 false false (.t 18) (.t 19)),
 o 21 (.bin .lss 3 false false (.t 17) (.t 20))])
 (.cond (.t 21)
 (.seq (.region [o 22 (.ld 5 true (.b 6)),
 e (.st 5 (.b 10) (.t 22))])
 .ret)
 .skip))
 (.seq (.seq (.region [o 23 (.off 1 (.b 6)),
 o 24 (.ld 1 false (.t 23)),
 o 25 (.mv (.t 2)),
 o 26 (.bin .add 3 false false (.t 24) (.t 25)),
 o 27 (.mv (.t 3)),
 o 28 (.mv (.t 4)),
 o 29 (.bin .add 3 false false (.t 27) (.t 28)),
 o 30 (.bin .lss 3 false false (.t 26) (.t 29))])
 (.cond (.t 30)
 (.seq (.region [o 31 (.mv (.t 0)),
 o 32 (.call 158 [(.t 31), (.k (.im (.sc (.int .i64 24))))])])
 (.seq (.region [o 33 (.ld 5 true (.b 6)),
 e (.st 5 (.b 10) (.t 33))])
 .ret))
 .skip))
 (.seq (.region [o 34 (.mv (.t 0)),
 o 35 (.off 1 (.b 6)),
 o 36 (.ld 1 false (.t 35)),
 o 37 (.mv (.t 2)),
 o 38 (.bin .add 3 false false (.t 36) (.t 37)),
 o 39 (.call 159 [(.t 34), (.t 38)]),
 e (.st 5 (.b 10) (.t 39))])
 .ret)))
 .skip))
 (.seq (.region [o 11 (.mv (.k (.im (.sl [] .nil))))])
 (.seq (.seq (.region [o 12 (.mv (.k (.im (.sc (.int .i64 0)))))])
 (.block 0 (.loop [0, 2, 3, 4, 11, 12] [6, 10] (.seq (.seq (.region [o 40 (.mv (.t 12)),
 o 41 (.off 4 (.b 6)),
 o 42 (.ld 1 false (.t 41)),
 o 43 (.len .sl (.t 42)),
 o 44 (.bin .lss 3 false false (.t 40) (.t 43))])
 (.cond (.t 44)
 .skip
 (.exit 0)))
 (.seq (.block 1 (.draw [o 47 (.mv (.t 11)),
 o 48 (.mv (.t 0)),
 o 49 (.off 4 (.b 6)),
 o 50 (.ld 1 false (.t 49)),
 o 51 (.mv (.t 12)),
 o 52 (.idxA 5 none (.t 50) (.t 51)),
 o 53 (.ld 5 true (.t 52)),
 o 54 (.mv (.t 2)),
 o 55 (.mv (.t 3)),
 o 56 (.mv (.t 4)),
 o 57 (.off 0 (.b 6)),
 o 58 (.ld 1 false (.t 57)),
 o 59 (.mv (.t 12)),
 o 60 (.call 105 [(.t 58), (.t 59)]),
 o 61 (.bin .add 3 false false (.t 56) (.t 60)),
 o 62 (.call 106 [(.t 48), (.t 53), (.t 54), (.t 55), (.t 61)]),
 o 63 (.mkS 5 1 [(.im (.sc (.int .i64 0))), (.im (.sc (.int .i64 0))), (.im (.sc (.string ⟨#[]⟩))), (.im (.sl [] .nil)), (.im (.sl [] .nil))] [(0, (.t 62))]),
 o 64 (.append 5 false (.t 47) (.t 63)),
 o 11 (.mv (.t 64))] [0, 1, 3, 3, 15, 3, 3, 127, 255, 511, 1023, 1023, 4095, 1023, 511, 1, 1, 0, 0]))
 (.region [o 45 (.mv (.t 12)),
 o 46 (.bin .add 3 false true (.t 45) (.k (.im (.sc (.int .i64 1))))),
 o 12 (.mv (.t 46))]))))))
 (.seq (.region [o 65 (.mv (.t 11)),
 o 66 (.off 4 (.b 6)),
 e (.st 1 (.t 66) (.t 65))])
 (.seq (.region [o 67 (.ld 5 true (.b 6)),
 e (.st 5 (.b 10) (.t 67))])
 .ret)))))) }
def b106 : List Nat := [6, 10]

def f107 : IFunc :=
 { np := 2, res := [], body :=
 (.seq (.region [o 4 (.mv (.t 2)),
 o 5 (.isnil .ifc true (.t 4))])
 (.cond (.t 5)
 (.region [o 6 (.build [(.im (.sc (.int .i64 0))), (.im (.sc (.int .i64 0))), (.im (.sc (.string ⟨#[]⟩))), (.im (.sl [] .nil)), (.im (.sl [] .nil))] []),
 o 7 (.mv (.t 2)),
 o 8 (.call 108 [(.t 7)]),
 e (.st 5 (.t 0) (.t 6)),
 e (.st 1 (.t 1) (.t 8))])
 .skip)), rcv := some (3, [o 2 (.mv (.t 3))]) }
def b107 : List Nat := []

def f109 : IFunc :=
 { np := 1, res := [.tmp 2], body :=
 (.seq (.region [o 1 (.hbox (.t 0)),
 o 2 (.mv (.k (.im (.sc .nilFunc))))])
 (.seq (.region [o 8 (.mkmap),
 o 9 (.mkmap),
 o 3 (.halloc [(.im (.sc (.map none)))]),
 o 4 (.halloc [(.im (.sc (.map none)))]),
 e (.st 1 (.t 3) (.t 8)),
 e (.st 1 (.t 4) (.t 9))])
 (.seq (.region [o 5 (.halloc [(.im (.sc (.int .i64 0)))]),
 e (.st 1 (.t 5) (.k (.im (.sc (.int .i64 0)))))])
 (.seq (.region [o 6 (.halloc [(.im (.sc .nilFunc))])])
 (.seq (.region [o 10 (.mkfn (.func 160) [] [(.t 3), (.t 4), (.t 6), (.t 1)] [true, true, false, true]),
 o 7 (.halloc [(.im (.sc .nilFunc))]),
 e (.st 1 (.t 7) (.t 10))])
 (.seq (.region [o 11 (.mkfn (.func 162) [] [(.t 5), (.t 1), (.t 7), (.t 6)] [false, true, true, false]),
 e (.st 1 (.t 6) (.t 11))])
 (.seq (.region [o 12 (.ld 1 false (.t 6)),
 o 2 (.mv (.t 12))])
 .ret))))))) }
def b109 : List Nat := []

def f110 : IFunc :=
 { np := 3, res := [.cell 6 5 true], body :=
 (.seq (.region [o 5 (.lbox (.t 2)),
 o 6 (.lalloc [(.im (.sc (.int .i64 0))), (.im (.sc (.int .i64 0))), (.im (.sc (.string ⟨#[]⟩))), (.im (.sl [] .nil)), (.im (.sl [] .nil))])])
 (.seq (.seq (.region [o 16 (.mv (.t 0)),
 o 17 (.nilc (.t 16)),
 o 18 (.off 3 (.t 17)),
 o 19 (.ld 1 false (.t 18)),
 o 20 (.bin .add 3 false true (.t 19) (.k (.im (.sc (.int .i64 1))))),
 o 21 (.nilc (.t 16)),
 o 22 (.off 3 (.t 21)),
 e (.st 1 (.t 22) (.t 20))])
 (.seq (.region [o 23 (.mv (.t 0)),
 o 24 (.nilc (.t 23)),
 o 25 (.off 3 (.t 24)),
 o 26 (.ld 1 false (.t 25)),
 o 27 (.bin .gtr 3 false true (.t 26) (.k (.im (.sc (.int .i64 8192000)))))])
 (.cond (.t 27)
 (.region [o 28 (.call 161 [(.k (.im (.sc (.int .i64 11))))])])
 .skip)))
 (.seq (.seq (.region [o 29 (.off 0 (.b 5)),
 o 30 (.ld 1 false (.t 29))])
 (.block 0 (.seq (.region [o 32 (.bin .eql 3 false true (.t 30) (.k (.im (.sc (.int .i64 0))))),
 o 31 (.mv (.t 32))])
 (.cond (.t 31)
 (.seq (.region [o 34 (.mv (.t 1)),
 o 35 (.off 1 (.b 5)),
 o 36 (.ld 1 false (.t 35)),
 o 37 (.call 166 [(.t 34), (.t 36)]),
 o 33 (.mv (.t 37)),
 o 38 (.extract (.t 33) 0),
 o 39 (.extract (.t 33) 1),
 o 7 (.lalloc [(.im (.sc (.int .i64 0))), (.im (.sc (.int .i64 0))), (.im (.sc (.string ⟨#[]⟩))), (.im (.sl [] .nil)), (.im (.sl [] .nil))]),
 e (.st 5 (.b 7) (.t 38)),
 o 8 (.mv (.t 39))])
 (.seq (.seq (.region [o 40 (.mv (.t 8)),
 o 41 (.bin .neq 39 false true (.t 40) (.k (.im (.sc (.int .i64 0)))))])
 (.cond (.t 41)
 (.region [o 42 (.mv (.t 8)),
 o 43 (.call 161 [(.t 42)])])
 .skip))
 (.seq (.draw [o 44 (.mv (.t 0)),
 o 45 (.nilc (.t 44)),
 o 46 (.off 2 (.t 45)),
 o 47 (.ld 1 false (.t 46)),
 o 48 (.ld 5 true (.b 7)),
 o 49 (.calld (.t 47) [(.t 48)]),
 e (.st 5 (.b 6) (.t 49))] [0, 0, 0, 0, 15, 0, 0])
 .ret)))
 (.seq (.region [o 51 (.bin .eql 3 false true (.t 30) (.k (.im (.sc (.int .i64 1))))),
 o 50 (.mv (.t 51))])
 (.cond (.t 50)
 (.seq (.region [o 52 (.build [(.im (.sc (.int .i64 0))), (.im (.sl [] .nil))] []),
 o 53 (.mkS 2 1 [(.im (.sc (.int .i64 0))), (.im (.sl [] .nil))] [(0, (.t 52))]),
 o 54 (.build [(.im (.sc (.int .i64 0))), (.im (.sc (.int .i64 0))), (.im (.sc (.string ⟨#[]⟩))), (.im (.sl [] .nil)), (.im (.sl [] .nil))] [(0, 1, (.k (.im (.sc (.int .i64 2))))), (3, 1, (.t 53))]),
 e (.st 5 (.b 6) (.t 54))])
 .ret)
 (.seq (.region [o 56 (.bin .eql 3 false true (.t 30) (.k (.im (.sc (.int .i64 2))))),
 o 55 (.mv (.t 56))])
 (.cond (.t 55)
 (.seq (.region [o 58 (.off 3 (.b 5)),
 o 59 (.ld 1 false (.t 58)),
 o 60 (.idxA 2 none (.t 59) (.k (.im (.sc (.int .i64 0))))),
 o 61 (.ld 2 true (.t 60)),
 o 62 (.call 167 [(.t 61), (.k (.im (.sc (.int .i64 1))))]),
 o 57 (.mv (.t 62)),
 o 63 (.extract (.t 57) 0),
 o 64 (.extract (.t 57) 1),
 o 9 (.lalloc [(.im (.sc (.int .i64 0))), (.im (.sl [] .nil))]),
 e (.st 2 (.b 9) (.t 63)),
 o 10 (.mv (.t 64))])
 (.seq (.seq (.region [o 65 (.mv (.t 10)),
 o 66 (.bin .neq 39 false true (.t 65) (.k (.im (.sc (.int .i64 0)))))])
 (.cond (.t 66)
 (.region [o 67 (.mv (.t 10)),
 o 68 (.call 161 [(.t 67)])])
 .skip))
 (.seq (.region [o 69 (.ld 2 true (.b 9)),
 o 70 (.mkS 2 1 [(.im (.sc (.int .i64 0))), (.im (.sl [] .nil))] [(0, (.t 69))]),
 o 71 (.build [(.im (.sc (.int .i64 0))), (.im (.sc (.int .i64 0))), (.im (.sc (.string ⟨#[]⟩))), (.im (.sl [] .nil)), (.im (.sl [] .nil))] [(0, 1, (.k (.im (.sc (.int .i64 2))))), (3, 1, (.t 70))]),
 e (.st 5 (.b 6) (.t 71))])
 .ret)))
 (.seq (.region [o 73 (.bin .eql 3 false true (.t 30) (.k (.im (.sc (.int .i64 3))))),
 o 72 (.mv (.t 73))])
 (.cond (.t 72)
 (.seq (.draw [o 75 (.mv (.t 0)),
 o 76 (.nilc (.t 75)),
 o 77 (.off 0 (.t 76)),
 o 78 (.ld 1 false (.t 77)),
 o 79 (.off 2 (.b 5)),
 o 80 (.ld 1 false (.t 79)),
 o 81 (.off 3 (.b 5)),
 o 82 (.ld 1 false (.t 81)),
 o 83 (.call 168 [(.t 78), (.t 80), (.t 82)]),
 o 74 (.mv (.t 83)),
 o 84 (.extract (.t 74) 0),
 o 85 (.extract (.t 74) 1),
 o 11 (.lalloc [(.im (.sc (.int .i64 0))), (.im (.sc (.int .i64 0))), (.im (.sc (.string ⟨#[]⟩))), (.im (.sl [] .nil)), (.im (.sl [] .nil))]),
 e (.st 5 (.b 11) (.t 84)),
 o 12 (.mv (.t 85))] [0, 0, 0, 0, 15, 15, 63, 63, 0, 0, 0, 1024, 4095, 2048, 0])
 (.seq (.seq (.region [o 86 (.mv (.t 12)),
 o 87 (.bin .neq 39 false true (.t 86) (.k (.im (.sc (.int .i64 0)))))])
 (.cond (.t 87)
 (.region [o 88 (.mv (.t 12)),
 o 89 (.call 161 [(.t 88)])])
 .skip))
 (.seq (.region [o 90 (.ld 5 true (.b 11)),
 e (.st 5 (.b 6) (.t 90))])
 .ret)))
 (.seq (.region [o 92 (.bin .eql 3 false true (.t 30) (.k (.im (.sc (.int .i64 4))))),
 o 91 (.mv (.t 92))])
 (.cond (.t 91)
 (.seq (.region [o 93 (.mv (.t 0)),
 o 94 (.mv (.t 0)),
 o 95 (.mv (.t 1)),
 o 96 (.off 4 (.b 5)),
 o 97 (.ld 1 false (.t 96)),
 o 98 (.idxA 5 none (.t 97) (.k (.im (.sc (.int .i64 0))))),
 o 99 (.ld 5 true (.t 98)),
 o 100 (.call 110 [(.t 94), (.t 95), (.t 99)]),
 o 101 (.mkS 1 1 [(.im (.sc (.int .i64 0)))] [(0, (.k (.im (.sc (.int .i64 6)))))]),
 o 102 (.call 169 [(.t 93), (.t 100), (.k (.im (.sc (.int .i64 13)))), (.t 101)]),
 o 13 (.lalloc [(.im (.sc (.int .i64 0))), (.im (.sc (.int .i64 0))), (.im (.sc (.string ⟨#[]⟩))), (.im (.sl [] .nil)), (.im (.sl [] .nil))]),
 e (.st 5 (.b 13) (.t 102))])
 (.seq (.draw [o 103 (.off 4 (.b 13)),
 o 104 (.ld 1 false (.t 103)),
 o 105 (.idxA 5 none (.t 104) (.k (.im (.sc (.int .i64 1))))),
 o 106 (.ld 5 true (.t 105)),
 o 107 (.off 4 (.b 5)),
 o 108 (.ld 1 false (.t 107)),
 o 109 (.slc 24 5 (.t 108) (some (.k (.im (.sc (.int .i64 1))))) (some (.k (.im (.sc (.int .i64 2))))) none),
 o 110 (.call 165 [(.t 106), (.t 109)]),
 o 111 (.extract (.t 110) 0),
 o 112 (.extract (.t 110) 1),
 o 113 (.call 164 [(.t 111), (.t 112)]),
 e (.st 5 (.b 6) (.t 113))] [0, 0, 0, 0, 15, 15, 15, 0, 0, 256, 0, 0])
 .ret))
 (.seq (.region [o 115 (.bin .eql 3 false true (.t 30) (.k (.im (.sc (.int .i64 5))))),
 o 114 (.mv (.t 115))])
 (.cond (.t 114)
 (.seq (.draw [o 116 (.mv (.t 0)),
 o 117 (.mv (.t 1)),
 o 118 (.off 4 (.b 5)),
 o 119 (.ld 1 false (.t 118)),
 o 120 (.idxA 5 none (.t 119) (.k (.im (.sc (.int .i64 0))))),
 o 121 (.ld 5 true (.t 120)),
 o 122 (.call 170 [(.t 117), (.t 121)]),
 o 123 (.off 4 (.b 5)),
 o 124 (.ld 1 false (.t 123)),
 o 125 (.idxA 5 none (.t 124) (.k (.im (.sc (.int .i64 1))))),
 o 126 (.ld 5 true (.t 125)),
 o 127 (.call 110 [(.t 116), (.t 122), (.t 126)]),
 o 14 (.lalloc [(.im (.sc (.int .i64 0))), (.im (.sc (.int .i64 0))), (.im (.sc (.string ⟨#[]⟩))), (.im (.sl [] .nil)), (.im (.sl [] .nil))]),
 e (.st 5 (.b 14) (.t 127))] [0, 1, 3, 3, 3, 3, 1, 127, 127, 127, 127, 0, 4095, 0])
 (.seq (.draw [o 128 (.off 4 (.b 5)),
 o 129 (.ld 1 false (.t 128)),
 o 130 (.idxA 5 none (.t 129) (.k (.im (.sc (.int .i64 0))))),
 o 131 (.ld 5 true (.t 130)),
 o 132 (.ld 5 true (.b 14)),
 o 133 (.mkS 5 2 [(.im (.sc (.int .i64 0))), (.im (.sc (.int .i64 0))), (.im (.sc (.string ⟨#[]⟩))), (.im (.sl [] .nil)), (.im (.sl [] .nil))] [(0, (.t 131)), (1, (.t 132))]),
 o 134 (.build [(.im (.sc (.int .i64 0))), (.im (.sc (.int .i64 0))), (.im (.sc (.string ⟨#[]⟩))), (.im (.sl [] .nil)), (.im (.sl [] .nil))] [(0, 1, (.k (.im (.sc (.int .i64 6))))), (4, 1, (.t 133))]),
 o 135 (.call 164 [(.t 134), (.k (.im (.sc (.int .i64 0))))]),
 e (.st 5 (.b 6) (.t 135))] [0, 0, 0, 0, 15, 0, 0, 0, 0])
 .ret))
 (.seq (.seq (.region [o 137 (.bin .eql 3 false true (.t 30) (.k (.im (.sc (.int .i64 6))))),
 o 136 (.mv (.t 137))])
 (.cond (.t 136)
 .skip
 (.region [o 138 (.bin .eql 3 false true (.t 30) (.k (.im (.sc (.int .i64 7))))),
 o 136 (.mv (.t 138))])))
 (.cond (.t 136)
 (.seq (.region [o 139 (.mv (.t 0)),
 o 140 (.mv (.t 1)),
 o 141 (.ld 5 true (.b 5)),
 o 142 (.call 171 [(.t 139), (.t 140), (.t 141)]),
 e (.st 5 (.b 6) (.t 142))])
 .ret)
 (.seq (.region [o 144 (.bin .eql 3 false true (.t 30) (.k (.im (.sc (.int .i64 8))))),
 o 143 (.mv (.t 144))])
 (.cond (.t 143)
 (.seq (.region [o 145 (.off 4 (.b 5)),
 o 146 (.ld 1 false (.t 145)),
 o 147 (.idxA 5 none (.t 146) (.k (.im (.sc (.int .i64 0))))),
 o 148 (.ld 5 true (.t 147)),
 e (.st 5 (.b 6) (.t 148))])
 .ret)
 (.seq (.region [o 150 (.bin .eql 3 false true (.t 30) (.k (.im (.sc (.int .i64 9))))),
 o 149 (.mv (.t 150))])
 (.cond (.t 149)
 (.seq (.region [o 151 (.mv (.t 0)),
 o 152 (.mv (.t 0)),
 o 153 (.mv (.t 1)),
 o 154 (.off 4 (.b 5)),
 o 155 (.ld 1 false (.t 154)),
 o 156 (.idxA 5 none (.t 155) (.k (.im (.sc (.int .i64 0))))),
 o 157 (.ld 5 true (.t 156)),
 o 158 (.call 110 [(.t 152), (.t 153), (.t 157)]),
 o 159 (.mkS 1 1 [(.im (.sc (.int .i64 0)))] [(0, (.k (.im (.sc (.int .i64 7)))))]),
 o 160 (.call 169 [(.t 151), (.t 158), (.k (.im (.sc (.int .i64 14)))), (.t 159)]),
 o 161 (.fld 4 1 false (.t 160)),
 o 162 (.idxA 5 none (.t 161) (.k (.im (.sc (.int .i64 0))))),
 o 163 (.ld 5 true (.t 162)),
 e (.st 5 (.b 6) (.t 163))])
 .ret)
 (.seq (.region [o 165 (.bin .eql 3 false true (.t 30) (.k (.im (.sc (.int .i64 10))))),
 o 164 (.mv (.t 165))])
 (.cond (.t 164)
 (.seq (.region [o 166 (.mv (.t 0)),
 o 167 (.mv (.t 0)),
 o 168 (.mv (.t 1)),
 o 169 (.off 4 (.b 5)),
 o 170 (.ld 1 false (.t 169)),
 o 171 (.idxA 5 none (.t 170) (.k (.im (.sc (.int .i64 0))))),
 o 172 (.ld 5 true (.t 171)),
 o 173 (.call 110 [(.t 167), (.t 168), (.t 172)]),
 o 174 (.mkS 1 1 [(.im (.sc (.int .i64 0)))] [(0, (.k (.im (.sc (.int .i64 7)))))]),
 o 175 (.call 169 [(.t 166), (.t 173), (.k (.im (.sc (.int .i64 14)))), (.t 174)]),
 o 15 (.lalloc [(.im (.sc (.int .i64 0))), (.im (.sc (.int .i64 0))), (.im (.sc (.string ⟨#[]⟩))), (.im (.sl [] .nil)), (.im (.sl [] .nil))]),
 e (.st 5 (.b 15) (.t 175))])
 (.seq (.draw [o 176 (.off 4 (.b 15)),
 o 177 (.ld 1 false (.t 176)),
 o 178 (.idxA 5 none (.t 177) (.k (.im (.sc (.int .i64 1))))),
 o 179 (.ld 5 true (.t 178)),
 o 180 (.off 4 (.b 5)),
 o 181 (.ld 1 false (.t 180)),
 o 182 (.build [(.im (.sc (.int .i64 0))), (.im (.sc (.int .i64 0))), (.im (.sc (.string ⟨#[]⟩))), (.im (.sl [] .nil)), (.im (.sl [] .nil))] [(0, 1, (.k (.im (.sc (.int .i64 9))))), (4, 1, (.t 181))]),
 o 183 (.mkS 5 1 [(.im (.sc (.int .i64 0))), (.im (.sc (.int .i64 0))), (.im (.sc (.string ⟨#[]⟩))), (.im (.sl [] .nil)), (.im (.sl [] .nil))] [(0, (.t 182))]),
 o 184 (.call 165 [(.t 179), (.t 183)]),
 o 185 (.extract (.t 184) 0),
 o 186 (.extract (.t 184) 1),
 o 187 (.call 164 [(.t 185), (.t 186)]),
 e (.st 5 (.b 6) (.t 187))] [0, 0, 0, 0, 15, 15, 15, 15, 0, 0, 512, 0, 0])
 .ret))
 (.seq (.region [o 189 (.bin .eql 3 false true (.t 30) (.k (.im (.sc (.int .i64 11))))),
 o 188 (.mv (.t 189))])
 (.cond (.t 188)
 (.seq (.draw [o 190 (.mv (.t 0)),
 o 191 (.mv (.t 1)),
 o 192 (.off 4 (.b 5)),
 o 193 (.ld 1 false (.t 192)),
 o 194 (.idxA 5 none (.t 193) (.k (.im (.sc (.int .i64 2))))),
 o 195 (.ld 5 true (.t 194)),
 o 196 (.off 4 (.b 5)),
 o 197 (.ld 1 false (.t 196)),
 o 198 (.slc 24 5 (.t 197) (some (.k (.im (.sc (.int .i64 1))))) (some (.k (.im (.sc (.int .i64 2))))) none),
 o 199 (.call 165 [(.t 195), (.t 198)]),
 o 200 (.extract (.t 199) 0),
 o 201 (.extract (.t 199) 1),
 o 202 (.call 164 [(.t 200), (.t 201)]),
 o 203 (.call 110 [(.t 190), (.t 191), (.t 202)]),
 e (.st 5 (.b 6) (.t 203))] [0, 1, 3, 3, 3, 3, 63, 63, 63, 3, 3, 1027, 3, 0, 0])
 .ret)
 .skip))))))))))))))))))))))))
 (.seq (.seq (.draw [o 204 (.off 1 (.b 5)),
 o 205 (.ld 1 false (.t 204)),
 o 206 (.bin .lss 3 false true (.t 205) (.k (.im (.sc (.int .i64 0))))),
 o 207 (.mv (.t 206)),
 ⟨(some 208), .off 1 (.b 5), (some (207, false))⟩,
 ⟨(some 209), .ld 1 false (.t 208), (some (207, false))⟩,
 ⟨(some 210), .mv (.t 0), (some (207, false))⟩,
 ⟨(some 211), .nilc (.t 210), (some (207, false))⟩,
 ⟨(some 212), .off 1 (.t 211), (some (207, false))⟩,
 ⟨(some 213), .ld 1 false (.t 212), (some (207, false))⟩,
 ⟨(some 214), .len .sl (.t 213), (some (207, false))⟩,
 ⟨(some 215), .bin .geq 3 false false (.t 209) (.t 214), (some (207, false))⟩,
 o 216 (.pick (.t 207) (.k (.im (.sc (.bool true)))) (.t 215))] [0, 0, 0, 0, 0, 0, 48, 48, 48, 48, 48, 0, 0])
 (.cond (.t 216)
 (.region [o 217 (.call 161 [(.k (.im (.sc (.int .i64 23))))])])
 .skip))
 (.seq (.draw [o 218 (.mv (.t 0)),
 o 219 (.nilc (.t 218)),
 o 220 (.off 2 (.t 219)),
 o 221 (.ld 1 false (.t 220)),
 o 222 (.mv (.t 0)),
 o 223 (.nilc (.t 222)),
 o 224 (.off 1 (.t 223)),
 o 225 (.ld 1 false (.t 224)),
 o 226 (.off 1 (.b 5)),
 o 227 (.ld 1 false (.t 226)),
 o 228 (.idxA 12 none (.t 225) (.t 227)),
 o 229 (.off 0 (.t 228)),
 o 230 (.ld 5 true (.t 229)),
 o 231 (.calld (.t 221) [(.t 230)]),
 e (.st 5 (.b 6) (.t 231))] [0, 0, 0, 0, 15, 15, 15, 15, 255, 255, 15, 15, 15, 0, 0])
 .ret))))) }
def b110 : List Nat := [5, 6, 7, 9, 11, 13, 14, 15]

def f111 : IFunc :=
 { np := 2, res := [], body :=
 (.seq (.region [o 4 (.mv (.t 2)),
 o 5 (.isnil .ifc true (.t 4))])
 (.cond (.t 5)
 (.region [o 6 (.build [(.im (.sl [] .nil)), (.im (.sl [] .nil)), (.im (.sl [] .nil)), (.im (.sc (.int .i64 0)))] []),
 o 7 (.mv (.t 2)),
 o 8 (.call 112 [(.t 7)]),
 e (.st 4 (.t 0) (.t 6)),
 e (.st 1 (.t 1) (.t 8))])
 .skip)), rcv := some (3, [o 2 (.mv (.t 3))]) }
def b111 : List Nat := []

def f112 : IFunc :=
 { np := 1, res := [.tmp 2], body :=
 (.seq (.region [o 2 (.mv (.k (.im (.sc (.int .i64 0)))))])
 (.seq (.seq (.region [o 6 (.mv (.t 0)),
 o 7 (.tass 241 [(.im (.sc (.int .i64 0)))] false true (.t 6)),
 o 5 (.mv (.t 7)),
 o 8 (.extract (.t 5) 0),
 o 9 (.extract (.t 5) 1),
 o 3 (.mv (.t 8)),
 o 4 (.mv (.t 9))])
 (.seq (.region [o 10 (.mv (.t 4))])
 (.cond (.t 10)
 (.seq (.region [o 11 (.mv (.t 3)),
 o 2 (.mv (.t 11))])
 .ret)
 .skip)))
 (.seq (.region [o 2 (.mv (.k (.im (.sc (.int .i64 3)))))])
 .ret))) }
def b112 : List Nat := []

def f113 : IFunc :=
 { np := 1, res := [.tmp 2], body :=
 (.seq (.region [o 2 (.mv (.k (.im (.sl [] .nil))))])
 (.seq (.seq (.region [o 3 (.mv (.t 0)),
 o 4 (.isnil .sl false (.t 3))])
 (.cond (.t 4)
 (.seq (.region [o 2 (.mv (.k (.im (.sl [] .nil))))])
 .ret)
 .skip))
 (.seq (.region [o 5 (.mkS 12 0 [(.im (.sl [] .nil)), (.im (.sc (.int .i64 0))), (.im (.sc (.int .i64 0))), (.im (.sc (.string ⟨#[]⟩))), (.im (.sl [] .nil)), (.im (.sl [] .nil)), (.im (.sc (.int .i64 0))), (.im (.sc (.int .i64 0))), (.im (.sc (.string ⟨#[]⟩))), (.im (.sl [] .nil)), (.im (.sl [] .nil)), (.im (.sc (.bool false)))] []),
 o 6 (.mv (.t 0)),
 o 7 (.append 12 false (.t 5) (.t 6)),
 o 2 (.mv (.t 7))])
 .ret))) }
def b113 : List Nat := []

def f114 : IFunc :=
 { np := 1, res := [.tmp 2], body :=
 (.seq (.region [o 2 (.mv (.k (.im (.sl [] .nil))))])
 (.seq (.seq (.region [o 3 (.mv (.t 0)),
 o 4 (.isnil .sl false (.t 3))])
 (.cond (.t 4)
 (.seq (.region [o 2 (.mv (.k (.im (.sl [] .nil))))])
 .ret)
 .skip))
 (.seq (.region [o 5 (.mkS 4 0 [(.im (.sc (.int .i64 0))), (.im (.sl [] .nil)), (.im (.sc (.int .i64 0))), (.im (.sl [] .nil))] []),
 o 6 (.mv (.t 0)),
 o 7 (.append 4 false (.t 5) (.t 6)),
 o 2 (.mv (.t 7))])
 .ret))) }
def b114 : List Nat := []

def f115 : IFunc :=
 { np := 1, res := [], body :=
 (.seq (.region [o 8 (.mv (.t 0)),
 o 9 (.call 172 [(.t 8)]),
 o 2 (.mv (.t 9))])
 (.seq .skip
 (.seq (.region [o 3 (.mv (.k (.im (.sc (.int .i64 0)))))])
 (.block 0 (.loop [0, 2, 3] [] (.seq (.seq (.region [o 10 (.mv (.t 0)),
 o 11 (.nilc (.t 10)),
 o 12 (.off 5 (.t 11)),
 o 13 (.ld 1 false (.t 12)),
 o 14 (.len .sl (.t 13)),
 o 15 (.bin .gtr 3 false true (.t 14) (.k (.im (.sc (.int .i64 0)))))])
 (.cond (.t 15)
 .skip
 (.exit 0)))
 (.seq (.block 1 (.seq (.seq (.region [o 18 (.mv (.t 3)),
 o 19 (.bin .gtr 3 false true (.t 18) (.k (.im (.sc (.int .i64 50000)))))])
 (.cond (.t 19)
 (.region [o 20 (.call 173 [(.k (.im (.sc (.int .i64 11))))])])
 .skip))
 (.seq (.region [o 21 (.mv (.t 0)),
 o 22 (.nilc (.t 21)),
 o 23 (.off 5 (.t 22)),
 o 24 (.ld 1 false (.t 23)),
 o 25 (.len .sl (.t 24)),
 o 26 (.bin .sub 3 false true (.t 25) (.k (.im (.sc (.int .i64 1))))),
 o 4 (.mv (.t 26))])
 (.seq (.region [o 27 (.mv (.t 0)),
 o 28 (.nilc (.t 27)),
 o 29 (.off 5 (.t 28)),
 o 30 (.ld 1 false (.t 29)),
 o 31 (.mv (.t 4)),
 o 32 (.idxA 12 none (.t 30) (.t 31)),
 o 33 (.ld 12 true (.t 32)),
 o 5 (.lalloc [(.im (.sl [] .nil)), (.im (.sc (.int .i64 0))), (.im (.sc (.int .i64 0))), (.im (.sc (.string ⟨#[]⟩))), (.im (.sl [] .nil)), (.im (.sl [] .nil)), (.im (.sc (.int .i64 0))), (.im (.sc (.int .i64 0))), (.im (.sc (.string ⟨#[]⟩))), (.im (.sl [] .nil)), (.im (.sl [] .nil)), (.im (.sc (.bool false)))]),
 e (.st 12 (.b 5) (.t 33))])
 (.seq (.region [o 34 (.mv (.t 0)),
 o 35 (.mv (.t 0)),
 o 36 (.nilc (.t 35)),
 o 37 (.off 5 (.t 36)),
 o 38 (.ld 1 false (.t 37)),
 o 39 (.mv (.t 4)),
 o 40 (.slc 32 12 (.t 38) none (some (.t 39)) none),
 o 41 (.nilc (.t 34)),
 o 42 (.off 5 (.t 41)),
 e (.st 1 (.t 42) (.t 40))])
 (.seq (.region [o 43 (.mv (.t 0)),
 o 44 (.off 1 (.b 5)),
 o 45 (.ld 5 true (.t 44)),
 o 46 (.call 174 [(.t 43), (.t 45)]),
 o 47 (.off 1 (.b 5)),
 e (.st 5 (.t 47) (.t 46))])
 (.seq (.region [o 48 (.mv (.t 0)),
 o 49 (.off 6 (.b 5)),
 o 50 (.ld 5 true (.t 49)),
 o 51 (.call 174 [(.t 48), (.t 50)]),
 o 52 (.off 6 (.b 5)),
 e (.st 5 (.t 52) (.t 51))])
 (.seq (.seq (.region [o 53 (.mv (.t 2)),
 o 54 (.len .sl (.t 53)),
 o 55 (.mv (.k (.im (.sc (.int .i64 0)))))])
 (.block 2 (.loop [0, 2, 3, 4, 10, 11, 12, 13, 14, 15, 18, 19, 21, 22, 23, 24, 25, 26, 27, 28, 29, 30, 31, 32, 33, 34, 35, 36, 37, 38, 39, 40, 41, 42, 43, 44, 45, 46, 47, 48, 49, 50, 51, 52, 53, 54, 55] [5] (.seq (.region [o 56 (.bin .lss 3 false false (.t 55) (.t 54))])
 (.seq (.cond (.t 56)
 .skip
 (.exit 2))
 (.seq (.block 3 (.seq (.region [o 57 (.idxA 1 none (.t 53) (.t 55)),
 o 58 (.ld 1 false (.t 57)),
 o 7 (.mv (.t 58))])
 (.seq (.region [o 59 (.mv (.t 7)),
 o 60 (.ld 12 true (.b 5)),
 o 61 (.calld (.t 59) [(.t 60)])])
 (.block 4 (.seq (.region [o 63 (.bin .eql 246 false true (.t 61) (.k (.im (.sc (.int .i64 1))))),
 o 62 (.mv (.t 63))])
 (.cond (.t 62)
 (.exit 1)
 (.seq (.region [o 65 (.bin .eql 246 false true (.t 61) (.k (.im (.sc (.int .i64 2))))),
 o 64 (.mv (.t 65))])
 (.cond (.t 64)
 (.seq (.draw [o 66 (.mv (.t 0)),
 o 67 (.mv (.t 0)),
 o 68 (.nilc (.t 67)),
 o 69 (.off 1 (.t 68)),
 o 70 (.off 1 (.t 69)),
 o 71 (.ld 1 false (.t 70)),
 o 72 (.ld 12 true (.b 5)),
 o 73 (.mkS 12 1 [(.im (.sl [] .nil)), (.im (.sc (.int .i64 0))), (.im (.sc (.int .i64 0))), (.im (.sc (.string ⟨#[]⟩))), (.im (.sl [] .nil)), (.im (.sl [] .nil)), (.im (.sc (.int .i64 0))), (.im (.sc (.int .i64 0))), (.im (.sc (.string ⟨#[]⟩))), (.im (.sl [] .nil)), (.im (.sl [] .nil)), (.im (.sc (.bool false)))] [(0, (.t 72))]),
 o 74 (.append 12 false (.t 71) (.t 73)),
 o 75 (.nilc (.t 66)),
 o 76 (.off 1 (.t 75)),
 o 77 (.off 1 (.t 76)),
 e (.st 1 (.t 77) (.t 74))] [0, 1, 1, 1, 1, 1, 63, 63, 1, 0, 0, 0, 0])
 (.exit 1))
 .skip))))))))
 (.region [o 78 (.bin .add 3 false true (.t 55) (.k (.im (.sc (.int .i64 1))))),
 o 55 (.mv (.t 78))])))))))
 (.region [o 79 (.call 173 [(.k (.im (.sc (.int .i64 10))))])])))))))))
 (.region [o 16 (.mv (.t 3)),
 o 17 (.bin .add 3 false true (.t 16) (.k (.im (.sc (.int .i64 1))))),
 o 3 (.mv (.t 17))])))))))) }
def b115 : List Nat := [5]

def f116 : IFunc :=
 { np := 2, res := [.tmp 4], body :=
 (.seq (.region [o 2 (.hbox (.t 0)),
 o 3 (.hbox (.t 1)),
 o 4 (.mv (.k (.im (.sc .nilFunc))))])
 (.seq (.region [o 5 (.mkfn (.func 175) [] [(.t 3), (.t 2)] [false, true]),
 o 4 (.mv (.t 5))])
 .ret)) }
def b116 : List Nat := []

def f117 : IFunc :=
 { np := 1, res := [.cell 2 2 true], body :=
 (.seq (.region [o 1 (.lbox (.t 0)),
 o 2 (.lalloc [(.im (.sc (.int .i64 0))), (.im (.sc (.int .i64 0)))])])
 (.seq (.region [o 6 (.off 1 (.b 1)),
 o 7 (.ld 1 false (.t 6)),
 o 8 (.len .sl (.t 7)),
 o 9 (.build [(.im (.sc (.int .i64 0))), (.im (.sc (.int .i64 0)))] [(1, 1, (.t 8))]),
 o 3 (.lalloc [(.im (.sc (.int .i64 0))), (.im (.sc (.int .i64 0)))]),
 e (.st 2 (.b 3) (.t 9))])
 (.seq (.seq (.region [o 10 (.off 0 (.b 1)),
 o 11 (.ld 1 false (.t 10)),
 o 12 (.len .sl (.t 11)),
 o 13 (.mv (.k (.im (.sc (.int .i64 0)))))])
 (.block 0 (.loop [11, 12, 13] [2, 3] (.seq (.region [o 14 (.bin .lss 3 false false (.t 13) (.t 12))])
 (.seq (.cond (.t 14)
 .skip
 (.exit 0))
 (.seq (.block 1 (.seq (.region [o 15 (.idxA 12 none (.t 11) (.t 13)),
 o 16 (.ld 12 true (.t 15)),
 o 5 (.lalloc [(.im (.sc (.int .i64 0))), (.im (.sc (.int .i64 0))), (.im (.sc (.string ⟨#[]⟩))), (.im (.sl [] .nil)), (.im (.sl [] .nil)), (.im (.sc (.bool false))), (.im (.sc (.int .i64 0))), (.im (.sc (.int .i64 0))), (.im (.sc (.string ⟨#[]⟩))), (.im (.sl [] .nil)), (.im (.sl [] .nil)), (.im (.sc (.bool false)))]),
 e (.st 12 (.b 5) (.t 16))])
 (.seq (.region [o 17 (.off 5 (.b 5)),
 o 18 (.ld 1 false (.t 17))])
 (.cond (.t 18)
 (.region [o 19 (.off 0 (.b 3)),
 o 20 (.ld 1 false (.t 19)),
 o 21 (.bin .add 3 false true (.t 20) (.k (.im (.sc (.int .i64 1))))),
 o 22 (.off 0 (.b 3)),
 e (.st 1 (.t 22) (.t 21))])
 .skip))))
 (.region [o 23 (.bin .add 3 false true (.t 13) (.k (.im (.sc (.int .i64 1))))),
 o 13 (.mv (.t 23))])))))))
 (.seq (.region [o 24 (.ld 2 true (.b 3)),
 e (.st 2 (.b 2) (.t 24))])
 .ret)))) }
def b117 : List Nat := [1, 2, 3, 5]

def f118 : IFunc :=
 { np := 3, res := [.tmp 6], body :=
 (.seq (.region [o 6 (.mv (.k (.im (.sc (.bool false)))))])
 (.seq (.seq (.region [o 10 (.mv (.t 0)),
 o 11 (.len .sl (.t 10)),
 o 12 (.mv (.t 1)),
 o 13 (.len .sl (.t 12)),
 o 14 (.bin .neq 3 false false (.t 11) (.t 13))])
 (.cond (.t 14)
 (.seq (.region [o 6 (.mv (.k (.im (.sc (.bool false)))))])
 .ret)
 .skip))
 (.seq (.seq (.region [o 15 (.mv (.t 0)),
 o 16 (.len .sl (.t 15)),
 o 17 (.mv (.k (.im (.sc (.int .i64 0)))))])
 (.block 0 (.loop [1, 2, 6, 15, 16, 17] [] (.seq (.region [o 18 (.bin .lss 3 false false (.t 17) (.t 16))])
 (.seq (.cond (.t 18)
 .skip
 (.exit 0))
 (.seq (.block 1 (.seq (.region [o 19 (.mv (.t 17)),
 o 20 (.idxA 12 none (.t 15) (.t 17)),
 o 21 (.ld 12 true (.t 20)),
 o 8 (.lalloc [(.im (.sl [] .nil)), (.im (.sc (.int .i64 0))), (.im (.sc (.int .i64 0))), (.im (.sc (.string ⟨#[]⟩))), (.im (.sl [] .nil)), (.im (.sl [] .nil)), (.im (.sc (.int .i64 0))), (.im (.sc (.int .i64 0))), (.im (.sc (.string ⟨#[]⟩))), (.im (.sl [] .nil)), (.im (.sl [] .nil)), (.im (.sc (.bool false)))]),
 o 7 (.mv (.t 19)),
 e (.st 12 (.b 8) (.t 21))])
 (.seq (.region [o 22 (.mv (.t 1)),
 o 23 (.mv (.t 7)),
 o 24 (.idxA 12 none (.t 22) (.t 23)),
 o 25 (.ld 12 true (.t 24)),
 o 9 (.lalloc [(.im (.sl [] .nil)), (.im (.sc (.int .i64 0))), (.im (.sc (.int .i64 0))), (.im (.sc (.string ⟨#[]⟩))), (.im (.sl [] .nil)), (.im (.sl [] .nil)), (.im (.sc (.int .i64 0))), (.im (.sc (.int .i64 0))), (.im (.sc (.string ⟨#[]⟩))), (.im (.sl [] .nil)), (.im (.sl [] .nil)), (.im (.sc (.bool false)))]),
 e (.st 12 (.b 9) (.t 25))])
 (.seq (.region [o 26 (.mv (.t 2)),
 o 27 (.ld 12 true (.b 8)),
 o 28 (.ld 12 true (.b 9)),
 o 29 (.calld (.t 26) [(.t 27), (.t 28)]),
 o 30 (.un .not (.t 29))])
 (.cond (.t 30)
 (.seq (.region [o 6 (.mv (.k (.im (.sc (.bool false)))))])
 .ret)
 .skip)))))
 (.region [o 31 (.bin .add 3 false true (.t 17) (.k (.im (.sc (.int .i64 1))))),
 o 17 (.mv (.t 31))])))))))
 (.seq (.region [o 6 (.mv (.k (.im (.sc (.bool true)))))])
 .ret)))) }
def b118 : List Nat := [8, 9]

def f120 : IFunc :=
 { np := 1, res := [], body :=
 (.seq (.region [o 3 (.mv (.t 0)),
 o 4 (.len .sl (.t 3)),
 o 2 (.mv (.t 4))])
 (.region [o 5 (.mv (.t 0)),
 o 6 (.mv (.t 2)),
 o 7 (.mv (.t 2)),
 o 8 (.conv 3 250 (.t 7)),
 o 9 (.call 177 [(.t 8)]),
 o 10 (.call 176 [(.t 5), (.k (.im (.sc (.int .i64 0)))), (.t 6), (.t 9)])])) }
def b120 : List Nat := []

def f121 : IFunc :=
 { np := 2, res := [], body :=
 (.seq (.region [o 4 (.mv (.t 2)),
 o 5 (.isnil .ifc true (.t 4))])
 (.cond (.t 5)
 (.region [o 6 (.build [(.im (.sc (.int .i64 0))), (.im (.sc (.int .i64 0))), (.im (.sc (.string ⟨#[]⟩))), (.im (.sl [] .nil)), (.im (.sl [] .nil))] []),
 o 7 (.mv (.t 2)),
 o 8 (.call 108 [(.t 7)]),
 e (.st 5 (.t 0) (.t 6)),
 e (.st 1 (.t 1) (.t 8))])
 .skip)), rcv := some (3, [o 2 (.mv (.t 3))]) }
def b121 : List Nat := []

def f122 : IFunc :=
 { np := 2, res := [.tmp 4], body :=
 (.seq (.region [o 4 (.mv (.k (.im (.sc (.int .i64 0)))))])
 (.seq (.seq (.region [o 6 (.mv (.t 0)),
 o 7 (.len .sl (.t 6)),
 o 8 (.mv (.k (.im (.sc (.int .i64 0)))))])
 (.block 0 (.loop [0, 1, 4, 7, 8] [] (.seq (.region [o 9 (.bin .lss 3 false false (.t 8) (.t 7))])
 (.seq (.cond (.t 9)
 .skip
 (.exit 0))
 (.seq (.block 1 (.seq (.region [o 10 (.mv (.t 8)),
 o 5 (.mv (.t 10))])
 (.seq (.region [o 11 (.mv (.t 1)),
 o 12 (.mv (.t 0)),
 o 13 (.mv (.t 5)),
 o 14 (.idxA 1 none (.t 12) (.t 13)),
 o 15 (.ld 1 false (.t 14)),
 o 16 (.bin .eql 3 false false (.t 11) (.t 15))])
 (.cond (.t 16)
 (.seq (.region [o 17 (.mv (.t 5)),
 o 4 (.mv (.t 17))])
 .ret)
 .skip))))
 (.region [o 18 (.bin .add 3 false true (.t 8) (.k (.im (.sc (.int .i64 1))))),
 o 8 (.mv (.t 18))])))))))
 (.seq (.region [o 4 (.mv (.k (.im (.sc (.int .i64 (-1))))))])
 .ret))) }
def b122 : List Nat := []

def f123 : IFunc :=
 { np := 3, res := [.cell 5 5 true], body :=
 (.seq (.region [o 4 (.hbox (.t 1)),
 o 5 (.lalloc [(.im (.sc (.int .i64 0))), (.im (.sc (.int .i64 0))), (.im (.sc (.string ⟨#[]⟩))), (.im (.sl [] .nil)), (.im (.sl [] .nil))])])
 (.seq (.seq (.region [o 8 (.mv (.t 0)),
 o 9 (.call 124 [(.t 8)])])
 (.block 0 (.rangeFunc (.t 9) [10, 11] [2, 4]
 (.region [o 7 (.lalloc [(.im (.sc (.int .i64 0))), (.im (.sc (.int .i64 0))), (.im (.sc (.string ⟨#[]⟩))), (.im (.sl [] .nil)), (.im (.sl [] .nil))]),
 e (.st 5 (.b 7) (.t 11))])
 (.block 1 (.region [o 12 (.ld 1 false (.t 2)),
 o 13 (.ld 5 true (.b 7)),
 o 14 (.ld 5 true (.t 4)),
 o 15 (.mkS 5 2 [(.im (.sc (.int .i64 0))), (.im (.sc (.int .i64 0))), (.im (.sc (.string ⟨#[]⟩))), (.im (.sl [] .nil)), (.im (.sl [] .nil))] [(0, (.t 13)), (1, (.t 14))]),
 o 16 (.build [(.im (.sc (.int .i64 0))), (.im (.sc (.int .i64 0))), (.im (.sc (.string ⟨#[]⟩))), (.im (.sl [] .nil)), (.im (.sl [] .nil))] [(0, 1, (.t 12)), (4, 1, (.t 15))]),
 e (.st 5 (.t 4) (.t 16))])))))
 (.seq (.region [o 17 (.ld 5 true (.t 4)),
 e (.st 5 (.b 5) (.t 17))])
 .ret))) }
def b123 : List Nat := [5, 7]

def f124 : IFunc :=
 { np := 1, res := [.tmp 2], body :=
 (.seq (.region [o 1 (.hbox (.t 0)),
 o 2 (.mv (.k (.im (.sc .nilFunc))))])
 (.seq (.region [o 3 (.mkfn (.func 178) [] [(.t 1)] [true]),
 o 2 (.mv (.t 3))])
 .ret)) }
def b124 : List Nat := []

def f125 : IFunc :=
 { np := 2, res := [.tmp 4], body :=
 (.seq (.region [o 4 (.mv (.k (.im (.sc (.int .i64 0)))))])
 (.seq (.seq (.region [o 6 (.mv (.t 0)),
 o 7 (.len .sl (.t 6)),
 o 8 (.mv (.k (.im (.sc (.int .i64 0)))))])
 (.block 0 (.loop [0, 1, 4, 7, 8] [] (.seq (.region [o 9 (.bin .lss 3 false false (.t 8) (.t 7))])
 (.seq (.cond (.t 9)
 .skip
 (.exit 0))
 (.seq (.block 1 (.seq (.region [o 10 (.mv (.t 8)),
 o 5 (.mv (.t 10))])
 (.seq (.region [o 11 (.mv (.t 1)),
 o 12 (.mv (.t 0)),
 o 13 (.mv (.t 5)),
 o 14 (.idxA 12 none (.t 12) (.t 13)),
 o 15 (.ld 12 true (.t 14)),
 o 16 (.calld (.t 11) [(.t 15)])])
 (.cond (.t 16)
 (.seq (.region [o 17 (.mv (.t 5)),
 o 4 (.mv (.t 17))])
 .ret)
 .skip))))
 (.region [o 18 (.bin .add 3 false true (.t 8) (.k (.im (.sc (.int .i64 1))))),
 o 8 (.mv (.t 18))])))))))
 (.seq (.region [o 4 (.mv (.k (.im (.sc (.int .i64 (-1))))))])
 .ret))) }
def b125 : List Nat := []

def f127 : IFunc :=
 { np := 2, res := [.tmp 4], body :=
 (.seq (.region [o 4 (.mv (.k (.im (.sc (.bool false)))))])
 (.seq (.region [o 5 (.mv (.t 0)),
 o 6 (.mv (.t 1)),
 o 7 (.call 179 [(.t 5), (.t 6)]),
 o 8 (.bin .geq 3 false true (.t 7) (.k (.im (.sc (.int .i64 0))))),
 o 4 (.mv (.t 8))])
 .ret)) }
def b127 : List Nat := []

def f129 : IFunc :=
 { np := 2, res := [.tmp 4], body :=
 (.seq (.region [o 4 (.mv (.k (.im (.sc (.bool false)))))])
 (.seq (.region [o 5 (.mv (.t 0)),
 o 6 (.mv (.t 1)),
 o 7 (.call 180 [(.t 5), (.t 6)]),
 o 8 (.bin .geq 3 false true (.t 7) (.k (.im (.sc (.int .i64 0))))),
 o 4 (.mv (.t 8))])
 .ret)) }
def b129 : List Nat := []

def f130 : IFunc :=
 { np := 2, res := [.tmp 4], body :=
 (.seq (.region [o 4 (.mv (.k (.im (.sc (.bool false)))))])
 (.seq (.region [o 5 (.mv (.t 0)),
 o 6 (.mv (.t 1)),
 o 7 (.call 181 [(.t 5), (.t 6)]),
 o 8 (.bin .geq 3 false true (.t 7) (.k (.im (.sc (.int .i64 0))))),
 o 4 (.mv (.t 8))])
 .ret)) }
def b130 : List Nat := []

def f132 : IFunc :=
 { np := 2, res := [.cell 4 5 true, .cell 5 1 false], body :=
 (.seq (.region [o 7 (.mkfn (.func 184) [] [(.t 3)] [true]),
 o 8 (.build [(.im (.sc .nilFunc))] [(0, 1, (.t 7))]),
 o 9 (.ld 5 true (.b 2)),
 o 10 (.call 187 [(.t 8), (.t 9), (.k (.im (.sc (.int .i64 0))))]),
 e (.st 5 (.t 4) (.t 10)),
 e (.st 1 (.t 5) (.k (.im (.sc (.int .i64 0)))))])
 .ret), pre := some ([(.region [o 2 (.lbox (.t 0)),
 o 3 (.hbox (.t 1)),
 o 4 (.halloc [(.im (.sc (.int .i64 0))), (.im (.sc (.int .i64 0))), (.im (.sc (.string ⟨#[]⟩))), (.im (.sl [] .nil)), (.im (.sl [] .nil))]),
 o 5 (.halloc [(.im (.sc (.int .i64 0)))])])], [o 6 (.mkfn (.func 182) [] [(.t 4), (.t 5)] [])], (.t 6)) }
def b132 : List Nat := [2]

def f133 : IFunc :=
 { np := 2, res := [.cell 3 2 true, .tmp 4], body :=
 (.seq (.region [o 2 (.lbox (.t 0)),
 o 3 (.lalloc [(.im (.sc (.int .i64 0))), (.im (.sl [] .nil))]),
 o 4 (.mv (.k (.im (.sc (.int .i64 0)))))])
 (.seq (.region [o 5 (.ld 2 true (.b 2)),
 o 6 (.ld 1 false (.t 1)),
 o 7 (.call 134 [(.t 5), (.t 6)]),
 o 8 (.extract (.t 7) 0),
 o 9 (.extract (.t 7) 1),
 e (.st 2 (.b 3) (.t 8)),
 o 4 (.mv (.t 9))])
 .ret)) }
def b133 : List Nat := [2, 3]

def f134 : IFunc :=
 { np := 2, res := [.cell 4 2 true, .tmp 5], body :=
 (.seq (.region [o 2 (.lbox (.t 0)),
 o 4 (.lalloc [(.im (.sc (.int .i64 0))), (.im (.sl [] .nil))]),
 o 5 (.mv (.k (.im (.sc (.int .i64 0)))))])
 (.seq (.seq (.region [o 10 (.ld 2 true (.b 2)),
 o 11 (.call 141 [(.t 10)]),
 o 12 (.un .not (.t 11)),
 o 13 (.mv (.t 12)),
 ⟨(some 14), .mv (.t 1), (some (13, false))⟩,
 ⟨(some 15), .call 188 [(.t 14)], (some (13, false))⟩,
 ⟨(some 16), .un .not (.t 15), (some (13, false))⟩,
 o 17 (.pick (.t 13) (.k (.im (.sc (.bool true)))) (.t 16))])
 (.cond (.t 17)
 (.seq (.region [o 18 (.build [(.im (.sc (.int .i64 0))), (.im (.sl [] .nil))] []),
 e (.st 2 (.b 4) (.t 18)),
 o 5 (.mv (.k (.im (.sc (.int .i64 3)))))])
 .ret)
 .skip))
 (.seq (.region [o 19 (.call 189 []),
 o 6 (.mv (.t 19))])
 (.seq (.region [o 20 (.mv (.t 6)),
 o 21 (.off 0 (.b 2)),
 o 22 (.ld 1 false (.t 21)),
 o 23 (.nilc (.t 20)),
 o 24 (.off 1 (.t 23)),
 e (.st 1 (.t 24) (.t 22))])
 (.seq (.seq (.region [o 25 (.off 1 (.b 2)),
 o 26 (.ld 1 false (.t 25)),
 o 27 (.len .sl (.t 26)),
 o 28 (.mv (.k (.im (.sc (.int .i64 0)))))])
 (.block 0 (.loop [1, 5, 6, 26, 27, 28] [4] (.seq (.region [o 29 (.bin .lss 3 false false (.t 28) (.t 27))])
 (.seq (.cond (.t 29)
 .skip
 (.exit 0))
 (.seq (.block 1 (.seq (.region [o 30 (.idxA 2 none (.t 26) (.t 28)),
 o 31 (.ld 2 true (.t 30)),
 o 8 (.lalloc [(.im (.sc (.int .i64 0))), (.im (.sc (.int .i64 0)))]),
 e (.st 2 (.b 8) (.t 31))])
 (.seq (.region [o 32 (.off 0 (.b 8)),
 o 33 (.ld 1 false (.t 32)),
 o 34 (.bin .sub 3 true false (.k (.im (.sc (.int .i64 (-1))))) (.t 33)),
 o 9 (.mv (.t 34))])
 (.seq (.region [o 35 (.mv (.t 9)),
 o 36 (.bin .geq 3 false true (.t 35) (.k (.im (.sc (.int .i64 0))))),
 o 37 (.mv (.t 36)),
 ⟨(some 38), .mv (.t 9), (some (37, true))⟩,
 ⟨(some 39), .mv (.t 1), (some (37, true))⟩,
 ⟨(some 40), .len .sl (.t 39), (some (37, true))⟩,
 ⟨(some 41), .bin .lss 3 false false (.t 38) (.t 40), (some (37, true))⟩,
 o 42 (.pick (.t 37) (.t 41) (.k (.im (.sc (.bool false)))))])
 (.cond (.t 42)
 (.draw [o 43 (.mv (.t 6)),
 o 44 (.mv (.t 1)),
 o 45 (.mv (.t 9)),
 o 46 (.idxA 2 none (.t 44) (.t 45)),
 o 47 (.ld 2 true (.t 46)),
 o 48 (.off 1 (.b 8)),
 o 49 (.ld 1 false (.t 48)),
 o 50 (.call 190 [(.t 43), (.t 47), (.t 49)])] [0, 1, 3, 1, 1, 31, 31, 0])
 (.draw [o 51 (.mv (.t 6)),
 o 52 (.nilc (.t 51)),
 o 53 (.off 0 (.t 52)),
 o 54 (.ld 1 false (.t 53)),
 o 55 (.off 0 (.b 8)),
 o 56 (.ld 1 false (.t 55)),
 o 57 (.off 1 (.b 8)),
 o 58 (.ld 1 false (.t 57)),
 o 59 (.call 191 [(.t 54), (.t 56), (.t 58)])] [0, 0, 0, 0, 15, 15, 63, 63, 0]))))))
 (.region [o 60 (.bin .add 3 false true (.t 28) (.k (.im (.sc (.int .i64 1))))),
 o 28 (.mv (.t 60))])))))))
 (.seq (.region [o 61 (.mv (.t 6)),
 o 62 (.call 192 [(.t 61)]),
 o 63 (.extract (.t 62) 0),
 o 64 (.extract (.t 62) 1),
 e (.st 2 (.b 4) (.t 63)),
 o 5 (.mv (.t 64))])
 .ret)))))) }
def b134 : List Nat := [2, 4, 8]

def f135 : IFunc :=
 { np := 3, res := [.cell 6 5 true], body :=
 (.seq (.region [o 3 (.lbox (.t 0)),
 o 5 (.lbox (.t 2)),
 o 6 (.lalloc [(.im (.sc (.int .i64 0))), (.im (.sc (.int .i64 0))), (.im (.sc (.string ⟨#[]⟩))), (.im (.sl [] .nil)), (.im (.sl [] .nil))])])
 (.seq (.seq (.region [o 7 (.off 0 (.b 5)),
 o 8 (.ld 1 false (.t 7)),
 o 9 (.bin .lss 3 false true (.t 8) (.k (.im (.sc (.int .i64 0))))),
 o 10 (.mv (.t 9)),
 ⟨(some 11), .off 0 (.b 5), (some (10, false))⟩,
 ⟨(some 12), .ld 1 false (.t 11), (some (10, false))⟩,
 ⟨(some 13), .bin .geq 3 false true (.t 12) (.k (.im (.sc (.int .i64 13)))), (some (10, false))⟩,
 o 14 (.pick (.t 10) (.k (.im (.sc (.bool true)))) (.t 13))])
 (.cond (.t 14)
 (.region [o 15 (.call 137 [(.k (.im (.sc (.int .i64 3))))])])
 .skip))
 (.seq (.draw [o 16 (.call 193 []),
 o 17 (.off 0 (.b 5)),
 o 18 (.ld 1 false (.t 17)),
 o 19 (.idxV 270 1 false (some 13) (.t 16) (.t 18)),
 o 20 (.ld 1 true (.b 3)),
 o 21 (.mv (.t 1)),
 o 22 (.ld 5 true (.b 5)),
 o 23 (.calld (.t 19) [(.t 20), (.t 21), (.t 22)]),
 e (.st 5 (.b 6) (.t 23))] [0, 1, 1, 0, 15, 31, 63, 0, 0])
 .ret))) }
def b135 : List Nat := [3, 5, 6]

def f137 : IFunc :=
 { np := 1, res := [], body :=
 (.seq (.region [o 2 (.mv (.t 0)),
 o 3 (.bin .neq 39 false true (.t 2) (.k (.im (.sc (.int .i64 0)))))])
 (.cond (.t 3)
 (.region [o 4 (.mv (.t 0)),
 o 5 (.mkifc 203 (.t 4)),
 e (.pan (.t 5))])
 .skip)) }
def b137 : List Nat := []

def f138 : IFunc :=
 { np := 3, res := [.tmp 6], body :=
 (.seq (.region [o 6 (.mv (.k (.im (.sc (.bool false)))))])
 (.seq (.seq (.region [o 10 (.mv (.t 0)),
 o 11 (.len .sl (.t 10)),
 o 12 (.mv (.t 1)),
 o 13 (.len .sl (.t 12)),
 o 14 (.bin .neq 3 false false (.t 11) (.t 13))])
 (.cond (.t 14)
 (.seq (.region [o 6 (.mv (.k (.im (.sc (.bool false)))))])
 .ret)
 .skip))
 (.seq (.seq (.region [o 15 (.mv (.t 0)),
 o 16 (.len .sl (.t 15)),
 o 17 (.mv (.k (.im (.sc (.int .i64 0)))))])
 (.block 0 (.loop [1, 2, 6, 15, 16, 17] [] (.seq (.region [o 18 (.bin .lss 3 false false (.t 17) (.t 16))])
 (.seq (.cond (.t 18)
 .skip
 (.exit 0))
 (.seq (.block 1 (.seq (.region [o 19 (.mv (.t 17)),
 o 20 (.idxA 2 none (.t 15) (.t 17)),
 o 21 (.ld 2 true (.t 20)),
 o 8 (.lalloc [(.im (.sc (.int .i64 0))), (.im (.sl [] .nil))]),
 o 7 (.mv (.t 19)),
 e (.st 2 (.b 8) (.t 21))])
 (.seq (.region [o 22 (.mv (.t 1)),
 o 23 (.mv (.t 7)),
 o 24 (.idxA 2 none (.t 22) (.t 23)),
 o 25 (.ld 2 true (.t 24)),
 o 9 (.lalloc [(.im (.sc (.int .i64 0))), (.im (.sl [] .nil))]),
 e (.st 2 (.b 9) (.t 25))])
 (.seq (.region [o 26 (.mv (.t 2)),
 o 27 (.ld 2 true (.b 8)),
 o 28 (.ld 2 true (.b 9)),
 o 29 (.calld (.t 26) [(.t 27), (.t 28)]),
 o 30 (.un .not (.t 29))])
 (.cond (.t 30)
 (.seq (.region [o 6 (.mv (.k (.im (.sc (.bool false)))))])
 .ret)
 .skip)))))
 (.region [o 31 (.bin .add 3 false true (.t 17) (.k (.im (.sc (.int .i64 1))))),
 o 17 (.mv (.t 31))])))))))
 (.seq (.region [o 6 (.mv (.k (.im (.sc (.bool true)))))])
 .ret)))) }
def b138 : List Nat := [8, 9]

def f140 : IFunc :=
 { np := 3, res := [.tmp 6], body :=
 (.seq (.region [o 6 (.mv (.k (.im (.sc (.bool false)))))])
 (.seq (.seq (.region [o 10 (.mv (.t 0)),
 o 11 (.len .sl (.t 10)),
 o 12 (.mv (.t 1)),
 o 13 (.len .sl (.t 12)),
 o 14 (.bin .neq 3 false false (.t 11) (.t 13))])
 (.cond (.t 14)
 (.seq (.region [o 6 (.mv (.k (.im (.sc (.bool false)))))])
 .ret)
 .skip))
 (.seq (.seq (.region [o 15 (.mv (.t 0)),
 o 16 (.len .sl (.t 15)),
 o 17 (.mv (.k (.im (.sc (.int .i64 0)))))])
 (.block 0 (.loop [1, 2, 6, 15, 16, 17] [] (.seq (.region [o 18 (.bin .lss 3 false false (.t 17) (.t 16))])
 (.seq (.cond (.t 18)
 .skip
 (.exit 0))
 (.seq (.block 1 (.seq (.region [o 19 (.mv (.t 17)),
 o 20 (.idxA 5 none (.t 15) (.t 17)),
 o 21 (.ld 5 true (.t 20)),
 o 8 (.lalloc [(.im (.sc (.int .i64 0))), (.im (.sc (.int .i64 0))), (.im (.sc (.string ⟨#[]⟩))), (.im (.sl [] .nil)), (.im (.sl [] .nil))]),
 o 7 (.mv (.t 19)),
 e (.st 5 (.b 8) (.t 21))])
 (.seq (.region [o 22 (.mv (.t 1)),
 o 23 (.mv (.t 7)),
 o 24 (.idxA 5 none (.t 22) (.t 23)),
 o 25 (.ld 5 true (.t 24)),
 o 9 (.lalloc [(.im (.sc (.int .i64 0))), (.im (.sc (.int .i64 0))), (.im (.sc (.string ⟨#[]⟩))), (.im (.sl [] .nil)), (.im (.sl [] .nil))]),
 e (.st 5 (.b 9) (.t 25))])
 (.seq (.region [o 26 (.mv (.t 2)),
 o 27 (.ld 5 true (.b 8)),
 o 28 (.ld 5 true (.b 9)),
 o 29 (.calld (.t 26) [(.t 27), (.t 28)]),
 o 30 (.un .not (.t 29))])
 (.cond (.t 30)
 (.seq (.region [o 6 (.mv (.k (.im (.sc (.bool false)))))])
 .ret)
 .skip)))))
 (.region [o 31 (.bin .add 3 false true (.t 17) (.k (.im (.sc (.int .i64 1))))),
 o 17 (.mv (.t 31))])))))))
 (.seq (.region [o 6 (.mv (.k (.im (.sc (.bool true)))))])
 .ret)))) }
def b140 : List Nat := [8, 9]

def f141 : IFunc :=
 { np := 1, res := [.tmp 2], body :=
 (.seq (.region [o 1 (.lbox (.t 0)),
 o 2 (.mv (.k (.im (.sc (.bool false)))))])
 (.seq (.seq (.region [o 5 (.off 0 (.b 1)),
 o 6 (.ld 1 false (.t 5)),
 o 7 (.bin .lss 3 false true (.t 6) (.k (.im (.sc (.int .i64 0))))),
 o 8 (.mv (.t 7)),
 ⟨(some 9), .off 0 (.b 1), (some (8, false))⟩,
 ⟨(some 10), .ld 1 false (.t 9), (some (8, false))⟩,
 ⟨(some 11), .bin .gtr 3 false true (.t 10) (.k (.im (.sc (.int .i64 100)))), (some (8, false))⟩,
 o 12 (.pick (.t 8) (.k (.im (.sc (.bool true)))) (.t 11)),
 o 13 (.mv (.t 12)),
 ⟨(some 14), .off 0 (.b 1), (some (13, false))⟩,
 ⟨(some 15), .ld 1 false (.t 14), (some (13, false))⟩,
 ⟨(some 16), .bin .gtr 3 false true (.t 15) (.k (.im (.sc (.int .i64 0)))), (some (13, false))⟩,
 ⟨(some 17), .mv (.t 16), (some (13, false))⟩,
 ⟨(some 18), .ld 2 true (.b 1), (some (17, true))⟩,
 ⟨(some 19), .call 199 [(.t 18)], (some (17, true))⟩,
 ⟨(some 20), .pick (.t 17) (.t 19) (.k (.im (.sc (.bool false)))), (some (13, false))⟩,
 o 21 (.pick (.t 13) (.k (.im (.sc (.bool true)))) (.t 20))])
 (.cond (.t 21)
 (.seq (.region [o 2 (.mv (.k (.im (.sc (.bool false)))))])
 .ret)
 .skip))
 (.seq (.seq (.region [o 22 (.off 1 (.b 1)),
 o 23 (.ld 1 false (.t 22)),
 o 24 (.len .sl (.t 23)),
 o 25 (.mv (.k (.im (.sc (.int .i64 0)))))])
 (.block 0 (.loop [2, 23, 24, 25] [1] (.seq (.region [o 26 (.bin .lss 3 false false (.t 25) (.t 24))])
 (.seq (.cond (.t 26)
 .skip
 (.exit 0))
 (.seq (.block 1 (.seq (.region [o 27 (.mv (.t 25)),
 o 28 (.idxA 2 none (.t 23) (.t 25)),
 o 29 (.ld 2 true (.t 28)),
 o 4 (.lalloc [(.im (.sc (.int .i64 0))), (.im (.sc (.int .i64 0)))]),
 o 3 (.mv (.t 27)),
 e (.st 2 (.b 4) (.t 29))])
 (.seq (.draw [o 30 (.off 0 (.b 4)),
 o 31 (.ld 1 false (.t 30)),
 o 32 (.bin .lss 3 false true (.t 31) (.k (.im (.sc (.int .i64 (-65536)))))),
 o 33 (.mv (.t 32)),
 ⟨(some 34), .off 0 (.b 4), (some (33, false))⟩,
 ⟨(some 35), .ld 1 false (.t 34), (some (33, false))⟩,
 ⟨(some 36), .bin .gtr 3 false true (.t 35) (.k (.im (.sc (.int .i64 7)))), (some (33, false))⟩,
 o 37 (.pick (.t 33) (.k (.im (.sc (.bool true)))) (.t 36)),
 o 38 (.mv (.t 37)),
 ⟨(some 39), .off 1 (.b 4), (some (38, false))⟩,
 ⟨(some 40), .ld 1 false (.t 39), (some (38, false))⟩,
 ⟨(some 41), .bin .lss 3 false true (.t 40) (.k (.im (.sc (.int .i64 0)))), (some (38, false))⟩,
 o 42 (.pick (.t 38) (.k (.im (.sc (.bool true)))) (.t 41)),
 o 43 (.mv (.t 42)),
 ⟨(some 44), .off 1 (.b 4), (some (43, false))⟩,
 ⟨(some 45), .ld 1 false (.t 44), (some (43, false))⟩,
 ⟨(some 46), .bin .gtr 3 false true (.t 45) (.k (.im (.sc (.int .i64 100)))), (some (43, false))⟩,
 o 47 (.pick (.t 43) (.k (.im (.sc (.bool true)))) (.t 46)),
 o 48 (.mv (.t 47)),
 ⟨(some 49), .mv (.t 3), (some (48, false))⟩,
 ⟨(some 50), .bin .gtr 3 false true (.t 49) (.k (.im (.sc (.int .i64 0)))), (some (48, false))⟩,
 ⟨(some 51), .mv (.t 50), (some (48, false))⟩,
 ⟨(some 52), .off 1 (.b 1), (some (51, true))⟩,
 ⟨(some 53), .ld 1 false (.t 52), (some (51, true))⟩,
 ⟨(some 54), .mv (.t 3), (some (51, true))⟩,
 ⟨(some 55), .bin .sub 3 false true (.t 54) (.k (.im (.sc (.int .i64 1)))), (some (51, true))⟩,
 ⟨(some 56), .idxA 2 none (.t 53) (.t 55), (some (51, true))⟩,
 ⟨(some 57), .off 0 (.t 56), (some (51, true))⟩,
 ⟨(some 58), .ld 1 false (.t 57), (some (51, true))⟩,
 ⟨(some 59), .off 0 (.b 4), (some (51, true))⟩,
 ⟨(some 60), .ld 1 false (.t 59), (some (51, true))⟩,
 ⟨(some 61), .bin .geq 3 false false (.t 58) (.t 60), (some (51, true))⟩,
 ⟨(some 62), .pick (.t 51) (.t 61) (.k (.im (.sc (.bool false)))), (some (48, false))⟩,
 o 63 (.pick (.t 48) (.k (.im (.sc (.bool true)))) (.t 62))] [0, 0, 0, 0, 0, 0, 0, 0, 0, 0, 0, 0, 0, 0, 0, 0, 0, 0, 0, 0, 0, 0, 0, 0, 12582912, 12582912, 0, 0, 0, 532676608, 532676608, 0, 0, 0])
 (.cond (.t 63)
 (.seq (.region [o 2 (.mv (.k (.im (.sc (.bool false)))))])
 .ret)
 .skip))))
 (.region [o 64 (.bin .add 3 false true (.t 25) (.k (.im (.sc (.int .i64 1))))),
 o 25 (.mv (.t 64))])))))))
 (.seq (.region [o 2 (.mv (.k (.im (.sc (.bool true)))))])
 .ret)))) }
def b141 : List Nat := [1, 4]

def f148 : IFunc :=
 { np := 3, res := [], body :=
 (.seq (.region [o 9 (.ld 1 false (.t 1)),
 o 10 (.off 2 (.t 2)),
 o 11 (.ld 1 false (.t 10)),
 o 12 (.off 3 (.t 2)),
 o 13 (.ld 5 true (.t 12)),
 o 14 (.build [(.im (.sc (.int .i64 0))), (.im (.sc (.int .i64 0))), (.im (.sc (.int .i64 0))), (.im (.sc (.int .i64 0))), (.im (.sc (.int .i64 0))), (.im (.sc (.int .i64 0))), (.im (.sc (.string ⟨#[]⟩))), (.im (.sl [] .nil)), (.im (.sl [] .nil))] [(1, 1, (.t 9)), (3, 1, (.t 11)), (4, 5, (.t 13))]),
 o 4 (.lalloc [(.im (.sc (.int .i64 0))), (.im (.sc (.int .i64 0))), (.im (.sc (.int .i64 0))), (.im (.sc (.int .i64 0))), (.im (.sc (.int .i64 0))), (.im (.sc (.int .i64 0))), (.im (.sc (.string ⟨#[]⟩))), (.im (.sl [] .nil)), (.im (.sl [] .nil))]),
 e (.st 9 (.b 4) (.t 14))])
 (.seq (.region [o 15 (.off 0 (.t 2)),
 o 16 (.ld 1 false (.t 15))])
 (.block 0 (.seq (.seq (.region [o 18 (.bin .eql 3 false true (.t 16) (.k (.im (.sc (.int .i64 0))))),
 o 17 (.mv (.t 18))])
 (.cond (.t 17)
 .skip
 (.seq (.region [o 19 (.bin .eql 3 false true (.t 16) (.k (.im (.sc (.int .i64 1))))),
 o 17 (.mv (.t 19))])
 (.cond (.t 17)
 .skip
 (.region [o 20 (.bin .eql 3 false true (.t 16) (.k (.im (.sc (.int .i64 2))))),
 o 17 (.mv (.t 20))])))))
 (.cond (.t 17)
 (.seq (.region [o 21 (.mkS 1 3 [(.im (.sc (.int .i64 0)))] [(0, (.k (.im (.sc (.int .i64 0))))), (1, (.k (.im (.sc (.int .i64 1))))), (2, (.k (.im (.sc (.int .i64 2)))))]),
 o 22 (.off 0 (.t 2)),
 o 23 (.ld 1 false (.t 22)),
 o 24 (.idxA 1 none (.t 21) (.t 23)),
 o 25 (.ld 1 false (.t 24)),
 o 26 (.off 0 (.b 4)),
 e (.st 1 (.t 26) (.t 25))])
 (.region [o 27 (.mv (.t 0)),
 o 28 (.off 1 (.t 2)),
 o 29 (.ld 1 false (.t 28)),
 o 30 (.ld 9 true (.b 4)),
 o 31 (.calld (.t 27) [(.t 29), (.t 30)])]))
 (.seq (.region [o 33 (.bin .eql 3 false true (.t 16) (.k (.im (.sc (.int .i64 3))))),
 o 32 (.mv (.t 33))])
 (.cond (.t 32)
 (.seq (.region [o 34 (.off 0 (.b 4)),
 e (.st 1 (.t 34) (.k (.im (.sc (.int .i64 3)))))])
 (.seq (.seq (.region [o 35 (.mv (.t 0)),
 o 36 (.off 1 (.t 2)),
 o 37 (.ld 1 false (.t 36)),
 o 38 (.ld 9 true (.b 4)),
 o 39 (.calld (.t 35) [(.t 37), (.t 38)]),
 o 40 (.un .not (.t 39))])
 (.cond (.t 40)
 .ret
 .skip))
 (.seq (.seq (.region [o 41 (.off 14 (.t 2)),
 o 42 (.ld 1 false (.t 41)),
 o 43 (.len .sl (.t 42)),
 o 44 (.mv (.k (.im (.sc (.int .i64 0)))))])
 (.block 1 (.loop [0, 1, 2, 42, 43, 44] [] (.seq (.region [o 45 (.bin .lss 3 false false (.t 44) (.t 43))])
 (.seq (.cond (.t 45)
 .skip
 (.exit 1))
 (.seq (.block 2 (.seq (.region [o 46 (.mv (.t 44)),
 o 47 (.idxA 6 none (.t 42) (.t 44)),
 o 48 (.ld 6 true (.t 47)),
 o 6 (.lalloc [(.im (.sc (.string ⟨#[]⟩))), (.im (.sc (.int .i64 0))), (.im (.sc (.int .i64 0))), (.im (.sc (.string ⟨#[]⟩))), (.im (.sl [] .nil)), (.im (.sl [] .nil))]),
 o 5 (.mv (.t 46)),
 e (.st 6 (.b 6) (.t 48))])
 (.seq (.region [o 49 (.mv (.t 0)),
 o 50 (.off 0 (.b 6)),
 o 51 (.ld 1 false (.t 50)),
 o 52 (.ld 1 false (.t 1)),
 o 53 (.mv (.t 5)),
 o 54 (.off 2 (.t 2)),
 o 55 (.ld 1 false (.t 54)),
 o 56 (.off 1 (.b 6)),
 o 57 (.ld 5 true (.t 56)),
 o 58 (.build [(.im (.sc (.int .i64 0))), (.im (.sc (.int .i64 0))), (.im (.sc (.int .i64 0))), (.im (.sc (.int .i64 0))), (.im (.sc (.int .i64 0))), (.im (.sc (.int .i64 0))), (.im (.sc (.string ⟨#[]⟩))), (.im (.sl [] .nil)), (.im (.sl [] .nil))] [(0, 1, (.k (.im (.sc (.int .i64 4))))), (1, 1, (.t 52)), (2, 1, (.t 53)), (3, 1, (.t 55)), (4, 5, (.t 57))]),
 o 59 (.calld (.t 49) [(.t 51), (.t 58)]),
 o 60 (.un .not (.t 59))])
 (.cond (.t 60)
 .ret
 .skip))))
 (.region [o 61 (.bin .add 3 false true (.t 44) (.k (.im (.sc (.int .i64 1))))),
 o 44 (.mv (.t 61))])))))))
 (.region [o 62 (.mv (.t 0)),
 o 63 (.off 1 (.t 2)),
 o 64 (.ld 1 false (.t 63)),
 o 65 (.bin .add 9 false true (.t 64) (.k (.im (.sc (.string ⟨#[46, 114, 101, 99]⟩))))),
 o 66 (.ld 1 false (.t 1)),
 o 67 (.off 15 (.t 2)),
 o 68 (.off 0 (.t 67)),
 o 69 (.ld 1 false (.t 68)),
 o 70 (.off 15 (.t 2)),
 o 71 (.off 1 (.t 70)),
 o 72 (.ld 5 true (.t 71)),
 o 73 (.build [(.im (.sc (.int .i64 0))), (.im (.sc (.int .i64 0))), (.im (.sc (.int .i64 0))), (.im (.sc (.int .i64 0))), (.im (.sc (.int .i64 0))), (.im (.sc (.int .i64 0))), (.im (.sc (.string ⟨#[]⟩))), (.im (.sl [] .nil)), (.im (.sl [] .nil))] [(0, 1, (.k (.im (.sc (.int .i64 5))))), (1, 1, (.t 66)), (3, 1, (.t 69)), (4, 5, (.t 72))]),
 o 74 (.calld (.t 62) [(.t 65), (.t 73)])]))))
 (.seq (.region [o 76 (.bin .eql 3 false true (.t 16) (.k (.im (.sc (.int .i64 4))))),
 o 75 (.mv (.t 76))])
 (.cond (.t 75)
 (.seq (.region [o 77 (.off 22 (.t 2)),
 o 78 (.ld 1 false (.t 77)),
 o 79 (.len .sl (.t 78)),
 o 80 (.mv (.k (.im (.sc (.int .i64 0)))))])
 (.block 3 (.loop [0, 1, 2, 78, 79, 80] [] (.seq (.region [o 81 (.bin .lss 3 false false (.t 80) (.t 79))])
 (.seq (.cond (.t 81)
 .skip
 (.exit 3))
 (.seq (.block 4 (.seq (.region [o 82 (.mv (.t 80)),
 o 83 (.idxA 15 none (.t 78) (.t 80)),
 o 84 (.ld 15 true (.t 83)),
 o 8 (.lalloc [(.im (.sc (.string ⟨#[]⟩))), (.im (.sc (.int .i64 0))), (.im (.sc (.int .i64 0))), (.im (.sc (.string ⟨#[]⟩))), (.im (.sl [] .nil)), (.im (.sl [] .nil)), (.im (.sc (.int .i64 0))), (.im (.sc (.int .i64 0))), (.im (.sc (.int .i64 0))), (.im (.sc (.int .i64 0))), (.im (.sc (.string ⟨#[]⟩))), (.im (.sl [] .nil)), (.im (.sl [] .nil)), (.im (.sc (.int .i64 0))), (.im (.sl [] .nil))]),
 o 7 (.mv (.t 82)),
 e (.st 15 (.b 8) (.t 84))])
 (.seq (.region [o 85 (.mv (.t 0)),
 o 86 (.off 0 (.b 8)),
 o 87 (.ld 1 false (.t 86)),
 o 88 (.ld 1 false (.t 1)),
 o 89 (.mv (.t 7)),
 o 90 (.off 2 (.t 2)),
 o 91 (.ld 1 false (.t 90)),
 o 92 (.off 1 (.b 8)),
 o 93 (.ld 5 true (.t 92)),
 o 94 (.build [(.im (.sc (.int .i64 0))), (.im (.sc (.int .i64 0))), (.im (.sc (.int .i64 0))), (.im (.sc (.int .i64 0))), (.im (.sc (.int .i64 0))), (.im (.sc (.int .i64 0))), (.im (.sc (.string ⟨#[]⟩))), (.im (.sl [] .nil)), (.im (.sl [] .nil))] [(0, 1, (.k (.im (.sc (.int .i64 6))))), (1, 1, (.t 88)), (2, 1, (.t 89)), (3, 1, (.t 91)), (4, 5, (.t 93))]),
 o 95 (.calld (.t 85) [(.t 87), (.t 94)]),
 o 96 (.un .not (.t 95))])
 (.cond (.t 96)
 .ret
 .skip))))
 (.region [o 97 (.bin .add 3 false true (.t 80) (.k (.im (.sc (.int .i64 1))))),
 o 80 (.mv (.t 97))])))))))
 .skip))))))))) }
def b148 : List Nat := [4, 6, 8]

def f149 : IFunc :=
 { np := 1, res := [.tmp 2], body :=
 (.seq (.region [o 2 (.mv (.k (.im (.sc (.string ⟨#[]⟩)))))])
 (.seq (.region [o 3 (.mv (.t 0)),
 o 4 (.call 207 [(.t 3), (.k (.im (.sc (.int .i64 10))))]),
 o 2 (.mv (.t 4))])
 .ret)) }
def b149 : List Nat := []

def f150 : IFunc :=
 { np := 2, res := [.tmp 3], body :=
 (.seq (.region [o 2 (.lbox (.t 0)),
 o 3 (.mv (.k (.im (.sc (.bool false)))))])
 (.seq (.region [o 4 (.off 0 (.b 2)),
 o 5 (.ld 1 false (.t 4)),
 o 6 (.off 1 (.t 1)),
 o 7 (.ld 1 false (.t 6)),
 o 8 (.bin .eql 3 false false (.t 5) (.t 7)),
 o 3 (.mv (.t 8))])
 .ret)) }
def b150 : List Nat := [2]

def f151 : IFunc :=
 { np := 1, res := [.tmp 2], body :=
 (.seq (.region [o 2 (.mv (.k (.im (.sl [] .nil))))])
 (.seq (.seq (.region [o 3 (.mv (.t 0)),
 o 4 (.isnil .sl false (.t 3))])
 (.cond (.t 4)
 (.seq (.region [o 2 (.mv (.k (.im (.sl [] .nil))))])
 .ret)
 .skip))
 (.seq (.region [o 5 (.mkS 5 0 [(.im (.sc (.int .i64 0))), (.im (.sc (.int .i64 0))), (.im (.sc (.string ⟨#[]⟩))), (.im (.sl [] .nil)), (.im (.sl [] .nil))] []),
 o 6 (.mv (.t 0)),
 o 7 (.append 5 true (.t 5) (.t 6)),
 o 2 (.mv (.t 7))])
 .ret))) }
def b151 : List Nat := []

def f152 : IFunc :=
 { np := 3, res := [.cell 6 5 true, .cell 7 1 false], body :=
 (.seq (.region [o 20 (.ld 5 true (.b 3)),
 o 21 (.mv (.t 1)),
 o 22 (.mv (.t 2)),
 o 23 (.call 209 [(.t 20), (.t 21), (.t 22)]),
 e (.st 5 (.t 6) (.t 23)),
 e (.st 1 (.t 7) (.k (.im (.sc (.int .i64 0)))))])
 .ret), pre := some ([(.region [o 3 (.lbox (.t 0)),
 o 6 (.halloc [(.im (.sc (.int .i64 0))), (.im (.sc (.int .i64 0))), (.im (.sc (.string ⟨#[]⟩))), (.im (.sl [] .nil)), (.im (.sl [] .nil))]),
 o 7 (.halloc [(.im (.sc (.int .i64 0)))])]),
 (.seq (.region [o 8 (.mv (.t 2)),
 o 9 (.bin .lss 3 false true (.t 8) (.k (.im (.sc (.int .i64 0))))),
 o 10 (.mv (.t 9)),
 ⟨(some 11), .mv (.t 1), (some (10, false))⟩,
 ⟨(some 12), .bin .lss 3 false true (.t 11) (.k (.im (.sc (.int .i64 (-65536))))), (some (10, false))⟩,
 o 13 (.pick (.t 10) (.k (.im (.sc (.bool true)))) (.t 12)),
 o 14 (.mv (.t 13)),
 ⟨(some 15), .mv (.t 1), (some (14, false))⟩,
 ⟨(some 16), .bin .gtr 3 false true (.t 15) (.k (.im (.sc (.int .i64 65536)))), (some (14, false))⟩,
 o 17 (.pick (.t 14) (.k (.im (.sc (.bool true)))) (.t 16))])
 (.cond (.t 17)
 (.seq (.region [o 18 (.build [(.im (.sc (.int .i64 0))), (.im (.sc (.int .i64 0))), (.im (.sc (.string ⟨#[]⟩))), (.im (.sl [] .nil)), (.im (.sl [] .nil))] []),
 e (.st 5 (.t 6) (.t 18)),
 e (.st 1 (.t 7) (.k (.im (.sc (.int .i64 2)))))])
 .ret)
 .skip))], [o 19 (.mkfn (.func 208) [] [(.t 6), (.t 7)] [])], (.t 19)) }
def b152 : List Nat := [3]

def f153 : IFunc :=
 { np := 2, res := [.cell 4 5 true], body :=
 (.seq (.region [o 2 (.lbox (.t 0)),
 o 3 (.lbox (.t 1)),
 o 4 (.lalloc [(.im (.sc (.int .i64 0))), (.im (.sc (.int .i64 0))), (.im (.sc (.string ⟨#[]⟩))), (.im (.sl [] .nil)), (.im (.sl [] .nil))])])
 (.seq (.region [o 8 (.off 0 (.b 2)),
 o 9 (.ld 1 false (.t 8)),
 o 10 (.ld 5 true (.b 3)),
 o 11 (.call 210 [(.t 9), (.t 10)]),
 o 7 (.mv (.t 11)),
 o 12 (.extract (.t 7) 0),
 o 13 (.extract (.t 7) 1),
 o 5 (.lalloc [(.im (.sc (.int .i64 0))), (.im (.sc (.int .i64 0))), (.im (.sc (.string ⟨#[]⟩))), (.im (.sl [] .nil)), (.im (.sl [] .nil))]),
 e (.st 5 (.b 5) (.t 12)),
 o 6 (.mv (.t 13))])
 (.seq (.region [o 14 (.mv (.t 6)),
 o 15 (.call 137 [(.t 14)])])
 (.seq (.region [o 16 (.ld 5 true (.b 5)),
 e (.st 5 (.b 4) (.t 16))])
 .ret)))) }
def b153 : List Nat := [2, 3, 4, 5]

def f154 : IFunc :=
 { np := 1, res := [.tmp 2], body :=
 (.seq (.region [o 2 (.mv (.k (.im (.sc (.bool false)))))])
 (.seq (.region [o 3 (.mv (.t 0)),
 o 4 (.bin .geq 5 false true (.t 3) (.k (.im (.sc (.int .u8 97))))),
 o 5 (.mv (.t 4)),
 ⟨(some 6), .mv (.t 0), (some (5, true))⟩,
 ⟨(some 7), .bin .leq 5 false true (.t 6) (.k (.im (.sc (.int .u8 122)))), (some (5, true))⟩,
 o 8 (.pick (.t 5) (.t 7) (.k (.im (.sc (.bool false))))),
 o 9 (.mv (.t 8)),
 ⟨(some 10), .mv (.t 0), (some (9, false))⟩,
 ⟨(some 11), .bin .geq 5 false true (.t 10) (.k (.im (.sc (.int .u8 65)))), (some (9, false))⟩,
 ⟨(some 12), .mv (.t 11), (some (9, false))⟩,
 ⟨(some 13), .mv (.t 0), (some (12, true))⟩,
 ⟨(some 14), .bin .leq 5 false true (.t 13) (.k (.im (.sc (.int .u8 90)))), (some (12, true))⟩,
 ⟨(some 15), .pick (.t 12) (.t 14) (.k (.im (.sc (.bool false)))), (some (9, false))⟩,
 o 16 (.pick (.t 9) (.k (.im (.sc (.bool true)))) (.t 15)),
 o 17 (.mv (.t 16)),
 ⟨(some 18), .mv (.t 0), (some (17, false))⟩,
 ⟨(some 19), .bin .eql 5 false true (.t 18) (.k (.im (.sc (.int .u8 95)))), (some (17, false))⟩,
 o 20 (.pick (.t 17) (.k (.im (.sc (.bool true)))) (.t 19)),
 o 2 (.mv (.t 20))])
 .ret)) }
def b154 : List Nat := []

def f155 : IFunc :=
 { np := 1, res := [.tmp 2], body :=
 (.seq (.region [o 2 (.mv (.k (.im (.sc (.int .i64 0)))))])
 (.seq (.seq (.region [o 3 (.mv (.t 0))])
 (.block 0 (.seq (.seq (.region [o 5 (.bin .eql 3 false true (.t 3) (.k (.im (.sc (.int .i64 4))))),
 o 4 (.mv (.t 5))])
 (.cond (.t 4)
 .skip
 (.seq (.region [o 6 (.bin .eql 3 false true (.t 3) (.k (.im (.sc (.int .i64 5))))),
 o 4 (.mv (.t 6))])
 (.cond (.t 4)
 .skip
 (.seq (.region [o 7 (.bin .eql 3 false true (.t 3) (.k (.im (.sc (.int .i64 6))))),
 o 4 (.mv (.t 7))])
 (.cond (.t 4)
 .skip
 (.region [o 8 (.bin .eql 3 false true (.t 3) (.k (.im (.sc (.int .i64 7))))),
 o 4 (.mv (.t 8))])))))))
 (.cond (.t 4)
 (.seq (.region [o 2 (.mv (.k (.im (.sc (.int .i64 2)))))])
 .ret)
 (.seq (.seq (.region [o 10 (.bin .eql 3 false true (.t 3) (.k (.im (.sc (.int .i64 8))))),
 o 9 (.mv (.t 10))])
 (.cond (.t 9)
 .skip
 (.region [o 11 (.bin .eql 3 false true (.t 3) (.k (.im (.sc (.int .i64 11))))),
 o 9 (.mv (.t 11))])))
 (.cond (.t 9)
 (.seq (.region [o 2 (.mv (.k (.im (.sc (.int .i64 3)))))])
 .ret)
 (.seq (.seq (.region [o 13 (.bin .eql 3 false true (.t 3) (.k (.im (.sc (.int .i64 9))))),
 o 12 (.mv (.t 13))])
 (.cond (.t 12)
 .skip
 (.region [o 14 (.bin .eql 3 false true (.t 3) (.k (.im (.sc (.int .i64 10))))),
 o 12 (.mv (.t 14))])))
 (.cond (.t 12)
 (.seq (.region [o 2 (.mv (.k (.im (.sc (.int .i64 1)))))])
 .ret)
 .skip))))))))
 (.seq (.region [o 2 (.mv (.k (.im (.sc (.int .i64 0)))))])
 .ret))) }
def b155 : List Nat := []

def f156 : IFunc :=
 { np := 1, res := [.tmp 2], body :=
 (.seq (.region [o 2 (.mv (.k (.im (.sc (.bool false)))))])
 (.seq (.region [o 3 (.mv (.t 0)),
 o 4 (.bin .geq 5 false true (.t 3) (.k (.im (.sc (.int .u8 97))))),
 o 5 (.mv (.t 4)),
 ⟨(some 6), .mv (.t 0), (some (5, true))⟩,
 ⟨(some 7), .bin .leq 5 false true (.t 6) (.k (.im (.sc (.int .u8 122)))), (some (5, true))⟩,
 o 8 (.pick (.t 5) (.t 7) (.k (.im (.sc (.bool false))))),
 o 9 (.mv (.t 8)),
 ⟨(some 10), .mv (.t 0), (some (9, false))⟩,
 ⟨(some 11), .bin .geq 5 false true (.t 10) (.k (.im (.sc (.int .u8 65)))), (some (9, false))⟩,
 ⟨(some 12), .mv (.t 11), (some (9, false))⟩,
 ⟨(some 13), .mv (.t 0), (some (12, true))⟩,
 ⟨(some 14), .bin .leq 5 false true (.t 13) (.k (.im (.sc (.int .u8 90)))), (some (12, true))⟩,
 ⟨(some 15), .pick (.t 12) (.t 14) (.k (.im (.sc (.bool false)))), (some (9, false))⟩,
 o 16 (.pick (.t 9) (.k (.im (.sc (.bool true)))) (.t 15)),
 o 17 (.mv (.t 16)),
 ⟨(some 18), .mv (.t 0), (some (17, false))⟩,
 ⟨(some 19), .bin .eql 5 false true (.t 18) (.k (.im (.sc (.int .u8 95)))), (some (17, false))⟩,
 o 20 (.pick (.t 17) (.k (.im (.sc (.bool true)))) (.t 19)),
 o 2 (.mv (.t 20))])
 .ret)) }
def b156 : List Nat := []

def f157 : IFunc :=
 { np := 1, res := [.tmp 2], body :=
 (.seq (.region [o 1 (.lbox (.t 0)),
 o 2 (.mv (.k (.im (.sc (.bool false)))))])
 (.seq (.seq (.region [o 5 (.off 0 (.b 1)),
 o 6 (.ld 1 false (.t 5)),
 o 7 (.bin .lss 3 false true (.t 6) (.k (.im (.sc (.int .i64 0))))),
 o 8 (.mv (.t 7)),
 ⟨(some 9), .off 0 (.b 1), (some (8, false))⟩,
 ⟨(some 10), .ld 1 false (.t 9), (some (8, false))⟩,
 ⟨(some 11), .bin .gtr 3 false true (.t 10) (.k (.im (.sc (.int .i64 100)))), (some (8, false))⟩,
 o 12 (.pick (.t 8) (.k (.im (.sc (.bool true)))) (.t 11))])
 (.cond (.t 12)
 (.seq (.region [o 2 (.mv (.k (.im (.sc (.bool false)))))])
 .ret)
 .skip))
 (.seq (.seq (.region [o 3 (.mv (.k (.im (.sc (.int .i64 0)))))])
 (.block 0 (.loop [2, 3] [1] (.seq (.seq (.region [o 13 (.mv (.t 3)),
 o 14 (.off 1 (.b 1)),
 o 15 (.ld 1 false (.t 14)),
 o 16 (.len .sl (.t 15)),
 o 17 (.bin .lss 3 false false (.t 13) (.t 16))])
 (.cond (.t 17)
 .skip
 (.exit 0)))
 (.seq (.block 1 (.seq (.region [o 20 (.off 1 (.b 1)),
 o 21 (.ld 1 false (.t 20)),
 o 22 (.mv (.t 3)),
 o 23 (.idxA 2 none (.t 21) (.t 22)),
 o 24 (.ld 2 true (.t 23)),
 o 4 (.lalloc [(.im (.sc (.int .i64 0))), (.im (.sc (.int .i64 0)))]),
 e (.st 2 (.b 4) (.t 24))])
 (.seq (.seq (.region [o 25 (.off 0 (.b 4)),
 o 26 (.ld 1 false (.t 25)),
 o 27 (.bin .lss 3 false true (.t 26) (.k (.im (.sc (.int .i64 (-65536)))))),
 o 28 (.mv (.t 27)),
 ⟨(some 29), .off 0 (.b 4), (some (28, false))⟩,
 ⟨(some 30), .ld 1 false (.t 29), (some (28, false))⟩,
 ⟨(some 31), .bin .geq 3 false true (.t 30) (.k (.im (.sc (.int .i64 8)))), (some (28, false))⟩,
 o 32 (.pick (.t 28) (.k (.im (.sc (.bool true)))) (.t 31)),
 o 33 (.mv (.t 32)),
 ⟨(some 34), .off 1 (.b 4), (some (33, false))⟩,
 ⟨(some 35), .ld 1 false (.t 34), (some (33, false))⟩,
 ⟨(some 36), .bin .lss 3 false true (.t 35) (.k (.im (.sc (.int .i64 0)))), (some (33, false))⟩,
 o 37 (.pick (.t 33) (.k (.im (.sc (.bool true)))) (.t 36)),
 o 38 (.mv (.t 37)),
 ⟨(some 39), .off 1 (.b 4), (some (38, false))⟩,
 ⟨(some 40), .ld 1 false (.t 39), (some (38, false))⟩,
 ⟨(some 41), .bin .gtr 3 false true (.t 40) (.k (.im (.sc (.int .i64 100)))), (some (38, false))⟩,
 o 42 (.pick (.t 38) (.k (.im (.sc (.bool true)))) (.t 41))])
 (.cond (.t 42)
 (.seq (.region [o 2 (.mv (.k (.im (.sc (.bool false)))))])
 .ret)
 .skip))
 (.seq (.seq (.draw [o 43 (.mv (.t 3)),
 o 44 (.bin .gtr 3 false true (.t 43) (.k (.im (.sc (.int .i64 0))))),
 o 45 (.mv (.t 44)),
 ⟨(some 46), .off 1 (.b 1), (some (45, true))⟩,
 ⟨(some 47), .ld 1 false (.t 46), (some (45, true))⟩,
 ⟨(some 48), .mv (.t 3), (some (45, true))⟩,
 ⟨(some 49), .bin .sub 3 false true (.t 48) (.k (.im (.sc (.int .i64 1)))), (some (45, true))⟩,
 ⟨(some 50), .idxA 2 none (.t 47) (.t 49), (some (45, true))⟩,
 ⟨(some 51), .off 0 (.t 50), (some (45, true))⟩,
 ⟨(some 52), .ld 1 false (.t 51), (some (45, true))⟩,
 ⟨(some 53), .off 0 (.b 4), (some (45, true))⟩,
 ⟨(some 54), .ld 1 false (.t 53), (some (45, true))⟩,
 ⟨(some 55), .bin .geq 3 false false (.t 52) (.t 54), (some (45, true))⟩,
 o 56 (.pick (.t 45) (.t 55) (.k (.im (.sc (.bool false)))))] [0, 0, 0, 0, 0, 24, 24, 0, 0, 0, 1016, 1016, 0, 0])
 (.cond (.t 56)
 (.seq (.region [o 2 (.mv (.k (.im (.sc (.bool false)))))])
 .ret)
 .skip))
 (.seq (.region [o 57 (.off 0 (.b 1)),
 o 58 (.ld 1 false (.t 57)),
 o 59 (.bin .gtr 3 false true (.t 58) (.k (.im (.sc (.int .i64 0))))),
 o 60 (.mv (.t 59)),
 ⟨(some 61), .off 1 (.b 4), (some (60, true))⟩,
 ⟨(some 62), .ld 1 false (.t 61), (some (60, true))⟩,
 ⟨(some 63), .off 0 (.b 1), (some (60, true))⟩,
 ⟨(some 64), .ld 1 false (.t 63), (some (60, true))⟩,
 ⟨(some 65), .bin .geq 3 false false (.t 62) (.t 64), (some (60, true))⟩,
 o 66 (.pick (.t 60) (.t 65) (.k (.im (.sc (.bool false)))))])
 (.cond (.t 66)
 (.seq (.region [o 2 (.mv (.k (.im (.sc (.bool false)))))])
 .ret)
 .skip))))))
 (.region [o 18 (.mv (.t 3)),
 o 19 (.bin .add 3 false true (.t 18) (.k (.im (.sc (.int .i64 1))))),
 o 3 (.mv (.t 19))]))))))
 (.seq (.region [o 2 (.mv (.k (.im (.sc (.bool true)))))])
 .ret)))) }
def b157 : List Nat := [1, 4]

def f160 : IFunc :=
 { np := 5, res := [.cell 6 5 true], body :=
 (.seq (.region [o 6 (.lalloc [(.im (.sc (.int .i64 0))), (.im (.sc (.int .i64 0))), (.im (.sc (.string ⟨#[]⟩))), (.im (.sl [] .nil)), (.im (.sl [] .nil))])])
 (.seq (.seq (.region [o 10 (.ld 1 false (.t 1)),
 o 11 (.mv (.t 0)),
 o 12 (.lookup .int [(.im (.sc (.int .i64 0))), (.im (.sc (.int .i64 0))), (.im (.sc (.string ⟨#[]⟩))), (.im (.sl [] .nil)), (.im (.sl [] .nil))] true (.t 10) (.t 11) true),
 o 9 (.mv (.t 12)),
 o 13 (.extract (.t 9) 0),
 o 14 (.extract (.t 9) 1),
 o 7 (.lalloc [(.im (.sc (.int .i64 0))), (.im (.sc (.int .i64 0))), (.im (.sc (.string ⟨#[]⟩))), (.im (.sl [] .nil)), (.im (.sl [] .nil))]),
 e (.st 5 (.b 7) (.t 13)),
 o 8 (.mv (.t 14))])
 (.seq (.region [o 15 (.mv (.t 8))])
 (.cond (.t 15)
 (.seq (.region [o 16 (.ld 5 true (.b 7)),
 e (.st 5 (.b 6) (.t 16))])
 .ret)
 .skip)))
 (.seq (.seq (.region [o 17 (.ld 1 false (.t 2)),
 o 18 (.mv (.t 0)),
 o 19 (.lookup .int [(.im (.sc (.bool false)))] false (.t 17) (.t 18) false)])
 (.cond (.t 19)
 (.region [o 20 (.call 161 [(.k (.im (.sc (.int .i64 22))))])])
 .skip))
 (.seq (.region [o 21 (.ld 1 false (.t 2)),
 o 22 (.mv (.t 0)),
 e (.mapset .int (.t 21) (.t 22) (.k (.im (.sc (.bool true)))))])
 (.seq (.draw [o 23 (.ld 1 false (.t 1)),
 o 24 (.mv (.t 0)),
 o 25 (.ld 1 false (.t 3)),
 o 26 (.ld 1 false (.t 4)),
 o 27 (.mv (.t 0)),
 o 28 (.idxA 12 none (.t 26) (.t 27)),
 o 29 (.off 6 (.t 28)),
 o 30 (.ld 5 true (.t 29)),
 o 31 (.calld (.t 25) [(.t 30)]),
 e (.mapset .int (.t 23) (.t 24) (.t 31))] [0, 1, 3, 7, 15, 7, 7, 7, 3, 0])
 (.seq (.region [o 32 (.ld 1 false (.t 1)),
 o 33 (.mv (.t 0)),
 o 34 (.lookup .int [(.im (.sc (.int .i64 0))), (.im (.sc (.int .i64 0))), (.im (.sc (.string ⟨#[]⟩))), (.im (.sl [] .nil)), (.im (.sl [] .nil))] true (.t 32) (.t 33) false),
 e (.st 5 (.b 6) (.t 34))])
 .ret)))))) }
def b160 : List Nat := [6, 7]

end Go.Em.IR
