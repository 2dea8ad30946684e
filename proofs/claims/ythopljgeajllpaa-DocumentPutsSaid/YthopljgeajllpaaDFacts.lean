/- Facts on the types of the program. -/
import Derived.Test.YthopljgeajllpaaProg
import Derived.Test.YthopljgeajllpaaCoreP
set_option linter.unusedVariables false
set_option linter.unusedSimpArgs false
namespace Go.Proofs
open Go Go.Ideal
set_option maxRecDepth 4000
@[go_sem] theorem Try.c0 : Try.prog.cellsOf 0 = 1 := rfl
@[go_sem] theorem Try.s0 : szIs Try.prog 0 1 := rfl
@[go_sem] theorem Try.a0 : apOK Try.prog 0 1 := ⟨_, _, rfl, rfl, rfl, rfl, by decide, by decide⟩
@[go_sem] theorem Try.c1 : Try.prog.cellsOf 1 = 1 := rfl
@[go_sem] theorem Try.s1 : szIs Try.prog 1 1 := rfl
@[go_sem] theorem Try.a1 : apOK Try.prog 1 1 := ⟨_, _, rfl, rfl, rfl, rfl, by decide, by decide⟩
@[go_sem] theorem Try.u2 : Try.prog.underlying 2 = some (.int .i64) := rfl
@[go_sem] theorem Try.c2 : Try.prog.cellsOf 2 = 1 := rfl
@[go_sem] theorem Try.s2 : szIs Try.prog 2 1 := rfl
@[go_sem] theorem Try.a2 : apOK Try.prog 2 1 := ⟨_, _, rfl, rfl, rfl, rfl, by decide, by decide⟩
@[go_sem] theorem Try.u3 : Try.prog.underlying 3 = some (.int .i64) := rfl
@[go_sem] theorem Try.c3 : Try.prog.cellsOf 3 = 1 := rfl
@[go_sem] theorem Try.s3 : szIs Try.prog 3 1 := rfl
@[go_sem] theorem Try.a3 : apOK Try.prog 3 1 := ⟨_, _, rfl, rfl, rfl, rfl, by decide, by decide⟩
@[go_sem] theorem Try.u4 : Try.prog.underlying 4 = some (.bool) := rfl
@[go_sem] theorem Try.c4 : Try.prog.cellsOf 4 = 1 := rfl
@[go_sem] theorem Try.s4 : szIs Try.prog 4 1 := rfl
@[go_sem] theorem Try.a4 : apOK Try.prog 4 1 := ⟨_, _, rfl, rfl, rfl, rfl, by decide, by decide⟩
@[go_sem] theorem Try.u5 : Try.prog.underlying 5 = some (.int .u8) := rfl
@[go_sem] theorem Try.c5 : Try.prog.cellsOf 5 = 1 := rfl
@[go_sem] theorem Try.s5 : szIs Try.prog 5 1 := rfl
@[go_sem] theorem Try.a5 : apOK Try.prog 5 1 := ⟨_, _, rfl, rfl, rfl, rfl, by decide, by decide⟩
@[go_sem] theorem Try.u6 : Try.prog.underlying 6 = some (.int .u8) := rfl
@[go_sem] theorem Try.c6 : Try.prog.cellsOf 6 = 1 := rfl
@[go_sem] theorem Try.s6 : szIs Try.prog 6 1 := rfl
@[go_sem] theorem Try.a6 : apOK Try.prog 6 1 := ⟨_, _, rfl, rfl, rfl, rfl, by decide, by decide⟩
@[go_sem] theorem Try.c7 : Try.prog.cellsOf 7 = 4 := rfl
@[go_sem] theorem Try.s7 : szIs Try.prog 7 4 := rfl
@[go_sem] theorem Try.a7 : apOK Try.prog 7 4 := ⟨_, _, rfl, rfl, rfl, rfl, by decide, by decide⟩
@[go_sem] theorem Try.c8 : Try.prog.cellsOf 8 = 4 := rfl
@[go_sem] theorem Try.s8 : szIs Try.prog 8 4 := rfl
@[go_sem] theorem Try.a8 : apOK Try.prog 8 4 := ⟨_, _, rfl, rfl, rfl, rfl, by decide, by decide⟩
@[go_sem] theorem Try.u9 : Try.prog.underlying 9 = some (.string) := rfl
@[go_sem] theorem Try.c9 : Try.prog.cellsOf 9 = 1 := rfl
@[go_sem] theorem Try.s9 : szIs Try.prog 9 1 := rfl
@[go_sem] theorem Try.a9 : apOK Try.prog 9 1 := ⟨_, _, rfl, rfl, rfl, rfl, by decide, by decide⟩
@[go_sem] theorem Try.u10 : Try.prog.underlying 10 = some (.string) := rfl
@[go_sem] theorem Try.c10 : Try.prog.cellsOf 10 = 1 := rfl
@[go_sem] theorem Try.s10 : szIs Try.prog 10 1 := rfl
@[go_sem] theorem Try.a10 : apOK Try.prog 10 1 := ⟨_, _, rfl, rfl, rfl, rfl, by decide, by decide⟩
@[go_sem] theorem Try.u11 : Try.prog.underlying 11 = some (.string) := rfl
@[go_sem] theorem Try.c11 : Try.prog.cellsOf 11 = 1 := rfl
@[go_sem] theorem Try.s11 : szIs Try.prog 11 1 := rfl
@[go_sem] theorem Try.a11 : apOK Try.prog 11 1 := ⟨_, _, rfl, rfl, rfl, rfl, by decide, by decide⟩
@[go_sem] theorem Try.u12 : Try.prog.underlying 12 = some (.int .u64) := rfl
@[go_sem] theorem Try.c12 : Try.prog.cellsOf 12 = 1 := rfl
@[go_sem] theorem Try.s12 : szIs Try.prog 12 1 := rfl
@[go_sem] theorem Try.a12 : apOK Try.prog 12 1 := ⟨_, _, rfl, rfl, rfl, rfl, by decide, by decide⟩
@[go_sem] theorem Try.c13 : Try.prog.cellsOf 13 = 2 := rfl
@[go_sem] theorem Try.s13 : szIs Try.prog 13 2 := rfl
@[go_sem] theorem Try.a13 : apOK Try.prog 13 2 := ⟨_, _, rfl, rfl, rfl, rfl, by decide, by decide⟩
@[go_sem] theorem Try.c14 : Try.prog.cellsOf 14 = 2 := rfl
@[go_sem] theorem Try.s14 : szIs Try.prog 14 2 := rfl
@[go_sem] theorem Try.a14 : apOK Try.prog 14 2 := ⟨_, _, rfl, rfl, rfl, rfl, by decide, by decide⟩
@[go_sem] theorem Try.u15 : Try.prog.underlying 15 = some (.pointer 90) := rfl
@[go_sem] theorem Try.c15 : Try.prog.cellsOf 15 = 1 := rfl
@[go_sem] theorem Try.s15 : szIs Try.prog 15 1 := rfl
@[go_sem] theorem Try.a15 : apOK Try.prog 15 1 := ⟨_, _, rfl, rfl, rfl, rfl, by decide, by decide⟩
@[go_sem] theorem Try.u16 : Try.prog.underlying 16 = some (.pointer 93) := rfl
@[go_sem] theorem Try.c16 : Try.prog.cellsOf 16 = 1 := rfl
@[go_sem] theorem Try.s16 : szIs Try.prog 16 1 := rfl
@[go_sem] theorem Try.a16 : apOK Try.prog 16 1 := ⟨_, _, rfl, rfl, rfl, rfl, by decide, by decide⟩
@[go_sem] theorem Try.u17 : Try.prog.underlying 17 = some (.pointer 103) := rfl
@[go_sem] theorem Try.c17 : Try.prog.cellsOf 17 = 1 := rfl
@[go_sem] theorem Try.s17 : szIs Try.prog 17 1 := rfl
@[go_sem] theorem Try.a17 : apOK Try.prog 17 1 := ⟨_, _, rfl, rfl, rfl, rfl, by decide, by decide⟩
@[go_sem] theorem Try.c18 : Try.prog.cellsOf 18 = 1 := rfl
@[go_sem] theorem Try.s18 : szIs Try.prog 18 1 := rfl
@[go_sem] theorem Try.a18 : apOK Try.prog 18 1 := ⟨_, _, rfl, rfl, rfl, rfl, by decide, by decide⟩
@[go_sem] theorem Try.c19 : Try.prog.cellsOf 19 = 1 := rfl
@[go_sem] theorem Try.s19 : szIs Try.prog 19 1 := rfl
@[go_sem] theorem Try.a19 : apOK Try.prog 19 1 := ⟨_, _, rfl, rfl, rfl, rfl, by decide, by decide⟩
@[go_sem] theorem Try.c20 : Try.prog.cellsOf 20 = 1 := rfl
@[go_sem] theorem Try.s20 : szIs Try.prog 20 1 := rfl
@[go_sem] theorem Try.a20 : apOK Try.prog 20 1 := ⟨_, _, rfl, rfl, rfl, rfl, by decide, by decide⟩
@[go_sem] theorem Try.u21 : Try.prog.underlying 21 = some (.int .i32) := rfl
@[go_sem] theorem Try.c21 : Try.prog.cellsOf 21 = 1 := rfl
@[go_sem] theorem Try.s21 : szIs Try.prog 21 1 := rfl
@[go_sem] theorem Try.a21 : apOK Try.prog 21 1 := ⟨_, _, rfl, rfl, rfl, rfl, by decide, by decide⟩
@[go_sem] theorem Try.u22 : Try.prog.underlying 22 = some (.slice 37) := rfl
@[go_sem] theorem Try.c22 : Try.prog.cellsOf 22 = 1 := rfl
@[go_sem] theorem Try.s22 : szIs Try.prog 22 1 := rfl
@[go_sem] theorem Try.a22 : apOK Try.prog 22 1 := ⟨_, _, rfl, rfl, rfl, rfl, by decide, by decide⟩
@[go_sem] theorem Try.u23 : Try.prog.underlying 23 = some (.int .i16) := rfl
@[go_sem] theorem Try.c23 : Try.prog.cellsOf 23 = 1 := rfl
@[go_sem] theorem Try.s23 : szIs Try.prog 23 1 := rfl
@[go_sem] theorem Try.a23 : apOK Try.prog 23 1 := ⟨_, _, rfl, rfl, rfl, rfl, by decide, by decide⟩
@[go_sem] theorem Try.u24 : Try.prog.underlying 24 = some (.array 3 23) := rfl
@[go_sem] theorem Try.c24 : Try.prog.cellsOf 24 = 3 := rfl
@[go_sem] theorem Try.s24 : szIs Try.prog 24 3 := rfl
@[go_sem] theorem Try.a24 : apOK Try.prog 24 3 := ⟨_, _, rfl, rfl, rfl, rfl, by decide, by decide⟩
@[go_sem] theorem Try.c25 : Try.prog.cellsOf 25 = 1 := rfl
@[go_sem] theorem Try.s25 : szIs Try.prog 25 1 := rfl
@[go_sem] theorem Try.a25 : apOK Try.prog 25 1 := ⟨_, _, rfl, rfl, rfl, rfl, by decide, by decide⟩
@[go_sem] theorem Try.u26 : Try.prog.underlying 26 = some (.slice 33) := rfl
@[go_sem] theorem Try.c26 : Try.prog.cellsOf 26 = 1 := rfl
@[go_sem] theorem Try.s26 : szIs Try.prog 26 1 := rfl
@[go_sem] theorem Try.a26 : apOK Try.prog 26 1 := ⟨_, _, rfl, rfl, rfl, rfl, by decide, by decide⟩
@[go_sem] theorem Try.c27 : Try.prog.cellsOf 27 = 2 := rfl
@[go_sem] theorem Try.s27 : szIs Try.prog 27 2 := rfl
@[go_sem] theorem Try.a27 : apOK Try.prog 27 2 := ⟨_, _, rfl, rfl, rfl, rfl, by decide, by decide⟩
@[go_sem] theorem Try.c28 : Try.prog.cellsOf 28 = 2 := rfl
@[go_sem] theorem Try.s28 : szIs Try.prog 28 2 := rfl
@[go_sem] theorem Try.a28 : apOK Try.prog 28 2 := ⟨_, _, rfl, rfl, rfl, rfl, by decide, by decide⟩
@[go_sem] theorem Try.c29 : Try.prog.cellsOf 29 = 1 := rfl
@[go_sem] theorem Try.s29 : szIs Try.prog 29 1 := rfl
@[go_sem] theorem Try.a29 : apOK Try.prog 29 1 := ⟨_, _, rfl, rfl, rfl, rfl, by decide, by decide⟩
@[go_sem] theorem Try.c30 : Try.prog.cellsOf 30 = 1 := rfl
@[go_sem] theorem Try.s30 : szIs Try.prog 30 1 := rfl
@[go_sem] theorem Try.a30 : apOK Try.prog 30 1 := ⟨_, _, rfl, rfl, rfl, rfl, by decide, by decide⟩
@[go_sem] theorem Try.u31 : Try.prog.underlying 31 = some (.int .u16) := rfl
@[go_sem] theorem Try.c31 : Try.prog.cellsOf 31 = 1 := rfl
@[go_sem] theorem Try.s31 : szIs Try.prog 31 1 := rfl
@[go_sem] theorem Try.a31 : apOK Try.prog 31 1 := ⟨_, _, rfl, rfl, rfl, rfl, by decide, by decide⟩
@[go_sem] theorem Try.c32 : Try.prog.cellsOf 32 = 4 := rfl
@[go_sem] theorem Try.s32 : szIs Try.prog 32 4 := rfl
@[go_sem] theorem Try.a32 : apOK Try.prog 32 4 := ⟨_, _, rfl, rfl, rfl, rfl, by decide, by decide⟩
@[go_sem] theorem Try.c33 : Try.prog.cellsOf 33 = 4 := rfl
@[go_sem] theorem Try.s33 : szIs Try.prog 33 4 := rfl
@[go_sem] theorem Try.a33 : apOK Try.prog 33 4 := ⟨_, _, rfl, rfl, rfl, rfl, by decide, by decide⟩
@[go_sem] theorem Try.c34 : Try.prog.cellsOf 34 = 1 := rfl
@[go_sem] theorem Try.s34 : szIs Try.prog 34 1 := rfl
@[go_sem] theorem Try.a34 : apOK Try.prog 34 1 := ⟨_, _, rfl, rfl, rfl, rfl, by decide, by decide⟩
@[go_sem] theorem Try.u35 : Try.prog.underlying 35 = some (.slice 5) := rfl
@[go_sem] theorem Try.c35 : Try.prog.cellsOf 35 = 1 := rfl
@[go_sem] theorem Try.s35 : szIs Try.prog 35 1 := rfl
@[go_sem] theorem Try.a35 : apOK Try.prog 35 1 := ⟨_, _, rfl, rfl, rfl, rfl, by decide, by decide⟩
@[go_sem] theorem Try.c36 : Try.prog.cellsOf 36 = 5 := rfl
@[go_sem] theorem Try.s36 : szIs Try.prog 36 5 := rfl
@[go_sem] theorem Try.a36 : apOK Try.prog 36 5 := ⟨_, _, rfl, rfl, rfl, rfl, by decide, by decide⟩
@[go_sem] theorem Try.c37 : Try.prog.cellsOf 37 = 5 := rfl
@[go_sem] theorem Try.s37 : szIs Try.prog 37 5 := rfl
@[go_sem] theorem Try.a37 : apOK Try.prog 37 5 := ⟨_, _, rfl, rfl, rfl, rfl, by decide, by decide⟩
@[go_sem] theorem Try.c38 : Try.prog.cellsOf 38 = 5 := rfl
@[go_sem] theorem Try.s38 : szIs Try.prog 38 5 := rfl
@[go_sem] theorem Try.a38 : apOK Try.prog 38 5 := ⟨_, _, rfl, rfl, rfl, rfl, by decide, by decide⟩
@[go_sem] theorem Try.c39 : Try.prog.cellsOf 39 = 5 := rfl
@[go_sem] theorem Try.s39 : szIs Try.prog 39 5 := rfl
@[go_sem] theorem Try.a39 : apOK Try.prog 39 5 := ⟨_, _, rfl, rfl, rfl, rfl, by decide, by decide⟩
@[go_sem] theorem Try.c40 : Try.prog.cellsOf 40 = 1 := rfl
@[go_sem] theorem Try.s40 : szIs Try.prog 40 1 := rfl
@[go_sem] theorem Try.a40 : apOK Try.prog 40 1 := ⟨_, _, rfl, rfl, rfl, rfl, by decide, by decide⟩
@[go_sem] theorem Try.u41 : Try.prog.underlying 41 = some (.int .i64) := rfl
@[go_sem] theorem Try.c41 : Try.prog.cellsOf 41 = 1 := rfl
@[go_sem] theorem Try.s41 : szIs Try.prog 41 1 := rfl
@[go_sem] theorem Try.a41 : apOK Try.prog 41 1 := ⟨_, _, rfl, rfl, rfl, rfl, by decide, by decide⟩
@[go_sem] theorem Try.c42 : Try.prog.cellsOf 42 = 1 := rfl
@[go_sem] theorem Try.s42 : szIs Try.prog 42 1 := rfl
@[go_sem] theorem Try.a42 : apOK Try.prog 42 1 := ⟨_, _, rfl, rfl, rfl, rfl, by decide, by decide⟩
@[go_sem] theorem Try.c43 : Try.prog.cellsOf 43 = 1 := rfl
@[go_sem] theorem Try.s43 : szIs Try.prog 43 1 := rfl
@[go_sem] theorem Try.a43 : apOK Try.prog 43 1 := ⟨_, _, rfl, rfl, rfl, rfl, by decide, by decide⟩
@[go_sem] theorem Try.u44 : Try.prog.underlying 44 = some (.array 95 3) := rfl
@[go_sem] theorem Try.c44 : Try.prog.cellsOf 44 = 95 := rfl
@[go_sem] theorem Try.s44 : szIs Try.prog 44 95 := rfl
@[go_sem] theorem Try.a44 : apOK Try.prog 44 95 := ⟨_, _, rfl, rfl, rfl, rfl, by decide, by decide⟩
@[go_sem] theorem Try.c45 : Try.prog.cellsOf 45 = 1 := rfl
@[go_sem] theorem Try.s45 : szIs Try.prog 45 1 := rfl
@[go_sem] theorem Try.a45 : apOK Try.prog 45 1 := ⟨_, _, rfl, rfl, rfl, rfl, by decide, by decide⟩
@[go_sem] theorem Try.c46 : Try.prog.cellsOf 46 = 1 := rfl
@[go_sem] theorem Try.s46 : szIs Try.prog 46 1 := rfl
@[go_sem] theorem Try.a46 : apOK Try.prog 46 1 := ⟨_, _, rfl, rfl, rfl, rfl, by decide, by decide⟩
@[go_sem] theorem Try.c47 : Try.prog.cellsOf 47 = 1 := rfl
@[go_sem] theorem Try.s47 : szIs Try.prog 47 1 := rfl
@[go_sem] theorem Try.a47 : apOK Try.prog 47 1 := ⟨_, _, rfl, rfl, rfl, rfl, by decide, by decide⟩
@[go_sem] theorem Try.c48 : Try.prog.cellsOf 48 = 1 := rfl
@[go_sem] theorem Try.s48 : szIs Try.prog 48 1 := rfl
@[go_sem] theorem Try.a48 : apOK Try.prog 48 1 := ⟨_, _, rfl, rfl, rfl, rfl, by decide, by decide⟩
@[go_sem] theorem Try.c49 : Try.prog.cellsOf 49 = 1 := rfl
@[go_sem] theorem Try.s49 : szIs Try.prog 49 1 := rfl
@[go_sem] theorem Try.a49 : apOK Try.prog 49 1 := ⟨_, _, rfl, rfl, rfl, rfl, by decide, by decide⟩
@[go_sem] theorem Try.c50 : Try.prog.cellsOf 50 = 1 := rfl
@[go_sem] theorem Try.s50 : szIs Try.prog 50 1 := rfl
@[go_sem] theorem Try.a50 : apOK Try.prog 50 1 := ⟨_, _, rfl, rfl, rfl, rfl, by decide, by decide⟩
@[go_sem] theorem Try.c51 : Try.prog.cellsOf 51 = 1 := rfl
@[go_sem] theorem Try.s51 : szIs Try.prog 51 1 := rfl
@[go_sem] theorem Try.a51 : apOK Try.prog 51 1 := ⟨_, _, rfl, rfl, rfl, rfl, by decide, by decide⟩
@[go_sem] theorem Try.c52 : Try.prog.cellsOf 52 = 1 := rfl
@[go_sem] theorem Try.s52 : szIs Try.prog 52 1 := rfl
@[go_sem] theorem Try.a52 : apOK Try.prog 52 1 := ⟨_, _, rfl, rfl, rfl, rfl, by decide, by decide⟩
@[go_sem] theorem Try.c53 : Try.prog.cellsOf 53 = 1 := rfl
@[go_sem] theorem Try.s53 : szIs Try.prog 53 1 := rfl
@[go_sem] theorem Try.a53 : apOK Try.prog 53 1 := ⟨_, _, rfl, rfl, rfl, rfl, by decide, by decide⟩
@[go_sem] theorem Try.c54 : Try.prog.cellsOf 54 = 3 := rfl
@[go_sem] theorem Try.s54 : szIs Try.prog 54 3 := rfl
@[go_sem] theorem Try.a54 : apOK Try.prog 54 3 := ⟨_, _, rfl, rfl, rfl, rfl, by decide, by decide⟩
@[go_sem] theorem Try.c55 : Try.prog.cellsOf 55 = 3 := rfl
@[go_sem] theorem Try.s55 : szIs Try.prog 55 3 := rfl
@[go_sem] theorem Try.a55 : apOK Try.prog 55 3 := ⟨_, _, rfl, rfl, rfl, rfl, by decide, by decide⟩
@[go_sem] theorem Try.c56 : Try.prog.cellsOf 56 = 1 := rfl
@[go_sem] theorem Try.s56 : szIs Try.prog 56 1 := rfl
@[go_sem] theorem Try.a56 : apOK Try.prog 56 1 := ⟨_, _, rfl, rfl, rfl, rfl, by decide, by decide⟩
@[go_sem] theorem Try.c57 : Try.prog.cellsOf 57 = 1 := rfl
@[go_sem] theorem Try.s57 : szIs Try.prog 57 1 := rfl
@[go_sem] theorem Try.a57 : apOK Try.prog 57 1 := ⟨_, _, rfl, rfl, rfl, rfl, by decide, by decide⟩
@[go_sem] theorem Try.c58 : Try.prog.cellsOf 58 = 1 := rfl
@[go_sem] theorem Try.s58 : szIs Try.prog 58 1 := rfl
@[go_sem] theorem Try.a58 : apOK Try.prog 58 1 := ⟨_, _, rfl, rfl, rfl, rfl, by decide, by decide⟩
@[go_sem] theorem Try.c59 : Try.prog.cellsOf 59 = 1 := rfl
@[go_sem] theorem Try.s59 : szIs Try.prog 59 1 := rfl
@[go_sem] theorem Try.a59 : apOK Try.prog 59 1 := ⟨_, _, rfl, rfl, rfl, rfl, by decide, by decide⟩
@[go_sem] theorem Try.c60 : Try.prog.cellsOf 60 = 1 := rfl
@[go_sem] theorem Try.s60 : szIs Try.prog 60 1 := rfl
@[go_sem] theorem Try.a60 : apOK Try.prog 60 1 := ⟨_, _, rfl, rfl, rfl, rfl, by decide, by decide⟩
@[go_sem] theorem Try.c61 : Try.prog.cellsOf 61 = 1 := rfl
@[go_sem] theorem Try.s61 : szIs Try.prog 61 1 := rfl
@[go_sem] theorem Try.a61 : apOK Try.prog 61 1 := ⟨_, _, rfl, rfl, rfl, rfl, by decide, by decide⟩
@[go_sem] theorem Try.c62 : Try.prog.cellsOf 62 = 1 := rfl
@[go_sem] theorem Try.s62 : szIs Try.prog 62 1 := rfl
@[go_sem] theorem Try.a62 : apOK Try.prog 62 1 := ⟨_, _, rfl, rfl, rfl, rfl, by decide, by decide⟩
@[go_sem] theorem Try.c63 : Try.prog.cellsOf 63 = 1 := rfl
@[go_sem] theorem Try.s63 : szIs Try.prog 63 1 := rfl
@[go_sem] theorem Try.a63 : apOK Try.prog 63 1 := ⟨_, _, rfl, rfl, rfl, rfl, by decide, by decide⟩
@[go_sem] theorem Try.c64 : Try.prog.cellsOf 64 = 1 := rfl
@[go_sem] theorem Try.s64 : szIs Try.prog 64 1 := rfl
@[go_sem] theorem Try.a64 : apOK Try.prog 64 1 := ⟨_, _, rfl, rfl, rfl, rfl, by decide, by decide⟩
@[go_sem] theorem Try.c65 : Try.prog.cellsOf 65 = 1 := rfl
@[go_sem] theorem Try.s65 : szIs Try.prog 65 1 := rfl
@[go_sem] theorem Try.a65 : apOK Try.prog 65 1 := ⟨_, _, rfl, rfl, rfl, rfl, by decide, by decide⟩
@[go_sem] theorem Try.c66 : Try.prog.cellsOf 66 = 1 := rfl
@[go_sem] theorem Try.s66 : szIs Try.prog 66 1 := rfl
@[go_sem] theorem Try.a66 : apOK Try.prog 66 1 := ⟨_, _, rfl, rfl, rfl, rfl, by decide, by decide⟩
@[go_sem] theorem Try.c67 : Try.prog.cellsOf 67 = 1 := rfl
@[go_sem] theorem Try.s67 : szIs Try.prog 67 1 := rfl
@[go_sem] theorem Try.a67 : apOK Try.prog 67 1 := ⟨_, _, rfl, rfl, rfl, rfl, by decide, by decide⟩
@[go_sem] theorem Try.c68 : Try.prog.cellsOf 68 = 1 := rfl
@[go_sem] theorem Try.s68 : szIs Try.prog 68 1 := rfl
@[go_sem] theorem Try.a68 : apOK Try.prog 68 1 := ⟨_, _, rfl, rfl, rfl, rfl, by decide, by decide⟩
@[go_sem] theorem Try.c69 : Try.prog.cellsOf 69 = 1 := rfl
@[go_sem] theorem Try.s69 : szIs Try.prog 69 1 := rfl
@[go_sem] theorem Try.a69 : apOK Try.prog 69 1 := ⟨_, _, rfl, rfl, rfl, rfl, by decide, by decide⟩
@[go_sem] theorem Try.c70 : Try.prog.cellsOf 70 = 1 := rfl
@[go_sem] theorem Try.s70 : szIs Try.prog 70 1 := rfl
@[go_sem] theorem Try.a70 : apOK Try.prog 70 1 := ⟨_, _, rfl, rfl, rfl, rfl, by decide, by decide⟩
@[go_sem] theorem Try.c71 : Try.prog.cellsOf 71 = 1 := rfl
@[go_sem] theorem Try.s71 : szIs Try.prog 71 1 := rfl
@[go_sem] theorem Try.a71 : apOK Try.prog 71 1 := ⟨_, _, rfl, rfl, rfl, rfl, by decide, by decide⟩
@[go_sem] theorem Try.c72 : Try.prog.cellsOf 72 = 1 := rfl
@[go_sem] theorem Try.s72 : szIs Try.prog 72 1 := rfl
@[go_sem] theorem Try.a72 : apOK Try.prog 72 1 := ⟨_, _, rfl, rfl, rfl, rfl, by decide, by decide⟩
@[go_sem] theorem Try.c73 : Try.prog.cellsOf 73 = 1 := rfl
@[go_sem] theorem Try.s73 : szIs Try.prog 73 1 := rfl
@[go_sem] theorem Try.a73 : apOK Try.prog 73 1 := ⟨_, _, rfl, rfl, rfl, rfl, by decide, by decide⟩
@[go_sem] theorem Try.c74 : Try.prog.cellsOf 74 = 1 := rfl
@[go_sem] theorem Try.s74 : szIs Try.prog 74 1 := rfl
@[go_sem] theorem Try.a74 : apOK Try.prog 74 1 := ⟨_, _, rfl, rfl, rfl, rfl, by decide, by decide⟩
@[go_sem] theorem Try.c75 : Try.prog.cellsOf 75 = 1 := rfl
@[go_sem] theorem Try.s75 : szIs Try.prog 75 1 := rfl
@[go_sem] theorem Try.a75 : apOK Try.prog 75 1 := ⟨_, _, rfl, rfl, rfl, rfl, by decide, by decide⟩
@[go_sem] theorem Try.c76 : Try.prog.cellsOf 76 = 1 := rfl
@[go_sem] theorem Try.s76 : szIs Try.prog 76 1 := rfl
@[go_sem] theorem Try.a76 : apOK Try.prog 76 1 := ⟨_, _, rfl, rfl, rfl, rfl, by decide, by decide⟩
@[go_sem] theorem Try.c77 : Try.prog.cellsOf 77 = 1 := rfl
@[go_sem] theorem Try.s77 : szIs Try.prog 77 1 := rfl
@[go_sem] theorem Try.a77 : apOK Try.prog 77 1 := ⟨_, _, rfl, rfl, rfl, rfl, by decide, by decide⟩
@[go_sem] theorem Try.c78 : Try.prog.cellsOf 78 = 1 := rfl
@[go_sem] theorem Try.s78 : szIs Try.prog 78 1 := rfl
@[go_sem] theorem Try.a78 : apOK Try.prog 78 1 := ⟨_, _, rfl, rfl, rfl, rfl, by decide, by decide⟩
@[go_sem] theorem Try.c79 : Try.prog.cellsOf 79 = 1 := rfl
@[go_sem] theorem Try.s79 : szIs Try.prog 79 1 := rfl
@[go_sem] theorem Try.a79 : apOK Try.prog 79 1 := ⟨_, _, rfl, rfl, rfl, rfl, by decide, by decide⟩
@[go_sem] theorem Try.u80 : Try.prog.underlying 80 = some (.int .u64) := rfl
@[go_sem] theorem Try.c80 : Try.prog.cellsOf 80 = 1 := rfl
@[go_sem] theorem Try.s80 : szIs Try.prog 80 1 := rfl
@[go_sem] theorem Try.a80 : apOK Try.prog 80 1 := ⟨_, _, rfl, rfl, rfl, rfl, by decide, by decide⟩
@[go_sem] theorem Try.c81 : Try.prog.cellsOf 81 = 1 := rfl
@[go_sem] theorem Try.s81 : szIs Try.prog 81 1 := rfl
@[go_sem] theorem Try.a81 : apOK Try.prog 81 1 := ⟨_, _, rfl, rfl, rfl, rfl, by decide, by decide⟩
@[go_sem] theorem Try.c82 : Try.prog.cellsOf 82 = 1 := rfl
@[go_sem] theorem Try.s82 : szIs Try.prog 82 1 := rfl
@[go_sem] theorem Try.a82 : apOK Try.prog 82 1 := ⟨_, _, rfl, rfl, rfl, rfl, by decide, by decide⟩
@[go_sem] theorem Try.c83 : Try.prog.cellsOf 83 = 1 := rfl
@[go_sem] theorem Try.s83 : szIs Try.prog 83 1 := rfl
@[go_sem] theorem Try.a83 : apOK Try.prog 83 1 := ⟨_, _, rfl, rfl, rfl, rfl, by decide, by decide⟩
@[go_sem] theorem Try.c84 : Try.prog.cellsOf 84 = 1 := rfl
@[go_sem] theorem Try.s84 : szIs Try.prog 84 1 := rfl
@[go_sem] theorem Try.a84 : apOK Try.prog 84 1 := ⟨_, _, rfl, rfl, rfl, rfl, by decide, by decide⟩
@[go_sem] theorem Try.c85 : Try.prog.cellsOf 85 = 1 := rfl
@[go_sem] theorem Try.s85 : szIs Try.prog 85 1 := rfl
@[go_sem] theorem Try.a85 : apOK Try.prog 85 1 := ⟨_, _, rfl, rfl, rfl, rfl, by decide, by decide⟩
@[go_sem] theorem Try.c86 : Try.prog.cellsOf 86 = 1 := rfl
@[go_sem] theorem Try.s86 : szIs Try.prog 86 1 := rfl
@[go_sem] theorem Try.a86 : apOK Try.prog 86 1 := ⟨_, _, rfl, rfl, rfl, rfl, by decide, by decide⟩
@[go_sem] theorem Try.c87 : Try.prog.cellsOf 87 = 1 := rfl
@[go_sem] theorem Try.s87 : szIs Try.prog 87 1 := rfl
@[go_sem] theorem Try.a87 : apOK Try.prog 87 1 := ⟨_, _, rfl, rfl, rfl, rfl, by decide, by decide⟩
@[go_sem] theorem Try.c88 : Try.prog.cellsOf 88 = 1 := rfl
@[go_sem] theorem Try.s88 : szIs Try.prog 88 1 := rfl
@[go_sem] theorem Try.a88 : apOK Try.prog 88 1 := ⟨_, _, rfl, rfl, rfl, rfl, by decide, by decide⟩
@[go_sem] theorem Try.c89 : Try.prog.cellsOf 89 = 4 := rfl
@[go_sem] theorem Try.s89 : szIs Try.prog 89 4 := rfl
@[go_sem] theorem Try.a89 : apOK Try.prog 89 4 := ⟨_, _, rfl, rfl, rfl, rfl, by decide, by decide⟩
@[go_sem] theorem Try.c90 : Try.prog.cellsOf 90 = 4 := rfl
@[go_sem] theorem Try.s90 : szIs Try.prog 90 4 := rfl
@[go_sem] theorem Try.a90 : apOK Try.prog 90 4 := ⟨_, _, rfl, rfl, rfl, rfl, by decide, by decide⟩
@[go_sem] theorem Try.u91 : Try.prog.underlying 91 = some (.array 0 16) := rfl
@[go_sem] theorem Try.c91 : Try.prog.cellsOf 91 = 0 := rfl
@[go_sem] theorem Try.s91 : szIs Try.prog 91 0 := rfl
@[go_sem] theorem Try.c92 : Try.prog.cellsOf 92 = 0 := rfl
@[go_sem] theorem Try.s92 : szIs Try.prog 92 0 := rfl
@[go_sem] theorem Try.c93 : Try.prog.cellsOf 93 = 0 := rfl
@[go_sem] theorem Try.s93 : szIs Try.prog 93 0 := rfl
@[go_sem] theorem Try.c94 : Try.prog.cellsOf 94 = 1 := rfl
@[go_sem] theorem Try.s94 : szIs Try.prog 94 1 := rfl
@[go_sem] theorem Try.a94 : apOK Try.prog 94 1 := ⟨_, _, rfl, rfl, rfl, rfl, by decide, by decide⟩
@[go_sem] theorem Try.u95 : Try.prog.underlying 95 = some (.int .u32) := rfl
@[go_sem] theorem Try.c95 : Try.prog.cellsOf 95 = 1 := rfl
@[go_sem] theorem Try.s95 : szIs Try.prog 95 1 := rfl
@[go_sem] theorem Try.a95 : apOK Try.prog 95 1 := ⟨_, _, rfl, rfl, rfl, rfl, by decide, by decide⟩
@[go_sem] theorem Try.u96 : Try.prog.underlying 96 = some (.int .u8) := rfl
@[go_sem] theorem Try.c96 : Try.prog.cellsOf 96 = 1 := rfl
@[go_sem] theorem Try.s96 : szIs Try.prog 96 1 := rfl
@[go_sem] theorem Try.a96 : apOK Try.prog 96 1 := ⟨_, _, rfl, rfl, rfl, rfl, by decide, by decide⟩
@[go_sem] theorem Try.u97 : Try.prog.underlying 97 = some (.int .u8) := rfl
@[go_sem] theorem Try.c97 : Try.prog.cellsOf 97 = 1 := rfl
@[go_sem] theorem Try.s97 : szIs Try.prog 97 1 := rfl
@[go_sem] theorem Try.a97 : apOK Try.prog 97 1 := ⟨_, _, rfl, rfl, rfl, rfl, by decide, by decide⟩
@[go_sem] theorem Try.c98 : Try.prog.cellsOf 98 = 1 := rfl
@[go_sem] theorem Try.s98 : szIs Try.prog 98 1 := rfl
@[go_sem] theorem Try.a98 : apOK Try.prog 98 1 := ⟨_, _, rfl, rfl, rfl, rfl, by decide, by decide⟩
@[go_sem] theorem Try.u99 : Try.prog.underlying 99 = some (.pointer 5) := rfl
@[go_sem] theorem Try.c99 : Try.prog.cellsOf 99 = 1 := rfl
@[go_sem] theorem Try.s99 : szIs Try.prog 99 1 := rfl
@[go_sem] theorem Try.a99 : apOK Try.prog 99 1 := ⟨_, _, rfl, rfl, rfl, rfl, by decide, by decide⟩
@[go_sem] theorem Try.u100 : Try.prog.underlying 100 = some (.int .i32) := rfl
@[go_sem] theorem Try.c100 : Try.prog.cellsOf 100 = 1 := rfl
@[go_sem] theorem Try.s100 : szIs Try.prog 100 1 := rfl
@[go_sem] theorem Try.a100 : apOK Try.prog 100 1 := ⟨_, _, rfl, rfl, rfl, rfl, by decide, by decide⟩
@[go_sem] theorem Try.u101 : Try.prog.underlying 101 = some (.int .i32) := rfl
@[go_sem] theorem Try.c101 : Try.prog.cellsOf 101 = 1 := rfl
@[go_sem] theorem Try.s101 : szIs Try.prog 101 1 := rfl
@[go_sem] theorem Try.a101 : apOK Try.prog 101 1 := ⟨_, _, rfl, rfl, rfl, rfl, by decide, by decide⟩
@[go_sem] theorem Try.c102 : Try.prog.cellsOf 102 = 11 := rfl
@[go_sem] theorem Try.s102 : szIs Try.prog 102 11 := rfl
@[go_sem] theorem Try.a102 : apOK Try.prog 102 11 := ⟨_, _, rfl, rfl, rfl, rfl, by decide, by decide⟩
@[go_sem] theorem Try.c103 : Try.prog.cellsOf 103 = 11 := rfl
@[go_sem] theorem Try.s103 : szIs Try.prog 103 11 := rfl
@[go_sem] theorem Try.a103 : apOK Try.prog 103 11 := ⟨_, _, rfl, rfl, rfl, rfl, by decide, by decide⟩
@[go_sem] theorem Try.c104 : Try.prog.cellsOf 104 = 1 := rfl
@[go_sem] theorem Try.s104 : szIs Try.prog 104 1 := rfl
@[go_sem] theorem Try.a104 : apOK Try.prog 104 1 := ⟨_, _, rfl, rfl, rfl, rfl, by decide, by decide⟩
@[go_sem] theorem Try.g1 : aggT Try.prog 1 = false := rfl
@[go_sem] theorem Try.i1 : (Try.prog.underlying 1).isSome = true := rfl
@[go_sem] theorem Try.z1 : zeroAV Try.prog 1 = some (.atom .nilFunc) := rfl
@[go_sem] theorem Try.g2 : aggT Try.prog 2 = false := rfl
@[go_sem] theorem Try.z2 : zeroAV Try.prog 2 = some (.int .i64 0) := rfl
@[go_sem] theorem Try.g3 : aggT Try.prog 3 = false := rfl
@[go_sem] theorem Try.z3 : zeroAV Try.prog 3 = some (.int .i64 0) := rfl
@[go_sem] theorem Try.g4 : aggT Try.prog 4 = false := rfl
@[go_sem] theorem Try.z4 : zeroAV Try.prog 4 = some (.bool false) := rfl
@[go_sem] theorem Try.g5 : aggT Try.prog 5 = false := rfl
@[go_sem] theorem Try.z5 : zeroAV Try.prog 5 = some (.int .u8 0) := rfl
@[go_sem] theorem Try.g6 : aggT Try.prog 6 = false := rfl
@[go_sem] theorem Try.z6 : zeroAV Try.prog 6 = some (.int .u8 0) := rfl
@[go_sem] theorem Try.g7 : aggT Try.prog 7 = true := rfl
@[go_sem] theorem Try.i7 : (Try.prog.underlying 7).isSome = true := rfl
@[go_sem] theorem Try.f_7_0 : fieldTy Try.prog 7 0 = some (0, 2) := rfl
@[go_sem] theorem Try.f_7_1 : fieldTy Try.prog 7 1 = some (1, 3) := rfl
@[go_sem] theorem Try.f_7_2 : fieldTy Try.prog 7 2 = some (2, 4) := rfl
@[go_sem] theorem Try.f_7_3 : fieldTy Try.prog 7 3 = some (3, 6) := rfl
@[go_sem] theorem Try.z7 : zeroAV Try.prog 7 = some (.agg [.int .i64 0, .int .i64 0, .bool false, .int .u8 0]) := rfl
@[go_sem] theorem Try.p7 : placesOf Try.prog 7 = some [(0, 1), (1, 1), (2, 1), (3, 1)] := rfl
@[go_sem] theorem Try.e7 : eqFlat Try.prog 7 = some [(0, 0), (1, 0), (2, 1), (3, 0)] := by decide +kernel
@[go_sem] theorem Try.g8 : aggT Try.prog 8 = true := rfl
@[go_sem] theorem Try.i8 : (Try.prog.underlying 8).isSome = true := rfl
@[go_sem] theorem Try.f_8_0 : fieldTy Try.prog 8 0 = some (0, 2) := rfl
@[go_sem] theorem Try.f_8_1 : fieldTy Try.prog 8 1 = some (1, 3) := rfl
@[go_sem] theorem Try.f_8_2 : fieldTy Try.prog 8 2 = some (2, 4) := rfl
@[go_sem] theorem Try.f_8_3 : fieldTy Try.prog 8 3 = some (3, 6) := rfl
@[go_sem] theorem Try.z8 : zeroAV Try.prog 8 = some (.agg [.int .i64 0, .int .i64 0, .bool false, .int .u8 0]) := rfl
@[go_sem] theorem Try.p8 : placesOf Try.prog 8 = some [(0, 1), (1, 1), (2, 1), (3, 1)] := rfl
@[go_sem] theorem Try.e8 : eqFlat Try.prog 8 = some [(0, 0), (1, 0), (2, 1), (3, 0)] := by decide +kernel
@[go_sem] theorem Try.g9 : aggT Try.prog 9 = false := rfl
@[go_sem] theorem Try.z9 : zeroAV Try.prog 9 = some (.str []) := rfl
@[go_sem] theorem Try.g10 : aggT Try.prog 10 = false := rfl
@[go_sem] theorem Try.z10 : zeroAV Try.prog 10 = some (.str []) := rfl
@[go_sem] theorem Try.g11 : aggT Try.prog 11 = false := rfl
@[go_sem] theorem Try.z11 : zeroAV Try.prog 11 = some (.str []) := rfl
@[go_sem] theorem Try.g12 : aggT Try.prog 12 = false := rfl
@[go_sem] theorem Try.z12 : zeroAV Try.prog 12 = some (.int .u64 0) := rfl
@[go_sem] theorem Try.g13 : aggT Try.prog 13 = true := rfl
@[go_sem] theorem Try.i13 : (Try.prog.underlying 13).isSome = true := rfl
@[go_sem] theorem Try.f_13_0 : fieldTy Try.prog 13 0 = some (0, 9) := rfl
@[go_sem] theorem Try.f_13_1 : fieldTy Try.prog 13 1 = some (1, 12) := rfl
@[go_sem] theorem Try.z13 : zeroAV Try.prog 13 = some (.agg [.str [], .int .u64 0]) := rfl
@[go_sem] theorem Try.p13 : placesOf Try.prog 13 = some [(0, 1), (1, 1)] := rfl
@[go_sem] theorem Try.g14 : aggT Try.prog 14 = true := rfl
@[go_sem] theorem Try.i14 : (Try.prog.underlying 14).isSome = true := rfl
@[go_sem] theorem Try.f_14_0 : fieldTy Try.prog 14 0 = some (0, 9) := rfl
@[go_sem] theorem Try.f_14_1 : fieldTy Try.prog 14 1 = some (1, 12) := rfl
@[go_sem] theorem Try.z14 : zeroAV Try.prog 14 = some (.agg [.str [], .int .u64 0]) := rfl
@[go_sem] theorem Try.p14 : placesOf Try.prog 14 = some [(0, 1), (1, 1)] := rfl
@[go_sem] theorem Try.g15 : aggT Try.prog 15 = false := rfl
@[go_sem] theorem Try.z15 : zeroAV Try.prog 15 = some (.atom (.pointer none)) := rfl
@[go_sem] theorem Try.g16 : aggT Try.prog 16 = false := rfl
@[go_sem] theorem Try.z16 : zeroAV Try.prog 16 = some (.atom (.pointer none)) := rfl
@[go_sem] theorem Try.g17 : aggT Try.prog 17 = false := rfl
@[go_sem] theorem Try.z17 : zeroAV Try.prog 17 = some (.atom (.pointer none)) := rfl
@[go_sem] theorem Try.g18 : aggT Try.prog 18 = true := rfl
@[go_sem] theorem Try.i18 : (Try.prog.underlying 18).isSome = true := rfl
@[go_sem] theorem Try.f_18_0 : fieldTy Try.prog 18 0 = some (0, 17) := rfl
@[go_sem] theorem Try.z18 : zeroAV Try.prog 18 = some (.agg [.atom (.pointer none)]) := rfl
@[go_sem] theorem Try.p18 : placesOf Try.prog 18 = some [(0, 1)] := rfl
@[go_sem] theorem Try.g19 : aggT Try.prog 19 = true := rfl
@[go_sem] theorem Try.i19 : (Try.prog.underlying 19).isSome = true := rfl
@[go_sem] theorem Try.f_19_0 : fieldTy Try.prog 19 0 = some (0, 17) := rfl
@[go_sem] theorem Try.z19 : zeroAV Try.prog 19 = some (.agg [.atom (.pointer none)]) := rfl
@[go_sem] theorem Try.p19 : placesOf Try.prog 19 = some [(0, 1)] := rfl
@[go_sem] theorem Try.g20 : aggT Try.prog 20 = false := rfl
@[go_sem] theorem Try.i20 : (Try.prog.underlying 20).isSome = true := rfl
@[go_sem] theorem Try.z20 : zeroAV Try.prog 20 = some (.atom .nilIface) := rfl
@[go_sem] theorem Try.g21 : aggT Try.prog 21 = false := rfl
@[go_sem] theorem Try.z21 : zeroAV Try.prog 21 = some (.int .i32 0) := rfl
@[go_sem] theorem Try.g22 : aggT Try.prog 22 = false := rfl
@[go_sem] theorem Try.z22 : zeroAV Try.prog 22 = some (.sl true 1 []) := rfl
@[go_sem] theorem Try.g23 : aggT Try.prog 23 = false := rfl
@[go_sem] theorem Try.z23 : zeroAV Try.prog 23 = some (.int .i16 0) := rfl
@[go_sem] theorem Try.g24 : aggT Try.prog 24 = true := rfl
@[go_sem] theorem Try.z24 : zeroAV Try.prog 24 = some (.agg [.int .i16 0, .int .i16 0, .int .i16 0]) := rfl
@[go_sem] theorem Try.e24 : eqFlat Try.prog 24 = some [(0, 0), (1, 0), (2, 0)] := by decide +kernel
@[go_sem] theorem Try.p24 : placesOf Try.prog 24 = some [(0, 1), (1, 1), (2, 1)] := rfl
@[go_sem] theorem Try.g25 : aggT Try.prog 25 = false := rfl
@[go_sem] theorem Try.i25 : (Try.prog.underlying 25).isSome = true := rfl
@[go_sem] theorem Try.z25 : zeroAV Try.prog 25 = some (.atom .nilFunc) := rfl
@[go_sem] theorem Try.g26 : aggT Try.prog 26 = false := rfl
@[go_sem] theorem Try.z26 : zeroAV Try.prog 26 = some (.sl true 1 []) := rfl
@[go_sem] theorem Try.g27 : aggT Try.prog 27 = true := rfl
@[go_sem] theorem Try.i27 : (Try.prog.underlying 27).isSome = true := rfl
@[go_sem] theorem Try.f_27_0 : fieldTy Try.prog 27 0 = some (0, 9) := rfl
@[go_sem] theorem Try.f_27_1 : fieldTy Try.prog 27 1 = some (1, 26) := rfl
@[go_sem] theorem Try.z27 : zeroAV Try.prog 27 = some (.agg [.str [], .sl true 1 []]) := rfl
@[go_sem] theorem Try.p27 : placesOf Try.prog 27 = some [(0, 1), (1, 1)] := rfl
@[go_sem] theorem Try.g28 : aggT Try.prog 28 = true := rfl
@[go_sem] theorem Try.i28 : (Try.prog.underlying 28).isSome = true := rfl
@[go_sem] theorem Try.f_28_0 : fieldTy Try.prog 28 0 = some (0, 9) := rfl
@[go_sem] theorem Try.f_28_1 : fieldTy Try.prog 28 1 = some (1, 26) := rfl
@[go_sem] theorem Try.z28 : zeroAV Try.prog 28 = some (.agg [.str [], .sl true 1 []]) := rfl
@[go_sem] theorem Try.p28 : placesOf Try.prog 28 = some [(0, 1), (1, 1)] := rfl
@[go_sem] theorem Try.g29 : aggT Try.prog 29 = false := rfl
@[go_sem] theorem Try.i29 : (Try.prog.underlying 29).isSome = true := rfl
@[go_sem] theorem Try.z29 : zeroAV Try.prog 29 = some (.atom .nilFunc) := rfl
@[go_sem] theorem Try.g30 : aggT Try.prog 30 = false := rfl
@[go_sem] theorem Try.i30 : (Try.prog.underlying 30).isSome = true := rfl
@[go_sem] theorem Try.z30 : zeroAV Try.prog 30 = some (.atom .nilFunc) := rfl
@[go_sem] theorem Try.g31 : aggT Try.prog 31 = false := rfl
@[go_sem] theorem Try.z31 : zeroAV Try.prog 31 = some (.int .u16 0) := rfl
@[go_sem] theorem Try.g32 : aggT Try.prog 32 = true := rfl
@[go_sem] theorem Try.i32 : (Try.prog.underlying 32).isSome = true := rfl
@[go_sem] theorem Try.f_32_0 : fieldTy Try.prog 32 0 = some (0, 3) := rfl
@[go_sem] theorem Try.f_32_1 : fieldTy Try.prog 32 1 = some (1, 3) := rfl
@[go_sem] theorem Try.f_32_2 : fieldTy Try.prog 32 2 = some (2, 3) := rfl
@[go_sem] theorem Try.f_32_3 : fieldTy Try.prog 32 3 = some (3, 4) := rfl
@[go_sem] theorem Try.z32 : zeroAV Try.prog 32 = some (.agg [.int .i64 0, .int .i64 0, .int .i64 0, .bool false]) := rfl
@[go_sem] theorem Try.p32 : placesOf Try.prog 32 = some [(0, 1), (1, 1), (2, 1), (3, 1)] := rfl
@[go_sem] theorem Try.e32 : eqFlat Try.prog 32 = some [(0, 0), (1, 0), (2, 0), (3, 1)] := by decide +kernel
@[go_sem] theorem Try.g33 : aggT Try.prog 33 = true := rfl
@[go_sem] theorem Try.i33 : (Try.prog.underlying 33).isSome = true := rfl
@[go_sem] theorem Try.f_33_0 : fieldTy Try.prog 33 0 = some (0, 3) := rfl
@[go_sem] theorem Try.f_33_1 : fieldTy Try.prog 33 1 = some (1, 3) := rfl
@[go_sem] theorem Try.f_33_2 : fieldTy Try.prog 33 2 = some (2, 3) := rfl
@[go_sem] theorem Try.f_33_3 : fieldTy Try.prog 33 3 = some (3, 4) := rfl
@[go_sem] theorem Try.z33 : zeroAV Try.prog 33 = some (.agg [.int .i64 0, .int .i64 0, .int .i64 0, .bool false]) := rfl
@[go_sem] theorem Try.p33 : placesOf Try.prog 33 = some [(0, 1), (1, 1), (2, 1), (3, 1)] := rfl
@[go_sem] theorem Try.e33 : eqFlat Try.prog 33 = some [(0, 0), (1, 0), (2, 0), (3, 1)] := by decide +kernel
@[go_sem] theorem Try.g34 : aggT Try.prog 34 = false := rfl
@[go_sem] theorem Try.i34 : (Try.prog.underlying 34).isSome = true := rfl
@[go_sem] theorem Try.z34 : zeroAV Try.prog 34 = some (.atom .nilFunc) := rfl
@[go_sem] theorem Try.g35 : aggT Try.prog 35 = false := rfl
@[go_sem] theorem Try.z35 : zeroAV Try.prog 35 = some (.sl true 1 []) := rfl
@[go_sem] theorem Try.g36 : aggT Try.prog 36 = true := rfl
@[go_sem] theorem Try.i36 : (Try.prog.underlying 36).isSome = true := rfl
@[go_sem] theorem Try.f_36_0 : fieldTy Try.prog 36 0 = some (0, 5) := rfl
@[go_sem] theorem Try.f_36_1 : fieldTy Try.prog 36 1 = some (1, 5) := rfl
@[go_sem] theorem Try.f_36_2 : fieldTy Try.prog 36 2 = some (2, 5) := rfl
@[go_sem] theorem Try.f_36_3 : fieldTy Try.prog 36 3 = some (3, 5) := rfl
@[go_sem] theorem Try.f_36_4 : fieldTy Try.prog 36 4 = some (4, 35) := rfl
@[go_sem] theorem Try.z36 : zeroAV Try.prog 36 = some (.agg [.int .u8 0, .int .u8 0, .int .u8 0, .int .u8 0, .sl true 1 []]) := rfl
@[go_sem] theorem Try.p36 : placesOf Try.prog 36 = some [(0, 1), (1, 1), (2, 1), (3, 1), (4, 1)] := rfl
@[go_sem] theorem Try.g37 : aggT Try.prog 37 = true := rfl
@[go_sem] theorem Try.i37 : (Try.prog.underlying 37).isSome = true := rfl
@[go_sem] theorem Try.f_37_0 : fieldTy Try.prog 37 0 = some (0, 5) := rfl
@[go_sem] theorem Try.f_37_1 : fieldTy Try.prog 37 1 = some (1, 5) := rfl
@[go_sem] theorem Try.f_37_2 : fieldTy Try.prog 37 2 = some (2, 5) := rfl
@[go_sem] theorem Try.f_37_3 : fieldTy Try.prog 37 3 = some (3, 5) := rfl
@[go_sem] theorem Try.f_37_4 : fieldTy Try.prog 37 4 = some (4, 35) := rfl
@[go_sem] theorem Try.z37 : zeroAV Try.prog 37 = some (.agg [.int .u8 0, .int .u8 0, .int .u8 0, .int .u8 0, .sl true 1 []]) := rfl
@[go_sem] theorem Try.p37 : placesOf Try.prog 37 = some [(0, 1), (1, 1), (2, 1), (3, 1), (4, 1)] := rfl
@[go_sem] theorem Try.g38 : aggT Try.prog 38 = true := rfl
@[go_sem] theorem Try.i38 : (Try.prog.underlying 38).isSome = true := rfl
@[go_sem] theorem Try.f_38_0 : fieldTy Try.prog 38 0 = some (0, 3) := rfl
@[go_sem] theorem Try.f_38_1 : fieldTy Try.prog 38 1 = some (1, 3) := rfl
@[go_sem] theorem Try.f_38_2 : fieldTy Try.prog 38 2 = some (2, 3) := rfl
@[go_sem] theorem Try.f_38_3 : fieldTy Try.prog 38 3 = some (3, 3) := rfl
@[go_sem] theorem Try.f_38_4 : fieldTy Try.prog 38 4 = some (4, 9) := rfl
@[go_sem] theorem Try.z38 : zeroAV Try.prog 38 = some (.agg [.int .i64 0, .int .i64 0, .int .i64 0, .int .i64 0, .str []]) := rfl
@[go_sem] theorem Try.p38 : placesOf Try.prog 38 = some [(0, 1), (1, 1), (2, 1), (3, 1), (4, 1)] := rfl
@[go_sem] theorem Try.e38 : eqFlat Try.prog 38 = some [(0, 0), (1, 0), (2, 0), (3, 0), (4, 2)] := by decide +kernel
@[go_sem] theorem Try.g39 : aggT Try.prog 39 = true := rfl
@[go_sem] theorem Try.i39 : (Try.prog.underlying 39).isSome = true := rfl
@[go_sem] theorem Try.f_39_0 : fieldTy Try.prog 39 0 = some (0, 3) := rfl
@[go_sem] theorem Try.f_39_1 : fieldTy Try.prog 39 1 = some (1, 3) := rfl
@[go_sem] theorem Try.f_39_2 : fieldTy Try.prog 39 2 = some (2, 3) := rfl
@[go_sem] theorem Try.f_39_3 : fieldTy Try.prog 39 3 = some (3, 3) := rfl
@[go_sem] theorem Try.f_39_4 : fieldTy Try.prog 39 4 = some (4, 9) := rfl
@[go_sem] theorem Try.z39 : zeroAV Try.prog 39 = some (.agg [.int .i64 0, .int .i64 0, .int .i64 0, .int .i64 0, .str []]) := rfl
@[go_sem] theorem Try.p39 : placesOf Try.prog 39 = some [(0, 1), (1, 1), (2, 1), (3, 1), (4, 1)] := rfl
@[go_sem] theorem Try.e39 : eqFlat Try.prog 39 = some [(0, 0), (1, 0), (2, 0), (3, 0), (4, 2)] := by decide +kernel
@[go_sem] theorem Try.g40 : aggT Try.prog 40 = false := rfl
@[go_sem] theorem Try.i40 : (Try.prog.underlying 40).isSome = true := rfl
@[go_sem] theorem Try.z40 : zeroAV Try.prog 40 = some (.atom .nilFunc) := rfl
@[go_sem] theorem Try.g41 : aggT Try.prog 41 = false := rfl
@[go_sem] theorem Try.z41 : zeroAV Try.prog 41 = some (.int .i64 0) := rfl
@[go_sem] theorem Try.g43 : aggT Try.prog 43 = false := rfl
@[go_sem] theorem Try.i43 : (Try.prog.underlying 43).isSome = true := rfl
@[go_sem] theorem Try.z43 : zeroAV Try.prog 43 = some (.atom .nilFunc) := rfl
@[go_sem] theorem Try.g44 : aggT Try.prog 44 = true := rfl
@[go_sem] theorem Try.e44 : eqFlat Try.prog 44 = some ((List.range 95).map fun i => (i, 0)) := by decide +kernel
@[go_sem] theorem Try.g45 : aggT Try.prog 45 = false := rfl
@[go_sem] theorem Try.i45 : (Try.prog.underlying 45).isSome = true := rfl
@[go_sem] theorem Try.z45 : zeroAV Try.prog 45 = some (.atom .nilFunc) := rfl
@[go_sem] theorem Try.g46 : aggT Try.prog 46 = false := rfl
@[go_sem] theorem Try.i46 : (Try.prog.underlying 46).isSome = true := rfl
@[go_sem] theorem Try.z46 : zeroAV Try.prog 46 = some (.atom .nilFunc) := rfl
@[go_sem] theorem Try.g47 : aggT Try.prog 47 = false := rfl
@[go_sem] theorem Try.i47 : (Try.prog.underlying 47).isSome = true := rfl
@[go_sem] theorem Try.z47 : zeroAV Try.prog 47 = some (.atom .nilFunc) := rfl
@[go_sem] theorem Try.g48 : aggT Try.prog 48 = false := rfl
@[go_sem] theorem Try.i48 : (Try.prog.underlying 48).isSome = true := rfl
@[go_sem] theorem Try.z48 : zeroAV Try.prog 48 = some (.atom .nilFunc) := rfl
@[go_sem] theorem Try.g49 : aggT Try.prog 49 = false := rfl
@[go_sem] theorem Try.i49 : (Try.prog.underlying 49).isSome = true := rfl
@[go_sem] theorem Try.z49 : zeroAV Try.prog 49 = some (.atom .nilFunc) := rfl
@[go_sem] theorem Try.g50 : aggT Try.prog 50 = false := rfl
@[go_sem] theorem Try.i50 : (Try.prog.underlying 50).isSome = true := rfl
@[go_sem] theorem Try.z50 : zeroAV Try.prog 50 = some (.atom .nilFunc) := rfl
@[go_sem] theorem Try.g52 : aggT Try.prog 52 = false := rfl
@[go_sem] theorem Try.i52 : (Try.prog.underlying 52).isSome = true := rfl
@[go_sem] theorem Try.z52 : zeroAV Try.prog 52 = some (.atom .nilFunc) := rfl
@[go_sem] theorem Try.g53 : aggT Try.prog 53 = false := rfl
@[go_sem] theorem Try.i53 : (Try.prog.underlying 53).isSome = true := rfl
@[go_sem] theorem Try.z53 : zeroAV Try.prog 53 = some (.atom .nilFunc) := rfl
@[go_sem] theorem Try.g54 : aggT Try.prog 54 = true := rfl
@[go_sem] theorem Try.i54 : (Try.prog.underlying 54).isSome = true := rfl
@[go_sem] theorem Try.f_54_0 : fieldTy Try.prog 54 0 = some (0, 3) := rfl
@[go_sem] theorem Try.f_54_1 : fieldTy Try.prog 54 1 = some (1, 3) := rfl
@[go_sem] theorem Try.f_54_2 : fieldTy Try.prog 54 2 = some (2, 9) := rfl
@[go_sem] theorem Try.z54 : zeroAV Try.prog 54 = some (.agg [.int .i64 0, .int .i64 0, .str []]) := rfl
@[go_sem] theorem Try.p54 : placesOf Try.prog 54 = some [(0, 1), (1, 1), (2, 1)] := rfl
@[go_sem] theorem Try.e54 : eqFlat Try.prog 54 = some [(0, 0), (1, 0), (2, 2)] := by decide +kernel
@[go_sem] theorem Try.g55 : aggT Try.prog 55 = true := rfl
@[go_sem] theorem Try.i55 : (Try.prog.underlying 55).isSome = true := rfl
@[go_sem] theorem Try.f_55_0 : fieldTy Try.prog 55 0 = some (0, 3) := rfl
@[go_sem] theorem Try.f_55_1 : fieldTy Try.prog 55 1 = some (1, 3) := rfl
@[go_sem] theorem Try.f_55_2 : fieldTy Try.prog 55 2 = some (2, 9) := rfl
@[go_sem] theorem Try.z55 : zeroAV Try.prog 55 = some (.agg [.int .i64 0, .int .i64 0, .str []]) := rfl
@[go_sem] theorem Try.p55 : placesOf Try.prog 55 = some [(0, 1), (1, 1), (2, 1)] := rfl
@[go_sem] theorem Try.e55 : eqFlat Try.prog 55 = some [(0, 0), (1, 0), (2, 2)] := by decide +kernel
@[go_sem] theorem Try.g56 : aggT Try.prog 56 = false := rfl
@[go_sem] theorem Try.i56 : (Try.prog.underlying 56).isSome = true := rfl
@[go_sem] theorem Try.z56 : zeroAV Try.prog 56 = some (.atom .nilFunc) := rfl
@[go_sem] theorem Try.g57 : aggT Try.prog 57 = false := rfl
@[go_sem] theorem Try.i57 : (Try.prog.underlying 57).isSome = true := rfl
@[go_sem] theorem Try.z57 : zeroAV Try.prog 57 = some (.atom .nilFunc) := rfl
@[go_sem] theorem Try.g59 : aggT Try.prog 59 = false := rfl
@[go_sem] theorem Try.i59 : (Try.prog.underlying 59).isSome = true := rfl
@[go_sem] theorem Try.z59 : zeroAV Try.prog 59 = some (.atom .nilFunc) := rfl
@[go_sem] theorem Try.g60 : aggT Try.prog 60 = false := rfl
@[go_sem] theorem Try.i60 : (Try.prog.underlying 60).isSome = true := rfl
@[go_sem] theorem Try.z60 : zeroAV Try.prog 60 = some (.atom .nilFunc) := rfl
@[go_sem] theorem Try.g61 : aggT Try.prog 61 = false := rfl
@[go_sem] theorem Try.i61 : (Try.prog.underlying 61).isSome = true := rfl
@[go_sem] theorem Try.z61 : zeroAV Try.prog 61 = some (.atom .nilFunc) := rfl
@[go_sem] theorem Try.g62 : aggT Try.prog 62 = false := rfl
@[go_sem] theorem Try.i62 : (Try.prog.underlying 62).isSome = true := rfl
@[go_sem] theorem Try.z62 : zeroAV Try.prog 62 = some (.atom .nilFunc) := rfl
@[go_sem] theorem Try.g63 : aggT Try.prog 63 = false := rfl
@[go_sem] theorem Try.i63 : (Try.prog.underlying 63).isSome = true := rfl
@[go_sem] theorem Try.z63 : zeroAV Try.prog 63 = some (.atom .nilFunc) := rfl
@[go_sem] theorem Try.g64 : aggT Try.prog 64 = false := rfl
@[go_sem] theorem Try.i64 : (Try.prog.underlying 64).isSome = true := rfl
@[go_sem] theorem Try.z64 : zeroAV Try.prog 64 = some (.atom .nilFunc) := rfl
@[go_sem] theorem Try.g65 : aggT Try.prog 65 = false := rfl
@[go_sem] theorem Try.i65 : (Try.prog.underlying 65).isSome = true := rfl
@[go_sem] theorem Try.z65 : zeroAV Try.prog 65 = some (.atom .nilFunc) := rfl
@[go_sem] theorem Try.g66 : aggT Try.prog 66 = false := rfl
@[go_sem] theorem Try.i66 : (Try.prog.underlying 66).isSome = true := rfl
@[go_sem] theorem Try.z66 : zeroAV Try.prog 66 = some (.atom .nilFunc) := rfl
@[go_sem] theorem Try.g67 : aggT Try.prog 67 = false := rfl
@[go_sem] theorem Try.i67 : (Try.prog.underlying 67).isSome = true := rfl
@[go_sem] theorem Try.z67 : zeroAV Try.prog 67 = some (.atom .nilFunc) := rfl
@[go_sem] theorem Try.g68 : aggT Try.prog 68 = false := rfl
@[go_sem] theorem Try.i68 : (Try.prog.underlying 68).isSome = true := rfl
@[go_sem] theorem Try.z68 : zeroAV Try.prog 68 = some (.atom .nilFunc) := rfl
@[go_sem] theorem Try.g69 : aggT Try.prog 69 = false := rfl
@[go_sem] theorem Try.i69 : (Try.prog.underlying 69).isSome = true := rfl
@[go_sem] theorem Try.z69 : zeroAV Try.prog 69 = some (.atom .nilFunc) := rfl
@[go_sem] theorem Try.g71 : aggT Try.prog 71 = false := rfl
@[go_sem] theorem Try.i71 : (Try.prog.underlying 71).isSome = true := rfl
@[go_sem] theorem Try.z71 : zeroAV Try.prog 71 = some (.atom .nilFunc) := rfl
@[go_sem] theorem Try.g72 : aggT Try.prog 72 = false := rfl
@[go_sem] theorem Try.i72 : (Try.prog.underlying 72).isSome = true := rfl
@[go_sem] theorem Try.z72 : zeroAV Try.prog 72 = some (.atom .nilFunc) := rfl
@[go_sem] theorem Try.g73 : aggT Try.prog 73 = false := rfl
@[go_sem] theorem Try.i73 : (Try.prog.underlying 73).isSome = true := rfl
@[go_sem] theorem Try.z73 : zeroAV Try.prog 73 = some (.atom .nilFunc) := rfl
@[go_sem] theorem Try.g74 : aggT Try.prog 74 = false := rfl
@[go_sem] theorem Try.i74 : (Try.prog.underlying 74).isSome = true := rfl
@[go_sem] theorem Try.z74 : zeroAV Try.prog 74 = some (.atom .nilFunc) := rfl
@[go_sem] theorem Try.g75 : aggT Try.prog 75 = false := rfl
@[go_sem] theorem Try.i75 : (Try.prog.underlying 75).isSome = true := rfl
@[go_sem] theorem Try.z75 : zeroAV Try.prog 75 = some (.atom .nilFunc) := rfl
@[go_sem] theorem Try.g76 : aggT Try.prog 76 = false := rfl
@[go_sem] theorem Try.i76 : (Try.prog.underlying 76).isSome = true := rfl
@[go_sem] theorem Try.z76 : zeroAV Try.prog 76 = some (.atom .nilFunc) := rfl
@[go_sem] theorem Try.g77 : aggT Try.prog 77 = false := rfl
@[go_sem] theorem Try.i77 : (Try.prog.underlying 77).isSome = true := rfl
@[go_sem] theorem Try.z77 : zeroAV Try.prog 77 = some (.atom .nilFunc) := rfl
@[go_sem] theorem Try.g78 : aggT Try.prog 78 = false := rfl
@[go_sem] theorem Try.i78 : (Try.prog.underlying 78).isSome = true := rfl
@[go_sem] theorem Try.z78 : zeroAV Try.prog 78 = some (.atom .nilFunc) := rfl
@[go_sem] theorem Try.g79 : aggT Try.prog 79 = false := rfl
@[go_sem] theorem Try.i79 : (Try.prog.underlying 79).isSome = true := rfl
@[go_sem] theorem Try.z79 : zeroAV Try.prog 79 = some (.atom .nilFunc) := rfl
@[go_sem] theorem Try.g80 : aggT Try.prog 80 = false := rfl
@[go_sem] theorem Try.z80 : zeroAV Try.prog 80 = some (.int .u64 0) := rfl
@[go_sem] theorem Try.g81 : aggT Try.prog 81 = false := rfl
@[go_sem] theorem Try.i81 : (Try.prog.underlying 81).isSome = true := rfl
@[go_sem] theorem Try.z81 : zeroAV Try.prog 81 = some (.atom .nilFunc) := rfl
@[go_sem] theorem Try.g82 : aggT Try.prog 82 = false := rfl
@[go_sem] theorem Try.i82 : (Try.prog.underlying 82).isSome = true := rfl
@[go_sem] theorem Try.z82 : zeroAV Try.prog 82 = some (.atom .nilFunc) := rfl
@[go_sem] theorem Try.g83 : aggT Try.prog 83 = false := rfl
@[go_sem] theorem Try.i83 : (Try.prog.underlying 83).isSome = true := rfl
@[go_sem] theorem Try.z83 : zeroAV Try.prog 83 = some (.atom .nilFunc) := rfl
@[go_sem] theorem Try.g84 : aggT Try.prog 84 = false := rfl
@[go_sem] theorem Try.i84 : (Try.prog.underlying 84).isSome = true := rfl
@[go_sem] theorem Try.z84 : zeroAV Try.prog 84 = some (.atom .nilFunc) := rfl
@[go_sem] theorem Try.g85 : aggT Try.prog 85 = false := rfl
@[go_sem] theorem Try.i85 : (Try.prog.underlying 85).isSome = true := rfl
@[go_sem] theorem Try.z85 : zeroAV Try.prog 85 = some (.atom .nilFunc) := rfl
@[go_sem] theorem Try.g86 : aggT Try.prog 86 = false := rfl
@[go_sem] theorem Try.i86 : (Try.prog.underlying 86).isSome = true := rfl
@[go_sem] theorem Try.z86 : zeroAV Try.prog 86 = some (.atom .nilFunc) := rfl
@[go_sem] theorem Try.g87 : aggT Try.prog 87 = false := rfl
@[go_sem] theorem Try.i87 : (Try.prog.underlying 87).isSome = true := rfl
@[go_sem] theorem Try.z87 : zeroAV Try.prog 87 = some (.atom .nilFunc) := rfl
@[go_sem] theorem Try.g88 : aggT Try.prog 88 = false := rfl
@[go_sem] theorem Try.i88 : (Try.prog.underlying 88).isSome = true := rfl
@[go_sem] theorem Try.z88 : zeroAV Try.prog 88 = some (.atom .nilFunc) := rfl
@[go_sem] theorem Try.g89 : aggT Try.prog 89 = true := rfl
@[go_sem] theorem Try.i89 : (Try.prog.underlying 89).isSome = true := rfl
@[go_sem] theorem Try.f_89_0 : fieldTy Try.prog 89 0 = some (0, 17) := rfl
@[go_sem] theorem Try.f_89_1 : fieldTy Try.prog 89 1 = some (1, 17) := rfl
@[go_sem] theorem Try.f_89_2 : fieldTy Try.prog 89 2 = some (2, 17) := rfl
@[go_sem] theorem Try.f_89_3 : fieldTy Try.prog 89 3 = some (3, 9) := rfl
@[go_sem] theorem Try.z89 : zeroAV Try.prog 89 = some (.agg [.atom (.pointer none), .atom (.pointer none), .atom (.pointer none), .str []]) := rfl
@[go_sem] theorem Try.p89 : placesOf Try.prog 89 = some [(0, 1), (1, 1), (2, 1), (3, 1)] := rfl
@[go_sem] theorem Try.g90 : aggT Try.prog 90 = true := rfl
@[go_sem] theorem Try.i90 : (Try.prog.underlying 90).isSome = true := rfl
@[go_sem] theorem Try.f_90_0 : fieldTy Try.prog 90 0 = some (0, 17) := rfl
@[go_sem] theorem Try.f_90_1 : fieldTy Try.prog 90 1 = some (1, 17) := rfl
@[go_sem] theorem Try.f_90_2 : fieldTy Try.prog 90 2 = some (2, 17) := rfl
@[go_sem] theorem Try.f_90_3 : fieldTy Try.prog 90 3 = some (3, 9) := rfl
@[go_sem] theorem Try.z90 : zeroAV Try.prog 90 = some (.agg [.atom (.pointer none), .atom (.pointer none), .atom (.pointer none), .str []]) := rfl
@[go_sem] theorem Try.p90 : placesOf Try.prog 90 = some [(0, 1), (1, 1), (2, 1), (3, 1)] := rfl
@[go_sem] theorem Try.g91 : aggT Try.prog 91 = true := rfl
@[go_sem] theorem Try.p91 : placesOf Try.prog 91 = some [] := rfl
@[go_sem] theorem Try.g92 : aggT Try.prog 92 = true := rfl
@[go_sem] theorem Try.i92 : (Try.prog.underlying 92).isSome = true := rfl
@[go_sem] theorem Try.f_92_0 : fieldTy Try.prog 92 0 = some (0, 91) := rfl
@[go_sem] theorem Try.p92 : placesOf Try.prog 92 = some [(0, 0)] := rfl
@[go_sem] theorem Try.g93 : aggT Try.prog 93 = true := rfl
@[go_sem] theorem Try.i93 : (Try.prog.underlying 93).isSome = true := rfl
@[go_sem] theorem Try.f_93_0 : fieldTy Try.prog 93 0 = some (0, 91) := rfl
@[go_sem] theorem Try.p93 : placesOf Try.prog 93 = some [(0, 0)] := rfl
@[go_sem] theorem Try.g94 : aggT Try.prog 94 = false := rfl
@[go_sem] theorem Try.i94 : (Try.prog.underlying 94).isSome = true := rfl
@[go_sem] theorem Try.z94 : zeroAV Try.prog 94 = some (.atom .nilFunc) := rfl
@[go_sem] theorem Try.g95 : aggT Try.prog 95 = false := rfl
@[go_sem] theorem Try.z95 : zeroAV Try.prog 95 = some (.int .u32 0) := rfl
@[go_sem] theorem Try.g96 : aggT Try.prog 96 = false := rfl
@[go_sem] theorem Try.z96 : zeroAV Try.prog 96 = some (.int .u8 0) := rfl
@[go_sem] theorem Try.g97 : aggT Try.prog 97 = false := rfl
@[go_sem] theorem Try.z97 : zeroAV Try.prog 97 = some (.int .u8 0) := rfl
@[go_sem] theorem Try.g98 : aggT Try.prog 98 = false := rfl
@[go_sem] theorem Try.i98 : (Try.prog.underlying 98).isSome = true := rfl
@[go_sem] theorem Try.z98 : zeroAV Try.prog 98 = some (.atom .nilFunc) := rfl
@[go_sem] theorem Try.g99 : aggT Try.prog 99 = false := rfl
@[go_sem] theorem Try.z99 : zeroAV Try.prog 99 = some (.atom (.pointer none)) := rfl
@[go_sem] theorem Try.g100 : aggT Try.prog 100 = false := rfl
@[go_sem] theorem Try.z100 : zeroAV Try.prog 100 = some (.int .i32 0) := rfl
@[go_sem] theorem Try.g101 : aggT Try.prog 101 = false := rfl
@[go_sem] theorem Try.z101 : zeroAV Try.prog 101 = some (.int .i32 0) := rfl
@[go_sem] theorem Try.g102 : aggT Try.prog 102 = true := rfl
@[go_sem] theorem Try.i102 : (Try.prog.underlying 102).isSome = true := rfl
@[go_sem] theorem Try.f_102_0 : fieldTy Try.prog 102 0 = some (0, 12) := rfl
@[go_sem] theorem Try.f_102_1 : fieldTy Try.prog 102 1 = some (1, 12) := rfl
@[go_sem] theorem Try.f_102_2 : fieldTy Try.prog 102 2 = some (2, 95) := rfl
@[go_sem] theorem Try.f_102_3 : fieldTy Try.prog 102 3 = some (3, 96) := rfl
@[go_sem] theorem Try.f_102_4 : fieldTy Try.prog 102 4 = some (4, 5) := rfl
@[go_sem] theorem Try.f_102_5 : fieldTy Try.prog 102 5 = some (5, 5) := rfl
@[go_sem] theorem Try.f_102_6 : fieldTy Try.prog 102 6 = some (6, 97) := rfl
@[go_sem] theorem Try.f_102_7 : fieldTy Try.prog 102 7 = some (7, 98) := rfl
@[go_sem] theorem Try.f_102_8 : fieldTy Try.prog 102 8 = some (8, 99) := rfl
@[go_sem] theorem Try.f_102_9 : fieldTy Try.prog 102 9 = some (9, 100) := rfl
@[go_sem] theorem Try.f_102_10 : fieldTy Try.prog 102 10 = some (10, 101) := rfl
@[go_sem] theorem Try.z102 : zeroAV Try.prog 102 = some (.agg [.int .u64 0, .int .u64 0, .int .u32 0, .int .u8 0, .int .u8 0, .int .u8 0, .int .u8 0, .atom .nilFunc, .atom (.pointer none), .int .i32 0, .int .i32 0]) := rfl
@[go_sem] theorem Try.p102 : placesOf Try.prog 102 = some [(0, 1), (1, 1), (2, 1), (3, 1), (4, 1), (5, 1), (6, 1), (7, 1), (8, 1), (9, 1), (10, 1)] := rfl
@[go_sem] theorem Try.g103 : aggT Try.prog 103 = true := rfl
@[go_sem] theorem Try.i103 : (Try.prog.underlying 103).isSome = true := rfl
@[go_sem] theorem Try.f_103_0 : fieldTy Try.prog 103 0 = some (0, 12) := rfl
@[go_sem] theorem Try.f_103_1 : fieldTy Try.prog 103 1 = some (1, 12) := rfl
@[go_sem] theorem Try.f_103_2 : fieldTy Try.prog 103 2 = some (2, 95) := rfl
@[go_sem] theorem Try.f_103_3 : fieldTy Try.prog 103 3 = some (3, 96) := rfl
@[go_sem] theorem Try.f_103_4 : fieldTy Try.prog 103 4 = some (4, 5) := rfl
@[go_sem] theorem Try.f_103_5 : fieldTy Try.prog 103 5 = some (5, 5) := rfl
@[go_sem] theorem Try.f_103_6 : fieldTy Try.prog 103 6 = some (6, 97) := rfl
@[go_sem] theorem Try.f_103_7 : fieldTy Try.prog 103 7 = some (7, 98) := rfl
@[go_sem] theorem Try.f_103_8 : fieldTy Try.prog 103 8 = some (8, 99) := rfl
@[go_sem] theorem Try.f_103_9 : fieldTy Try.prog 103 9 = some (9, 100) := rfl
@[go_sem] theorem Try.f_103_10 : fieldTy Try.prog 103 10 = some (10, 101) := rfl
@[go_sem] theorem Try.z103 : zeroAV Try.prog 103 = some (.agg [.int .u64 0, .int .u64 0, .int .u32 0, .int .u8 0, .int .u8 0, .int .u8 0, .int .u8 0, .atom .nilFunc, .atom (.pointer none), .int .i32 0, .int .i32 0]) := rfl
@[go_sem] theorem Try.p103 : placesOf Try.prog 103 = some [(0, 1), (1, 1), (2, 1), (3, 1), (4, 1), (5, 1), (6, 1), (7, 1), (8, 1), (9, 1), (10, 1)] := rfl
end Go.Proofs
