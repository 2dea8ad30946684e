/- Facts on the types of the program. -/
import Derived.Test.YthmeobfdmeepbaaProg
import Derived.Test.YthmeobfdmeepbaaCoreP
set_option linter.unusedVariables false
set_option linter.unusedSimpArgs false
namespace Go.Proofs
open Go Go.Ideal
set_option maxRecDepth 4000
@[go_sem] theorem Try.c0 : Try.prog.cellsOf 0 = 1 := rfl
@[go_sem] theorem Try.s0 : szIs Try.prog 0 1 := rfl
@[go_sem] theorem Try.a0 : apOK Try.prog 0 1 := ⟨_, _, rfl, rfl, rfl, rfl, by decide, by decide⟩
@[go_sem] theorem Try.c1 : Try.prog.cellsOf 1 = 1 := rfl
@[go_sem] theorem Try.s1 : szIs Try.prog 1 1 := rfl
@[go_sem] theorem Try.a1 : apOK Try.prog 1 1 := ⟨_, _, rfl, rfl, rfl, rfl, by decide, by decide⟩
@[go_sem] theorem Try.u2 : Try.prog.underlying 2 = some (.int .i64) := rfl
@[go_sem] theorem Try.c2 : Try.prog.cellsOf 2 = 1 := rfl
@[go_sem] theorem Try.s2 : szIs Try.prog 2 1 := rfl
@[go_sem] theorem Try.a2 : apOK Try.prog 2 1 := ⟨_, _, rfl, rfl, rfl, rfl, by decide, by decide⟩
@[go_sem] theorem Try.u3 : Try.prog.underlying 3 = some (.int .i64) := rfl
@[go_sem] theorem Try.c3 : Try.prog.cellsOf 3 = 1 := rfl
@[go_sem] theorem Try.s3 : szIs Try.prog 3 1 := rfl
@[go_sem] theorem Try.a3 : apOK Try.prog 3 1 := ⟨_, _, rfl, rfl, rfl, rfl, by decide, by decide⟩
@[go_sem] theorem Try.u4 : Try.prog.underlying 4 = some (.bool) := rfl
@[go_sem] theorem Try.c4 : Try.prog.cellsOf 4 = 1 := rfl
@[go_sem] theorem Try.s4 : szIs Try.prog 4 1 := rfl
@[go_sem] theorem Try.a4 : apOK Try.prog 4 1 := ⟨_, _, rfl, rfl, rfl, rfl, by decide, by decide⟩
@[go_sem] theorem Try.u5 : Try.prog.underlying 5 = some (.int .u8) := rfl
@[go_sem] theorem Try.c5 : Try.prog.cellsOf 5 = 1 := rfl
@[go_sem] theorem Try.s5 : szIs Try.prog 5 1 := rfl
@[go_sem] theorem Try.a5 : apOK Try.prog 5 1 := ⟨_, _, rfl, rfl, rfl, rfl, by decide, by decide⟩
@[go_sem] theorem Try.u6 : Try.prog.underlying 6 = some (.int .u8) := rfl
@[go_sem] theorem Try.c6 : Try.prog.cellsOf 6 = 1 := rfl
@[go_sem] theorem Try.s6 : szIs Try.prog 6 1 := rfl
@[go_sem] theorem Try.a6 : apOK Try.prog 6 1 := ⟨_, _, rfl, rfl, rfl, rfl, by decide, by decide⟩
@[go_sem] theorem Try.c7 : Try.prog.cellsOf 7 = 4 := rfl
@[go_sem] theorem Try.s7 : szIs Try.prog 7 4 := rfl
@[go_sem] theorem Try.a7 : apOK Try.prog 7 4 := ⟨_, _, rfl, rfl, rfl, rfl, by decide, by decide⟩
@[go_sem] theorem Try.c8 : Try.prog.cellsOf 8 = 4 := rfl
@[go_sem] theorem Try.s8 : szIs Try.prog 8 4 := rfl
@[go_sem] theorem Try.a8 : apOK Try.prog 8 4 := ⟨_, _, rfl, rfl, rfl, rfl, by decide, by decide⟩
@[go_sem] theorem Try.u9 : Try.prog.underlying 9 = some (.string) := rfl
@[go_sem] theorem Try.c9 : Try.prog.cellsOf 9 = 1 := rfl
@[go_sem] theorem Try.s9 : szIs Try.prog 9 1 := rfl
@[go_sem] theorem Try.a9 : apOK Try.prog 9 1 := ⟨_, _, rfl, rfl, rfl, rfl, by decide, by decide⟩
@[go_sem] theorem Try.u10 : Try.prog.underlying 10 = some (.string) := rfl
@[go_sem] theorem Try.c10 : Try.prog.cellsOf 10 = 1 := rfl
@[go_sem] theorem Try.s10 : szIs Try.prog 10 1 := rfl
@[go_sem] theorem Try.a10 : apOK Try.prog 10 1 := ⟨_, _, rfl, rfl, rfl, rfl, by decide, by decide⟩
@[go_sem] theorem Try.u11 : Try.prog.underlying 11 = some (.string) := rfl
@[go_sem] theorem Try.c11 : Try.prog.cellsOf 11 = 1 := rfl
@[go_sem] theorem Try.s11 : szIs Try.prog 11 1 := rfl
@[go_sem] theorem Try.a11 : apOK Try.prog 11 1 := ⟨_, _, rfl, rfl, rfl, rfl, by decide, by decide⟩
@[go_sem] theorem Try.u12 : Try.prog.underlying 12 = some (.int .u64) := rfl
@[go_sem] theorem Try.c12 : Try.prog.cellsOf 12 = 1 := rfl
@[go_sem] theorem Try.s12 : szIs Try.prog 12 1 := rfl
@[go_sem] theorem Try.a12 : apOK Try.prog 12 1 := ⟨_, _, rfl, rfl, rfl, rfl, by decide, by decide⟩
@[go_sem] theorem Try.c13 : Try.prog.cellsOf 13 = 2 := rfl
@[go_sem] theorem Try.s13 : szIs Try.prog 13 2 := rfl
@[go_sem] theorem Try.a13 : apOK Try.prog 13 2 := ⟨_, _, rfl, rfl, rfl, rfl, by decide, by decide⟩
@[go_sem] theorem Try.c14 : Try.prog.cellsOf 14 = 2 := rfl
@[go_sem] theorem Try.s14 : szIs Try.prog 14 2 := rfl
@[go_sem] theorem Try.a14 : apOK Try.prog 14 2 := ⟨_, _, rfl, rfl, rfl, rfl, by decide, by decide⟩
@[go_sem] theorem Try.u15 : Try.prog.underlying 15 = some (.pointer 58) := rfl
@[go_sem] theorem Try.c15 : Try.prog.cellsOf 15 = 1 := rfl
@[go_sem] theorem Try.s15 : szIs Try.prog 15 1 := rfl
@[go_sem] theorem Try.a15 : apOK Try.prog 15 1 := ⟨_, _, rfl, rfl, rfl, rfl, by decide, by decide⟩
@[go_sem] theorem Try.u16 : Try.prog.underlying 16 = some (.pointer 61) := rfl
@[go_sem] theorem Try.c16 : Try.prog.cellsOf 16 = 1 := rfl
@[go_sem] theorem Try.s16 : szIs Try.prog 16 1 := rfl
@[go_sem] theorem Try.a16 : apOK Try.prog 16 1 := ⟨_, _, rfl, rfl, rfl, rfl, by decide, by decide⟩
@[go_sem] theorem Try.u17 : Try.prog.underlying 17 = some (.pointer 71) := rfl
@[go_sem] theorem Try.c17 : Try.prog.cellsOf 17 = 1 := rfl
@[go_sem] theorem Try.s17 : szIs Try.prog 17 1 := rfl
@[go_sem] theorem Try.a17 : apOK Try.prog 17 1 := ⟨_, _, rfl, rfl, rfl, rfl, by decide, by decide⟩
@[go_sem] theorem Try.c18 : Try.prog.cellsOf 18 = 1 := rfl
@[go_sem] theorem Try.s18 : szIs Try.prog 18 1 := rfl
@[go_sem] theorem Try.a18 : apOK Try.prog 18 1 := ⟨_, _, rfl, rfl, rfl, rfl, by decide, by decide⟩
@[go_sem] theorem Try.c19 : Try.prog.cellsOf 19 = 1 := rfl
@[go_sem] theorem Try.s19 : szIs Try.prog 19 1 := rfl
@[go_sem] theorem Try.a19 : apOK Try.prog 19 1 := ⟨_, _, rfl, rfl, rfl, rfl, by decide, by decide⟩
@[go_sem] theorem Try.c20 : Try.prog.cellsOf 20 = 1 := rfl
@[go_sem] theorem Try.s20 : szIs Try.prog 20 1 := rfl
@[go_sem] theorem Try.a20 : apOK Try.prog 20 1 := ⟨_, _, rfl, rfl, rfl, rfl, by decide, by decide⟩
@[go_sem] theorem Try.u21 : Try.prog.underlying 21 = some (.int .i32) := rfl
@[go_sem] theorem Try.c21 : Try.prog.cellsOf 21 = 1 := rfl
@[go_sem] theorem Try.s21 : szIs Try.prog 21 1 := rfl
@[go_sem] theorem Try.a21 : apOK Try.prog 21 1 := ⟨_, _, rfl, rfl, rfl, rfl, by decide, by decide⟩
@[go_sem] theorem Try.u22 : Try.prog.underlying 22 = some (.slice 23) := rfl
@[go_sem] theorem Try.c22 : Try.prog.cellsOf 22 = 1 := rfl
@[go_sem] theorem Try.s22 : szIs Try.prog 22 1 := rfl
@[go_sem] theorem Try.a22 : apOK Try.prog 22 1 := ⟨_, _, rfl, rfl, rfl, rfl, by decide, by decide⟩
@[go_sem] theorem Try.u23 : Try.prog.underlying 23 = some (.slice 5) := rfl
@[go_sem] theorem Try.c23 : Try.prog.cellsOf 23 = 1 := rfl
@[go_sem] theorem Try.s23 : szIs Try.prog 23 1 := rfl
@[go_sem] theorem Try.a23 : apOK Try.prog 23 1 := ⟨_, _, rfl, rfl, rfl, rfl, by decide, by decide⟩
@[go_sem] theorem Try.c24 : Try.prog.cellsOf 24 = 1 := rfl
@[go_sem] theorem Try.s24 : szIs Try.prog 24 1 := rfl
@[go_sem] theorem Try.a24 : apOK Try.prog 24 1 := ⟨_, _, rfl, rfl, rfl, rfl, by decide, by decide⟩
@[go_sem] theorem Try.c25 : Try.prog.cellsOf 25 = 1 := rfl
@[go_sem] theorem Try.s25 : szIs Try.prog 25 1 := rfl
@[go_sem] theorem Try.a25 : apOK Try.prog 25 1 := ⟨_, _, rfl, rfl, rfl, rfl, by decide, by decide⟩
@[go_sem] theorem Try.u26 : Try.prog.underlying 26 = some (.slice 9) := rfl
@[go_sem] theorem Try.c26 : Try.prog.cellsOf 26 = 1 := rfl
@[go_sem] theorem Try.s26 : szIs Try.prog 26 1 := rfl
@[go_sem] theorem Try.a26 : apOK Try.prog 26 1 := ⟨_, _, rfl, rfl, rfl, rfl, by decide, by decide⟩
@[go_sem] theorem Try.c27 : Try.prog.cellsOf 27 = 1 := rfl
@[go_sem] theorem Try.s27 : szIs Try.prog 27 1 := rfl
@[go_sem] theorem Try.a27 : apOK Try.prog 27 1 := ⟨_, _, rfl, rfl, rfl, rfl, by decide, by decide⟩
@[go_sem] theorem Try.u28 : Try.prog.underlying 28 = some (.int .i64) := rfl
@[go_sem] theorem Try.c28 : Try.prog.cellsOf 28 = 1 := rfl
@[go_sem] theorem Try.s28 : szIs Try.prog 28 1 := rfl
@[go_sem] theorem Try.a28 : apOK Try.prog 28 1 := ⟨_, _, rfl, rfl, rfl, rfl, by decide, by decide⟩
@[go_sem] theorem Try.c29 : Try.prog.cellsOf 29 = 1 := rfl
@[go_sem] theorem Try.s29 : szIs Try.prog 29 1 := rfl
@[go_sem] theorem Try.a29 : apOK Try.prog 29 1 := ⟨_, _, rfl, rfl, rfl, rfl, by decide, by decide⟩
@[go_sem] theorem Try.c30 : Try.prog.cellsOf 30 = 1 := rfl
@[go_sem] theorem Try.s30 : szIs Try.prog 30 1 := rfl
@[go_sem] theorem Try.a30 : apOK Try.prog 30 1 := ⟨_, _, rfl, rfl, rfl, rfl, by decide, by decide⟩
@[go_sem] theorem Try.c31 : Try.prog.cellsOf 31 = 1 := rfl
@[go_sem] theorem Try.s31 : szIs Try.prog 31 1 := rfl
@[go_sem] theorem Try.a31 : apOK Try.prog 31 1 := ⟨_, _, rfl, rfl, rfl, rfl, by decide, by decide⟩
@[go_sem] theorem Try.c32 : Try.prog.cellsOf 32 = 1 := rfl
@[go_sem] theorem Try.s32 : szIs Try.prog 32 1 := rfl
@[go_sem] theorem Try.a32 : apOK Try.prog 32 1 := ⟨_, _, rfl, rfl, rfl, rfl, by decide, by decide⟩
@[go_sem] theorem Try.c33 : Try.prog.cellsOf 33 = 1 := rfl
@[go_sem] theorem Try.s33 : szIs Try.prog 33 1 := rfl
@[go_sem] theorem Try.a33 : apOK Try.prog 33 1 := ⟨_, _, rfl, rfl, rfl, rfl, by decide, by decide⟩
@[go_sem] theorem Try.c34 : Try.prog.cellsOf 34 = 1 := rfl
@[go_sem] theorem Try.s34 : szIs Try.prog 34 1 := rfl
@[go_sem] theorem Try.a34 : apOK Try.prog 34 1 := ⟨_, _, rfl, rfl, rfl, rfl, by decide, by decide⟩
@[go_sem] theorem Try.c35 : Try.prog.cellsOf 35 = 1 := rfl
@[go_sem] theorem Try.s35 : szIs Try.prog 35 1 := rfl
@[go_sem] theorem Try.a35 : apOK Try.prog 35 1 := ⟨_, _, rfl, rfl, rfl, rfl, by decide, by decide⟩
@[go_sem] theorem Try.c36 : Try.prog.cellsOf 36 = 1 := rfl
@[go_sem] theorem Try.s36 : szIs Try.prog 36 1 := rfl
@[go_sem] theorem Try.a36 : apOK Try.prog 36 1 := ⟨_, _, rfl, rfl, rfl, rfl, by decide, by decide⟩
@[go_sem] theorem Try.u37 : Try.prog.underlying 37 = some (.int .u16) := rfl
@[go_sem] theorem Try.c37 : Try.prog.cellsOf 37 = 1 := rfl
@[go_sem] theorem Try.s37 : szIs Try.prog 37 1 := rfl
@[go_sem] theorem Try.a37 : apOK Try.prog 37 1 := ⟨_, _, rfl, rfl, rfl, rfl, by decide, by decide⟩
@[go_sem] theorem Try.c38 : Try.prog.cellsOf 38 = 1 := rfl
@[go_sem] theorem Try.s38 : szIs Try.prog 38 1 := rfl
@[go_sem] theorem Try.a38 : apOK Try.prog 38 1 := ⟨_, _, rfl, rfl, rfl, rfl, by decide, by decide⟩
@[go_sem] theorem Try.c39 : Try.prog.cellsOf 39 = 1 := rfl
@[go_sem] theorem Try.s39 : szIs Try.prog 39 1 := rfl
@[go_sem] theorem Try.a39 : apOK Try.prog 39 1 := ⟨_, _, rfl, rfl, rfl, rfl, by decide, by decide⟩
@[go_sem] theorem Try.c40 : Try.prog.cellsOf 40 = 1 := rfl
@[go_sem] theorem Try.s40 : szIs Try.prog 40 1 := rfl
@[go_sem] theorem Try.a40 : apOK Try.prog 40 1 := ⟨_, _, rfl, rfl, rfl, rfl, by decide, by decide⟩
@[go_sem] theorem Try.c41 : Try.prog.cellsOf 41 = 1 := rfl
@[go_sem] theorem Try.s41 : szIs Try.prog 41 1 := rfl
@[go_sem] theorem Try.a41 : apOK Try.prog 41 1 := ⟨_, _, rfl, rfl, rfl, rfl, by decide, by decide⟩
@[go_sem] theorem Try.u42 : Try.prog.underlying 42 = some (.array 2 37) := rfl
@[go_sem] theorem Try.c42 : Try.prog.cellsOf 42 = 2 := rfl
@[go_sem] theorem Try.s42 : szIs Try.prog 42 2 := rfl
@[go_sem] theorem Try.a42 : apOK Try.prog 42 2 := ⟨_, _, rfl, rfl, rfl, rfl, by decide, by decide⟩
@[go_sem] theorem Try.c43 : Try.prog.cellsOf 43 = 1 := rfl
@[go_sem] theorem Try.s43 : szIs Try.prog 43 1 := rfl
@[go_sem] theorem Try.a43 : apOK Try.prog 43 1 := ⟨_, _, rfl, rfl, rfl, rfl, by decide, by decide⟩
@[go_sem] theorem Try.c44 : Try.prog.cellsOf 44 = 1 := rfl
@[go_sem] theorem Try.s44 : szIs Try.prog 44 1 := rfl
@[go_sem] theorem Try.a44 : apOK Try.prog 44 1 := ⟨_, _, rfl, rfl, rfl, rfl, by decide, by decide⟩
@[go_sem] theorem Try.c45 : Try.prog.cellsOf 45 = 1 := rfl
@[go_sem] theorem Try.s45 : szIs Try.prog 45 1 := rfl
@[go_sem] theorem Try.a45 : apOK Try.prog 45 1 := ⟨_, _, rfl, rfl, rfl, rfl, by decide, by decide⟩
@[go_sem] theorem Try.c46 : Try.prog.cellsOf 46 = 1 := rfl
@[go_sem] theorem Try.s46 : szIs Try.prog 46 1 := rfl
@[go_sem] theorem Try.a46 : apOK Try.prog 46 1 := ⟨_, _, rfl, rfl, rfl, rfl, by decide, by decide⟩
@[go_sem] theorem Try.c47 : Try.prog.cellsOf 47 = 1 := rfl
@[go_sem] theorem Try.s47 : szIs Try.prog 47 1 := rfl
@[go_sem] theorem Try.a47 : apOK Try.prog 47 1 := ⟨_, _, rfl, rfl, rfl, rfl, by decide, by decide⟩
@[go_sem] theorem Try.c48 : Try.prog.cellsOf 48 = 1 := rfl
@[go_sem] theorem Try.s48 : szIs Try.prog 48 1 := rfl
@[go_sem] theorem Try.a48 : apOK Try.prog 48 1 := ⟨_, _, rfl, rfl, rfl, rfl, by decide, by decide⟩
@[go_sem] theorem Try.c49 : Try.prog.cellsOf 49 = 1 := rfl
@[go_sem] theorem Try.s49 : szIs Try.prog 49 1 := rfl
@[go_sem] theorem Try.a49 : apOK Try.prog 49 1 := ⟨_, _, rfl, rfl, rfl, rfl, by decide, by decide⟩
@[go_sem] theorem Try.c50 : Try.prog.cellsOf 50 = 1 := rfl
@[go_sem] theorem Try.s50 : szIs Try.prog 50 1 := rfl
@[go_sem] theorem Try.a50 : apOK Try.prog 50 1 := ⟨_, _, rfl, rfl, rfl, rfl, by decide, by decide⟩
@[go_sem] theorem Try.c51 : Try.prog.cellsOf 51 = 1 := rfl
@[go_sem] theorem Try.s51 : szIs Try.prog 51 1 := rfl
@[go_sem] theorem Try.a51 : apOK Try.prog 51 1 := ⟨_, _, rfl, rfl, rfl, rfl, by decide, by decide⟩
@[go_sem] theorem Try.c52 : Try.prog.cellsOf 52 = 1 := rfl
@[go_sem] theorem Try.s52 : szIs Try.prog 52 1 := rfl
@[go_sem] theorem Try.a52 : apOK Try.prog 52 1 := ⟨_, _, rfl, rfl, rfl, rfl, by decide, by decide⟩
@[go_sem] theorem Try.c53 : Try.prog.cellsOf 53 = 1 := rfl
@[go_sem] theorem Try.s53 : szIs Try.prog 53 1 := rfl
@[go_sem] theorem Try.a53 : apOK Try.prog 53 1 := ⟨_, _, rfl, rfl, rfl, rfl, by decide, by decide⟩
@[go_sem] theorem Try.c54 : Try.prog.cellsOf 54 = 1 := rfl
@[go_sem] theorem Try.s54 : szIs Try.prog 54 1 := rfl
@[go_sem] theorem Try.a54 : apOK Try.prog 54 1 := ⟨_, _, rfl, rfl, rfl, rfl, by decide, by decide⟩
@[go_sem] theorem Try.u55 : Try.prog.underlying 55 = some (.int .u64) := rfl
@[go_sem] theorem Try.c55 : Try.prog.cellsOf 55 = 1 := rfl
@[go_sem] theorem Try.s55 : szIs Try.prog 55 1 := rfl
@[go_sem] theorem Try.a55 : apOK Try.prog 55 1 := ⟨_, _, rfl, rfl, rfl, rfl, by decide, by decide⟩
@[go_sem] theorem Try.c56 : Try.prog.cellsOf 56 = 1 := rfl
@[go_sem] theorem Try.s56 : szIs Try.prog 56 1 := rfl
@[go_sem] theorem Try.a56 : apOK Try.prog 56 1 := ⟨_, _, rfl, rfl, rfl, rfl, by decide, by decide⟩
@[go_sem] theorem Try.c57 : Try.prog.cellsOf 57 = 4 := rfl
@[go_sem] theorem Try.s57 : szIs Try.prog 57 4 := rfl
@[go_sem] theorem Try.a57 : apOK Try.prog 57 4 := ⟨_, _, rfl, rfl, rfl, rfl, by decide, by decide⟩
@[go_sem] theorem Try.c58 : Try.prog.cellsOf 58 = 4 := rfl
@[go_sem] theorem Try.s58 : szIs Try.prog 58 4 := rfl
@[go_sem] theorem Try.a58 : apOK Try.prog 58 4 := ⟨_, _, rfl, rfl, rfl, rfl, by decide, by decide⟩
@[go_sem] theorem Try.u59 : Try.prog.underlying 59 = some (.array 0 16) := rfl
@[go_sem] theorem Try.c59 : Try.prog.cellsOf 59 = 0 := rfl
@[go_sem] theorem Try.s59 : szIs Try.prog 59 0 := rfl
@[go_sem] theorem Try.c60 : Try.prog.cellsOf 60 = 0 := rfl
@[go_sem] theorem Try.s60 : szIs Try.prog 60 0 := rfl
@[go_sem] theorem Try.c61 : Try.prog.cellsOf 61 = 0 := rfl
@[go_sem] theorem Try.s61 : szIs Try.prog 61 0 := rfl
@[go_sem] theorem Try.c62 : Try.prog.cellsOf 62 = 1 := rfl
@[go_sem] theorem Try.s62 : szIs Try.prog 62 1 := rfl
@[go_sem] theorem Try.a62 : apOK Try.prog 62 1 := ⟨_, _, rfl, rfl, rfl, rfl, by decide, by decide⟩
@[go_sem] theorem Try.u63 : Try.prog.underlying 63 = some (.int .u32) := rfl
@[go_sem] theorem Try.c63 : Try.prog.cellsOf 63 = 1 := rfl
@[go_sem] theorem Try.s63 : szIs Try.prog 63 1 := rfl
@[go_sem] theorem Try.a63 : apOK Try.prog 63 1 := ⟨_, _, rfl, rfl, rfl, rfl, by decide, by decide⟩
@[go_sem] theorem Try.u64 : Try.prog.underlying 64 = some (.int .u8) := rfl
@[go_sem] theorem Try.c64 : Try.prog.cellsOf 64 = 1 := rfl
@[go_sem] theorem Try.s64 : szIs Try.prog 64 1 := rfl
@[go_sem] theorem Try.a64 : apOK Try.prog 64 1 := ⟨_, _, rfl, rfl, rfl, rfl, by decide, by decide⟩
@[go_sem] theorem Try.u65 : Try.prog.underlying 65 = some (.int .u8) := rfl
@[go_sem] theorem Try.c65 : Try.prog.cellsOf 65 = 1 := rfl
@[go_sem] theorem Try.s65 : szIs Try.prog 65 1 := rfl
@[go_sem] theorem Try.a65 : apOK Try.prog 65 1 := ⟨_, _, rfl, rfl, rfl, rfl, by decide, by decide⟩
@[go_sem] theorem Try.c66 : Try.prog.cellsOf 66 = 1 := rfl
@[go_sem] theorem Try.s66 : szIs Try.prog 66 1 := rfl
@[go_sem] theorem Try.a66 : apOK Try.prog 66 1 := ⟨_, _, rfl, rfl, rfl, rfl, by decide, by decide⟩
@[go_sem] theorem Try.u67 : Try.prog.underlying 67 = some (.pointer 5) := rfl
@[go_sem] theorem Try.c67 : Try.prog.cellsOf 67 = 1 := rfl
@[go_sem] theorem Try.s67 : szIs Try.prog 67 1 := rfl
@[go_sem] theorem Try.a67 : apOK Try.prog 67 1 := ⟨_, _, rfl, rfl, rfl, rfl, by decide, by decide⟩
@[go_sem] theorem Try.u68 : Try.prog.underlying 68 = some (.int .i32) := rfl
@[go_sem] theorem Try.c68 : Try.prog.cellsOf 68 = 1 := rfl
@[go_sem] theorem Try.s68 : szIs Try.prog 68 1 := rfl
@[go_sem] theorem Try.a68 : apOK Try.prog 68 1 := ⟨_, _, rfl, rfl, rfl, rfl, by decide, by decide⟩
@[go_sem] theorem Try.u69 : Try.prog.underlying 69 = some (.int .i32) := rfl
@[go_sem] theorem Try.c69 : Try.prog.cellsOf 69 = 1 := rfl
@[go_sem] theorem Try.s69 : szIs Try.prog 69 1 := rfl
@[go_sem] theorem Try.a69 : apOK Try.prog 69 1 := ⟨_, _, rfl, rfl, rfl, rfl, by decide, by decide⟩
@[go_sem] theorem Try.c70 : Try.prog.cellsOf 70 = 11 := rfl
@[go_sem] theorem Try.s70 : szIs Try.prog 70 11 := rfl
@[go_sem] theorem Try.a70 : apOK Try.prog 70 11 := ⟨_, _, rfl, rfl, rfl, rfl, by decide, by decide⟩
@[go_sem] theorem Try.c71 : Try.prog.cellsOf 71 = 11 := rfl
@[go_sem] theorem Try.s71 : szIs Try.prog 71 11 := rfl
@[go_sem] theorem Try.a71 : apOK Try.prog 71 11 := ⟨_, _, rfl, rfl, rfl, rfl, by decide, by decide⟩
@[go_sem] theorem Try.c72 : Try.prog.cellsOf 72 = 1 := rfl
@[go_sem] theorem Try.s72 : szIs Try.prog 72 1 := rfl
@[go_sem] theorem Try.a72 : apOK Try.prog 72 1 := ⟨_, _, rfl, rfl, rfl, rfl, by decide, by decide⟩
end Go.Proofs
