/- Facts on the types of the program. -/
import Derived.Test.YtjlhiahgmmlcdaaProg
import Derived.Test.YtjlhiahgmmlcdaaCoreP
set_option linter.unusedVariables false
set_option linter.unusedSimpArgs false
namespace Go.Proofs
open Go Go.Ideal
set_option maxRecDepth 4000
@[go_sem] theorem Try.c0 : Try.prog.cellsOf 0 = 1 := rfl
@[go_sem] theorem Try.s0 : szIs Try.prog 0 1 := rfl
@[go_sem] theorem Try.a0 : apOK Try.prog 0 1 := ⟨_, _, rfl, rfl, rfl, rfl, by decide, by decide⟩
@[go_sem] theorem Try.c1 : Try.prog.cellsOf 1 = 1 := rfl
@[go_sem] theorem Try.s1 : szIs Try.prog 1 1 := rfl
@[go_sem] theorem Try.a1 : apOK Try.prog 1 1 := ⟨_, _, rfl, rfl, rfl, rfl, by decide, by decide⟩
@[go_sem] theorem Try.u2 : Try.prog.underlying 2 = some (.int .i64) := rfl
@[go_sem] theorem Try.c2 : Try.prog.cellsOf 2 = 1 := rfl
@[go_sem] theorem Try.s2 : szIs Try.prog 2 1 := rfl
@[go_sem] theorem Try.a2 : apOK Try.prog 2 1 := ⟨_, _, rfl, rfl, rfl, rfl, by decide, by decide⟩
@[go_sem] theorem Try.u3 : Try.prog.underlying 3 = some (.int .i64) := rfl
@[go_sem] theorem Try.c3 : Try.prog.cellsOf 3 = 1 := rfl
@[go_sem] theorem Try.s3 : szIs Try.prog 3 1 := rfl
@[go_sem] theorem Try.a3 : apOK Try.prog 3 1 := ⟨_, _, rfl, rfl, rfl, rfl, by decide, by decide⟩
@[go_sem] theorem Try.u4 : Try.prog.underlying 4 = some (.bool) := rfl
@[go_sem] theorem Try.c4 : Try.prog.cellsOf 4 = 1 := rfl
@[go_sem] theorem Try.s4 : szIs Try.prog 4 1 := rfl
@[go_sem] theorem Try.a4 : apOK Try.prog 4 1 := ⟨_, _, rfl, rfl, rfl, rfl, by decide, by decide⟩
@[go_sem] theorem Try.u5 : Try.prog.underlying 5 = some (.int .u8) := rfl
@[go_sem] theorem Try.c5 : Try.prog.cellsOf 5 = 1 := rfl
@[go_sem] theorem Try.s5 : szIs Try.prog 5 1 := rfl
@[go_sem] theorem Try.a5 : apOK Try.prog 5 1 := ⟨_, _, rfl, rfl, rfl, rfl, by decide, by decide⟩
@[go_sem] theorem Try.u6 : Try.prog.underlying 6 = some (.int .u8) := rfl
@[go_sem] theorem Try.c6 : Try.prog.cellsOf 6 = 1 := rfl
@[go_sem] theorem Try.s6 : szIs Try.prog 6 1 := rfl
@[go_sem] theorem Try.a6 : apOK Try.prog 6 1 := ⟨_, _, rfl, rfl, rfl, rfl, by decide, by decide⟩
@[go_sem] theorem Try.c7 : Try.prog.cellsOf 7 = 4 := rfl
@[go_sem] theorem Try.s7 : szIs Try.prog 7 4 := rfl
@[go_sem] theorem Try.a7 : apOK Try.prog 7 4 := ⟨_, _, rfl, rfl, rfl, rfl, by decide, by decide⟩
@[go_sem] theorem Try.c8 : Try.prog.cellsOf 8 = 4 := rfl
@[go_sem] theorem Try.s8 : szIs Try.prog 8 4 := rfl
@[go_sem] theorem Try.a8 : apOK Try.prog 8 4 := ⟨_, _, rfl, rfl, rfl, rfl, by decide, by decide⟩
@[go_sem] theorem Try.u9 : Try.prog.underlying 9 = some (.string) := rfl
@[go_sem] theorem Try.c9 : Try.prog.cellsOf 9 = 1 := rfl
@[go_sem] theorem Try.s9 : szIs Try.prog 9 1 := rfl
@[go_sem] theorem Try.a9 : apOK Try.prog 9 1 := ⟨_, _, rfl, rfl, rfl, rfl, by decide, by decide⟩
@[go_sem] theorem Try.u10 : Try.prog.underlying 10 = some (.string) := rfl
@[go_sem] theorem Try.c10 : Try.prog.cellsOf 10 = 1 := rfl
@[go_sem] theorem Try.s10 : szIs Try.prog 10 1 := rfl
@[go_sem] theorem Try.a10 : apOK Try.prog 10 1 := ⟨_, _, rfl, rfl, rfl, rfl, by decide, by decide⟩
@[go_sem] theorem Try.u11 : Try.prog.underlying 11 = some (.string) := rfl
@[go_sem] theorem Try.c11 : Try.prog.cellsOf 11 = 1 := rfl
@[go_sem] theorem Try.s11 : szIs Try.prog 11 1 := rfl
@[go_sem] theorem Try.a11 : apOK Try.prog 11 1 := ⟨_, _, rfl, rfl, rfl, rfl, by decide, by decide⟩
@[go_sem] theorem Try.u12 : Try.prog.underlying 12 = some (.int .u64) := rfl
@[go_sem] theorem Try.c12 : Try.prog.cellsOf 12 = 1 := rfl
@[go_sem] theorem Try.s12 : szIs Try.prog 12 1 := rfl
@[go_sem] theorem Try.a12 : apOK Try.prog 12 1 := ⟨_, _, rfl, rfl, rfl, rfl, by decide, by decide⟩
@[go_sem] theorem Try.c13 : Try.prog.cellsOf 13 = 2 := rfl
@[go_sem] theorem Try.s13 : szIs Try.prog 13 2 := rfl
@[go_sem] theorem Try.a13 : apOK Try.prog 13 2 := ⟨_, _, rfl, rfl, rfl, rfl, by decide, by decide⟩
@[go_sem] theorem Try.c14 : Try.prog.cellsOf 14 = 2 := rfl
@[go_sem] theorem Try.s14 : szIs Try.prog 14 2 := rfl
@[go_sem] theorem Try.a14 : apOK Try.prog 14 2 := ⟨_, _, rfl, rfl, rfl, rfl, by decide, by decide⟩
@[go_sem] theorem Try.u15 : Try.prog.underlying 15 = some (.pointer 124) := rfl
@[go_sem] theorem Try.c15 : Try.prog.cellsOf 15 = 1 := rfl
@[go_sem] theorem Try.s15 : szIs Try.prog 15 1 := rfl
@[go_sem] theorem Try.a15 : apOK Try.prog 15 1 := ⟨_, _, rfl, rfl, rfl, rfl, by decide, by decide⟩
@[go_sem] theorem Try.u16 : Try.prog.underlying 16 = some (.pointer 127) := rfl
@[go_sem] theorem Try.c16 : Try.prog.cellsOf 16 = 1 := rfl
@[go_sem] theorem Try.s16 : szIs Try.prog 16 1 := rfl
@[go_sem] theorem Try.a16 : apOK Try.prog 16 1 := ⟨_, _, rfl, rfl, rfl, rfl, by decide, by decide⟩
@[go_sem] theorem Try.u17 : Try.prog.underlying 17 = some (.pointer 137) := rfl
@[go_sem] theorem Try.c17 : Try.prog.cellsOf 17 = 1 := rfl
@[go_sem] theorem Try.s17 : szIs Try.prog 17 1 := rfl
@[go_sem] theorem Try.a17 : apOK Try.prog 17 1 := ⟨_, _, rfl, rfl, rfl, rfl, by decide, by decide⟩
@[go_sem] theorem Try.c18 : Try.prog.cellsOf 18 = 1 := rfl
@[go_sem] theorem Try.s18 : szIs Try.prog 18 1 := rfl
@[go_sem] theorem Try.a18 : apOK Try.prog 18 1 := ⟨_, _, rfl, rfl, rfl, rfl, by decide, by decide⟩
@[go_sem] theorem Try.c19 : Try.prog.cellsOf 19 = 1 := rfl
@[go_sem] theorem Try.s19 : szIs Try.prog 19 1 := rfl
@[go_sem] theorem Try.a19 : apOK Try.prog 19 1 := ⟨_, _, rfl, rfl, rfl, rfl, by decide, by decide⟩
@[go_sem] theorem Try.c20 : Try.prog.cellsOf 20 = 1 := rfl
@[go_sem] theorem Try.s20 : szIs Try.prog 20 1 := rfl
@[go_sem] theorem Try.a20 : apOK Try.prog 20 1 := ⟨_, _, rfl, rfl, rfl, rfl, by decide, by decide⟩
@[go_sem] theorem Try.u21 : Try.prog.underlying 21 = some (.int .i32) := rfl
@[go_sem] theorem Try.c21 : Try.prog.cellsOf 21 = 1 := rfl
@[go_sem] theorem Try.s21 : szIs Try.prog 21 1 := rfl
@[go_sem] theorem Try.a21 : apOK Try.prog 21 1 := ⟨_, _, rfl, rfl, rfl, rfl, by decide, by decide⟩
@[go_sem] theorem Try.u22 : Try.prog.underlying 22 = some (.slice 56) := rfl
@[go_sem] theorem Try.c22 : Try.prog.cellsOf 22 = 1 := rfl
@[go_sem] theorem Try.s22 : szIs Try.prog 22 1 := rfl
@[go_sem] theorem Try.a22 : apOK Try.prog 22 1 := ⟨_, _, rfl, rfl, rfl, rfl, by decide, by decide⟩
@[go_sem] theorem Try.u23 : Try.prog.underlying 23 = some (.array 3 5) := rfl
@[go_sem] theorem Try.c23 : Try.prog.cellsOf 23 = 3 := rfl
@[go_sem] theorem Try.s23 : szIs Try.prog 23 3 := rfl
@[go_sem] theorem Try.a23 : apOK Try.prog 23 3 := ⟨_, _, rfl, rfl, rfl, rfl, by decide, by decide⟩
@[go_sem] theorem Try.c24 : Try.prog.cellsOf 24 = 1 := rfl
@[go_sem] theorem Try.s24 : szIs Try.prog 24 1 := rfl
@[go_sem] theorem Try.a24 : apOK Try.prog 24 1 := ⟨_, _, rfl, rfl, rfl, rfl, by decide, by decide⟩
@[go_sem] theorem Try.u25 : Try.prog.underlying 25 = some (.slice 49) := rfl
@[go_sem] theorem Try.c25 : Try.prog.cellsOf 25 = 1 := rfl
@[go_sem] theorem Try.s25 : szIs Try.prog 25 1 := rfl
@[go_sem] theorem Try.a25 : apOK Try.prog 25 1 := ⟨_, _, rfl, rfl, rfl, rfl, by decide, by decide⟩
@[go_sem] theorem Try.u26 : Try.prog.underlying 26 = some (.slice 52) := rfl
@[go_sem] theorem Try.c26 : Try.prog.cellsOf 26 = 1 := rfl
@[go_sem] theorem Try.s26 : szIs Try.prog 26 1 := rfl
@[go_sem] theorem Try.a26 : apOK Try.prog 26 1 := ⟨_, _, rfl, rfl, rfl, rfl, by decide, by decide⟩
@[go_sem] theorem Try.u27 : Try.prog.underlying 27 = some (.array 8 3) := rfl
@[go_sem] theorem Try.c27 : Try.prog.cellsOf 27 = 8 := rfl
@[go_sem] theorem Try.s27 : szIs Try.prog 27 8 := rfl
@[go_sem] theorem Try.a27 : apOK Try.prog 27 8 := ⟨_, _, rfl, rfl, rfl, rfl, by decide, by decide⟩
@[go_sem] theorem Try.c28 : Try.prog.cellsOf 28 = 10 := rfl
@[go_sem] theorem Try.s28 : szIs Try.prog 28 10 := rfl
@[go_sem] theorem Try.a28 : apOK Try.prog 28 10 := ⟨_, _, rfl, rfl, rfl, rfl, by decide, by decide⟩
@[go_sem] theorem Try.c29 : Try.prog.cellsOf 29 = 10 := rfl
@[go_sem] theorem Try.s29 : szIs Try.prog 29 10 := rfl
@[go_sem] theorem Try.a29 : apOK Try.prog 29 10 := ⟨_, _, rfl, rfl, rfl, rfl, by decide, by decide⟩
@[go_sem] theorem Try.c30 : Try.prog.cellsOf 30 = 1 := rfl
@[go_sem] theorem Try.s30 : szIs Try.prog 30 1 := rfl
@[go_sem] theorem Try.a30 : apOK Try.prog 30 1 := ⟨_, _, rfl, rfl, rfl, rfl, by decide, by decide⟩
@[go_sem] theorem Try.u31 : Try.prog.underlying 31 = some (.int .i64) := rfl
@[go_sem] theorem Try.c31 : Try.prog.cellsOf 31 = 1 := rfl
@[go_sem] theorem Try.s31 : szIs Try.prog 31 1 := rfl
@[go_sem] theorem Try.a31 : apOK Try.prog 31 1 := ⟨_, _, rfl, rfl, rfl, rfl, by decide, by decide⟩
@[go_sem] theorem Try.c32 : Try.prog.cellsOf 32 = 1 := rfl
@[go_sem] theorem Try.s32 : szIs Try.prog 32 1 := rfl
@[go_sem] theorem Try.a32 : apOK Try.prog 32 1 := ⟨_, _, rfl, rfl, rfl, rfl, by decide, by decide⟩
@[go_sem] theorem Try.c33 : Try.prog.cellsOf 33 = 1 := rfl
@[go_sem] theorem Try.s33 : szIs Try.prog 33 1 := rfl
@[go_sem] theorem Try.a33 : apOK Try.prog 33 1 := ⟨_, _, rfl, rfl, rfl, rfl, by decide, by decide⟩
@[go_sem] theorem Try.c34 : Try.prog.cellsOf 34 = 1 := rfl
@[go_sem] theorem Try.s34 : szIs Try.prog 34 1 := rfl
@[go_sem] theorem Try.a34 : apOK Try.prog 34 1 := ⟨_, _, rfl, rfl, rfl, rfl, by decide, by decide⟩
@[go_sem] theorem Try.c35 : Try.prog.cellsOf 35 = 1 := rfl
@[go_sem] theorem Try.s35 : szIs Try.prog 35 1 := rfl
@[go_sem] theorem Try.a35 : apOK Try.prog 35 1 := ⟨_, _, rfl, rfl, rfl, rfl, by decide, by decide⟩
@[go_sem] theorem Try.c36 : Try.prog.cellsOf 36 = 1 := rfl
@[go_sem] theorem Try.s36 : szIs Try.prog 36 1 := rfl
@[go_sem] theorem Try.a36 : apOK Try.prog 36 1 := ⟨_, _, rfl, rfl, rfl, rfl, by decide, by decide⟩
@[go_sem] theorem Try.c37 : Try.prog.cellsOf 37 = 1 := rfl
@[go_sem] theorem Try.s37 : szIs Try.prog 37 1 := rfl
@[go_sem] theorem Try.a37 : apOK Try.prog 37 1 := ⟨_, _, rfl, rfl, rfl, rfl, by decide, by decide⟩
@[go_sem] theorem Try.c38 : Try.prog.cellsOf 38 = 1 := rfl
@[go_sem] theorem Try.s38 : szIs Try.prog 38 1 := rfl
@[go_sem] theorem Try.a38 : apOK Try.prog 38 1 := ⟨_, _, rfl, rfl, rfl, rfl, by decide, by decide⟩
@[go_sem] theorem Try.u39 : Try.prog.underlying 39 = some (.slice 60) := rfl
@[go_sem] theorem Try.c39 : Try.prog.cellsOf 39 = 1 := rfl
@[go_sem] theorem Try.s39 : szIs Try.prog 39 1 := rfl
@[go_sem] theorem Try.a39 : apOK Try.prog 39 1 := ⟨_, _, rfl, rfl, rfl, rfl, by decide, by decide⟩
@[go_sem] theorem Try.u40 : Try.prog.underlying 40 = some (.array 3 29) := rfl
@[go_sem] theorem Try.c40 : Try.prog.cellsOf 40 = 30 := rfl
@[go_sem] theorem Try.s40 : szIs Try.prog 40 30 := rfl
@[go_sem] theorem Try.a40 : apOK Try.prog 40 30 := ⟨_, _, rfl, rfl, rfl, rfl, by decide, by decide⟩
@[go_sem] theorem Try.u41 : Try.prog.underlying 41 = some (.array 3 29) := rfl
@[go_sem] theorem Try.c41 : Try.prog.cellsOf 41 = 30 := rfl
@[go_sem] theorem Try.s41 : szIs Try.prog 41 30 := rfl
@[go_sem] theorem Try.a41 : apOK Try.prog 41 30 := ⟨_, _, rfl, rfl, rfl, rfl, by decide, by decide⟩
@[go_sem] theorem Try.c42 : Try.prog.cellsOf 42 = 1 := rfl
@[go_sem] theorem Try.s42 : szIs Try.prog 42 1 := rfl
@[go_sem] theorem Try.a42 : apOK Try.prog 42 1 := ⟨_, _, rfl, rfl, rfl, rfl, by decide, by decide⟩
@[go_sem] theorem Try.c43 : Try.prog.cellsOf 43 = 1 := rfl
@[go_sem] theorem Try.s43 : szIs Try.prog 43 1 := rfl
@[go_sem] theorem Try.a43 : apOK Try.prog 43 1 := ⟨_, _, rfl, rfl, rfl, rfl, by decide, by decide⟩
@[go_sem] theorem Try.c44 : Try.prog.cellsOf 44 = 1 := rfl
@[go_sem] theorem Try.s44 : szIs Try.prog 44 1 := rfl
@[go_sem] theorem Try.a44 : apOK Try.prog 44 1 := ⟨_, _, rfl, rfl, rfl, rfl, by decide, by decide⟩
@[go_sem] theorem Try.u45 : Try.prog.underlying 45 = some (.array 2 5) := rfl
@[go_sem] theorem Try.c45 : Try.prog.cellsOf 45 = 2 := rfl
@[go_sem] theorem Try.s45 : szIs Try.prog 45 2 := rfl
@[go_sem] theorem Try.a45 : apOK Try.prog 45 2 := ⟨_, _, rfl, rfl, rfl, rfl, by decide, by decide⟩
@[go_sem] theorem Try.c46 : Try.prog.cellsOf 46 = 1 := rfl
@[go_sem] theorem Try.s46 : szIs Try.prog 46 1 := rfl
@[go_sem] theorem Try.a46 : apOK Try.prog 46 1 := ⟨_, _, rfl, rfl, rfl, rfl, by decide, by decide⟩
@[go_sem] theorem Try.c47 : Try.prog.cellsOf 47 = 1 := rfl
@[go_sem] theorem Try.s47 : szIs Try.prog 47 1 := rfl
@[go_sem] theorem Try.a47 : apOK Try.prog 47 1 := ⟨_, _, rfl, rfl, rfl, rfl, by decide, by decide⟩
@[go_sem] theorem Try.c48 : Try.prog.cellsOf 48 = 6 := rfl
@[go_sem] theorem Try.s48 : szIs Try.prog 48 6 := rfl
@[go_sem] theorem Try.a48 : apOK Try.prog 48 6 := ⟨_, _, rfl, rfl, rfl, rfl, by decide, by decide⟩
@[go_sem] theorem Try.c49 : Try.prog.cellsOf 49 = 6 := rfl
@[go_sem] theorem Try.s49 : szIs Try.prog 49 6 := rfl
@[go_sem] theorem Try.a49 : apOK Try.prog 49 6 := ⟨_, _, rfl, rfl, rfl, rfl, by decide, by decide⟩
@[go_sem] theorem Try.c50 : Try.prog.cellsOf 50 = 1 := rfl
@[go_sem] theorem Try.s50 : szIs Try.prog 50 1 := rfl
@[go_sem] theorem Try.a50 : apOK Try.prog 50 1 := ⟨_, _, rfl, rfl, rfl, rfl, by decide, by decide⟩
@[go_sem] theorem Try.c51 : Try.prog.cellsOf 51 = 7 := rfl
@[go_sem] theorem Try.s51 : szIs Try.prog 51 7 := rfl
@[go_sem] theorem Try.a51 : apOK Try.prog 51 7 := ⟨_, _, rfl, rfl, rfl, rfl, by decide, by decide⟩
@[go_sem] theorem Try.c52 : Try.prog.cellsOf 52 = 7 := rfl
@[go_sem] theorem Try.s52 : szIs Try.prog 52 7 := rfl
@[go_sem] theorem Try.a52 : apOK Try.prog 52 7 := ⟨_, _, rfl, rfl, rfl, rfl, by decide, by decide⟩
@[go_sem] theorem Try.c53 : Try.prog.cellsOf 53 = 1 := rfl
@[go_sem] theorem Try.s53 : szIs Try.prog 53 1 := rfl
@[go_sem] theorem Try.a53 : apOK Try.prog 53 1 := ⟨_, _, rfl, rfl, rfl, rfl, by decide, by decide⟩
@[go_sem] theorem Try.c54 : Try.prog.cellsOf 54 = 1 := rfl
@[go_sem] theorem Try.s54 : szIs Try.prog 54 1 := rfl
@[go_sem] theorem Try.a54 : apOK Try.prog 54 1 := ⟨_, _, rfl, rfl, rfl, rfl, by decide, by decide⟩
@[go_sem] theorem Try.c55 : Try.prog.cellsOf 55 = 6 := rfl
@[go_sem] theorem Try.s55 : szIs Try.prog 55 6 := rfl
@[go_sem] theorem Try.a55 : apOK Try.prog 55 6 := ⟨_, _, rfl, rfl, rfl, rfl, by decide, by decide⟩
@[go_sem] theorem Try.c56 : Try.prog.cellsOf 56 = 6 := rfl
@[go_sem] theorem Try.s56 : szIs Try.prog 56 6 := rfl
@[go_sem] theorem Try.a56 : apOK Try.prog 56 6 := ⟨_, _, rfl, rfl, rfl, rfl, by decide, by decide⟩
@[go_sem] theorem Try.c57 : Try.prog.cellsOf 57 = 1 := rfl
@[go_sem] theorem Try.s57 : szIs Try.prog 57 1 := rfl
@[go_sem] theorem Try.a57 : apOK Try.prog 57 1 := ⟨_, _, rfl, rfl, rfl, rfl, by decide, by decide⟩
@[go_sem] theorem Try.c58 : Try.prog.cellsOf 58 = 1 := rfl
@[go_sem] theorem Try.s58 : szIs Try.prog 58 1 := rfl
@[go_sem] theorem Try.a58 : apOK Try.prog 58 1 := ⟨_, _, rfl, rfl, rfl, rfl, by decide, by decide⟩
@[go_sem] theorem Try.c59 : Try.prog.cellsOf 59 = 8 := rfl
@[go_sem] theorem Try.s59 : szIs Try.prog 59 8 := rfl
@[go_sem] theorem Try.a59 : apOK Try.prog 59 8 := ⟨_, _, rfl, rfl, rfl, rfl, by decide, by decide⟩
@[go_sem] theorem Try.c60 : Try.prog.cellsOf 60 = 8 := rfl
@[go_sem] theorem Try.s60 : szIs Try.prog 60 8 := rfl
@[go_sem] theorem Try.a60 : apOK Try.prog 60 8 := ⟨_, _, rfl, rfl, rfl, rfl, by decide, by decide⟩
@[go_sem] theorem Try.c61 : Try.prog.cellsOf 61 = 1 := rfl
@[go_sem] theorem Try.s61 : szIs Try.prog 61 1 := rfl
@[go_sem] theorem Try.a61 : apOK Try.prog 61 1 := ⟨_, _, rfl, rfl, rfl, rfl, by decide, by decide⟩
@[go_sem] theorem Try.c62 : Try.prog.cellsOf 62 = 1 := rfl
@[go_sem] theorem Try.s62 : szIs Try.prog 62 1 := rfl
@[go_sem] theorem Try.a62 : apOK Try.prog 62 1 := ⟨_, _, rfl, rfl, rfl, rfl, by decide, by decide⟩
@[go_sem] theorem Try.c63 : Try.prog.cellsOf 63 = 1 := rfl
@[go_sem] theorem Try.s63 : szIs Try.prog 63 1 := rfl
@[go_sem] theorem Try.a63 : apOK Try.prog 63 1 := ⟨_, _, rfl, rfl, rfl, rfl, by decide, by decide⟩
@[go_sem] theorem Try.c64 : Try.prog.cellsOf 64 = 1 := rfl
@[go_sem] theorem Try.s64 : szIs Try.prog 64 1 := rfl
@[go_sem] theorem Try.a64 : apOK Try.prog 64 1 := ⟨_, _, rfl, rfl, rfl, rfl, by decide, by decide⟩
@[go_sem] theorem Try.c65 : Try.prog.cellsOf 65 = 1 := rfl
@[go_sem] theorem Try.s65 : szIs Try.prog 65 1 := rfl
@[go_sem] theorem Try.a65 : apOK Try.prog 65 1 := ⟨_, _, rfl, rfl, rfl, rfl, by decide, by decide⟩
@[go_sem] theorem Try.c66 : Try.prog.cellsOf 66 = 1 := rfl
@[go_sem] theorem Try.s66 : szIs Try.prog 66 1 := rfl
@[go_sem] theorem Try.a66 : apOK Try.prog 66 1 := ⟨_, _, rfl, rfl, rfl, rfl, by decide, by decide⟩
@[go_sem] theorem Try.c67 : Try.prog.cellsOf 67 = 1 := rfl
@[go_sem] theorem Try.s67 : szIs Try.prog 67 1 := rfl
@[go_sem] theorem Try.a67 : apOK Try.prog 67 1 := ⟨_, _, rfl, rfl, rfl, rfl, by decide, by decide⟩
@[go_sem] theorem Try.c68 : Try.prog.cellsOf 68 = 1 := rfl
@[go_sem] theorem Try.s68 : szIs Try.prog 68 1 := rfl
@[go_sem] theorem Try.a68 : apOK Try.prog 68 1 := ⟨_, _, rfl, rfl, rfl, rfl, by decide, by decide⟩
@[go_sem] theorem Try.c69 : Try.prog.cellsOf 69 = 1 := rfl
@[go_sem] theorem Try.s69 : szIs Try.prog 69 1 := rfl
@[go_sem] theorem Try.a69 : apOK Try.prog 69 1 := ⟨_, _, rfl, rfl, rfl, rfl, by decide, by decide⟩
@[go_sem] theorem Try.c70 : Try.prog.cellsOf 70 = 1 := rfl
@[go_sem] theorem Try.s70 : szIs Try.prog 70 1 := rfl
@[go_sem] theorem Try.a70 : apOK Try.prog 70 1 := ⟨_, _, rfl, rfl, rfl, rfl, by decide, by decide⟩
@[go_sem] theorem Try.c71 : Try.prog.cellsOf 71 = 1 := rfl
@[go_sem] theorem Try.s71 : szIs Try.prog 71 1 := rfl
@[go_sem] theorem Try.a71 : apOK Try.prog 71 1 := ⟨_, _, rfl, rfl, rfl, rfl, by decide, by decide⟩
@[go_sem] theorem Try.c72 : Try.prog.cellsOf 72 = 2 := rfl
@[go_sem] theorem Try.s72 : szIs Try.prog 72 2 := rfl
@[go_sem] theorem Try.a72 : apOK Try.prog 72 2 := ⟨_, _, rfl, rfl, rfl, rfl, by decide, by decide⟩
@[go_sem] theorem Try.c73 : Try.prog.cellsOf 73 = 2 := rfl
@[go_sem] theorem Try.s73 : szIs Try.prog 73 2 := rfl
@[go_sem] theorem Try.a73 : apOK Try.prog 73 2 := ⟨_, _, rfl, rfl, rfl, rfl, by decide, by decide⟩
@[go_sem] theorem Try.c74 : Try.prog.cellsOf 74 = 2 := rfl
@[go_sem] theorem Try.s74 : szIs Try.prog 74 2 := rfl
@[go_sem] theorem Try.a74 : apOK Try.prog 74 2 := ⟨_, _, rfl, rfl, rfl, rfl, by decide, by decide⟩
@[go_sem] theorem Try.c75 : Try.prog.cellsOf 75 = 2 := rfl
@[go_sem] theorem Try.s75 : szIs Try.prog 75 2 := rfl
@[go_sem] theorem Try.a75 : apOK Try.prog 75 2 := ⟨_, _, rfl, rfl, rfl, rfl, by decide, by decide⟩
@[go_sem] theorem Try.c76 : Try.prog.cellsOf 76 = 1 := rfl
@[go_sem] theorem Try.s76 : szIs Try.prog 76 1 := rfl
@[go_sem] theorem Try.a76 : apOK Try.prog 76 1 := ⟨_, _, rfl, rfl, rfl, rfl, by decide, by decide⟩
@[go_sem] theorem Try.c77 : Try.prog.cellsOf 77 = 1 := rfl
@[go_sem] theorem Try.s77 : szIs Try.prog 77 1 := rfl
@[go_sem] theorem Try.a77 : apOK Try.prog 77 1 := ⟨_, _, rfl, rfl, rfl, rfl, by decide, by decide⟩
@[go_sem] theorem Try.c78 : Try.prog.cellsOf 78 = 1 := rfl
@[go_sem] theorem Try.s78 : szIs Try.prog 78 1 := rfl
@[go_sem] theorem Try.a78 : apOK Try.prog 78 1 := ⟨_, _, rfl, rfl, rfl, rfl, by decide, by decide⟩
@[go_sem] theorem Try.c79 : Try.prog.cellsOf 79 = 2 := rfl
@[go_sem] theorem Try.s79 : szIs Try.prog 79 2 := rfl
@[go_sem] theorem Try.a79 : apOK Try.prog 79 2 := ⟨_, _, rfl, rfl, rfl, rfl, by decide, by decide⟩
@[go_sem] theorem Try.c80 : Try.prog.cellsOf 80 = 2 := rfl
@[go_sem] theorem Try.s80 : szIs Try.prog 80 2 := rfl
@[go_sem] theorem Try.a80 : apOK Try.prog 80 2 := ⟨_, _, rfl, rfl, rfl, rfl, by decide, by decide⟩
@[go_sem] theorem Try.c81 : Try.prog.cellsOf 81 = 1 := rfl
@[go_sem] theorem Try.s81 : szIs Try.prog 81 1 := rfl
@[go_sem] theorem Try.a81 : apOK Try.prog 81 1 := ⟨_, _, rfl, rfl, rfl, rfl, by decide, by decide⟩
@[go_sem] theorem Try.c82 : Try.prog.cellsOf 82 = 1 := rfl
@[go_sem] theorem Try.s82 : szIs Try.prog 82 1 := rfl
@[go_sem] theorem Try.a82 : apOK Try.prog 82 1 := ⟨_, _, rfl, rfl, rfl, rfl, by decide, by decide⟩
@[go_sem] theorem Try.c83 : Try.prog.cellsOf 83 = 1 := rfl
@[go_sem] theorem Try.s83 : szIs Try.prog 83 1 := rfl
@[go_sem] theorem Try.a83 : apOK Try.prog 83 1 := ⟨_, _, rfl, rfl, rfl, rfl, by decide, by decide⟩
@[go_sem] theorem Try.c84 : Try.prog.cellsOf 84 = 1 := rfl
@[go_sem] theorem Try.s84 : szIs Try.prog 84 1 := rfl
@[go_sem] theorem Try.a84 : apOK Try.prog 84 1 := ⟨_, _, rfl, rfl, rfl, rfl, by decide, by decide⟩
@[go_sem] theorem Try.c85 : Try.prog.cellsOf 85 = 1 := rfl
@[go_sem] theorem Try.s85 : szIs Try.prog 85 1 := rfl
@[go_sem] theorem Try.a85 : apOK Try.prog 85 1 := ⟨_, _, rfl, rfl, rfl, rfl, by decide, by decide⟩
@[go_sem] theorem Try.c86 : Try.prog.cellsOf 86 = 1 := rfl
@[go_sem] theorem Try.s86 : szIs Try.prog 86 1 := rfl
@[go_sem] theorem Try.a86 : apOK Try.prog 86 1 := ⟨_, _, rfl, rfl, rfl, rfl, by decide, by decide⟩
@[go_sem] theorem Try.c87 : Try.prog.cellsOf 87 = 1 := rfl
@[go_sem] theorem Try.s87 : szIs Try.prog 87 1 := rfl
@[go_sem] theorem Try.a87 : apOK Try.prog 87 1 := ⟨_, _, rfl, rfl, rfl, rfl, by decide, by decide⟩
@[go_sem] theorem Try.c88 : Try.prog.cellsOf 88 = 1 := rfl
@[go_sem] theorem Try.s88 : szIs Try.prog 88 1 := rfl
@[go_sem] theorem Try.a88 : apOK Try.prog 88 1 := ⟨_, _, rfl, rfl, rfl, rfl, by decide, by decide⟩
@[go_sem] theorem Try.c89 : Try.prog.cellsOf 89 = 1 := rfl
@[go_sem] theorem Try.s89 : szIs Try.prog 89 1 := rfl
@[go_sem] theorem Try.a89 : apOK Try.prog 89 1 := ⟨_, _, rfl, rfl, rfl, rfl, by decide, by decide⟩
@[go_sem] theorem Try.c90 : Try.prog.cellsOf 90 = 1 := rfl
@[go_sem] theorem Try.s90 : szIs Try.prog 90 1 := rfl
@[go_sem] theorem Try.a90 : apOK Try.prog 90 1 := ⟨_, _, rfl, rfl, rfl, rfl, by decide, by decide⟩
@[go_sem] theorem Try.c91 : Try.prog.cellsOf 91 = 1 := rfl
@[go_sem] theorem Try.s91 : szIs Try.prog 91 1 := rfl
@[go_sem] theorem Try.a91 : apOK Try.prog 91 1 := ⟨_, _, rfl, rfl, rfl, rfl, by decide, by decide⟩
@[go_sem] theorem Try.c92 : Try.prog.cellsOf 92 = 1 := rfl
@[go_sem] theorem Try.s92 : szIs Try.prog 92 1 := rfl
@[go_sem] theorem Try.a92 : apOK Try.prog 92 1 := ⟨_, _, rfl, rfl, rfl, rfl, by decide, by decide⟩
@[go_sem] theorem Try.c93 : Try.prog.cellsOf 93 = 1 := rfl
@[go_sem] theorem Try.s93 : szIs Try.prog 93 1 := rfl
@[go_sem] theorem Try.a93 : apOK Try.prog 93 1 := ⟨_, _, rfl, rfl, rfl, rfl, by decide, by decide⟩
@[go_sem] theorem Try.c94 : Try.prog.cellsOf 94 = 1 := rfl
@[go_sem] theorem Try.s94 : szIs Try.prog 94 1 := rfl
@[go_sem] theorem Try.a94 : apOK Try.prog 94 1 := ⟨_, _, rfl, rfl, rfl, rfl, by decide, by decide⟩
@[go_sem] theorem Try.c95 : Try.prog.cellsOf 95 = 1 := rfl
@[go_sem] theorem Try.s95 : szIs Try.prog 95 1 := rfl
@[go_sem] theorem Try.a95 : apOK Try.prog 95 1 := ⟨_, _, rfl, rfl, rfl, rfl, by decide, by decide⟩
@[go_sem] theorem Try.c96 : Try.prog.cellsOf 96 = 1 := rfl
@[go_sem] theorem Try.s96 : szIs Try.prog 96 1 := rfl
@[go_sem] theorem Try.a96 : apOK Try.prog 96 1 := ⟨_, _, rfl, rfl, rfl, rfl, by decide, by decide⟩
@[go_sem] theorem Try.c97 : Try.prog.cellsOf 97 = 1 := rfl
@[go_sem] theorem Try.s97 : szIs Try.prog 97 1 := rfl
@[go_sem] theorem Try.a97 : apOK Try.prog 97 1 := ⟨_, _, rfl, rfl, rfl, rfl, by decide, by decide⟩
@[go_sem] theorem Try.u98 : Try.prog.underlying 98 = some (.array 2 3) := rfl
@[go_sem] theorem Try.c98 : Try.prog.cellsOf 98 = 2 := rfl
@[go_sem] theorem Try.s98 : szIs Try.prog 98 2 := rfl
@[go_sem] theorem Try.a98 : apOK Try.prog 98 2 := ⟨_, _, rfl, rfl, rfl, rfl, by decide, by decide⟩
@[go_sem] theorem Try.u99 : Try.prog.underlying 99 = some (.slice 9) := rfl
@[go_sem] theorem Try.c99 : Try.prog.cellsOf 99 = 1 := rfl
@[go_sem] theorem Try.s99 : szIs Try.prog 99 1 := rfl
@[go_sem] theorem Try.a99 : apOK Try.prog 99 1 := ⟨_, _, rfl, rfl, rfl, rfl, by decide, by decide⟩
@[go_sem] theorem Try.c100 : Try.prog.cellsOf 100 = 1 := rfl
@[go_sem] theorem Try.s100 : szIs Try.prog 100 1 := rfl
@[go_sem] theorem Try.a100 : apOK Try.prog 100 1 := ⟨_, _, rfl, rfl, rfl, rfl, by decide, by decide⟩
@[go_sem] theorem Try.c101 : Try.prog.cellsOf 101 = 1 := rfl
@[go_sem] theorem Try.s101 : szIs Try.prog 101 1 := rfl
@[go_sem] theorem Try.a101 : apOK Try.prog 101 1 := ⟨_, _, rfl, rfl, rfl, rfl, by decide, by decide⟩
@[go_sem] theorem Try.c102 : Try.prog.cellsOf 102 = 1 := rfl
@[go_sem] theorem Try.s102 : szIs Try.prog 102 1 := rfl
@[go_sem] theorem Try.a102 : apOK Try.prog 102 1 := ⟨_, _, rfl, rfl, rfl, rfl, by decide, by decide⟩
@[go_sem] theorem Try.c103 : Try.prog.cellsOf 103 = 12 := rfl
@[go_sem] theorem Try.s103 : szIs Try.prog 103 12 := rfl
@[go_sem] theorem Try.a103 : apOK Try.prog 103 12 := ⟨_, _, rfl, rfl, rfl, rfl, by decide, by decide⟩
@[go_sem] theorem Try.c104 : Try.prog.cellsOf 104 = 12 := rfl
@[go_sem] theorem Try.s104 : szIs Try.prog 104 12 := rfl
@[go_sem] theorem Try.a104 : apOK Try.prog 104 12 := ⟨_, _, rfl, rfl, rfl, rfl, by decide, by decide⟩
@[go_sem] theorem Try.c105 : Try.prog.cellsOf 105 = 1 := rfl
@[go_sem] theorem Try.s105 : szIs Try.prog 105 1 := rfl
@[go_sem] theorem Try.a105 : apOK Try.prog 105 1 := ⟨_, _, rfl, rfl, rfl, rfl, by decide, by decide⟩
@[go_sem] theorem Try.c106 : Try.prog.cellsOf 106 = 1 := rfl
@[go_sem] theorem Try.s106 : szIs Try.prog 106 1 := rfl
@[go_sem] theorem Try.a106 : apOK Try.prog 106 1 := ⟨_, _, rfl, rfl, rfl, rfl, by decide, by decide⟩
@[go_sem] theorem Try.c107 : Try.prog.cellsOf 107 = 1 := rfl
@[go_sem] theorem Try.s107 : szIs Try.prog 107 1 := rfl
@[go_sem] theorem Try.a107 : apOK Try.prog 107 1 := ⟨_, _, rfl, rfl, rfl, rfl, by decide, by decide⟩
@[go_sem] theorem Try.c108 : Try.prog.cellsOf 108 = 1 := rfl
@[go_sem] theorem Try.s108 : szIs Try.prog 108 1 := rfl
@[go_sem] theorem Try.a108 : apOK Try.prog 108 1 := ⟨_, _, rfl, rfl, rfl, rfl, by decide, by decide⟩
@[go_sem] theorem Try.c109 : Try.prog.cellsOf 109 = 1 := rfl
@[go_sem] theorem Try.s109 : szIs Try.prog 109 1 := rfl
@[go_sem] theorem Try.a109 : apOK Try.prog 109 1 := ⟨_, _, rfl, rfl, rfl, rfl, by decide, by decide⟩
@[go_sem] theorem Try.c110 : Try.prog.cellsOf 110 = 1 := rfl
@[go_sem] theorem Try.s110 : szIs Try.prog 110 1 := rfl
@[go_sem] theorem Try.a110 : apOK Try.prog 110 1 := ⟨_, _, rfl, rfl, rfl, rfl, by decide, by decide⟩
@[go_sem] theorem Try.c111 : Try.prog.cellsOf 111 = 1 := rfl
@[go_sem] theorem Try.s111 : szIs Try.prog 111 1 := rfl
@[go_sem] theorem Try.a111 : apOK Try.prog 111 1 := ⟨_, _, rfl, rfl, rfl, rfl, by decide, by decide⟩
@[go_sem] theorem Try.c112 : Try.prog.cellsOf 112 = 1 := rfl
@[go_sem] theorem Try.s112 : szIs Try.prog 112 1 := rfl
@[go_sem] theorem Try.a112 : apOK Try.prog 112 1 := ⟨_, _, rfl, rfl, rfl, rfl, by decide, by decide⟩
@[go_sem] theorem Try.c113 : Try.prog.cellsOf 113 = 1 := rfl
@[go_sem] theorem Try.s113 : szIs Try.prog 113 1 := rfl
@[go_sem] theorem Try.a113 : apOK Try.prog 113 1 := ⟨_, _, rfl, rfl, rfl, rfl, by decide, by decide⟩
@[go_sem] theorem Try.c114 : Try.prog.cellsOf 114 = 2 := rfl
@[go_sem] theorem Try.s114 : szIs Try.prog 114 2 := rfl
@[go_sem] theorem Try.a114 : apOK Try.prog 114 2 := ⟨_, _, rfl, rfl, rfl, rfl, by decide, by decide⟩
@[go_sem] theorem Try.c115 : Try.prog.cellsOf 115 = 2 := rfl
@[go_sem] theorem Try.s115 : szIs Try.prog 115 2 := rfl
@[go_sem] theorem Try.a115 : apOK Try.prog 115 2 := ⟨_, _, rfl, rfl, rfl, rfl, by decide, by decide⟩
@[go_sem] theorem Try.c116 : Try.prog.cellsOf 116 = 1 := rfl
@[go_sem] theorem Try.s116 : szIs Try.prog 116 1 := rfl
@[go_sem] theorem Try.a116 : apOK Try.prog 116 1 := ⟨_, _, rfl, rfl, rfl, rfl, by decide, by decide⟩
@[go_sem] theorem Try.c117 : Try.prog.cellsOf 117 = 2 := rfl
@[go_sem] theorem Try.s117 : szIs Try.prog 117 2 := rfl
@[go_sem] theorem Try.a117 : apOK Try.prog 117 2 := ⟨_, _, rfl, rfl, rfl, rfl, by decide, by decide⟩
@[go_sem] theorem Try.c118 : Try.prog.cellsOf 118 = 2 := rfl
@[go_sem] theorem Try.s118 : szIs Try.prog 118 2 := rfl
@[go_sem] theorem Try.a118 : apOK Try.prog 118 2 := ⟨_, _, rfl, rfl, rfl, rfl, by decide, by decide⟩
@[go_sem] theorem Try.c119 : Try.prog.cellsOf 119 = 1 := rfl
@[go_sem] theorem Try.s119 : szIs Try.prog 119 1 := rfl
@[go_sem] theorem Try.a119 : apOK Try.prog 119 1 := ⟨_, _, rfl, rfl, rfl, rfl, by decide, by decide⟩
@[go_sem] theorem Try.c120 : Try.prog.cellsOf 120 = 1 := rfl
@[go_sem] theorem Try.s120 : szIs Try.prog 120 1 := rfl
@[go_sem] theorem Try.a120 : apOK Try.prog 120 1 := ⟨_, _, rfl, rfl, rfl, rfl, by decide, by decide⟩
@[go_sem] theorem Try.c121 : Try.prog.cellsOf 121 = 1 := rfl
@[go_sem] theorem Try.s121 : szIs Try.prog 121 1 := rfl
@[go_sem] theorem Try.a121 : apOK Try.prog 121 1 := ⟨_, _, rfl, rfl, rfl, rfl, by decide, by decide⟩
@[go_sem] theorem Try.c122 : Try.prog.cellsOf 122 = 1 := rfl
@[go_sem] theorem Try.s122 : szIs Try.prog 122 1 := rfl
@[go_sem] theorem Try.a122 : apOK Try.prog 122 1 := ⟨_, _, rfl, rfl, rfl, rfl, by decide, by decide⟩
@[go_sem] theorem Try.c123 : Try.prog.cellsOf 123 = 4 := rfl
@[go_sem] theorem Try.s123 : szIs Try.prog 123 4 := rfl
@[go_sem] theorem Try.a123 : apOK Try.prog 123 4 := ⟨_, _, rfl, rfl, rfl, rfl, by decide, by decide⟩
@[go_sem] theorem Try.c124 : Try.prog.cellsOf 124 = 4 := rfl
@[go_sem] theorem Try.s124 : szIs Try.prog 124 4 := rfl
@[go_sem] theorem Try.a124 : apOK Try.prog 124 4 := ⟨_, _, rfl, rfl, rfl, rfl, by decide, by decide⟩
@[go_sem] theorem Try.u125 : Try.prog.underlying 125 = some (.array 0 16) := rfl
@[go_sem] theorem Try.c125 : Try.prog.cellsOf 125 = 0 := rfl
@[go_sem] theorem Try.s125 : szIs Try.prog 125 0 := rfl
@[go_sem] theorem Try.c126 : Try.prog.cellsOf 126 = 0 := rfl
@[go_sem] theorem Try.s126 : szIs Try.prog 126 0 := rfl
@[go_sem] theorem Try.c127 : Try.prog.cellsOf 127 = 0 := rfl
@[go_sem] theorem Try.s127 : szIs Try.prog 127 0 := rfl
@[go_sem] theorem Try.c128 : Try.prog.cellsOf 128 = 1 := rfl
@[go_sem] theorem Try.s128 : szIs Try.prog 128 1 := rfl
@[go_sem] theorem Try.a128 : apOK Try.prog 128 1 := ⟨_, _, rfl, rfl, rfl, rfl, by decide, by decide⟩
@[go_sem] theorem Try.u129 : Try.prog.underlying 129 = some (.int .u32) := rfl
@[go_sem] theorem Try.c129 : Try.prog.cellsOf 129 = 1 := rfl
@[go_sem] theorem Try.s129 : szIs Try.prog 129 1 := rfl
@[go_sem] theorem Try.a129 : apOK Try.prog 129 1 := ⟨_, _, rfl, rfl, rfl, rfl, by decide, by decide⟩
@[go_sem] theorem Try.u130 : Try.prog.underlying 130 = some (.int .u8) := rfl
@[go_sem] theorem Try.c130 : Try.prog.cellsOf 130 = 1 := rfl
@[go_sem] theorem Try.s130 : szIs Try.prog 130 1 := rfl
@[go_sem] theorem Try.a130 : apOK Try.prog 130 1 := ⟨_, _, rfl, rfl, rfl, rfl, by decide, by decide⟩
@[go_sem] theorem Try.u131 : Try.prog.underlying 131 = some (.int .u8) := rfl
@[go_sem] theorem Try.c131 : Try.prog.cellsOf 131 = 1 := rfl
@[go_sem] theorem Try.s131 : szIs Try.prog 131 1 := rfl
@[go_sem] theorem Try.a131 : apOK Try.prog 131 1 := ⟨_, _, rfl, rfl, rfl, rfl, by decide, by decide⟩
@[go_sem] theorem Try.c132 : Try.prog.cellsOf 132 = 1 := rfl
@[go_sem] theorem Try.s132 : szIs Try.prog 132 1 := rfl
@[go_sem] theorem Try.a132 : apOK Try.prog 132 1 := ⟨_, _, rfl, rfl, rfl, rfl, by decide, by decide⟩
@[go_sem] theorem Try.u133 : Try.prog.underlying 133 = some (.pointer 5) := rfl
@[go_sem] theorem Try.c133 : Try.prog.cellsOf 133 = 1 := rfl
@[go_sem] theorem Try.s133 : szIs Try.prog 133 1 := rfl
@[go_sem] theorem Try.a133 : apOK Try.prog 133 1 := ⟨_, _, rfl, rfl, rfl, rfl, by decide, by decide⟩
@[go_sem] theorem Try.u134 : Try.prog.underlying 134 = some (.int .i32) := rfl
@[go_sem] theorem Try.c134 : Try.prog.cellsOf 134 = 1 := rfl
@[go_sem] theorem Try.s134 : szIs Try.prog 134 1 := rfl
@[go_sem] theorem Try.a134 : apOK Try.prog 134 1 := ⟨_, _, rfl, rfl, rfl, rfl, by decide, by decide⟩
@[go_sem] theorem Try.u135 : Try.prog.underlying 135 = some (.int .i32) := rfl
@[go_sem] theorem Try.c135 : Try.prog.cellsOf 135 = 1 := rfl
@[go_sem] theorem Try.s135 : szIs Try.prog 135 1 := rfl
@[go_sem] theorem Try.a135 : apOK Try.prog 135 1 := ⟨_, _, rfl, rfl, rfl, rfl, by decide, by decide⟩
@[go_sem] theorem Try.c136 : Try.prog.cellsOf 136 = 11 := rfl
@[go_sem] theorem Try.s136 : szIs Try.prog 136 11 := rfl
@[go_sem] theorem Try.a136 : apOK Try.prog 136 11 := ⟨_, _, rfl, rfl, rfl, rfl, by decide, by decide⟩
@[go_sem] theorem Try.c137 : Try.prog.cellsOf 137 = 11 := rfl
@[go_sem] theorem Try.s137 : szIs Try.prog 137 11 := rfl
@[go_sem] theorem Try.a137 : apOK Try.prog 137 11 := ⟨_, _, rfl, rfl, rfl, rfl, by decide, by decide⟩
@[go_sem] theorem Try.c138 : Try.prog.cellsOf 138 = 1 := rfl
@[go_sem] theorem Try.s138 : szIs Try.prog 138 1 := rfl
@[go_sem] theorem Try.a138 : apOK Try.prog 138 1 := ⟨_, _, rfl, rfl, rfl, rfl, by decide, by decide⟩
@[go_sem] theorem Try.c139 : Try.prog.cellsOf 139 = 1 := rfl
@[go_sem] theorem Try.s139 : szIs Try.prog 139 1 := rfl
@[go_sem] theorem Try.a139 : apOK Try.prog 139 1 := ⟨_, _, rfl, rfl, rfl, rfl, by decide, by decide⟩
@[go_sem] theorem Try.g1 : aggT Try.prog 1 = false := rfl
@[go_sem] theorem Try.i1 : (Try.prog.underlying 1).isSome = true := rfl
@[go_sem] theorem Try.z1 : zeroAV Try.prog 1 = some (.atom .nilFunc) := rfl
@[go_sem] theorem Try.n1 : noIface Try.prog 1 = True := rfl
@[go_sem] theorem Try.g2 : aggT Try.prog 2 = false := rfl
@[go_sem] theorem Try.z2 : zeroAV Try.prog 2 = some (.int .i64 0) := rfl
@[go_sem] theorem Try.n2 : noIface Try.prog 2 = True := rfl
@[go_sem] theorem Try.g3 : aggT Try.prog 3 = false := rfl
@[go_sem] theorem Try.z3 : zeroAV Try.prog 3 = some (.int .i64 0) := rfl
@[go_sem] theorem Try.n3 : noIface Try.prog 3 = True := rfl
@[go_sem] theorem Try.g4 : aggT Try.prog 4 = false := rfl
@[go_sem] theorem Try.z4 : zeroAV Try.prog 4 = some (.bool false) := rfl
@[go_sem] theorem Try.n4 : noIface Try.prog 4 = True := rfl
@[go_sem] theorem Try.g5 : aggT Try.prog 5 = false := rfl
@[go_sem] theorem Try.z5 : zeroAV Try.prog 5 = some (.int .u8 0) := rfl
@[go_sem] theorem Try.n5 : noIface Try.prog 5 = True := rfl
@[go_sem] theorem Try.g6 : aggT Try.prog 6 = false := rfl
@[go_sem] theorem Try.z6 : zeroAV Try.prog 6 = some (.int .u8 0) := rfl
@[go_sem] theorem Try.n6 : noIface Try.prog 6 = True := rfl
@[go_sem] theorem Try.g7 : aggT Try.prog 7 = true := rfl
@[go_sem] theorem Try.i7 : (Try.prog.underlying 7).isSome = true := rfl
@[go_sem] theorem Try.f_7_0 : fieldTy Try.prog 7 0 = some (0, 2) := rfl
@[go_sem] theorem Try.f_7_1 : fieldTy Try.prog 7 1 = some (1, 3) := rfl
@[go_sem] theorem Try.f_7_2 : fieldTy Try.prog 7 2 = some (2, 4) := rfl
@[go_sem] theorem Try.f_7_3 : fieldTy Try.prog 7 3 = some (3, 6) := rfl
@[go_sem] theorem Try.z7 : zeroAV Try.prog 7 = some (.agg [.int .i64 0, .int .i64 0, .bool false, .int .u8 0]) := rfl
@[go_sem] theorem Try.p7 : placesOf Try.prog 7 = some [(0, 1), (1, 1), (2, 1), (3, 1)] := rfl
@[go_sem] theorem Try.e7 : eqFlat Try.prog 7 = some [(0, 0), (1, 0), (2, 1), (3, 0)] := by decide +kernel
@[go_sem] theorem Try.n7 : noIface Try.prog 7 = True := rfl
@[go_sem] theorem Try.g8 : aggT Try.prog 8 = true := rfl
@[go_sem] theorem Try.i8 : (Try.prog.underlying 8).isSome = true := rfl
@[go_sem] theorem Try.f_8_0 : fieldTy Try.prog 8 0 = some (0, 2) := rfl
@[go_sem] theorem Try.f_8_1 : fieldTy Try.prog 8 1 = some (1, 3) := rfl
@[go_sem] theorem Try.f_8_2 : fieldTy Try.prog 8 2 = some (2, 4) := rfl
@[go_sem] theorem Try.f_8_3 : fieldTy Try.prog 8 3 = some (3, 6) := rfl
@[go_sem] theorem Try.z8 : zeroAV Try.prog 8 = some (.agg [.int .i64 0, .int .i64 0, .bool false, .int .u8 0]) := rfl
@[go_sem] theorem Try.p8 : placesOf Try.prog 8 = some [(0, 1), (1, 1), (2, 1), (3, 1)] := rfl
@[go_sem] theorem Try.e8 : eqFlat Try.prog 8 = some [(0, 0), (1, 0), (2, 1), (3, 0)] := by decide +kernel
@[go_sem] theorem Try.n8 : noIface Try.prog 8 = True := rfl
@[go_sem] theorem Try.g9 : aggT Try.prog 9 = false := rfl
@[go_sem] theorem Try.z9 : zeroAV Try.prog 9 = some (.str []) := rfl
@[go_sem] theorem Try.n9 : noIface Try.prog 9 = True := rfl
@[go_sem] theorem Try.g10 : aggT Try.prog 10 = false := rfl
@[go_sem] theorem Try.z10 : zeroAV Try.prog 10 = some (.str []) := rfl
@[go_sem] theorem Try.n10 : noIface Try.prog 10 = True := rfl
@[go_sem] theorem Try.g11 : aggT Try.prog 11 = false := rfl
@[go_sem] theorem Try.z11 : zeroAV Try.prog 11 = some (.str []) := rfl
@[go_sem] theorem Try.n11 : noIface Try.prog 11 = True := rfl
@[go_sem] theorem Try.g12 : aggT Try.prog 12 = false := rfl
@[go_sem] theorem Try.z12 : zeroAV Try.prog 12 = some (.int .u64 0) := rfl
@[go_sem] theorem Try.n12 : noIface Try.prog 12 = True := rfl
@[go_sem] theorem Try.g13 : aggT Try.prog 13 = true := rfl
@[go_sem] theorem Try.i13 : (Try.prog.underlying 13).isSome = true := rfl
@[go_sem] theorem Try.f_13_0 : fieldTy Try.prog 13 0 = some (0, 9) := rfl
@[go_sem] theorem Try.f_13_1 : fieldTy Try.prog 13 1 = some (1, 12) := rfl
@[go_sem] theorem Try.z13 : zeroAV Try.prog 13 = some (.agg [.str [], .int .u64 0]) := rfl
@[go_sem] theorem Try.p13 : placesOf Try.prog 13 = some [(0, 1), (1, 1)] := rfl
@[go_sem] theorem Try.n13 : noIface Try.prog 13 = True := rfl
@[go_sem] theorem Try.g14 : aggT Try.prog 14 = true := rfl
@[go_sem] theorem Try.i14 : (Try.prog.underlying 14).isSome = true := rfl
@[go_sem] theorem Try.f_14_0 : fieldTy Try.prog 14 0 = some (0, 9) := rfl
@[go_sem] theorem Try.f_14_1 : fieldTy Try.prog 14 1 = some (1, 12) := rfl
@[go_sem] theorem Try.z14 : zeroAV Try.prog 14 = some (.agg [.str [], .int .u64 0]) := rfl
@[go_sem] theorem Try.p14 : placesOf Try.prog 14 = some [(0, 1), (1, 1)] := rfl
@[go_sem] theorem Try.n14 : noIface Try.prog 14 = True := rfl
@[go_sem] theorem Try.g15 : aggT Try.prog 15 = false := rfl
@[go_sem] theorem Try.z15 : zeroAV Try.prog 15 = some (.atom (.pointer none)) := rfl
@[go_sem] theorem Try.n15 : noIface Try.prog 15 = True := rfl
@[go_sem] theorem Try.g16 : aggT Try.prog 16 = false := rfl
@[go_sem] theorem Try.z16 : zeroAV Try.prog 16 = some (.atom (.pointer none)) := rfl
@[go_sem] theorem Try.n16 : noIface Try.prog 16 = True := rfl
@[go_sem] theorem Try.g17 : aggT Try.prog 17 = false := rfl
@[go_sem] theorem Try.z17 : zeroAV Try.prog 17 = some (.atom (.pointer none)) := rfl
@[go_sem] theorem Try.n17 : noIface Try.prog 17 = True := rfl
@[go_sem] theorem Try.g18 : aggT Try.prog 18 = true := rfl
@[go_sem] theorem Try.i18 : (Try.prog.underlying 18).isSome = true := rfl
@[go_sem] theorem Try.f_18_0 : fieldTy Try.prog 18 0 = some (0, 17) := rfl
@[go_sem] theorem Try.z18 : zeroAV Try.prog 18 = some (.agg [.atom (.pointer none)]) := rfl
@[go_sem] theorem Try.p18 : placesOf Try.prog 18 = some [(0, 1)] := rfl
@[go_sem] theorem Try.n18 : noIface Try.prog 18 = True := rfl
@[go_sem] theorem Try.g19 : aggT Try.prog 19 = true := rfl
@[go_sem] theorem Try.i19 : (Try.prog.underlying 19).isSome = true := rfl
@[go_sem] theorem Try.f_19_0 : fieldTy Try.prog 19 0 = some (0, 17) := rfl
@[go_sem] theorem Try.z19 : zeroAV Try.prog 19 = some (.agg [.atom (.pointer none)]) := rfl
@[go_sem] theorem Try.p19 : placesOf Try.prog 19 = some [(0, 1)] := rfl
@[go_sem] theorem Try.n19 : noIface Try.prog 19 = True := rfl
@[go_sem] theorem Try.g20 : aggT Try.prog 20 = false := rfl
@[go_sem] theorem Try.i20 : (Try.prog.underlying 20).isSome = true := rfl
@[go_sem] theorem Try.z20 : zeroAV Try.prog 20 = some (.atom .nilIface) := rfl
@[go_sem] theorem Try.g21 : aggT Try.prog 21 = false := rfl
@[go_sem] theorem Try.z21 : zeroAV Try.prog 21 = some (.int .i32 0) := rfl
@[go_sem] theorem Try.n21 : noIface Try.prog 21 = True := rfl
@[go_sem] theorem Try.g22 : aggT Try.prog 22 = false := rfl
@[go_sem] theorem Try.z22 : zeroAV Try.prog 22 = some (.sl true 1 []) := rfl
@[go_sem] theorem Try.n22 : noIface Try.prog 22 = True := rfl
@[go_sem] theorem Try.g23 : aggT Try.prog 23 = true := rfl
@[go_sem] theorem Try.z23 : zeroAV Try.prog 23 = some (.agg [.int .u8 0, .int .u8 0, .int .u8 0]) := rfl
@[go_sem] theorem Try.e23 : eqFlat Try.prog 23 = some [(0, 0), (1, 0), (2, 0)] := by decide +kernel
@[go_sem] theorem Try.p23 : placesOf Try.prog 23 = some [(0, 1), (1, 1), (2, 1)] := rfl
@[go_sem] theorem Try.n23 : noIface Try.prog 23 = True := rfl
@[go_sem] theorem Try.g24 : aggT Try.prog 24 = false := rfl
@[go_sem] theorem Try.i24 : (Try.prog.underlying 24).isSome = true := rfl
@[go_sem] theorem Try.z24 : zeroAV Try.prog 24 = some (.atom .nilFunc) := rfl
@[go_sem] theorem Try.n24 : noIface Try.prog 24 = True := rfl
@[go_sem] theorem Try.g25 : aggT Try.prog 25 = false := rfl
@[go_sem] theorem Try.z25 : zeroAV Try.prog 25 = some (.sl true 1 []) := rfl
@[go_sem] theorem Try.n25 : noIface Try.prog 25 = True := rfl
@[go_sem] theorem Try.g26 : aggT Try.prog 26 = false := rfl
@[go_sem] theorem Try.z26 : zeroAV Try.prog 26 = some (.sl true 1 []) := rfl
@[go_sem] theorem Try.n26 : noIface Try.prog 26 = True := rfl
@[go_sem] theorem Try.g27 : aggT Try.prog 27 = true := rfl
@[go_sem] theorem Try.z27 : zeroAV Try.prog 27 = some (.agg [.int .i64 0, .int .i64 0, .int .i64 0, .int .i64 0, .int .i64 0, .int .i64 0, .int .i64 0, .int .i64 0]) := rfl
@[go_sem] theorem Try.e27 : eqFlat Try.prog 27 = some [(0, 0), (1, 0), (2, 0), (3, 0), (4, 0), (5, 0), (6, 0), (7, 0)] := by decide +kernel
@[go_sem] theorem Try.p27 : placesOf Try.prog 27 = some [(0, 1), (1, 1), (2, 1), (3, 1), (4, 1), (5, 1), (6, 1), (7, 1)] := rfl
@[go_sem] theorem Try.n27 : noIface Try.prog 27 = True := rfl
@[go_sem] theorem Try.g28 : aggT Try.prog 28 = true := rfl
@[go_sem] theorem Try.i28 : (Try.prog.underlying 28).isSome = true := rfl
@[go_sem] theorem Try.f_28_0 : fieldTy Try.prog 28 0 = some (0, 25) := rfl
@[go_sem] theorem Try.f_28_1 : fieldTy Try.prog 28 1 = some (1, 26) := rfl
@[go_sem] theorem Try.f_28_2 : fieldTy Try.prog 28 2 = some (2, 27) := rfl
@[go_sem] theorem Try.z28 : zeroAV Try.prog 28 = some (.agg [.sl true 1 [], .sl true 1 [], .int .i64 0, .int .i64 0, .int .i64 0, .int .i64 0, .int .i64 0, .int .i64 0, .int .i64 0, .int .i64 0]) := rfl
@[go_sem] theorem Try.p28 : placesOf Try.prog 28 = some [(0, 1), (1, 1), (2, 8)] := rfl
@[go_sem] theorem Try.n28 : noIface Try.prog 28 = True := rfl
@[go_sem] theorem Try.g29 : aggT Try.prog 29 = true := rfl
@[go_sem] theorem Try.i29 : (Try.prog.underlying 29).isSome = true := rfl
@[go_sem] theorem Try.f_29_0 : fieldTy Try.prog 29 0 = some (0, 25) := rfl
@[go_sem] theorem Try.f_29_1 : fieldTy Try.prog 29 1 = some (1, 26) := rfl
@[go_sem] theorem Try.f_29_2 : fieldTy Try.prog 29 2 = some (2, 27) := rfl
@[go_sem] theorem Try.z29 : zeroAV Try.prog 29 = some (.agg [.sl true 1 [], .sl true 1 [], .int .i64 0, .int .i64 0, .int .i64 0, .int .i64 0, .int .i64 0, .int .i64 0, .int .i64 0, .int .i64 0]) := rfl
@[go_sem] theorem Try.p29 : placesOf Try.prog 29 = some [(0, 1), (1, 1), (2, 8)] := rfl
@[go_sem] theorem Try.n29 : noIface Try.prog 29 = True := rfl
@[go_sem] theorem Try.g30 : aggT Try.prog 30 = false := rfl
@[go_sem] theorem Try.i30 : (Try.prog.underlying 30).isSome = true := rfl
@[go_sem] theorem Try.z30 : zeroAV Try.prog 30 = some (.atom .nilFunc) := rfl
@[go_sem] theorem Try.n30 : noIface Try.prog 30 = True := rfl
@[go_sem] theorem Try.g31 : aggT Try.prog 31 = false := rfl
@[go_sem] theorem Try.z31 : zeroAV Try.prog 31 = some (.int .i64 0) := rfl
@[go_sem] theorem Try.n31 : noIface Try.prog 31 = True := rfl
@[go_sem] theorem Try.g33 : aggT Try.prog 33 = false := rfl
@[go_sem] theorem Try.i33 : (Try.prog.underlying 33).isSome = true := rfl
@[go_sem] theorem Try.z33 : zeroAV Try.prog 33 = some (.atom .nilFunc) := rfl
@[go_sem] theorem Try.n33 : noIface Try.prog 33 = True := rfl
@[go_sem] theorem Try.g34 : aggT Try.prog 34 = false := rfl
@[go_sem] theorem Try.i34 : (Try.prog.underlying 34).isSome = true := rfl
@[go_sem] theorem Try.z34 : zeroAV Try.prog 34 = some (.atom .nilFunc) := rfl
@[go_sem] theorem Try.n34 : noIface Try.prog 34 = True := rfl
@[go_sem] theorem Try.g35 : aggT Try.prog 35 = false := rfl
@[go_sem] theorem Try.i35 : (Try.prog.underlying 35).isSome = true := rfl
@[go_sem] theorem Try.z35 : zeroAV Try.prog 35 = some (.atom .nilFunc) := rfl
@[go_sem] theorem Try.n35 : noIface Try.prog 35 = True := rfl
@[go_sem] theorem Try.g36 : aggT Try.prog 36 = false := rfl
@[go_sem] theorem Try.i36 : (Try.prog.underlying 36).isSome = true := rfl
@[go_sem] theorem Try.z36 : zeroAV Try.prog 36 = some (.atom .nilFunc) := rfl
@[go_sem] theorem Try.n36 : noIface Try.prog 36 = True := rfl
@[go_sem] theorem Try.g37 : aggT Try.prog 37 = false := rfl
@[go_sem] theorem Try.i37 : (Try.prog.underlying 37).isSome = true := rfl
@[go_sem] theorem Try.z37 : zeroAV Try.prog 37 = some (.atom .nilFunc) := rfl
@[go_sem] theorem Try.n37 : noIface Try.prog 37 = True := rfl
@[go_sem] theorem Try.g38 : aggT Try.prog 38 = false := rfl
@[go_sem] theorem Try.i38 : (Try.prog.underlying 38).isSome = true := rfl
@[go_sem] theorem Try.z38 : zeroAV Try.prog 38 = some (.atom .nilFunc) := rfl
@[go_sem] theorem Try.n38 : noIface Try.prog 38 = True := rfl
@[go_sem] theorem Try.g39 : aggT Try.prog 39 = false := rfl
@[go_sem] theorem Try.z39 : zeroAV Try.prog 39 = some (.sl true 1 []) := rfl
@[go_sem] theorem Try.n39 : noIface Try.prog 39 = True := rfl
@[go_sem] theorem Try.g40 : aggT Try.prog 40 = true := rfl
@[go_sem] theorem Try.z40 : zeroAV Try.prog 40 = some (.agg [.sl true 1 [], .sl true 1 [], .int .i64 0, .int .i64 0, .int .i64 0, .int .i64 0, .int .i64 0, .int .i64 0, .int .i64 0, .int .i64 0, .sl true 1 [], .sl true 1 [], .int .i64 0, .int .i64 0, .int .i64 0, .int .i64 0, .int .i64 0, .int .i64 0, .int .i64 0, .int .i64 0, .sl true 1 [], .sl true 1 [], .int .i64 0, .int .i64 0, .int .i64 0, .int .i64 0, .int .i64 0, .int .i64 0, .int .i64 0, .int .i64 0]) := rfl
@[go_sem] theorem Try.p40 : placesOf Try.prog 40 = some [(0, 10), (10, 10), (20, 10)] := rfl
@[go_sem] theorem Try.n40 : noIface Try.prog 40 = True := rfl
@[go_sem] theorem Try.g41 : aggT Try.prog 41 = true := rfl
@[go_sem] theorem Try.z41 : zeroAV Try.prog 41 = some (.agg [.sl true 1 [], .sl true 1 [], .int .i64 0, .int .i64 0, .int .i64 0, .int .i64 0, .int .i64 0, .int .i64 0, .int .i64 0, .int .i64 0, .sl true 1 [], .sl true 1 [], .int .i64 0, .int .i64 0, .int .i64 0, .int .i64 0, .int .i64 0, .int .i64 0, .int .i64 0, .int .i64 0, .sl true 1 [], .sl true 1 [], .int .i64 0, .int .i64 0, .int .i64 0, .int .i64 0, .int .i64 0, .int .i64 0, .int .i64 0, .int .i64 0]) := rfl
@[go_sem] theorem Try.p41 : placesOf Try.prog 41 = some [(0, 10), (10, 10), (20, 10)] := rfl
@[go_sem] theorem Try.n41 : noIface Try.prog 41 = True := rfl
@[go_sem] theorem Try.g42 : aggT Try.prog 42 = false := rfl
@[go_sem] theorem Try.i42 : (Try.prog.underlying 42).isSome = true := rfl
@[go_sem] theorem Try.z42 : zeroAV Try.prog 42 = some (.atom .nilFunc) := rfl
@[go_sem] theorem Try.n42 : noIface Try.prog 42 = True := rfl
@[go_sem] theorem Try.g43 : aggT Try.prog 43 = false := rfl
@[go_sem] theorem Try.i43 : (Try.prog.underlying 43).isSome = true := rfl
@[go_sem] theorem Try.z43 : zeroAV Try.prog 43 = some (.atom .nilFunc) := rfl
@[go_sem] theorem Try.n43 : noIface Try.prog 43 = True := rfl
@[go_sem] theorem Try.g44 : aggT Try.prog 44 = false := rfl
@[go_sem] theorem Try.i44 : (Try.prog.underlying 44).isSome = true := rfl
@[go_sem] theorem Try.z44 : zeroAV Try.prog 44 = some (.atom .nilFunc) := rfl
@[go_sem] theorem Try.n44 : noIface Try.prog 44 = True := rfl
@[go_sem] theorem Try.g45 : aggT Try.prog 45 = true := rfl
@[go_sem] theorem Try.z45 : zeroAV Try.prog 45 = some (.agg [.int .u8 0, .int .u8 0]) := rfl
@[go_sem] theorem Try.e45 : eqFlat Try.prog 45 = some [(0, 0), (1, 0)] := by decide +kernel
@[go_sem] theorem Try.p45 : placesOf Try.prog 45 = some [(0, 1), (1, 1)] := rfl
@[go_sem] theorem Try.n45 : noIface Try.prog 45 = True := rfl
@[go_sem] theorem Try.g46 : aggT Try.prog 46 = false := rfl
@[go_sem] theorem Try.i46 : (Try.prog.underlying 46).isSome = true := rfl
@[go_sem] theorem Try.z46 : zeroAV Try.prog 46 = some (.atom .nilFunc) := rfl
@[go_sem] theorem Try.n46 : noIface Try.prog 46 = True := rfl
@[go_sem] theorem Try.g47 : aggT Try.prog 47 = false := rfl
@[go_sem] theorem Try.i47 : (Try.prog.underlying 47).isSome = true := rfl
@[go_sem] theorem Try.z47 : zeroAV Try.prog 47 = some (.atom .nilFunc) := rfl
@[go_sem] theorem Try.n47 : noIface Try.prog 47 = True := rfl
@[go_sem] theorem Try.g48 : aggT Try.prog 48 = true := rfl
@[go_sem] theorem Try.i48 : (Try.prog.underlying 48).isSome = true := rfl
@[go_sem] theorem Try.f_48_0 : fieldTy Try.prog 48 0 = some (0, 3) := rfl
@[go_sem] theorem Try.f_48_1 : fieldTy Try.prog 48 1 = some (1, 3) := rfl
@[go_sem] theorem Try.f_48_2 : fieldTy Try.prog 48 2 = some (2, 3) := rfl
@[go_sem] theorem Try.f_48_3 : fieldTy Try.prog 48 3 = some (3, 9) := rfl
@[go_sem] theorem Try.f_48_4 : fieldTy Try.prog 48 4 = some (4, 3) := rfl
@[go_sem] theorem Try.f_48_5 : fieldTy Try.prog 48 5 = some (5, 3) := rfl
@[go_sem] theorem Try.z48 : zeroAV Try.prog 48 = some (.agg [.int .i64 0, .int .i64 0, .int .i64 0, .str [], .int .i64 0, .int .i64 0]) := rfl
@[go_sem] theorem Try.p48 : placesOf Try.prog 48 = some [(0, 1), (1, 1), (2, 1), (3, 1), (4, 1), (5, 1)] := rfl
@[go_sem] theorem Try.e48 : eqFlat Try.prog 48 = some [(0, 0), (1, 0), (2, 0), (3, 2), (4, 0), (5, 0)] := by decide +kernel
@[go_sem] theorem Try.n48 : noIface Try.prog 48 = True := rfl
@[go_sem] theorem Try.g49 : aggT Try.prog 49 = true := rfl
@[go_sem] theorem Try.i49 : (Try.prog.underlying 49).isSome = true := rfl
@[go_sem] theorem Try.f_49_0 : fieldTy Try.prog 49 0 = some (0, 3) := rfl
@[go_sem] theorem Try.f_49_1 : fieldTy Try.prog 49 1 = some (1, 3) := rfl
@[go_sem] theorem Try.f_49_2 : fieldTy Try.prog 49 2 = some (2, 3) := rfl
@[go_sem] theorem Try.f_49_3 : fieldTy Try.prog 49 3 = some (3, 9) := rfl
@[go_sem] theorem Try.f_49_4 : fieldTy Try.prog 49 4 = some (4, 3) := rfl
@[go_sem] theorem Try.f_49_5 : fieldTy Try.prog 49 5 = some (5, 3) := rfl
@[go_sem] theorem Try.z49 : zeroAV Try.prog 49 = some (.agg [.int .i64 0, .int .i64 0, .int .i64 0, .str [], .int .i64 0, .int .i64 0]) := rfl
@[go_sem] theorem Try.p49 : placesOf Try.prog 49 = some [(0, 1), (1, 1), (2, 1), (3, 1), (4, 1), (5, 1)] := rfl
@[go_sem] theorem Try.e49 : eqFlat Try.prog 49 = some [(0, 0), (1, 0), (2, 0), (3, 2), (4, 0), (5, 0)] := by decide +kernel
@[go_sem] theorem Try.n49 : noIface Try.prog 49 = True := rfl
@[go_sem] theorem Try.g50 : aggT Try.prog 50 = false := rfl
@[go_sem] theorem Try.i50 : (Try.prog.underlying 50).isSome = true := rfl
@[go_sem] theorem Try.z50 : zeroAV Try.prog 50 = some (.atom .nilFunc) := rfl
@[go_sem] theorem Try.n50 : noIface Try.prog 50 = True := rfl
@[go_sem] theorem Try.g51 : aggT Try.prog 51 = true := rfl
@[go_sem] theorem Try.i51 : (Try.prog.underlying 51).isSome = true := rfl
@[go_sem] theorem Try.f_51_0 : fieldTy Try.prog 51 0 = some (0, 3) := rfl
@[go_sem] theorem Try.f_51_1 : fieldTy Try.prog 51 1 = some (1, 3) := rfl
@[go_sem] theorem Try.f_51_2 : fieldTy Try.prog 51 2 = some (2, 3) := rfl
@[go_sem] theorem Try.f_51_3 : fieldTy Try.prog 51 3 = some (3, 3) := rfl
@[go_sem] theorem Try.f_51_4 : fieldTy Try.prog 51 4 = some (4, 9) := rfl
@[go_sem] theorem Try.f_51_5 : fieldTy Try.prog 51 5 = some (5, 3) := rfl
@[go_sem] theorem Try.f_51_6 : fieldTy Try.prog 51 6 = some (6, 3) := rfl
@[go_sem] theorem Try.z51 : zeroAV Try.prog 51 = some (.agg [.int .i64 0, .int .i64 0, .int .i64 0, .int .i64 0, .str [], .int .i64 0, .int .i64 0]) := rfl
@[go_sem] theorem Try.p51 : placesOf Try.prog 51 = some [(0, 1), (1, 1), (2, 1), (3, 1), (4, 1), (5, 1), (6, 1)] := rfl
@[go_sem] theorem Try.e51 : eqFlat Try.prog 51 = some [(0, 0), (1, 0), (2, 0), (3, 0), (4, 2), (5, 0), (6, 0)] := by decide +kernel
@[go_sem] theorem Try.n51 : noIface Try.prog 51 = True := rfl
@[go_sem] theorem Try.g52 : aggT Try.prog 52 = true := rfl
@[go_sem] theorem Try.i52 : (Try.prog.underlying 52).isSome = true := rfl
@[go_sem] theorem Try.f_52_0 : fieldTy Try.prog 52 0 = some (0, 3) := rfl
@[go_sem] theorem Try.f_52_1 : fieldTy Try.prog 52 1 = some (1, 3) := rfl
@[go_sem] theorem Try.f_52_2 : fieldTy Try.prog 52 2 = some (2, 3) := rfl
@[go_sem] theorem Try.f_52_3 : fieldTy Try.prog 52 3 = some (3, 3) := rfl
@[go_sem] theorem Try.f_52_4 : fieldTy Try.prog 52 4 = some (4, 9) := rfl
@[go_sem] theorem Try.f_52_5 : fieldTy Try.prog 52 5 = some (5, 3) := rfl
@[go_sem] theorem Try.f_52_6 : fieldTy Try.prog 52 6 = some (6, 3) := rfl
@[go_sem] theorem Try.z52 : zeroAV Try.prog 52 = some (.agg [.int .i64 0, .int .i64 0, .int .i64 0, .int .i64 0, .str [], .int .i64 0, .int .i64 0]) := rfl
@[go_sem] theorem Try.p52 : placesOf Try.prog 52 = some [(0, 1), (1, 1), (2, 1), (3, 1), (4, 1), (5, 1), (6, 1)] := rfl
@[go_sem] theorem Try.e52 : eqFlat Try.prog 52 = some [(0, 0), (1, 0), (2, 0), (3, 0), (4, 2), (5, 0), (6, 0)] := by decide +kernel
@[go_sem] theorem Try.n52 : noIface Try.prog 52 = True := rfl
@[go_sem] theorem Try.g53 : aggT Try.prog 53 = false := rfl
@[go_sem] theorem Try.i53 : (Try.prog.underlying 53).isSome = true := rfl
@[go_sem] theorem Try.z53 : zeroAV Try.prog 53 = some (.atom .nilFunc) := rfl
@[go_sem] theorem Try.n53 : noIface Try.prog 53 = True := rfl
@[go_sem] theorem Try.g54 : aggT Try.prog 54 = false := rfl
@[go_sem] theorem Try.i54 : (Try.prog.underlying 54).isSome = true := rfl
@[go_sem] theorem Try.z54 : zeroAV Try.prog 54 = some (.atom .nilFunc) := rfl
@[go_sem] theorem Try.n54 : noIface Try.prog 54 = True := rfl
@[go_sem] theorem Try.g55 : aggT Try.prog 55 = true := rfl
@[go_sem] theorem Try.i55 : (Try.prog.underlying 55).isSome = true := rfl
@[go_sem] theorem Try.f_55_0 : fieldTy Try.prog 55 0 = some (0, 5) := rfl
@[go_sem] theorem Try.f_55_1 : fieldTy Try.prog 55 1 = some (1, 5) := rfl
@[go_sem] theorem Try.f_55_2 : fieldTy Try.prog 55 2 = some (2, 5) := rfl
@[go_sem] theorem Try.f_55_3 : fieldTy Try.prog 55 3 = some (3, 5) := rfl
@[go_sem] theorem Try.f_55_4 : fieldTy Try.prog 55 4 = some (4, 5) := rfl
@[go_sem] theorem Try.f_55_5 : fieldTy Try.prog 55 5 = some (5, 5) := rfl
@[go_sem] theorem Try.z55 : zeroAV Try.prog 55 = some (.agg [.int .u8 0, .int .u8 0, .int .u8 0, .int .u8 0, .int .u8 0, .int .u8 0]) := rfl
@[go_sem] theorem Try.p55 : placesOf Try.prog 55 = some [(0, 1), (1, 1), (2, 1), (3, 1), (4, 1), (5, 1)] := rfl
@[go_sem] theorem Try.e55 : eqFlat Try.prog 55 = some [(0, 0), (1, 0), (2, 0), (3, 0), (4, 0), (5, 0)] := by decide +kernel
@[go_sem] theorem Try.n55 : noIface Try.prog 55 = True := rfl
@[go_sem] theorem Try.g56 : aggT Try.prog 56 = true := rfl
@[go_sem] theorem Try.i56 : (Try.prog.underlying 56).isSome = true := rfl
@[go_sem] theorem Try.f_56_0 : fieldTy Try.prog 56 0 = some (0, 5) := rfl
@[go_sem] theorem Try.f_56_1 : fieldTy Try.prog 56 1 = some (1, 5) := rfl
@[go_sem] theorem Try.f_56_2 : fieldTy Try.prog 56 2 = some (2, 5) := rfl
@[go_sem] theorem Try.f_56_3 : fieldTy Try.prog 56 3 = some (3, 5) := rfl
@[go_sem] theorem Try.f_56_4 : fieldTy Try.prog 56 4 = some (4, 5) := rfl
@[go_sem] theorem Try.f_56_5 : fieldTy Try.prog 56 5 = some (5, 5) := rfl
@[go_sem] theorem Try.z56 : zeroAV Try.prog 56 = some (.agg [.int .u8 0, .int .u8 0, .int .u8 0, .int .u8 0, .int .u8 0, .int .u8 0]) := rfl
@[go_sem] theorem Try.p56 : placesOf Try.prog 56 = some [(0, 1), (1, 1), (2, 1), (3, 1), (4, 1), (5, 1)] := rfl
@[go_sem] theorem Try.e56 : eqFlat Try.prog 56 = some [(0, 0), (1, 0), (2, 0), (3, 0), (4, 0), (5, 0)] := by decide +kernel
@[go_sem] theorem Try.n56 : noIface Try.prog 56 = True := rfl
@[go_sem] theorem Try.g57 : aggT Try.prog 57 = false := rfl
@[go_sem] theorem Try.i57 : (Try.prog.underlying 57).isSome = true := rfl
@[go_sem] theorem Try.z57 : zeroAV Try.prog 57 = some (.atom .nilFunc) := rfl
@[go_sem] theorem Try.n57 : noIface Try.prog 57 = True := rfl
@[go_sem] theorem Try.g58 : aggT Try.prog 58 = false := rfl
@[go_sem] theorem Try.i58 : (Try.prog.underlying 58).isSome = true := rfl
@[go_sem] theorem Try.z58 : zeroAV Try.prog 58 = some (.atom .nilFunc) := rfl
@[go_sem] theorem Try.n58 : noIface Try.prog 58 = True := rfl
@[go_sem] theorem Try.g59 : aggT Try.prog 59 = true := rfl
@[go_sem] theorem Try.i59 : (Try.prog.underlying 59).isSome = true := rfl
@[go_sem] theorem Try.f_59_0 : fieldTy Try.prog 59 0 = some (0, 56) := rfl
@[go_sem] theorem Try.f_59_1 : fieldTy Try.prog 59 1 = some (6, 4) := rfl
@[go_sem] theorem Try.f_59_2 : fieldTy Try.prog 59 2 = some (7, 5) := rfl
@[go_sem] theorem Try.z59 : zeroAV Try.prog 59 = some (.agg [.int .u8 0, .int .u8 0, .int .u8 0, .int .u8 0, .int .u8 0, .int .u8 0, .bool false, .int .u8 0]) := rfl
@[go_sem] theorem Try.p59 : placesOf Try.prog 59 = some [(0, 6), (6, 1), (7, 1)] := rfl
@[go_sem] theorem Try.e59 : eqFlat Try.prog 59 = some [(0, 0), (1, 0), (2, 0), (3, 0), (4, 0), (5, 0), (6, 1), (7, 0)] := by decide +kernel
@[go_sem] theorem Try.n59 : noIface Try.prog 59 = True := rfl
@[go_sem] theorem Try.g60 : aggT Try.prog 60 = true := rfl
@[go_sem] theorem Try.i60 : (Try.prog.underlying 60).isSome = true := rfl
@[go_sem] theorem Try.f_60_0 : fieldTy Try.prog 60 0 = some (0, 56) := rfl
@[go_sem] theorem Try.f_60_1 : fieldTy Try.prog 60 1 = some (6, 4) := rfl
@[go_sem] theorem Try.f_60_2 : fieldTy Try.prog 60 2 = some (7, 5) := rfl
@[go_sem] theorem Try.z60 : zeroAV Try.prog 60 = some (.agg [.int .u8 0, .int .u8 0, .int .u8 0, .int .u8 0, .int .u8 0, .int .u8 0, .bool false, .int .u8 0]) := rfl
@[go_sem] theorem Try.p60 : placesOf Try.prog 60 = some [(0, 6), (6, 1), (7, 1)] := rfl
@[go_sem] theorem Try.e60 : eqFlat Try.prog 60 = some [(0, 0), (1, 0), (2, 0), (3, 0), (4, 0), (5, 0), (6, 1), (7, 0)] := by decide +kernel
@[go_sem] theorem Try.n60 : noIface Try.prog 60 = True := rfl
@[go_sem] theorem Try.g61 : aggT Try.prog 61 = false := rfl
@[go_sem] theorem Try.i61 : (Try.prog.underlying 61).isSome = true := rfl
@[go_sem] theorem Try.z61 : zeroAV Try.prog 61 = some (.atom .nilFunc) := rfl
@[go_sem] theorem Try.n61 : noIface Try.prog 61 = True := rfl
@[go_sem] theorem Try.g62 : aggT Try.prog 62 = false := rfl
@[go_sem] theorem Try.i62 : (Try.prog.underlying 62).isSome = true := rfl
@[go_sem] theorem Try.z62 : zeroAV Try.prog 62 = some (.atom .nilFunc) := rfl
@[go_sem] theorem Try.n62 : noIface Try.prog 62 = True := rfl
@[go_sem] theorem Try.g63 : aggT Try.prog 63 = false := rfl
@[go_sem] theorem Try.i63 : (Try.prog.underlying 63).isSome = true := rfl
@[go_sem] theorem Try.z63 : zeroAV Try.prog 63 = some (.atom .nilFunc) := rfl
@[go_sem] theorem Try.n63 : noIface Try.prog 63 = True := rfl
@[go_sem] theorem Try.g64 : aggT Try.prog 64 = false := rfl
@[go_sem] theorem Try.i64 : (Try.prog.underlying 64).isSome = true := rfl
@[go_sem] theorem Try.z64 : zeroAV Try.prog 64 = some (.atom .nilFunc) := rfl
@[go_sem] theorem Try.n64 : noIface Try.prog 64 = True := rfl
@[go_sem] theorem Try.g65 : aggT Try.prog 65 = false := rfl
@[go_sem] theorem Try.i65 : (Try.prog.underlying 65).isSome = true := rfl
@[go_sem] theorem Try.z65 : zeroAV Try.prog 65 = some (.atom .nilFunc) := rfl
@[go_sem] theorem Try.n65 : noIface Try.prog 65 = True := rfl
@[go_sem] theorem Try.g66 : aggT Try.prog 66 = false := rfl
@[go_sem] theorem Try.i66 : (Try.prog.underlying 66).isSome = true := rfl
@[go_sem] theorem Try.z66 : zeroAV Try.prog 66 = some (.atom .nilFunc) := rfl
@[go_sem] theorem Try.n66 : noIface Try.prog 66 = True := rfl
@[go_sem] theorem Try.g68 : aggT Try.prog 68 = false := rfl
@[go_sem] theorem Try.i68 : (Try.prog.underlying 68).isSome = true := rfl
@[go_sem] theorem Try.z68 : zeroAV Try.prog 68 = some (.atom .nilFunc) := rfl
@[go_sem] theorem Try.n68 : noIface Try.prog 68 = True := rfl
@[go_sem] theorem Try.g69 : aggT Try.prog 69 = false := rfl
@[go_sem] theorem Try.i69 : (Try.prog.underlying 69).isSome = true := rfl
@[go_sem] theorem Try.z69 : zeroAV Try.prog 69 = some (.atom .nilFunc) := rfl
@[go_sem] theorem Try.n69 : noIface Try.prog 69 = True := rfl
@[go_sem] theorem Try.g70 : aggT Try.prog 70 = false := rfl
@[go_sem] theorem Try.i70 : (Try.prog.underlying 70).isSome = true := rfl
@[go_sem] theorem Try.z70 : zeroAV Try.prog 70 = some (.atom .nilFunc) := rfl
@[go_sem] theorem Try.n70 : noIface Try.prog 70 = True := rfl
@[go_sem] theorem Try.g71 : aggT Try.prog 71 = false := rfl
@[go_sem] theorem Try.i71 : (Try.prog.underlying 71).isSome = true := rfl
@[go_sem] theorem Try.z71 : zeroAV Try.prog 71 = some (.atom .nilFunc) := rfl
@[go_sem] theorem Try.n71 : noIface Try.prog 71 = True := rfl
@[go_sem] theorem Try.g72 : aggT Try.prog 72 = true := rfl
@[go_sem] theorem Try.i72 : (Try.prog.underlying 72).isSome = true := rfl
@[go_sem] theorem Try.f_72_0 : fieldTy Try.prog 72 0 = some (0, 3) := rfl
@[go_sem] theorem Try.f_72_1 : fieldTy Try.prog 72 1 = some (1, 3) := rfl
@[go_sem] theorem Try.z72 : zeroAV Try.prog 72 = some (.agg [.int .i64 0, .int .i64 0]) := rfl
@[go_sem] theorem Try.p72 : placesOf Try.prog 72 = some [(0, 1), (1, 1)] := rfl
@[go_sem] theorem Try.e72 : eqFlat Try.prog 72 = some [(0, 0), (1, 0)] := by decide +kernel
@[go_sem] theorem Try.n72 : noIface Try.prog 72 = True := rfl
@[go_sem] theorem Try.g73 : aggT Try.prog 73 = true := rfl
@[go_sem] theorem Try.i73 : (Try.prog.underlying 73).isSome = true := rfl
@[go_sem] theorem Try.f_73_0 : fieldTy Try.prog 73 0 = some (0, 3) := rfl
@[go_sem] theorem Try.f_73_1 : fieldTy Try.prog 73 1 = some (1, 3) := rfl
@[go_sem] theorem Try.z73 : zeroAV Try.prog 73 = some (.agg [.int .i64 0, .int .i64 0]) := rfl
@[go_sem] theorem Try.p73 : placesOf Try.prog 73 = some [(0, 1), (1, 1)] := rfl
@[go_sem] theorem Try.e73 : eqFlat Try.prog 73 = some [(0, 0), (1, 0)] := by decide +kernel
@[go_sem] theorem Try.n73 : noIface Try.prog 73 = True := rfl
@[go_sem] theorem Try.g74 : aggT Try.prog 74 = true := rfl
@[go_sem] theorem Try.i74 : (Try.prog.underlying 74).isSome = true := rfl
@[go_sem] theorem Try.f_74_0 : fieldTy Try.prog 74 0 = some (0, 69) := rfl
@[go_sem] theorem Try.f_74_1 : fieldTy Try.prog 74 1 = some (1, 70) := rfl
@[go_sem] theorem Try.z74 : zeroAV Try.prog 74 = some (.agg [.atom .nilFunc, .atom .nilFunc]) := rfl
@[go_sem] theorem Try.p74 : placesOf Try.prog 74 = some [(0, 1), (1, 1)] := rfl
@[go_sem] theorem Try.n74 : noIface Try.prog 74 = True := rfl
@[go_sem] theorem Try.g75 : aggT Try.prog 75 = true := rfl
@[go_sem] theorem Try.i75 : (Try.prog.underlying 75).isSome = true := rfl
@[go_sem] theorem Try.f_75_0 : fieldTy Try.prog 75 0 = some (0, 69) := rfl
@[go_sem] theorem Try.f_75_1 : fieldTy Try.prog 75 1 = some (1, 70) := rfl
@[go_sem] theorem Try.z75 : zeroAV Try.prog 75 = some (.agg [.atom .nilFunc, .atom .nilFunc]) := rfl
@[go_sem] theorem Try.p75 : placesOf Try.prog 75 = some [(0, 1), (1, 1)] := rfl
@[go_sem] theorem Try.n75 : noIface Try.prog 75 = True := rfl
@[go_sem] theorem Try.g77 : aggT Try.prog 77 = false := rfl
@[go_sem] theorem Try.i77 : (Try.prog.underlying 77).isSome = true := rfl
@[go_sem] theorem Try.z77 : zeroAV Try.prog 77 = some (.atom .nilFunc) := rfl
@[go_sem] theorem Try.n77 : noIface Try.prog 77 = True := rfl
@[go_sem] theorem Try.g78 : aggT Try.prog 78 = false := rfl
@[go_sem] theorem Try.i78 : (Try.prog.underlying 78).isSome = true := rfl
@[go_sem] theorem Try.z78 : zeroAV Try.prog 78 = some (.atom .nilFunc) := rfl
@[go_sem] theorem Try.n78 : noIface Try.prog 78 = True := rfl
@[go_sem] theorem Try.g79 : aggT Try.prog 79 = true := rfl
@[go_sem] theorem Try.i79 : (Try.prog.underlying 79).isSome = true := rfl
@[go_sem] theorem Try.f_79_0 : fieldTy Try.prog 79 0 = some (0, 78) := rfl
@[go_sem] theorem Try.f_79_1 : fieldTy Try.prog 79 1 = some (1, 70) := rfl
@[go_sem] theorem Try.z79 : zeroAV Try.prog 79 = some (.agg [.atom .nilFunc, .atom .nilFunc]) := rfl
@[go_sem] theorem Try.p79 : placesOf Try.prog 79 = some [(0, 1), (1, 1)] := rfl
@[go_sem] theorem Try.n79 : noIface Try.prog 79 = True := rfl
@[go_sem] theorem Try.g80 : aggT Try.prog 80 = true := rfl
@[go_sem] theorem Try.i80 : (Try.prog.underlying 80).isSome = true := rfl
@[go_sem] theorem Try.f_80_0 : fieldTy Try.prog 80 0 = some (0, 78) := rfl
@[go_sem] theorem Try.f_80_1 : fieldTy Try.prog 80 1 = some (1, 70) := rfl
@[go_sem] theorem Try.z80 : zeroAV Try.prog 80 = some (.agg [.atom .nilFunc, .atom .nilFunc]) := rfl
@[go_sem] theorem Try.p80 : placesOf Try.prog 80 = some [(0, 1), (1, 1)] := rfl
@[go_sem] theorem Try.n80 : noIface Try.prog 80 = True := rfl
@[go_sem] theorem Try.g81 : aggT Try.prog 81 = false := rfl
@[go_sem] theorem Try.i81 : (Try.prog.underlying 81).isSome = true := rfl
@[go_sem] theorem Try.z81 : zeroAV Try.prog 81 = some (.atom .nilFunc) := rfl
@[go_sem] theorem Try.n81 : noIface Try.prog 81 = True := rfl
@[go_sem] theorem Try.g82 : aggT Try.prog 82 = false := rfl
@[go_sem] theorem Try.i82 : (Try.prog.underlying 82).isSome = true := rfl
@[go_sem] theorem Try.z82 : zeroAV Try.prog 82 = some (.atom .nilFunc) := rfl
@[go_sem] theorem Try.n82 : noIface Try.prog 82 = True := rfl
@[go_sem] theorem Try.g83 : aggT Try.prog 83 = false := rfl
@[go_sem] theorem Try.i83 : (Try.prog.underlying 83).isSome = true := rfl
@[go_sem] theorem Try.z83 : zeroAV Try.prog 83 = some (.atom .nilFunc) := rfl
@[go_sem] theorem Try.n83 : noIface Try.prog 83 = True := rfl
@[go_sem] theorem Try.g84 : aggT Try.prog 84 = false := rfl
@[go_sem] theorem Try.i84 : (Try.prog.underlying 84).isSome = true := rfl
@[go_sem] theorem Try.z84 : zeroAV Try.prog 84 = some (.atom .nilFunc) := rfl
@[go_sem] theorem Try.n84 : noIface Try.prog 84 = True := rfl
@[go_sem] theorem Try.g85 : aggT Try.prog 85 = false := rfl
@[go_sem] theorem Try.i85 : (Try.prog.underlying 85).isSome = true := rfl
@[go_sem] theorem Try.z85 : zeroAV Try.prog 85 = some (.atom .nilFunc) := rfl
@[go_sem] theorem Try.n85 : noIface Try.prog 85 = True := rfl
@[go_sem] theorem Try.g86 : aggT Try.prog 86 = false := rfl
@[go_sem] theorem Try.i86 : (Try.prog.underlying 86).isSome = true := rfl
@[go_sem] theorem Try.z86 : zeroAV Try.prog 86 = some (.atom .nilFunc) := rfl
@[go_sem] theorem Try.n86 : noIface Try.prog 86 = True := rfl
@[go_sem] theorem Try.g87 : aggT Try.prog 87 = false := rfl
@[go_sem] theorem Try.i87 : (Try.prog.underlying 87).isSome = true := rfl
@[go_sem] theorem Try.z87 : zeroAV Try.prog 87 = some (.atom .nilFunc) := rfl
@[go_sem] theorem Try.n87 : noIface Try.prog 87 = True := rfl
@[go_sem] theorem Try.g88 : aggT Try.prog 88 = false := rfl
@[go_sem] theorem Try.i88 : (Try.prog.underlying 88).isSome = true := rfl
@[go_sem] theorem Try.z88 : zeroAV Try.prog 88 = some (.atom .nilFunc) := rfl
@[go_sem] theorem Try.n88 : noIface Try.prog 88 = True := rfl
@[go_sem] theorem Try.g89 : aggT Try.prog 89 = false := rfl
@[go_sem] theorem Try.i89 : (Try.prog.underlying 89).isSome = true := rfl
@[go_sem] theorem Try.z89 : zeroAV Try.prog 89 = some (.atom .nilFunc) := rfl
@[go_sem] theorem Try.n89 : noIface Try.prog 89 = True := rfl
@[go_sem] theorem Try.g90 : aggT Try.prog 90 = false := rfl
@[go_sem] theorem Try.i90 : (Try.prog.underlying 90).isSome = true := rfl
@[go_sem] theorem Try.z90 : zeroAV Try.prog 90 = some (.atom .nilFunc) := rfl
@[go_sem] theorem Try.n90 : noIface Try.prog 90 = True := rfl
@[go_sem] theorem Try.g91 : aggT Try.prog 91 = false := rfl
@[go_sem] theorem Try.i91 : (Try.prog.underlying 91).isSome = true := rfl
@[go_sem] theorem Try.z91 : zeroAV Try.prog 91 = some (.atom .nilFunc) := rfl
@[go_sem] theorem Try.n91 : noIface Try.prog 91 = True := rfl
@[go_sem] theorem Try.g92 : aggT Try.prog 92 = false := rfl
@[go_sem] theorem Try.i92 : (Try.prog.underlying 92).isSome = true := rfl
@[go_sem] theorem Try.z92 : zeroAV Try.prog 92 = some (.atom .nilFunc) := rfl
@[go_sem] theorem Try.n92 : noIface Try.prog 92 = True := rfl
@[go_sem] theorem Try.g93 : aggT Try.prog 93 = false := rfl
@[go_sem] theorem Try.i93 : (Try.prog.underlying 93).isSome = true := rfl
@[go_sem] theorem Try.z93 : zeroAV Try.prog 93 = some (.atom .nilFunc) := rfl
@[go_sem] theorem Try.n93 : noIface Try.prog 93 = True := rfl
@[go_sem] theorem Try.g94 : aggT Try.prog 94 = false := rfl
@[go_sem] theorem Try.i94 : (Try.prog.underlying 94).isSome = true := rfl
@[go_sem] theorem Try.z94 : zeroAV Try.prog 94 = some (.atom .nilFunc) := rfl
@[go_sem] theorem Try.n94 : noIface Try.prog 94 = True := rfl
@[go_sem] theorem Try.g95 : aggT Try.prog 95 = false := rfl
@[go_sem] theorem Try.i95 : (Try.prog.underlying 95).isSome = true := rfl
@[go_sem] theorem Try.z95 : zeroAV Try.prog 95 = some (.atom .nilFunc) := rfl
@[go_sem] theorem Try.n95 : noIface Try.prog 95 = True := rfl
@[go_sem] theorem Try.g96 : aggT Try.prog 96 = false := rfl
@[go_sem] theorem Try.i96 : (Try.prog.underlying 96).isSome = true := rfl
@[go_sem] theorem Try.z96 : zeroAV Try.prog 96 = some (.atom .nilFunc) := rfl
@[go_sem] theorem Try.n96 : noIface Try.prog 96 = True := rfl
@[go_sem] theorem Try.g97 : aggT Try.prog 97 = false := rfl
@[go_sem] theorem Try.i97 : (Try.prog.underlying 97).isSome = true := rfl
@[go_sem] theorem Try.z97 : zeroAV Try.prog 97 = some (.atom .nilFunc) := rfl
@[go_sem] theorem Try.n97 : noIface Try.prog 97 = True := rfl
@[go_sem] theorem Try.g98 : aggT Try.prog 98 = true := rfl
@[go_sem] theorem Try.z98 : zeroAV Try.prog 98 = some (.agg [.int .i64 0, .int .i64 0]) := rfl
@[go_sem] theorem Try.e98 : eqFlat Try.prog 98 = some [(0, 0), (1, 0)] := by decide +kernel
@[go_sem] theorem Try.p98 : placesOf Try.prog 98 = some [(0, 1), (1, 1)] := rfl
@[go_sem] theorem Try.n98 : noIface Try.prog 98 = True := rfl
@[go_sem] theorem Try.g99 : aggT Try.prog 99 = false := rfl
@[go_sem] theorem Try.z99 : zeroAV Try.prog 99 = some (.sl true 1 []) := rfl
@[go_sem] theorem Try.n99 : noIface Try.prog 99 = True := rfl
@[go_sem] theorem Try.g100 : aggT Try.prog 100 = false := rfl
@[go_sem] theorem Try.i100 : (Try.prog.underlying 100).isSome = true := rfl
@[go_sem] theorem Try.z100 : zeroAV Try.prog 100 = some (.atom .nilFunc) := rfl
@[go_sem] theorem Try.n100 : noIface Try.prog 100 = True := rfl
@[go_sem] theorem Try.g101 : aggT Try.prog 101 = false := rfl
@[go_sem] theorem Try.i101 : (Try.prog.underlying 101).isSome = true := rfl
@[go_sem] theorem Try.z101 : zeroAV Try.prog 101 = some (.atom .nilFunc) := rfl
@[go_sem] theorem Try.n101 : noIface Try.prog 101 = True := rfl
@[go_sem] theorem Try.g102 : aggT Try.prog 102 = false := rfl
@[go_sem] theorem Try.i102 : (Try.prog.underlying 102).isSome = true := rfl
@[go_sem] theorem Try.z102 : zeroAV Try.prog 102 = some (.atom .nilFunc) := rfl
@[go_sem] theorem Try.n102 : noIface Try.prog 102 = True := rfl
@[go_sem] theorem Try.g103 : aggT Try.prog 103 = true := rfl
@[go_sem] theorem Try.i103 : (Try.prog.underlying 103).isSome = true := rfl
@[go_sem] theorem Try.f_103_0 : fieldTy Try.prog 103 0 = some (0, 29) := rfl
@[go_sem] theorem Try.f_103_1 : fieldTy Try.prog 103 1 = some (10, 3) := rfl
@[go_sem] theorem Try.f_103_2 : fieldTy Try.prog 103 2 = some (11, 31) := rfl
@[go_sem] theorem Try.z103 : zeroAV Try.prog 103 = some (.agg [.sl true 1 [], .sl true 1 [], .int .i64 0, .int .i64 0, .int .i64 0, .int .i64 0, .int .i64 0, .int .i64 0, .int .i64 0, .int .i64 0, .int .i64 0, .int .i64 0]) := rfl
@[go_sem] theorem Try.p103 : placesOf Try.prog 103 = some [(0, 10), (10, 1), (11, 1)] := rfl
@[go_sem] theorem Try.n103 : noIface Try.prog 103 = True := rfl
@[go_sem] theorem Try.g104 : aggT Try.prog 104 = true := rfl
@[go_sem] theorem Try.i104 : (Try.prog.underlying 104).isSome = true := rfl
@[go_sem] theorem Try.f_104_0 : fieldTy Try.prog 104 0 = some (0, 29) := rfl
@[go_sem] theorem Try.f_104_1 : fieldTy Try.prog 104 1 = some (10, 3) := rfl
@[go_sem] theorem Try.f_104_2 : fieldTy Try.prog 104 2 = some (11, 31) := rfl
@[go_sem] theorem Try.z104 : zeroAV Try.prog 104 = some (.agg [.sl true 1 [], .sl true 1 [], .int .i64 0, .int .i64 0, .int .i64 0, .int .i64 0, .int .i64 0, .int .i64 0, .int .i64 0, .int .i64 0, .int .i64 0, .int .i64 0]) := rfl
@[go_sem] theorem Try.p104 : placesOf Try.prog 104 = some [(0, 10), (10, 1), (11, 1)] := rfl
@[go_sem] theorem Try.n104 : noIface Try.prog 104 = True := rfl
@[go_sem] theorem Try.g105 : aggT Try.prog 105 = false := rfl
@[go_sem] theorem Try.i105 : (Try.prog.underlying 105).isSome = true := rfl
@[go_sem] theorem Try.z105 : zeroAV Try.prog 105 = some (.atom .nilFunc) := rfl
@[go_sem] theorem Try.n105 : noIface Try.prog 105 = True := rfl
@[go_sem] theorem Try.g106 : aggT Try.prog 106 = false := rfl
@[go_sem] theorem Try.i106 : (Try.prog.underlying 106).isSome = true := rfl
@[go_sem] theorem Try.z106 : zeroAV Try.prog 106 = some (.atom .nilFunc) := rfl
@[go_sem] theorem Try.n106 : noIface Try.prog 106 = True := rfl
@[go_sem] theorem Try.g108 : aggT Try.prog 108 = false := rfl
@[go_sem] theorem Try.i108 : (Try.prog.underlying 108).isSome = true := rfl
@[go_sem] theorem Try.z108 : zeroAV Try.prog 108 = some (.atom .nilFunc) := rfl
@[go_sem] theorem Try.n108 : noIface Try.prog 108 = True := rfl
@[go_sem] theorem Try.g109 : aggT Try.prog 109 = false := rfl
@[go_sem] theorem Try.i109 : (Try.prog.underlying 109).isSome = true := rfl
@[go_sem] theorem Try.z109 : zeroAV Try.prog 109 = some (.atom .nilFunc) := rfl
@[go_sem] theorem Try.n109 : noIface Try.prog 109 = True := rfl
@[go_sem] theorem Try.g110 : aggT Try.prog 110 = false := rfl
@[go_sem] theorem Try.i110 : (Try.prog.underlying 110).isSome = true := rfl
@[go_sem] theorem Try.z110 : zeroAV Try.prog 110 = some (.atom .nilFunc) := rfl
@[go_sem] theorem Try.n110 : noIface Try.prog 110 = True := rfl
@[go_sem] theorem Try.g111 : aggT Try.prog 111 = false := rfl
@[go_sem] theorem Try.i111 : (Try.prog.underlying 111).isSome = true := rfl
@[go_sem] theorem Try.z111 : zeroAV Try.prog 111 = some (.atom .nilFunc) := rfl
@[go_sem] theorem Try.n111 : noIface Try.prog 111 = True := rfl
@[go_sem] theorem Try.g112 : aggT Try.prog 112 = false := rfl
@[go_sem] theorem Try.i112 : (Try.prog.underlying 112).isSome = true := rfl
@[go_sem] theorem Try.z112 : zeroAV Try.prog 112 = some (.atom .nilFunc) := rfl
@[go_sem] theorem Try.n112 : noIface Try.prog 112 = True := rfl
@[go_sem] theorem Try.g113 : aggT Try.prog 113 = false := rfl
@[go_sem] theorem Try.i113 : (Try.prog.underlying 113).isSome = true := rfl
@[go_sem] theorem Try.z113 : zeroAV Try.prog 113 = some (.atom .nilFunc) := rfl
@[go_sem] theorem Try.n113 : noIface Try.prog 113 = True := rfl
@[go_sem] theorem Try.g114 : aggT Try.prog 114 = true := rfl
@[go_sem] theorem Try.i114 : (Try.prog.underlying 114).isSome = true := rfl
@[go_sem] theorem Try.f_114_0 : fieldTy Try.prog 114 0 = some (0, 3) := rfl
@[go_sem] theorem Try.f_114_1 : fieldTy Try.prog 114 1 = some (1, 3) := rfl
@[go_sem] theorem Try.z114 : zeroAV Try.prog 114 = some (.agg [.int .i64 0, .int .i64 0]) := rfl
@[go_sem] theorem Try.p114 : placesOf Try.prog 114 = some [(0, 1), (1, 1)] := rfl
@[go_sem] theorem Try.e114 : eqFlat Try.prog 114 = some [(0, 0), (1, 0)] := by decide +kernel
@[go_sem] theorem Try.n114 : noIface Try.prog 114 = True := rfl
@[go_sem] theorem Try.g115 : aggT Try.prog 115 = true := rfl
@[go_sem] theorem Try.i115 : (Try.prog.underlying 115).isSome = true := rfl
@[go_sem] theorem Try.f_115_0 : fieldTy Try.prog 115 0 = some (0, 3) := rfl
@[go_sem] theorem Try.f_115_1 : fieldTy Try.prog 115 1 = some (1, 3) := rfl
@[go_sem] theorem Try.z115 : zeroAV Try.prog 115 = some (.agg [.int .i64 0, .int .i64 0]) := rfl
@[go_sem] theorem Try.p115 : placesOf Try.prog 115 = some [(0, 1), (1, 1)] := rfl
@[go_sem] theorem Try.e115 : eqFlat Try.prog 115 = some [(0, 0), (1, 0)] := by decide +kernel
@[go_sem] theorem Try.n115 : noIface Try.prog 115 = True := rfl
@[go_sem] theorem Try.g116 : aggT Try.prog 116 = false := rfl
@[go_sem] theorem Try.i116 : (Try.prog.underlying 116).isSome = true := rfl
@[go_sem] theorem Try.z116 : zeroAV Try.prog 116 = some (.atom .nilFunc) := rfl
@[go_sem] theorem Try.n116 : noIface Try.prog 116 = True := rfl
@[go_sem] theorem Try.g117 : aggT Try.prog 117 = true := rfl
@[go_sem] theorem Try.i117 : (Try.prog.underlying 117).isSome = true := rfl
@[go_sem] theorem Try.f_117_0 : fieldTy Try.prog 117 0 = some (0, 85) := rfl
@[go_sem] theorem Try.f_117_1 : fieldTy Try.prog 117 1 = some (1, 84) := rfl
@[go_sem] theorem Try.z117 : zeroAV Try.prog 117 = some (.agg [.atom .nilFunc, .atom .nilFunc]) := rfl
@[go_sem] theorem Try.p117 : placesOf Try.prog 117 = some [(0, 1), (1, 1)] := rfl
@[go_sem] theorem Try.n117 : noIface Try.prog 117 = True := rfl
@[go_sem] theorem Try.g118 : aggT Try.prog 118 = true := rfl
@[go_sem] theorem Try.i118 : (Try.prog.underlying 118).isSome = true := rfl
@[go_sem] theorem Try.f_118_0 : fieldTy Try.prog 118 0 = some (0, 85) := rfl
@[go_sem] theorem Try.f_118_1 : fieldTy Try.prog 118 1 = some (1, 84) := rfl
@[go_sem] theorem Try.z118 : zeroAV Try.prog 118 = some (.agg [.atom .nilFunc, .atom .nilFunc]) := rfl
@[go_sem] theorem Try.p118 : placesOf Try.prog 118 = some [(0, 1), (1, 1)] := rfl
@[go_sem] theorem Try.n118 : noIface Try.prog 118 = True := rfl
@[go_sem] theorem Try.g119 : aggT Try.prog 119 = false := rfl
@[go_sem] theorem Try.i119 : (Try.prog.underlying 119).isSome = true := rfl
@[go_sem] theorem Try.z119 : zeroAV Try.prog 119 = some (.atom .nilFunc) := rfl
@[go_sem] theorem Try.n119 : noIface Try.prog 119 = True := rfl
@[go_sem] theorem Try.g121 : aggT Try.prog 121 = false := rfl
@[go_sem] theorem Try.i121 : (Try.prog.underlying 121).isSome = true := rfl
@[go_sem] theorem Try.z121 : zeroAV Try.prog 121 = some (.atom .nilFunc) := rfl
@[go_sem] theorem Try.n121 : noIface Try.prog 121 = True := rfl
@[go_sem] theorem Try.g122 : aggT Try.prog 122 = false := rfl
@[go_sem] theorem Try.i122 : (Try.prog.underlying 122).isSome = true := rfl
@[go_sem] theorem Try.z122 : zeroAV Try.prog 122 = some (.atom .nilFunc) := rfl
@[go_sem] theorem Try.n122 : noIface Try.prog 122 = True := rfl
@[go_sem] theorem Try.g123 : aggT Try.prog 123 = true := rfl
@[go_sem] theorem Try.i123 : (Try.prog.underlying 123).isSome = true := rfl
@[go_sem] theorem Try.f_123_0 : fieldTy Try.prog 123 0 = some (0, 17) := rfl
@[go_sem] theorem Try.f_123_1 : fieldTy Try.prog 123 1 = some (1, 17) := rfl
@[go_sem] theorem Try.f_123_2 : fieldTy Try.prog 123 2 = some (2, 17) := rfl
@[go_sem] theorem Try.f_123_3 : fieldTy Try.prog 123 3 = some (3, 9) := rfl
@[go_sem] theorem Try.z123 : zeroAV Try.prog 123 = some (.agg [.atom (.pointer none), .atom (.pointer none), .atom (.pointer none), .str []]) := rfl
@[go_sem] theorem Try.p123 : placesOf Try.prog 123 = some [(0, 1), (1, 1), (2, 1), (3, 1)] := rfl
@[go_sem] theorem Try.n123 : noIface Try.prog 123 = True := rfl
@[go_sem] theorem Try.g124 : aggT Try.prog 124 = true := rfl
@[go_sem] theorem Try.i124 : (Try.prog.underlying 124).isSome = true := rfl
@[go_sem] theorem Try.f_124_0 : fieldTy Try.prog 124 0 = some (0, 17) := rfl
@[go_sem] theorem Try.f_124_1 : fieldTy Try.prog 124 1 = some (1, 17) := rfl
@[go_sem] theorem Try.f_124_2 : fieldTy Try.prog 124 2 = some (2, 17) := rfl
@[go_sem] theorem Try.f_124_3 : fieldTy Try.prog 124 3 = some (3, 9) := rfl
@[go_sem] theorem Try.z124 : zeroAV Try.prog 124 = some (.agg [.atom (.pointer none), .atom (.pointer none), .atom (.pointer none), .str []]) := rfl
@[go_sem] theorem Try.p124 : placesOf Try.prog 124 = some [(0, 1), (1, 1), (2, 1), (3, 1)] := rfl
@[go_sem] theorem Try.n124 : noIface Try.prog 124 = True := rfl
@[go_sem] theorem Try.g125 : aggT Try.prog 125 = true := rfl
@[go_sem] theorem Try.p125 : placesOf Try.prog 125 = some [] := rfl
@[go_sem] theorem Try.n125 : noIface Try.prog 125 = True := rfl
@[go_sem] theorem Try.g126 : aggT Try.prog 126 = true := rfl
@[go_sem] theorem Try.i126 : (Try.prog.underlying 126).isSome = true := rfl
@[go_sem] theorem Try.f_126_0 : fieldTy Try.prog 126 0 = some (0, 125) := rfl
@[go_sem] theorem Try.p126 : placesOf Try.prog 126 = some [(0, 0)] := rfl
@[go_sem] theorem Try.n126 : noIface Try.prog 126 = True := rfl
@[go_sem] theorem Try.g127 : aggT Try.prog 127 = true := rfl
@[go_sem] theorem Try.i127 : (Try.prog.underlying 127).isSome = true := rfl
@[go_sem] theorem Try.f_127_0 : fieldTy Try.prog 127 0 = some (0, 125) := rfl
@[go_sem] theorem Try.p127 : placesOf Try.prog 127 = some [(0, 0)] := rfl
@[go_sem] theorem Try.n127 : noIface Try.prog 127 = True := rfl
@[go_sem] theorem Try.g128 : aggT Try.prog 128 = false := rfl
@[go_sem] theorem Try.i128 : (Try.prog.underlying 128).isSome = true := rfl
@[go_sem] theorem Try.z128 : zeroAV Try.prog 128 = some (.atom .nilFunc) := rfl
@[go_sem] theorem Try.n128 : noIface Try.prog 128 = True := rfl
@[go_sem] theorem Try.g129 : aggT Try.prog 129 = false := rfl
@[go_sem] theorem Try.z129 : zeroAV Try.prog 129 = some (.int .u32 0) := rfl
@[go_sem] theorem Try.n129 : noIface Try.prog 129 = True := rfl
@[go_sem] theorem Try.g130 : aggT Try.prog 130 = false := rfl
@[go_sem] theorem Try.z130 : zeroAV Try.prog 130 = some (.int .u8 0) := rfl
@[go_sem] theorem Try.n130 : noIface Try.prog 130 = True := rfl
@[go_sem] theorem Try.g131 : aggT Try.prog 131 = false := rfl
@[go_sem] theorem Try.z131 : zeroAV Try.prog 131 = some (.int .u8 0) := rfl
@[go_sem] theorem Try.n131 : noIface Try.prog 131 = True := rfl
@[go_sem] theorem Try.g132 : aggT Try.prog 132 = false := rfl
@[go_sem] theorem Try.i132 : (Try.prog.underlying 132).isSome = true := rfl
@[go_sem] theorem Try.z132 : zeroAV Try.prog 132 = some (.atom .nilFunc) := rfl
@[go_sem] theorem Try.n132 : noIface Try.prog 132 = True := rfl
@[go_sem] theorem Try.g133 : aggT Try.prog 133 = false := rfl
@[go_sem] theorem Try.z133 : zeroAV Try.prog 133 = some (.atom (.pointer none)) := rfl
@[go_sem] theorem Try.n133 : noIface Try.prog 133 = True := rfl
@[go_sem] theorem Try.g134 : aggT Try.prog 134 = false := rfl
@[go_sem] theorem Try.z134 : zeroAV Try.prog 134 = some (.int .i32 0) := rfl
@[go_sem] theorem Try.n134 : noIface Try.prog 134 = True := rfl
@[go_sem] theorem Try.g135 : aggT Try.prog 135 = false := rfl
@[go_sem] theorem Try.z135 : zeroAV Try.prog 135 = some (.int .i32 0) := rfl
@[go_sem] theorem Try.n135 : noIface Try.prog 135 = True := rfl
@[go_sem] theorem Try.g136 : aggT Try.prog 136 = true := rfl
@[go_sem] theorem Try.i136 : (Try.prog.underlying 136).isSome = true := rfl
@[go_sem] theorem Try.f_136_0 : fieldTy Try.prog 136 0 = some (0, 12) := rfl
@[go_sem] theorem Try.f_136_1 : fieldTy Try.prog 136 1 = some (1, 12) := rfl
@[go_sem] theorem Try.f_136_2 : fieldTy Try.prog 136 2 = some (2, 129) := rfl
@[go_sem] theorem Try.f_136_3 : fieldTy Try.prog 136 3 = some (3, 130) := rfl
@[go_sem] theorem Try.f_136_4 : fieldTy Try.prog 136 4 = some (4, 5) := rfl
@[go_sem] theorem Try.f_136_5 : fieldTy Try.prog 136 5 = some (5, 5) := rfl
@[go_sem] theorem Try.f_136_6 : fieldTy Try.prog 136 6 = some (6, 131) := rfl
@[go_sem] theorem Try.f_136_7 : fieldTy Try.prog 136 7 = some (7, 132) := rfl
@[go_sem] theorem Try.f_136_8 : fieldTy Try.prog 136 8 = some (8, 133) := rfl
@[go_sem] theorem Try.f_136_9 : fieldTy Try.prog 136 9 = some (9, 134) := rfl
@[go_sem] theorem Try.f_136_10 : fieldTy Try.prog 136 10 = some (10, 135) := rfl
@[go_sem] theorem Try.z136 : zeroAV Try.prog 136 = some (.agg [.int .u64 0, .int .u64 0, .int .u32 0, .int .u8 0, .int .u8 0, .int .u8 0, .int .u8 0, .atom .nilFunc, .atom (.pointer none), .int .i32 0, .int .i32 0]) := rfl
@[go_sem] theorem Try.p136 : placesOf Try.prog 136 = some [(0, 1), (1, 1), (2, 1), (3, 1), (4, 1), (5, 1), (6, 1), (7, 1), (8, 1), (9, 1), (10, 1)] := rfl
@[go_sem] theorem Try.n136 : noIface Try.prog 136 = True := rfl
@[go_sem] theorem Try.g137 : aggT Try.prog 137 = true := rfl
@[go_sem] theorem Try.i137 : (Try.prog.underlying 137).isSome = true := rfl
@[go_sem] theorem Try.f_137_0 : fieldTy Try.prog 137 0 = some (0, 12) := rfl
@[go_sem] theorem Try.f_137_1 : fieldTy Try.prog 137 1 = some (1, 12) := rfl
@[go_sem] theorem Try.f_137_2 : fieldTy Try.prog 137 2 = some (2, 129) := rfl
@[go_sem] theorem Try.f_137_3 : fieldTy Try.prog 137 3 = some (3, 130) := rfl
@[go_sem] theorem Try.f_137_4 : fieldTy Try.prog 137 4 = some (4, 5) := rfl
@[go_sem] theorem Try.f_137_5 : fieldTy Try.prog 137 5 = some (5, 5) := rfl
@[go_sem] theorem Try.f_137_6 : fieldTy Try.prog 137 6 = some (6, 131) := rfl
@[go_sem] theorem Try.f_137_7 : fieldTy Try.prog 137 7 = some (7, 132) := rfl
@[go_sem] theorem Try.f_137_8 : fieldTy Try.prog 137 8 = some (8, 133) := rfl
@[go_sem] theorem Try.f_137_9 : fieldTy Try.prog 137 9 = some (9, 134) := rfl
@[go_sem] theorem Try.f_137_10 : fieldTy Try.prog 137 10 = some (10, 135) := rfl
@[go_sem] theorem Try.z137 : zeroAV Try.prog 137 = some (.agg [.int .u64 0, .int .u64 0, .int .u32 0, .int .u8 0, .int .u8 0, .int .u8 0, .int .u8 0, .atom .nilFunc, .atom (.pointer none), .int .i32 0, .int .i32 0]) := rfl
@[go_sem] theorem Try.p137 : placesOf Try.prog 137 = some [(0, 1), (1, 1), (2, 1), (3, 1), (4, 1), (5, 1), (6, 1), (7, 1), (8, 1), (9, 1), (10, 1)] := rfl
@[go_sem] theorem Try.n137 : noIface Try.prog 137 = True := rfl
@[go_sem] theorem Try.g138 : aggT Try.prog 138 = false := rfl
@[go_sem] theorem Try.i138 : (Try.prog.underlying 138).isSome = true := rfl
@[go_sem] theorem Try.z138 : zeroAV Try.prog 138 = some (.atom .nilFunc) := rfl
@[go_sem] theorem Try.n138 : noIface Try.prog 138 = True := rfl
end Go.Proofs
