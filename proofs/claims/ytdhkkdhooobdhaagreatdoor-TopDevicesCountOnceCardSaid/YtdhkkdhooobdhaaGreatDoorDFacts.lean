/- Facts on the types of the program. -/
import Derived.Test.YtdhkkdhooobdhaaGreatDoorProg
import Derived.Test.YtdhkkdhooobdhaaGreatDoorCoreP
set_option linter.unusedVariables false
set_option linter.unusedSimpArgs false
namespace Go.Proofs
open Go Go.Ideal
set_option maxRecDepth 4000
@[go_sem] theorem Tryz.c0 : Tryz.prog.cellsOf 0 = 1 := rfl
@[go_sem] theorem Tryz.s0 : szIs Tryz.prog 0 1 := rfl
@[go_sem] theorem Tryz.a0 : apOK Tryz.prog 0 1 := ⟨_, _, rfl, rfl, rfl, rfl, by decide, by decide⟩
@[go_sem] theorem Tryz.c1 : Tryz.prog.cellsOf 1 = 1 := rfl
@[go_sem] theorem Tryz.s1 : szIs Tryz.prog 1 1 := rfl
@[go_sem] theorem Tryz.a1 : apOK Tryz.prog 1 1 := ⟨_, _, rfl, rfl, rfl, rfl, by decide, by decide⟩
@[go_sem] theorem Tryz.u2 : Tryz.prog.underlying 2 = some (.int .i64) := rfl
@[go_sem] theorem Tryz.c2 : Tryz.prog.cellsOf 2 = 1 := rfl
@[go_sem] theorem Tryz.s2 : szIs Tryz.prog 2 1 := rfl
@[go_sem] theorem Tryz.a2 : apOK Tryz.prog 2 1 := ⟨_, _, rfl, rfl, rfl, rfl, by decide, by decide⟩
@[go_sem] theorem Tryz.u3 : Tryz.prog.underlying 3 = some (.int .i64) := rfl
@[go_sem] theorem Tryz.c3 : Tryz.prog.cellsOf 3 = 1 := rfl
@[go_sem] theorem Tryz.s3 : szIs Tryz.prog 3 1 := rfl
@[go_sem] theorem Tryz.a3 : apOK Tryz.prog 3 1 := ⟨_, _, rfl, rfl, rfl, rfl, by decide, by decide⟩
@[go_sem] theorem Tryz.u4 : Tryz.prog.underlying 4 = some (.bool) := rfl
@[go_sem] theorem Tryz.c4 : Tryz.prog.cellsOf 4 = 1 := rfl
@[go_sem] theorem Tryz.s4 : szIs Tryz.prog 4 1 := rfl
@[go_sem] theorem Tryz.a4 : apOK Tryz.prog 4 1 := ⟨_, _, rfl, rfl, rfl, rfl, by decide, by decide⟩
@[go_sem] theorem Tryz.u5 : Tryz.prog.underlying 5 = some (.int .u8) := rfl
@[go_sem] theorem Tryz.c5 : Tryz.prog.cellsOf 5 = 1 := rfl
@[go_sem] theorem Tryz.s5 : szIs Tryz.prog 5 1 := rfl
@[go_sem] theorem Tryz.a5 : apOK Tryz.prog 5 1 := ⟨_, _, rfl, rfl, rfl, rfl, by decide, by decide⟩
@[go_sem] theorem Tryz.u6 : Tryz.prog.underlying 6 = some (.int .u8) := rfl
@[go_sem] theorem Tryz.c6 : Tryz.prog.cellsOf 6 = 1 := rfl
@[go_sem] theorem Tryz.s6 : szIs Tryz.prog 6 1 := rfl
@[go_sem] theorem Tryz.a6 : apOK Tryz.prog 6 1 := ⟨_, _, rfl, rfl, rfl, rfl, by decide, by decide⟩
@[go_sem] theorem Tryz.c7 : Tryz.prog.cellsOf 7 = 4 := rfl
@[go_sem] theorem Tryz.s7 : szIs Tryz.prog 7 4 := rfl
@[go_sem] theorem Tryz.a7 : apOK Tryz.prog 7 4 := ⟨_, _, rfl, rfl, rfl, rfl, by decide, by decide⟩
@[go_sem] theorem Tryz.c8 : Tryz.prog.cellsOf 8 = 4 := rfl
@[go_sem] theorem Tryz.s8 : szIs Tryz.prog 8 4 := rfl
@[go_sem] theorem Tryz.a8 : apOK Tryz.prog 8 4 := ⟨_, _, rfl, rfl, rfl, rfl, by decide, by decide⟩
@[go_sem] theorem Tryz.u9 : Tryz.prog.underlying 9 = some (.string) := rfl
@[go_sem] theorem Tryz.c9 : Tryz.prog.cellsOf 9 = 1 := rfl
@[go_sem] theorem Tryz.s9 : szIs Tryz.prog 9 1 := rfl
@[go_sem] theorem Tryz.a9 : apOK Tryz.prog 9 1 := ⟨_, _, rfl, rfl, rfl, rfl, by decide, by decide⟩
@[go_sem] theorem Tryz.u10 : Tryz.prog.underlying 10 = some (.string) := rfl
@[go_sem] theorem Tryz.c10 : Tryz.prog.cellsOf 10 = 1 := rfl
@[go_sem] theorem Tryz.s10 : szIs Tryz.prog 10 1 := rfl
@[go_sem] theorem Tryz.a10 : apOK Tryz.prog 10 1 := ⟨_, _, rfl, rfl, rfl, rfl, by decide, by decide⟩
@[go_sem] theorem Tryz.u11 : Tryz.prog.underlying 11 = some (.string) := rfl
@[go_sem] theorem Tryz.c11 : Tryz.prog.cellsOf 11 = 1 := rfl
@[go_sem] theorem Tryz.s11 : szIs Tryz.prog 11 1 := rfl
@[go_sem] theorem Tryz.a11 : apOK Tryz.prog 11 1 := ⟨_, _, rfl, rfl, rfl, rfl, by decide, by decide⟩
@[go_sem] theorem Tryz.u12 : Tryz.prog.underlying 12 = some (.int .u64) := rfl
@[go_sem] theorem Tryz.c12 : Tryz.prog.cellsOf 12 = 1 := rfl
@[go_sem] theorem Tryz.s12 : szIs Tryz.prog 12 1 := rfl
@[go_sem] theorem Tryz.a12 : apOK Tryz.prog 12 1 := ⟨_, _, rfl, rfl, rfl, rfl, by decide, by decide⟩
@[go_sem] theorem Tryz.c13 : Tryz.prog.cellsOf 13 = 2 := rfl
@[go_sem] theorem Tryz.s13 : szIs Tryz.prog 13 2 := rfl
@[go_sem] theorem Tryz.a13 : apOK Tryz.prog 13 2 := ⟨_, _, rfl, rfl, rfl, rfl, by decide, by decide⟩
@[go_sem] theorem Tryz.c14 : Tryz.prog.cellsOf 14 = 2 := rfl
@[go_sem] theorem Tryz.s14 : szIs Tryz.prog 14 2 := rfl
@[go_sem] theorem Tryz.a14 : apOK Tryz.prog 14 2 := ⟨_, _, rfl, rfl, rfl, rfl, by decide, by decide⟩
@[go_sem] theorem Tryz.u15 : Tryz.prog.underlying 15 = some (.pointer 167) := rfl
@[go_sem] theorem Tryz.c15 : Tryz.prog.cellsOf 15 = 1 := rfl
@[go_sem] theorem Tryz.s15 : szIs Tryz.prog 15 1 := rfl
@[go_sem] theorem Tryz.a15 : apOK Tryz.prog 15 1 := ⟨_, _, rfl, rfl, rfl, rfl, by decide, by decide⟩
@[go_sem] theorem Tryz.u16 : Tryz.prog.underlying 16 = some (.pointer 170) := rfl
@[go_sem] theorem Tryz.c16 : Tryz.prog.cellsOf 16 = 1 := rfl
@[go_sem] theorem Tryz.s16 : szIs Tryz.prog 16 1 := rfl
@[go_sem] theorem Tryz.a16 : apOK Tryz.prog 16 1 := ⟨_, _, rfl, rfl, rfl, rfl, by decide, by decide⟩
@[go_sem] theorem Tryz.u17 : Tryz.prog.underlying 17 = some (.pointer 178) := rfl
@[go_sem] theorem Tryz.c17 : Tryz.prog.cellsOf 17 = 1 := rfl
@[go_sem] theorem Tryz.s17 : szIs Tryz.prog 17 1 := rfl
@[go_sem] theorem Tryz.a17 : apOK Tryz.prog 17 1 := ⟨_, _, rfl, rfl, rfl, rfl, by decide, by decide⟩
@[go_sem] theorem Tryz.c18 : Tryz.prog.cellsOf 18 = 1 := rfl
@[go_sem] theorem Tryz.s18 : szIs Tryz.prog 18 1 := rfl
@[go_sem] theorem Tryz.a18 : apOK Tryz.prog 18 1 := ⟨_, _, rfl, rfl, rfl, rfl, by decide, by decide⟩
@[go_sem] theorem Tryz.c19 : Tryz.prog.cellsOf 19 = 1 := rfl
@[go_sem] theorem Tryz.s19 : szIs Tryz.prog 19 1 := rfl
@[go_sem] theorem Tryz.a19 : apOK Tryz.prog 19 1 := ⟨_, _, rfl, rfl, rfl, rfl, by decide, by decide⟩
@[go_sem] theorem Tryz.c20 : Tryz.prog.cellsOf 20 = 1 := rfl
@[go_sem] theorem Tryz.s20 : szIs Tryz.prog 20 1 := rfl
@[go_sem] theorem Tryz.a20 : apOK Tryz.prog 20 1 := ⟨_, _, rfl, rfl, rfl, rfl, by decide, by decide⟩
@[go_sem] theorem Tryz.u21 : Tryz.prog.underlying 21 = some (.int .i32) := rfl
@[go_sem] theorem Tryz.c21 : Tryz.prog.cellsOf 21 = 1 := rfl
@[go_sem] theorem Tryz.s21 : szIs Tryz.prog 21 1 := rfl
@[go_sem] theorem Tryz.a21 : apOK Tryz.prog 21 1 := ⟨_, _, rfl, rfl, rfl, rfl, by decide, by decide⟩
@[go_sem] theorem Tryz.u22 : Tryz.prog.underlying 22 = some (.slice 57) := rfl
@[go_sem] theorem Tryz.c22 : Tryz.prog.cellsOf 22 = 1 := rfl
@[go_sem] theorem Tryz.s22 : szIs Tryz.prog 22 1 := rfl
@[go_sem] theorem Tryz.a22 : apOK Tryz.prog 22 1 := ⟨_, _, rfl, rfl, rfl, rfl, by decide, by decide⟩
@[go_sem] theorem Tryz.u23 : Tryz.prog.underlying 23 = some (.array 3 5) := rfl
@[go_sem] theorem Tryz.c23 : Tryz.prog.cellsOf 23 = 3 := rfl
@[go_sem] theorem Tryz.s23 : szIs Tryz.prog 23 3 := rfl
@[go_sem] theorem Tryz.a23 : apOK Tryz.prog 23 3 := ⟨_, _, rfl, rfl, rfl, rfl, by decide, by decide⟩
@[go_sem] theorem Tryz.c24 : Tryz.prog.cellsOf 24 = 1 := rfl
@[go_sem] theorem Tryz.s24 : szIs Tryz.prog 24 1 := rfl
@[go_sem] theorem Tryz.a24 : apOK Tryz.prog 24 1 := ⟨_, _, rfl, rfl, rfl, rfl, by decide, by decide⟩
@[go_sem] theorem Tryz.u25 : Tryz.prog.underlying 25 = some (.slice 39) := rfl
@[go_sem] theorem Tryz.c25 : Tryz.prog.cellsOf 25 = 1 := rfl
@[go_sem] theorem Tryz.s25 : szIs Tryz.prog 25 1 := rfl
@[go_sem] theorem Tryz.a25 : apOK Tryz.prog 25 1 := ⟨_, _, rfl, rfl, rfl, rfl, by decide, by decide⟩
@[go_sem] theorem Tryz.u26 : Tryz.prog.underlying 26 = some (.slice 70) := rfl
@[go_sem] theorem Tryz.c26 : Tryz.prog.cellsOf 26 = 1 := rfl
@[go_sem] theorem Tryz.s26 : szIs Tryz.prog 26 1 := rfl
@[go_sem] theorem Tryz.a26 : apOK Tryz.prog 26 1 := ⟨_, _, rfl, rfl, rfl, rfl, by decide, by decide⟩
@[go_sem] theorem Tryz.u27 : Tryz.prog.underlying 27 = some (.array 8 3) := rfl
@[go_sem] theorem Tryz.c27 : Tryz.prog.cellsOf 27 = 8 := rfl
@[go_sem] theorem Tryz.s27 : szIs Tryz.prog 27 8 := rfl
@[go_sem] theorem Tryz.a27 : apOK Tryz.prog 27 8 := ⟨_, _, rfl, rfl, rfl, rfl, by decide, by decide⟩
@[go_sem] theorem Tryz.c28 : Tryz.prog.cellsOf 28 = 10 := rfl
@[go_sem] theorem Tryz.s28 : szIs Tryz.prog 28 10 := rfl
@[go_sem] theorem Tryz.a28 : apOK Tryz.prog 28 10 := ⟨_, _, rfl, rfl, rfl, rfl, by decide, by decide⟩
@[go_sem] theorem Tryz.c29 : Tryz.prog.cellsOf 29 = 10 := rfl
@[go_sem] theorem Tryz.s29 : szIs Tryz.prog 29 10 := rfl
@[go_sem] theorem Tryz.a29 : apOK Tryz.prog 29 10 := ⟨_, _, rfl, rfl, rfl, rfl, by decide, by decide⟩
@[go_sem] theorem Tryz.u30 : Tryz.prog.underlying 30 = some (.array 3 29) := rfl
@[go_sem] theorem Tryz.c30 : Tryz.prog.cellsOf 30 = 30 := rfl
@[go_sem] theorem Tryz.s30 : szIs Tryz.prog 30 30 := rfl
@[go_sem] theorem Tryz.a30 : apOK Tryz.prog 30 30 := ⟨_, _, rfl, rfl, rfl, rfl, by decide, by decide⟩
@[go_sem] theorem Tryz.u31 : Tryz.prog.underlying 31 = some (.array 3 29) := rfl
@[go_sem] theorem Tryz.c31 : Tryz.prog.cellsOf 31 = 30 := rfl
@[go_sem] theorem Tryz.s31 : szIs Tryz.prog 31 30 := rfl
@[go_sem] theorem Tryz.a31 : apOK Tryz.prog 31 30 := ⟨_, _, rfl, rfl, rfl, rfl, by decide, by decide⟩
@[go_sem] theorem Tryz.c32 : Tryz.prog.cellsOf 32 = 1 := rfl
@[go_sem] theorem Tryz.s32 : szIs Tryz.prog 32 1 := rfl
@[go_sem] theorem Tryz.a32 : apOK Tryz.prog 32 1 := ⟨_, _, rfl, rfl, rfl, rfl, by decide, by decide⟩
@[go_sem] theorem Tryz.u33 : Tryz.prog.underlying 33 = some (.int .i64) := rfl
@[go_sem] theorem Tryz.c33 : Tryz.prog.cellsOf 33 = 1 := rfl
@[go_sem] theorem Tryz.s33 : szIs Tryz.prog 33 1 := rfl
@[go_sem] theorem Tryz.a33 : apOK Tryz.prog 33 1 := ⟨_, _, rfl, rfl, rfl, rfl, by decide, by decide⟩
@[go_sem] theorem Tryz.c34 : Tryz.prog.cellsOf 34 = 1 := rfl
@[go_sem] theorem Tryz.s34 : szIs Tryz.prog 34 1 := rfl
@[go_sem] theorem Tryz.a34 : apOK Tryz.prog 34 1 := ⟨_, _, rfl, rfl, rfl, rfl, by decide, by decide⟩
@[go_sem] theorem Tryz.c35 : Tryz.prog.cellsOf 35 = 1 := rfl
@[go_sem] theorem Tryz.s35 : szIs Tryz.prog 35 1 := rfl
@[go_sem] theorem Tryz.a35 : apOK Tryz.prog 35 1 := ⟨_, _, rfl, rfl, rfl, rfl, by decide, by decide⟩
@[go_sem] theorem Tryz.c36 : Tryz.prog.cellsOf 36 = 1 := rfl
@[go_sem] theorem Tryz.s36 : szIs Tryz.prog 36 1 := rfl
@[go_sem] theorem Tryz.a36 : apOK Tryz.prog 36 1 := ⟨_, _, rfl, rfl, rfl, rfl, by decide, by decide⟩
@[go_sem] theorem Tryz.c37 : Tryz.prog.cellsOf 37 = 1 := rfl
@[go_sem] theorem Tryz.s37 : szIs Tryz.prog 37 1 := rfl
@[go_sem] theorem Tryz.a37 : apOK Tryz.prog 37 1 := ⟨_, _, rfl, rfl, rfl, rfl, by decide, by decide⟩
@[go_sem] theorem Tryz.c38 : Tryz.prog.cellsOf 38 = 6 := rfl
@[go_sem] theorem Tryz.s38 : szIs Tryz.prog 38 6 := rfl
@[go_sem] theorem Tryz.a38 : apOK Tryz.prog 38 6 := ⟨_, _, rfl, rfl, rfl, rfl, by decide, by decide⟩
@[go_sem] theorem Tryz.c39 : Tryz.prog.cellsOf 39 = 6 := rfl
@[go_sem] theorem Tryz.s39 : szIs Tryz.prog 39 6 := rfl
@[go_sem] theorem Tryz.a39 : apOK Tryz.prog 39 6 := ⟨_, _, rfl, rfl, rfl, rfl, by decide, by decide⟩
@[go_sem] theorem Tryz.c40 : Tryz.prog.cellsOf 40 = 1 := rfl
@[go_sem] theorem Tryz.s40 : szIs Tryz.prog 40 1 := rfl
@[go_sem] theorem Tryz.a40 : apOK Tryz.prog 40 1 := ⟨_, _, rfl, rfl, rfl, rfl, by decide, by decide⟩
@[go_sem] theorem Tryz.c41 : Tryz.prog.cellsOf 41 = 1 := rfl
@[go_sem] theorem Tryz.s41 : szIs Tryz.prog 41 1 := rfl
@[go_sem] theorem Tryz.a41 : apOK Tryz.prog 41 1 := ⟨_, _, rfl, rfl, rfl, rfl, by decide, by decide⟩
@[go_sem] theorem Tryz.c42 : Tryz.prog.cellsOf 42 = 1 := rfl
@[go_sem] theorem Tryz.s42 : szIs Tryz.prog 42 1 := rfl
@[go_sem] theorem Tryz.a42 : apOK Tryz.prog 42 1 := ⟨_, _, rfl, rfl, rfl, rfl, by decide, by decide⟩
@[go_sem] theorem Tryz.c43 : Tryz.prog.cellsOf 43 = 1 := rfl
@[go_sem] theorem Tryz.s43 : szIs Tryz.prog 43 1 := rfl
@[go_sem] theorem Tryz.a43 : apOK Tryz.prog 43 1 := ⟨_, _, rfl, rfl, rfl, rfl, by decide, by decide⟩
@[go_sem] theorem Tryz.c44 : Tryz.prog.cellsOf 44 = 1 := rfl
@[go_sem] theorem Tryz.s44 : szIs Tryz.prog 44 1 := rfl
@[go_sem] theorem Tryz.a44 : apOK Tryz.prog 44 1 := ⟨_, _, rfl, rfl, rfl, rfl, by decide, by decide⟩
@[go_sem] theorem Tryz.c45 : Tryz.prog.cellsOf 45 = 1 := rfl
@[go_sem] theorem Tryz.s45 : szIs Tryz.prog 45 1 := rfl
@[go_sem] theorem Tryz.a45 : apOK Tryz.prog 45 1 := ⟨_, _, rfl, rfl, rfl, rfl, by decide, by decide⟩
@[go_sem] theorem Tryz.u46 : Tryz.prog.underlying 46 = some (.slice 5) := rfl
@[go_sem] theorem Tryz.c46 : Tryz.prog.cellsOf 46 = 1 := rfl
@[go_sem] theorem Tryz.s46 : szIs Tryz.prog 46 1 := rfl
@[go_sem] theorem Tryz.a46 : apOK Tryz.prog 46 1 := ⟨_, _, rfl, rfl, rfl, rfl, by decide, by decide⟩
@[go_sem] theorem Tryz.c47 : Tryz.prog.cellsOf 47 = 1 := rfl
@[go_sem] theorem Tryz.s47 : szIs Tryz.prog 47 1 := rfl
@[go_sem] theorem Tryz.a47 : apOK Tryz.prog 47 1 := ⟨_, _, rfl, rfl, rfl, rfl, by decide, by decide⟩
@[go_sem] theorem Tryz.c48 : Tryz.prog.cellsOf 48 = 1 := rfl
@[go_sem] theorem Tryz.s48 : szIs Tryz.prog 48 1 := rfl
@[go_sem] theorem Tryz.a48 : apOK Tryz.prog 48 1 := ⟨_, _, rfl, rfl, rfl, rfl, by decide, by decide⟩
@[go_sem] theorem Tryz.c49 : Tryz.prog.cellsOf 49 = 1 := rfl
@[go_sem] theorem Tryz.s49 : szIs Tryz.prog 49 1 := rfl
@[go_sem] theorem Tryz.a49 : apOK Tryz.prog 49 1 := ⟨_, _, rfl, rfl, rfl, rfl, by decide, by decide⟩
@[go_sem] theorem Tryz.u50 : Tryz.prog.underlying 50 = some (.slice 9) := rfl
@[go_sem] theorem Tryz.c50 : Tryz.prog.cellsOf 50 = 1 := rfl
@[go_sem] theorem Tryz.s50 : szIs Tryz.prog 50 1 := rfl
@[go_sem] theorem Tryz.a50 : apOK Tryz.prog 50 1 := ⟨_, _, rfl, rfl, rfl, rfl, by decide, by decide⟩
@[go_sem] theorem Tryz.c51 : Tryz.prog.cellsOf 51 = 1 := rfl
@[go_sem] theorem Tryz.s51 : szIs Tryz.prog 51 1 := rfl
@[go_sem] theorem Tryz.a51 : apOK Tryz.prog 51 1 := ⟨_, _, rfl, rfl, rfl, rfl, by decide, by decide⟩
@[go_sem] theorem Tryz.c52 : Tryz.prog.cellsOf 52 = 1 := rfl
@[go_sem] theorem Tryz.s52 : szIs Tryz.prog 52 1 := rfl
@[go_sem] theorem Tryz.a52 : apOK Tryz.prog 52 1 := ⟨_, _, rfl, rfl, rfl, rfl, by decide, by decide⟩
@[go_sem] theorem Tryz.c53 : Tryz.prog.cellsOf 53 = 1 := rfl
@[go_sem] theorem Tryz.s53 : szIs Tryz.prog 53 1 := rfl
@[go_sem] theorem Tryz.a53 : apOK Tryz.prog 53 1 := ⟨_, _, rfl, rfl, rfl, rfl, by decide, by decide⟩
@[go_sem] theorem Tryz.c54 : Tryz.prog.cellsOf 54 = 6 := rfl
@[go_sem] theorem Tryz.s54 : szIs Tryz.prog 54 6 := rfl
@[go_sem] theorem Tryz.a54 : apOK Tryz.prog 54 6 := ⟨_, _, rfl, rfl, rfl, rfl, by decide, by decide⟩
@[go_sem] theorem Tryz.c55 : Tryz.prog.cellsOf 55 = 6 := rfl
@[go_sem] theorem Tryz.s55 : szIs Tryz.prog 55 6 := rfl
@[go_sem] theorem Tryz.a55 : apOK Tryz.prog 55 6 := ⟨_, _, rfl, rfl, rfl, rfl, by decide, by decide⟩
@[go_sem] theorem Tryz.c56 : Tryz.prog.cellsOf 56 = 8 := rfl
@[go_sem] theorem Tryz.s56 : szIs Tryz.prog 56 8 := rfl
@[go_sem] theorem Tryz.a56 : apOK Tryz.prog 56 8 := ⟨_, _, rfl, rfl, rfl, rfl, by decide, by decide⟩
@[go_sem] theorem Tryz.c57 : Tryz.prog.cellsOf 57 = 8 := rfl
@[go_sem] theorem Tryz.s57 : szIs Tryz.prog 57 8 := rfl
@[go_sem] theorem Tryz.a57 : apOK Tryz.prog 57 8 := ⟨_, _, rfl, rfl, rfl, rfl, by decide, by decide⟩
@[go_sem] theorem Tryz.c58 : Tryz.prog.cellsOf 58 = 1 := rfl
@[go_sem] theorem Tryz.s58 : szIs Tryz.prog 58 1 := rfl
@[go_sem] theorem Tryz.a58 : apOK Tryz.prog 58 1 := ⟨_, _, rfl, rfl, rfl, rfl, by decide, by decide⟩
@[go_sem] theorem Tryz.c59 : Tryz.prog.cellsOf 59 = 1 := rfl
@[go_sem] theorem Tryz.s59 : szIs Tryz.prog 59 1 := rfl
@[go_sem] theorem Tryz.a59 : apOK Tryz.prog 59 1 := ⟨_, _, rfl, rfl, rfl, rfl, by decide, by decide⟩
@[go_sem] theorem Tryz.c60 : Tryz.prog.cellsOf 60 = 1 := rfl
@[go_sem] theorem Tryz.s60 : szIs Tryz.prog 60 1 := rfl
@[go_sem] theorem Tryz.a60 : apOK Tryz.prog 60 1 := ⟨_, _, rfl, rfl, rfl, rfl, by decide, by decide⟩
@[go_sem] theorem Tryz.c61 : Tryz.prog.cellsOf 61 = 1 := rfl
@[go_sem] theorem Tryz.s61 : szIs Tryz.prog 61 1 := rfl
@[go_sem] theorem Tryz.a61 : apOK Tryz.prog 61 1 := ⟨_, _, rfl, rfl, rfl, rfl, by decide, by decide⟩
@[go_sem] theorem Tryz.c62 : Tryz.prog.cellsOf 62 = 1 := rfl
@[go_sem] theorem Tryz.s62 : szIs Tryz.prog 62 1 := rfl
@[go_sem] theorem Tryz.a62 : apOK Tryz.prog 62 1 := ⟨_, _, rfl, rfl, rfl, rfl, by decide, by decide⟩
@[go_sem] theorem Tryz.c63 : Tryz.prog.cellsOf 63 = 2 := rfl
@[go_sem] theorem Tryz.s63 : szIs Tryz.prog 63 2 := rfl
@[go_sem] theorem Tryz.a63 : apOK Tryz.prog 63 2 := ⟨_, _, rfl, rfl, rfl, rfl, by decide, by decide⟩
@[go_sem] theorem Tryz.c64 : Tryz.prog.cellsOf 64 = 2 := rfl
@[go_sem] theorem Tryz.s64 : szIs Tryz.prog 64 2 := rfl
@[go_sem] theorem Tryz.a64 : apOK Tryz.prog 64 2 := ⟨_, _, rfl, rfl, rfl, rfl, by decide, by decide⟩
@[go_sem] theorem Tryz.c65 : Tryz.prog.cellsOf 65 = 2 := rfl
@[go_sem] theorem Tryz.s65 : szIs Tryz.prog 65 2 := rfl
@[go_sem] theorem Tryz.a65 : apOK Tryz.prog 65 2 := ⟨_, _, rfl, rfl, rfl, rfl, by decide, by decide⟩
@[go_sem] theorem Tryz.c66 : Tryz.prog.cellsOf 66 = 2 := rfl
@[go_sem] theorem Tryz.s66 : szIs Tryz.prog 66 2 := rfl
@[go_sem] theorem Tryz.a66 : apOK Tryz.prog 66 2 := ⟨_, _, rfl, rfl, rfl, rfl, by decide, by decide⟩
@[go_sem] theorem Tryz.c67 : Tryz.prog.cellsOf 67 = 1 := rfl
@[go_sem] theorem Tryz.s67 : szIs Tryz.prog 67 1 := rfl
@[go_sem] theorem Tryz.a67 : apOK Tryz.prog 67 1 := ⟨_, _, rfl, rfl, rfl, rfl, by decide, by decide⟩
@[go_sem] theorem Tryz.c68 : Tryz.prog.cellsOf 68 = 1 := rfl
@[go_sem] theorem Tryz.s68 : szIs Tryz.prog 68 1 := rfl
@[go_sem] theorem Tryz.a68 : apOK Tryz.prog 68 1 := ⟨_, _, rfl, rfl, rfl, rfl, by decide, by decide⟩
@[go_sem] theorem Tryz.c69 : Tryz.prog.cellsOf 69 = 7 := rfl
@[go_sem] theorem Tryz.s69 : szIs Tryz.prog 69 7 := rfl
@[go_sem] theorem Tryz.a69 : apOK Tryz.prog 69 7 := ⟨_, _, rfl, rfl, rfl, rfl, by decide, by decide⟩
@[go_sem] theorem Tryz.c70 : Tryz.prog.cellsOf 70 = 7 := rfl
@[go_sem] theorem Tryz.s70 : szIs Tryz.prog 70 7 := rfl
@[go_sem] theorem Tryz.a70 : apOK Tryz.prog 70 7 := ⟨_, _, rfl, rfl, rfl, rfl, by decide, by decide⟩
@[go_sem] theorem Tryz.c71 : Tryz.prog.cellsOf 71 = 1 := rfl
@[go_sem] theorem Tryz.s71 : szIs Tryz.prog 71 1 := rfl
@[go_sem] theorem Tryz.a71 : apOK Tryz.prog 71 1 := ⟨_, _, rfl, rfl, rfl, rfl, by decide, by decide⟩
@[go_sem] theorem Tryz.c72 : Tryz.prog.cellsOf 72 = 2 := rfl
@[go_sem] theorem Tryz.s72 : szIs Tryz.prog 72 2 := rfl
@[go_sem] theorem Tryz.a72 : apOK Tryz.prog 72 2 := ⟨_, _, rfl, rfl, rfl, rfl, by decide, by decide⟩
@[go_sem] theorem Tryz.c73 : Tryz.prog.cellsOf 73 = 2 := rfl
@[go_sem] theorem Tryz.s73 : szIs Tryz.prog 73 2 := rfl
@[go_sem] theorem Tryz.a73 : apOK Tryz.prog 73 2 := ⟨_, _, rfl, rfl, rfl, rfl, by decide, by decide⟩
@[go_sem] theorem Tryz.c74 : Tryz.prog.cellsOf 74 = 1 := rfl
@[go_sem] theorem Tryz.s74 : szIs Tryz.prog 74 1 := rfl
@[go_sem] theorem Tryz.a74 : apOK Tryz.prog 74 1 := ⟨_, _, rfl, rfl, rfl, rfl, by decide, by decide⟩
@[go_sem] theorem Tryz.c75 : Tryz.prog.cellsOf 75 = 1 := rfl
@[go_sem] theorem Tryz.s75 : szIs Tryz.prog 75 1 := rfl
@[go_sem] theorem Tryz.a75 : apOK Tryz.prog 75 1 := ⟨_, _, rfl, rfl, rfl, rfl, by decide, by decide⟩
@[go_sem] theorem Tryz.c76 : Tryz.prog.cellsOf 76 = 1 := rfl
@[go_sem] theorem Tryz.s76 : szIs Tryz.prog 76 1 := rfl
@[go_sem] theorem Tryz.a76 : apOK Tryz.prog 76 1 := ⟨_, _, rfl, rfl, rfl, rfl, by decide, by decide⟩
@[go_sem] theorem Tryz.c77 : Tryz.prog.cellsOf 77 = 1 := rfl
@[go_sem] theorem Tryz.s77 : szIs Tryz.prog 77 1 := rfl
@[go_sem] theorem Tryz.a77 : apOK Tryz.prog 77 1 := ⟨_, _, rfl, rfl, rfl, rfl, by decide, by decide⟩
@[go_sem] theorem Tryz.c78 : Tryz.prog.cellsOf 78 = 1 := rfl
@[go_sem] theorem Tryz.s78 : szIs Tryz.prog 78 1 := rfl
@[go_sem] theorem Tryz.a78 : apOK Tryz.prog 78 1 := ⟨_, _, rfl, rfl, rfl, rfl, by decide, by decide⟩
@[go_sem] theorem Tryz.c79 : Tryz.prog.cellsOf 79 = 1 := rfl
@[go_sem] theorem Tryz.s79 : szIs Tryz.prog 79 1 := rfl
@[go_sem] theorem Tryz.a79 : apOK Tryz.prog 79 1 := ⟨_, _, rfl, rfl, rfl, rfl, by decide, by decide⟩
@[go_sem] theorem Tryz.c80 : Tryz.prog.cellsOf 80 = 1 := rfl
@[go_sem] theorem Tryz.s80 : szIs Tryz.prog 80 1 := rfl
@[go_sem] theorem Tryz.a80 : apOK Tryz.prog 80 1 := ⟨_, _, rfl, rfl, rfl, rfl, by decide, by decide⟩
@[go_sem] theorem Tryz.c81 : Tryz.prog.cellsOf 81 = 1 := rfl
@[go_sem] theorem Tryz.s81 : szIs Tryz.prog 81 1 := rfl
@[go_sem] theorem Tryz.a81 : apOK Tryz.prog 81 1 := ⟨_, _, rfl, rfl, rfl, rfl, by decide, by decide⟩
@[go_sem] theorem Tryz.c82 : Tryz.prog.cellsOf 82 = 1 := rfl
@[go_sem] theorem Tryz.s82 : szIs Tryz.prog 82 1 := rfl
@[go_sem] theorem Tryz.a82 : apOK Tryz.prog 82 1 := ⟨_, _, rfl, rfl, rfl, rfl, by decide, by decide⟩
@[go_sem] theorem Tryz.c83 : Tryz.prog.cellsOf 83 = 1 := rfl
@[go_sem] theorem Tryz.s83 : szIs Tryz.prog 83 1 := rfl
@[go_sem] theorem Tryz.a83 : apOK Tryz.prog 83 1 := ⟨_, _, rfl, rfl, rfl, rfl, by decide, by decide⟩
@[go_sem] theorem Tryz.c84 : Tryz.prog.cellsOf 84 = 2 := rfl
@[go_sem] theorem Tryz.s84 : szIs Tryz.prog 84 2 := rfl
@[go_sem] theorem Tryz.a84 : apOK Tryz.prog 84 2 := ⟨_, _, rfl, rfl, rfl, rfl, by decide, by decide⟩
@[go_sem] theorem Tryz.c85 : Tryz.prog.cellsOf 85 = 2 := rfl
@[go_sem] theorem Tryz.s85 : szIs Tryz.prog 85 2 := rfl
@[go_sem] theorem Tryz.a85 : apOK Tryz.prog 85 2 := ⟨_, _, rfl, rfl, rfl, rfl, by decide, by decide⟩
@[go_sem] theorem Tryz.c86 : Tryz.prog.cellsOf 86 = 1 := rfl
@[go_sem] theorem Tryz.s86 : szIs Tryz.prog 86 1 := rfl
@[go_sem] theorem Tryz.a86 : apOK Tryz.prog 86 1 := ⟨_, _, rfl, rfl, rfl, rfl, by decide, by decide⟩
@[go_sem] theorem Tryz.c87 : Tryz.prog.cellsOf 87 = 1 := rfl
@[go_sem] theorem Tryz.s87 : szIs Tryz.prog 87 1 := rfl
@[go_sem] theorem Tryz.a87 : apOK Tryz.prog 87 1 := ⟨_, _, rfl, rfl, rfl, rfl, by decide, by decide⟩
@[go_sem] theorem Tryz.c88 : Tryz.prog.cellsOf 88 = 1 := rfl
@[go_sem] theorem Tryz.s88 : szIs Tryz.prog 88 1 := rfl
@[go_sem] theorem Tryz.a88 : apOK Tryz.prog 88 1 := ⟨_, _, rfl, rfl, rfl, rfl, by decide, by decide⟩
@[go_sem] theorem Tryz.c89 : Tryz.prog.cellsOf 89 = 1 := rfl
@[go_sem] theorem Tryz.s89 : szIs Tryz.prog 89 1 := rfl
@[go_sem] theorem Tryz.a89 : apOK Tryz.prog 89 1 := ⟨_, _, rfl, rfl, rfl, rfl, by decide, by decide⟩
@[go_sem] theorem Tryz.c90 : Tryz.prog.cellsOf 90 = 1 := rfl
@[go_sem] theorem Tryz.s90 : szIs Tryz.prog 90 1 := rfl
@[go_sem] theorem Tryz.a90 : apOK Tryz.prog 90 1 := ⟨_, _, rfl, rfl, rfl, rfl, by decide, by decide⟩
@[go_sem] theorem Tryz.c91 : Tryz.prog.cellsOf 91 = 1 := rfl
@[go_sem] theorem Tryz.s91 : szIs Tryz.prog 91 1 := rfl
@[go_sem] theorem Tryz.a91 : apOK Tryz.prog 91 1 := ⟨_, _, rfl, rfl, rfl, rfl, by decide, by decide⟩
@[go_sem] theorem Tryz.c92 : Tryz.prog.cellsOf 92 = 1 := rfl
@[go_sem] theorem Tryz.s92 : szIs Tryz.prog 92 1 := rfl
@[go_sem] theorem Tryz.a92 : apOK Tryz.prog 92 1 := ⟨_, _, rfl, rfl, rfl, rfl, by decide, by decide⟩
@[go_sem] theorem Tryz.c93 : Tryz.prog.cellsOf 93 = 1 := rfl
@[go_sem] theorem Tryz.s93 : szIs Tryz.prog 93 1 := rfl
@[go_sem] theorem Tryz.a93 : apOK Tryz.prog 93 1 := ⟨_, _, rfl, rfl, rfl, rfl, by decide, by decide⟩
@[go_sem] theorem Tryz.c94 : Tryz.prog.cellsOf 94 = 1 := rfl
@[go_sem] theorem Tryz.s94 : szIs Tryz.prog 94 1 := rfl
@[go_sem] theorem Tryz.a94 : apOK Tryz.prog 94 1 := ⟨_, _, rfl, rfl, rfl, rfl, by decide, by decide⟩
@[go_sem] theorem Tryz.c95 : Tryz.prog.cellsOf 95 = 1 := rfl
@[go_sem] theorem Tryz.s95 : szIs Tryz.prog 95 1 := rfl
@[go_sem] theorem Tryz.a95 : apOK Tryz.prog 95 1 := ⟨_, _, rfl, rfl, rfl, rfl, by decide, by decide⟩
@[go_sem] theorem Tryz.c96 : Tryz.prog.cellsOf 96 = 1 := rfl
@[go_sem] theorem Tryz.s96 : szIs Tryz.prog 96 1 := rfl
@[go_sem] theorem Tryz.a96 : apOK Tryz.prog 96 1 := ⟨_, _, rfl, rfl, rfl, rfl, by decide, by decide⟩
@[go_sem] theorem Tryz.c97 : Tryz.prog.cellsOf 97 = 1 := rfl
@[go_sem] theorem Tryz.s97 : szIs Tryz.prog 97 1 := rfl
@[go_sem] theorem Tryz.a97 : apOK Tryz.prog 97 1 := ⟨_, _, rfl, rfl, rfl, rfl, by decide, by decide⟩
@[go_sem] theorem Tryz.c98 : Tryz.prog.cellsOf 98 = 1 := rfl
@[go_sem] theorem Tryz.s98 : szIs Tryz.prog 98 1 := rfl
@[go_sem] theorem Tryz.a98 : apOK Tryz.prog 98 1 := ⟨_, _, rfl, rfl, rfl, rfl, by decide, by decide⟩
@[go_sem] theorem Tryz.c99 : Tryz.prog.cellsOf 99 = 1 := rfl
@[go_sem] theorem Tryz.s99 : szIs Tryz.prog 99 1 := rfl
@[go_sem] theorem Tryz.a99 : apOK Tryz.prog 99 1 := ⟨_, _, rfl, rfl, rfl, rfl, by decide, by decide⟩
@[go_sem] theorem Tryz.c100 : Tryz.prog.cellsOf 100 = 1 := rfl
@[go_sem] theorem Tryz.s100 : szIs Tryz.prog 100 1 := rfl
@[go_sem] theorem Tryz.a100 : apOK Tryz.prog 100 1 := ⟨_, _, rfl, rfl, rfl, rfl, by decide, by decide⟩
@[go_sem] theorem Tryz.u101 : Tryz.prog.underlying 101 = some (.int .i64) := rfl
@[go_sem] theorem Tryz.c101 : Tryz.prog.cellsOf 101 = 1 := rfl
@[go_sem] theorem Tryz.s101 : szIs Tryz.prog 101 1 := rfl
@[go_sem] theorem Tryz.a101 : apOK Tryz.prog 101 1 := ⟨_, _, rfl, rfl, rfl, rfl, by decide, by decide⟩
@[go_sem] theorem Tryz.c102 : Tryz.prog.cellsOf 102 = 1 := rfl
@[go_sem] theorem Tryz.s102 : szIs Tryz.prog 102 1 := rfl
@[go_sem] theorem Tryz.a102 : apOK Tryz.prog 102 1 := ⟨_, _, rfl, rfl, rfl, rfl, by decide, by decide⟩
@[go_sem] theorem Tryz.c103 : Tryz.prog.cellsOf 103 = 2 := rfl
@[go_sem] theorem Tryz.s103 : szIs Tryz.prog 103 2 := rfl
@[go_sem] theorem Tryz.a103 : apOK Tryz.prog 103 2 := ⟨_, _, rfl, rfl, rfl, rfl, by decide, by decide⟩
@[go_sem] theorem Tryz.c104 : Tryz.prog.cellsOf 104 = 2 := rfl
@[go_sem] theorem Tryz.s104 : szIs Tryz.prog 104 2 := rfl
@[go_sem] theorem Tryz.a104 : apOK Tryz.prog 104 2 := ⟨_, _, rfl, rfl, rfl, rfl, by decide, by decide⟩
@[go_sem] theorem Tryz.c105 : Tryz.prog.cellsOf 105 = 1 := rfl
@[go_sem] theorem Tryz.s105 : szIs Tryz.prog 105 1 := rfl
@[go_sem] theorem Tryz.a105 : apOK Tryz.prog 105 1 := ⟨_, _, rfl, rfl, rfl, rfl, by decide, by decide⟩
@[go_sem] theorem Tryz.c106 : Tryz.prog.cellsOf 106 = 2 := rfl
@[go_sem] theorem Tryz.s106 : szIs Tryz.prog 106 2 := rfl
@[go_sem] theorem Tryz.a106 : apOK Tryz.prog 106 2 := ⟨_, _, rfl, rfl, rfl, rfl, by decide, by decide⟩
@[go_sem] theorem Tryz.c107 : Tryz.prog.cellsOf 107 = 2 := rfl
@[go_sem] theorem Tryz.s107 : szIs Tryz.prog 107 2 := rfl
@[go_sem] theorem Tryz.a107 : apOK Tryz.prog 107 2 := ⟨_, _, rfl, rfl, rfl, rfl, by decide, by decide⟩
@[go_sem] theorem Tryz.c108 : Tryz.prog.cellsOf 108 = 1 := rfl
@[go_sem] theorem Tryz.s108 : szIs Tryz.prog 108 1 := rfl
@[go_sem] theorem Tryz.a108 : apOK Tryz.prog 108 1 := ⟨_, _, rfl, rfl, rfl, rfl, by decide, by decide⟩
@[go_sem] theorem Tryz.c109 : Tryz.prog.cellsOf 109 = 1 := rfl
@[go_sem] theorem Tryz.s109 : szIs Tryz.prog 109 1 := rfl
@[go_sem] theorem Tryz.a109 : apOK Tryz.prog 109 1 := ⟨_, _, rfl, rfl, rfl, rfl, by decide, by decide⟩
@[go_sem] theorem Tryz.c110 : Tryz.prog.cellsOf 110 = 1 := rfl
@[go_sem] theorem Tryz.s110 : szIs Tryz.prog 110 1 := rfl
@[go_sem] theorem Tryz.a110 : apOK Tryz.prog 110 1 := ⟨_, _, rfl, rfl, rfl, rfl, by decide, by decide⟩
@[go_sem] theorem Tryz.c111 : Tryz.prog.cellsOf 111 = 1 := rfl
@[go_sem] theorem Tryz.s111 : szIs Tryz.prog 111 1 := rfl
@[go_sem] theorem Tryz.a111 : apOK Tryz.prog 111 1 := ⟨_, _, rfl, rfl, rfl, rfl, by decide, by decide⟩
@[go_sem] theorem Tryz.u112 : Tryz.prog.underlying 112 = some (.pointer 114) := rfl
@[go_sem] theorem Tryz.c112 : Tryz.prog.cellsOf 112 = 1 := rfl
@[go_sem] theorem Tryz.s112 : szIs Tryz.prog 112 1 := rfl
@[go_sem] theorem Tryz.a112 : apOK Tryz.prog 112 1 := ⟨_, _, rfl, rfl, rfl, rfl, by decide, by decide⟩
@[go_sem] theorem Tryz.c113 : Tryz.prog.cellsOf 113 = 2 := rfl
@[go_sem] theorem Tryz.s113 : szIs Tryz.prog 113 2 := rfl
@[go_sem] theorem Tryz.a113 : apOK Tryz.prog 113 2 := ⟨_, _, rfl, rfl, rfl, rfl, by decide, by decide⟩
@[go_sem] theorem Tryz.c114 : Tryz.prog.cellsOf 114 = 2 := rfl
@[go_sem] theorem Tryz.s114 : szIs Tryz.prog 114 2 := rfl
@[go_sem] theorem Tryz.a114 : apOK Tryz.prog 114 2 := ⟨_, _, rfl, rfl, rfl, rfl, by decide, by decide⟩
@[go_sem] theorem Tryz.c115 : Tryz.prog.cellsOf 115 = 1 := rfl
@[go_sem] theorem Tryz.s115 : szIs Tryz.prog 115 1 := rfl
@[go_sem] theorem Tryz.a115 : apOK Tryz.prog 115 1 := ⟨_, _, rfl, rfl, rfl, rfl, by decide, by decide⟩
@[go_sem] theorem Tryz.c116 : Tryz.prog.cellsOf 116 = 1 := rfl
@[go_sem] theorem Tryz.s116 : szIs Tryz.prog 116 1 := rfl
@[go_sem] theorem Tryz.a116 : apOK Tryz.prog 116 1 := ⟨_, _, rfl, rfl, rfl, rfl, by decide, by decide⟩
@[go_sem] theorem Tryz.c117 : Tryz.prog.cellsOf 117 = 1 := rfl
@[go_sem] theorem Tryz.s117 : szIs Tryz.prog 117 1 := rfl
@[go_sem] theorem Tryz.a117 : apOK Tryz.prog 117 1 := ⟨_, _, rfl, rfl, rfl, rfl, by decide, by decide⟩
@[go_sem] theorem Tryz.c118 : Tryz.prog.cellsOf 118 = 1 := rfl
@[go_sem] theorem Tryz.s118 : szIs Tryz.prog 118 1 := rfl
@[go_sem] theorem Tryz.a118 : apOK Tryz.prog 118 1 := ⟨_, _, rfl, rfl, rfl, rfl, by decide, by decide⟩
@[go_sem] theorem Tryz.c119 : Tryz.prog.cellsOf 119 = 1 := rfl
@[go_sem] theorem Tryz.s119 : szIs Tryz.prog 119 1 := rfl
@[go_sem] theorem Tryz.a119 : apOK Tryz.prog 119 1 := ⟨_, _, rfl, rfl, rfl, rfl, by decide, by decide⟩
@[go_sem] theorem Tryz.c120 : Tryz.prog.cellsOf 120 = 1 := rfl
@[go_sem] theorem Tryz.s120 : szIs Tryz.prog 120 1 := rfl
@[go_sem] theorem Tryz.a120 : apOK Tryz.prog 120 1 := ⟨_, _, rfl, rfl, rfl, rfl, by decide, by decide⟩
@[go_sem] theorem Tryz.c121 : Tryz.prog.cellsOf 121 = 1 := rfl
@[go_sem] theorem Tryz.s121 : szIs Tryz.prog 121 1 := rfl
@[go_sem] theorem Tryz.a121 : apOK Tryz.prog 121 1 := ⟨_, _, rfl, rfl, rfl, rfl, by decide, by decide⟩
@[go_sem] theorem Tryz.c122 : Tryz.prog.cellsOf 122 = 1 := rfl
@[go_sem] theorem Tryz.s122 : szIs Tryz.prog 122 1 := rfl
@[go_sem] theorem Tryz.a122 : apOK Tryz.prog 122 1 := ⟨_, _, rfl, rfl, rfl, rfl, by decide, by decide⟩
@[go_sem] theorem Tryz.c123 : Tryz.prog.cellsOf 123 = 1 := rfl
@[go_sem] theorem Tryz.s123 : szIs Tryz.prog 123 1 := rfl
@[go_sem] theorem Tryz.a123 : apOK Tryz.prog 123 1 := ⟨_, _, rfl, rfl, rfl, rfl, by decide, by decide⟩
@[go_sem] theorem Tryz.c124 : Tryz.prog.cellsOf 124 = 1 := rfl
@[go_sem] theorem Tryz.s124 : szIs Tryz.prog 124 1 := rfl
@[go_sem] theorem Tryz.a124 : apOK Tryz.prog 124 1 := ⟨_, _, rfl, rfl, rfl, rfl, by decide, by decide⟩
@[go_sem] theorem Tryz.c125 : Tryz.prog.cellsOf 125 = 1 := rfl
@[go_sem] theorem Tryz.s125 : szIs Tryz.prog 125 1 := rfl
@[go_sem] theorem Tryz.a125 : apOK Tryz.prog 125 1 := ⟨_, _, rfl, rfl, rfl, rfl, by decide, by decide⟩
@[go_sem] theorem Tryz.c126 : Tryz.prog.cellsOf 126 = 1 := rfl
@[go_sem] theorem Tryz.s126 : szIs Tryz.prog 126 1 := rfl
@[go_sem] theorem Tryz.a126 : apOK Tryz.prog 126 1 := ⟨_, _, rfl, rfl, rfl, rfl, by decide, by decide⟩
@[go_sem] theorem Tryz.c127 : Tryz.prog.cellsOf 127 = 1 := rfl
@[go_sem] theorem Tryz.s127 : szIs Tryz.prog 127 1 := rfl
@[go_sem] theorem Tryz.a127 : apOK Tryz.prog 127 1 := ⟨_, _, rfl, rfl, rfl, rfl, by decide, by decide⟩
@[go_sem] theorem Tryz.c128 : Tryz.prog.cellsOf 128 = 1 := rfl
@[go_sem] theorem Tryz.s128 : szIs Tryz.prog 128 1 := rfl
@[go_sem] theorem Tryz.a128 : apOK Tryz.prog 128 1 := ⟨_, _, rfl, rfl, rfl, rfl, by decide, by decide⟩
@[go_sem] theorem Tryz.c129 : Tryz.prog.cellsOf 129 = 1 := rfl
@[go_sem] theorem Tryz.s129 : szIs Tryz.prog 129 1 := rfl
@[go_sem] theorem Tryz.a129 : apOK Tryz.prog 129 1 := ⟨_, _, rfl, rfl, rfl, rfl, by decide, by decide⟩
@[go_sem] theorem Tryz.c130 : Tryz.prog.cellsOf 130 = 12 := rfl
@[go_sem] theorem Tryz.s130 : szIs Tryz.prog 130 12 := rfl
@[go_sem] theorem Tryz.a130 : apOK Tryz.prog 130 12 := ⟨_, _, rfl, rfl, rfl, rfl, by decide, by decide⟩
@[go_sem] theorem Tryz.c131 : Tryz.prog.cellsOf 131 = 12 := rfl
@[go_sem] theorem Tryz.s131 : szIs Tryz.prog 131 12 := rfl
@[go_sem] theorem Tryz.a131 : apOK Tryz.prog 131 12 := ⟨_, _, rfl, rfl, rfl, rfl, by decide, by decide⟩
@[go_sem] theorem Tryz.c132 : Tryz.prog.cellsOf 132 = 1 := rfl
@[go_sem] theorem Tryz.s132 : szIs Tryz.prog 132 1 := rfl
@[go_sem] theorem Tryz.a132 : apOK Tryz.prog 132 1 := ⟨_, _, rfl, rfl, rfl, rfl, by decide, by decide⟩
@[go_sem] theorem Tryz.c133 : Tryz.prog.cellsOf 133 = 1 := rfl
@[go_sem] theorem Tryz.s133 : szIs Tryz.prog 133 1 := rfl
@[go_sem] theorem Tryz.a133 : apOK Tryz.prog 133 1 := ⟨_, _, rfl, rfl, rfl, rfl, by decide, by decide⟩
@[go_sem] theorem Tryz.c134 : Tryz.prog.cellsOf 134 = 1 := rfl
@[go_sem] theorem Tryz.s134 : szIs Tryz.prog 134 1 := rfl
@[go_sem] theorem Tryz.a134 : apOK Tryz.prog 134 1 := ⟨_, _, rfl, rfl, rfl, rfl, by decide, by decide⟩
@[go_sem] theorem Tryz.c135 : Tryz.prog.cellsOf 135 = 1 := rfl
@[go_sem] theorem Tryz.s135 : szIs Tryz.prog 135 1 := rfl
@[go_sem] theorem Tryz.a135 : apOK Tryz.prog 135 1 := ⟨_, _, rfl, rfl, rfl, rfl, by decide, by decide⟩
@[go_sem] theorem Tryz.c136 : Tryz.prog.cellsOf 136 = 1 := rfl
@[go_sem] theorem Tryz.s136 : szIs Tryz.prog 136 1 := rfl
@[go_sem] theorem Tryz.a136 : apOK Tryz.prog 136 1 := ⟨_, _, rfl, rfl, rfl, rfl, by decide, by decide⟩
@[go_sem] theorem Tryz.c137 : Tryz.prog.cellsOf 137 = 1 := rfl
@[go_sem] theorem Tryz.s137 : szIs Tryz.prog 137 1 := rfl
@[go_sem] theorem Tryz.a137 : apOK Tryz.prog 137 1 := ⟨_, _, rfl, rfl, rfl, rfl, by decide, by decide⟩
@[go_sem] theorem Tryz.u138 : Tryz.prog.underlying 138 = some (.slice 25) := rfl
@[go_sem] theorem Tryz.c138 : Tryz.prog.cellsOf 138 = 1 := rfl
@[go_sem] theorem Tryz.s138 : szIs Tryz.prog 138 1 := rfl
@[go_sem] theorem Tryz.a138 : apOK Tryz.prog 138 1 := ⟨_, _, rfl, rfl, rfl, rfl, by decide, by decide⟩
@[go_sem] theorem Tryz.c139 : Tryz.prog.cellsOf 139 = 1 := rfl
@[go_sem] theorem Tryz.s139 : szIs Tryz.prog 139 1 := rfl
@[go_sem] theorem Tryz.a139 : apOK Tryz.prog 139 1 := ⟨_, _, rfl, rfl, rfl, rfl, by decide, by decide⟩
@[go_sem] theorem Tryz.u140 : Tryz.prog.underlying 140 = some (.int .u64) := rfl
@[go_sem] theorem Tryz.c140 : Tryz.prog.cellsOf 140 = 1 := rfl
@[go_sem] theorem Tryz.s140 : szIs Tryz.prog 140 1 := rfl
@[go_sem] theorem Tryz.a140 : apOK Tryz.prog 140 1 := ⟨_, _, rfl, rfl, rfl, rfl, by decide, by decide⟩
@[go_sem] theorem Tryz.u141 : Tryz.prog.underlying 141 = some (.pointer 5) := rfl
@[go_sem] theorem Tryz.c141 : Tryz.prog.cellsOf 141 = 1 := rfl
@[go_sem] theorem Tryz.s141 : szIs Tryz.prog 141 1 := rfl
@[go_sem] theorem Tryz.a141 : apOK Tryz.prog 141 1 := ⟨_, _, rfl, rfl, rfl, rfl, by decide, by decide⟩
@[go_sem] theorem Tryz.c142 : Tryz.prog.cellsOf 142 = 1 := rfl
@[go_sem] theorem Tryz.s142 : szIs Tryz.prog 142 1 := rfl
@[go_sem] theorem Tryz.a142 : apOK Tryz.prog 142 1 := ⟨_, _, rfl, rfl, rfl, rfl, by decide, by decide⟩
@[go_sem] theorem Tryz.c143 : Tryz.prog.cellsOf 143 = 1 := rfl
@[go_sem] theorem Tryz.s143 : szIs Tryz.prog 143 1 := rfl
@[go_sem] theorem Tryz.a143 : apOK Tryz.prog 143 1 := ⟨_, _, rfl, rfl, rfl, rfl, by decide, by decide⟩
@[go_sem] theorem Tryz.u144 : Tryz.prog.underlying 144 = some (.array 2 3) := rfl
@[go_sem] theorem Tryz.c144 : Tryz.prog.cellsOf 144 = 2 := rfl
@[go_sem] theorem Tryz.s144 : szIs Tryz.prog 144 2 := rfl
@[go_sem] theorem Tryz.a144 : apOK Tryz.prog 144 2 := ⟨_, _, rfl, rfl, rfl, rfl, by decide, by decide⟩
@[go_sem] theorem Tryz.c145 : Tryz.prog.cellsOf 145 = 1 := rfl
@[go_sem] theorem Tryz.s145 : szIs Tryz.prog 145 1 := rfl
@[go_sem] theorem Tryz.a145 : apOK Tryz.prog 145 1 := ⟨_, _, rfl, rfl, rfl, rfl, by decide, by decide⟩
@[go_sem] theorem Tryz.c146 : Tryz.prog.cellsOf 146 = 1 := rfl
@[go_sem] theorem Tryz.s146 : szIs Tryz.prog 146 1 := rfl
@[go_sem] theorem Tryz.a146 : apOK Tryz.prog 146 1 := ⟨_, _, rfl, rfl, rfl, rfl, by decide, by decide⟩
@[go_sem] theorem Tryz.c147 : Tryz.prog.cellsOf 147 = 1 := rfl
@[go_sem] theorem Tryz.s147 : szIs Tryz.prog 147 1 := rfl
@[go_sem] theorem Tryz.a147 : apOK Tryz.prog 147 1 := ⟨_, _, rfl, rfl, rfl, rfl, by decide, by decide⟩
@[go_sem] theorem Tryz.c148 : Tryz.prog.cellsOf 148 = 1 := rfl
@[go_sem] theorem Tryz.s148 : szIs Tryz.prog 148 1 := rfl
@[go_sem] theorem Tryz.a148 : apOK Tryz.prog 148 1 := ⟨_, _, rfl, rfl, rfl, rfl, by decide, by decide⟩
@[go_sem] theorem Tryz.c149 : Tryz.prog.cellsOf 149 = 1 := rfl
@[go_sem] theorem Tryz.s149 : szIs Tryz.prog 149 1 := rfl
@[go_sem] theorem Tryz.a149 : apOK Tryz.prog 149 1 := ⟨_, _, rfl, rfl, rfl, rfl, by decide, by decide⟩
@[go_sem] theorem Tryz.u150 : Tryz.prog.underlying 150 = some (.array 24 5) := rfl
@[go_sem] theorem Tryz.c150 : Tryz.prog.cellsOf 150 = 24 := rfl
@[go_sem] theorem Tryz.s150 : szIs Tryz.prog 150 24 := rfl
@[go_sem] theorem Tryz.a150 : apOK Tryz.prog 150 24 := ⟨_, _, rfl, rfl, rfl, rfl, by decide, by decide⟩
@[go_sem] theorem Tryz.u151 : Tryz.prog.underlying 151 = some (.int .u64) := rfl
@[go_sem] theorem Tryz.c151 : Tryz.prog.cellsOf 151 = 1 := rfl
@[go_sem] theorem Tryz.s151 : szIs Tryz.prog 151 1 := rfl
@[go_sem] theorem Tryz.a151 : apOK Tryz.prog 151 1 := ⟨_, _, rfl, rfl, rfl, rfl, by decide, by decide⟩
@[go_sem] theorem Tryz.c152 : Tryz.prog.cellsOf 152 = 1 := rfl
@[go_sem] theorem Tryz.s152 : szIs Tryz.prog 152 1 := rfl
@[go_sem] theorem Tryz.a152 : apOK Tryz.prog 152 1 := ⟨_, _, rfl, rfl, rfl, rfl, by decide, by decide⟩
@[go_sem] theorem Tryz.c153 : Tryz.prog.cellsOf 153 = 1 := rfl
@[go_sem] theorem Tryz.s153 : szIs Tryz.prog 153 1 := rfl
@[go_sem] theorem Tryz.a153 : apOK Tryz.prog 153 1 := ⟨_, _, rfl, rfl, rfl, rfl, by decide, by decide⟩
@[go_sem] theorem Tryz.c154 : Tryz.prog.cellsOf 154 = 1 := rfl
@[go_sem] theorem Tryz.s154 : szIs Tryz.prog 154 1 := rfl
@[go_sem] theorem Tryz.a154 : apOK Tryz.prog 154 1 := ⟨_, _, rfl, rfl, rfl, rfl, by decide, by decide⟩
@[go_sem] theorem Tryz.c155 : Tryz.prog.cellsOf 155 = 1 := rfl
@[go_sem] theorem Tryz.s155 : szIs Tryz.prog 155 1 := rfl
@[go_sem] theorem Tryz.a155 : apOK Tryz.prog 155 1 := ⟨_, _, rfl, rfl, rfl, rfl, by decide, by decide⟩
@[go_sem] theorem Tryz.u156 : Tryz.prog.underlying 156 = some (.slice 3) := rfl
@[go_sem] theorem Tryz.c156 : Tryz.prog.cellsOf 156 = 1 := rfl
@[go_sem] theorem Tryz.s156 : szIs Tryz.prog 156 1 := rfl
@[go_sem] theorem Tryz.a156 : apOK Tryz.prog 156 1 := ⟨_, _, rfl, rfl, rfl, rfl, by decide, by decide⟩
@[go_sem] theorem Tryz.c157 : Tryz.prog.cellsOf 157 = 1 := rfl
@[go_sem] theorem Tryz.s157 : szIs Tryz.prog 157 1 := rfl
@[go_sem] theorem Tryz.a157 : apOK Tryz.prog 157 1 := ⟨_, _, rfl, rfl, rfl, rfl, by decide, by decide⟩
@[go_sem] theorem Tryz.c158 : Tryz.prog.cellsOf 158 = 1 := rfl
@[go_sem] theorem Tryz.s158 : szIs Tryz.prog 158 1 := rfl
@[go_sem] theorem Tryz.a158 : apOK Tryz.prog 158 1 := ⟨_, _, rfl, rfl, rfl, rfl, by decide, by decide⟩
@[go_sem] theorem Tryz.u159 : Tryz.prog.underlying 159 = some (.array 20 151) := rfl
@[go_sem] theorem Tryz.c159 : Tryz.prog.cellsOf 159 = 20 := rfl
@[go_sem] theorem Tryz.s159 : szIs Tryz.prog 159 20 := rfl
@[go_sem] theorem Tryz.a159 : apOK Tryz.prog 159 20 := ⟨_, _, rfl, rfl, rfl, rfl, by decide, by decide⟩
@[go_sem] theorem Tryz.u160 : Tryz.prog.underlying 160 = some (.int .u32) := rfl
@[go_sem] theorem Tryz.c160 : Tryz.prog.cellsOf 160 = 1 := rfl
@[go_sem] theorem Tryz.s160 : szIs Tryz.prog 160 1 := rfl
@[go_sem] theorem Tryz.a160 : apOK Tryz.prog 160 1 := ⟨_, _, rfl, rfl, rfl, rfl, by decide, by decide⟩
@[go_sem] theorem Tryz.u161 : Tryz.prog.underlying 161 = some (.array 65 5) := rfl
@[go_sem] theorem Tryz.c161 : Tryz.prog.cellsOf 161 = 65 := rfl
@[go_sem] theorem Tryz.s161 : szIs Tryz.prog 161 65 := rfl
@[go_sem] theorem Tryz.a161 : apOK Tryz.prog 161 65 := ⟨_, _, rfl, rfl, rfl, rfl, by decide, by decide⟩
@[go_sem] theorem Tryz.c162 : Tryz.prog.cellsOf 162 = 1 := rfl
@[go_sem] theorem Tryz.s162 : szIs Tryz.prog 162 1 := rfl
@[go_sem] theorem Tryz.a162 : apOK Tryz.prog 162 1 := ⟨_, _, rfl, rfl, rfl, rfl, by decide, by decide⟩
@[go_sem] theorem Tryz.c163 : Tryz.prog.cellsOf 163 = 1 := rfl
@[go_sem] theorem Tryz.s163 : szIs Tryz.prog 163 1 := rfl
@[go_sem] theorem Tryz.a163 : apOK Tryz.prog 163 1 := ⟨_, _, rfl, rfl, rfl, rfl, by decide, by decide⟩
@[go_sem] theorem Tryz.u164 : Tryz.prog.underlying 164 = some (.array 32 5) := rfl
@[go_sem] theorem Tryz.c164 : Tryz.prog.cellsOf 164 = 32 := rfl
@[go_sem] theorem Tryz.s164 : szIs Tryz.prog 164 32 := rfl
@[go_sem] theorem Tryz.a164 : apOK Tryz.prog 164 32 := ⟨_, _, rfl, rfl, rfl, rfl, by decide, by decide⟩
@[go_sem] theorem Tryz.u165 : Tryz.prog.underlying 165 = some (.array 64 5) := rfl
@[go_sem] theorem Tryz.c165 : Tryz.prog.cellsOf 165 = 64 := rfl
@[go_sem] theorem Tryz.s165 : szIs Tryz.prog 165 64 := rfl
@[go_sem] theorem Tryz.a165 : apOK Tryz.prog 165 64 := ⟨_, _, rfl, rfl, rfl, rfl, by decide, by decide⟩
@[go_sem] theorem Tryz.c166 : Tryz.prog.cellsOf 166 = 4 := rfl
@[go_sem] theorem Tryz.s166 : szIs Tryz.prog 166 4 := rfl
@[go_sem] theorem Tryz.a166 : apOK Tryz.prog 166 4 := ⟨_, _, rfl, rfl, rfl, rfl, by decide, by decide⟩
@[go_sem] theorem Tryz.c167 : Tryz.prog.cellsOf 167 = 4 := rfl
@[go_sem] theorem Tryz.s167 : szIs Tryz.prog 167 4 := rfl
@[go_sem] theorem Tryz.a167 : apOK Tryz.prog 167 4 := ⟨_, _, rfl, rfl, rfl, rfl, by decide, by decide⟩
@[go_sem] theorem Tryz.u168 : Tryz.prog.underlying 168 = some (.array 0 16) := rfl
@[go_sem] theorem Tryz.c168 : Tryz.prog.cellsOf 168 = 0 := rfl
@[go_sem] theorem Tryz.s168 : szIs Tryz.prog 168 0 := rfl
@[go_sem] theorem Tryz.c169 : Tryz.prog.cellsOf 169 = 0 := rfl
@[go_sem] theorem Tryz.s169 : szIs Tryz.prog 169 0 := rfl
@[go_sem] theorem Tryz.c170 : Tryz.prog.cellsOf 170 = 0 := rfl
@[go_sem] theorem Tryz.s170 : szIs Tryz.prog 170 0 := rfl
@[go_sem] theorem Tryz.c171 : Tryz.prog.cellsOf 171 = 1 := rfl
@[go_sem] theorem Tryz.s171 : szIs Tryz.prog 171 1 := rfl
@[go_sem] theorem Tryz.a171 : apOK Tryz.prog 171 1 := ⟨_, _, rfl, rfl, rfl, rfl, by decide, by decide⟩
@[go_sem] theorem Tryz.u172 : Tryz.prog.underlying 172 = some (.int .u8) := rfl
@[go_sem] theorem Tryz.c172 : Tryz.prog.cellsOf 172 = 1 := rfl
@[go_sem] theorem Tryz.s172 : szIs Tryz.prog 172 1 := rfl
@[go_sem] theorem Tryz.a172 : apOK Tryz.prog 172 1 := ⟨_, _, rfl, rfl, rfl, rfl, by decide, by decide⟩
@[go_sem] theorem Tryz.u173 : Tryz.prog.underlying 173 = some (.int .u8) := rfl
@[go_sem] theorem Tryz.c173 : Tryz.prog.cellsOf 173 = 1 := rfl
@[go_sem] theorem Tryz.s173 : szIs Tryz.prog 173 1 := rfl
@[go_sem] theorem Tryz.a173 : apOK Tryz.prog 173 1 := ⟨_, _, rfl, rfl, rfl, rfl, by decide, by decide⟩
@[go_sem] theorem Tryz.c174 : Tryz.prog.cellsOf 174 = 1 := rfl
@[go_sem] theorem Tryz.s174 : szIs Tryz.prog 174 1 := rfl
@[go_sem] theorem Tryz.a174 : apOK Tryz.prog 174 1 := ⟨_, _, rfl, rfl, rfl, rfl, by decide, by decide⟩
@[go_sem] theorem Tryz.u175 : Tryz.prog.underlying 175 = some (.int .i32) := rfl
@[go_sem] theorem Tryz.c175 : Tryz.prog.cellsOf 175 = 1 := rfl
@[go_sem] theorem Tryz.s175 : szIs Tryz.prog 175 1 := rfl
@[go_sem] theorem Tryz.a175 : apOK Tryz.prog 175 1 := ⟨_, _, rfl, rfl, rfl, rfl, by decide, by decide⟩
@[go_sem] theorem Tryz.u176 : Tryz.prog.underlying 176 = some (.int .i32) := rfl
@[go_sem] theorem Tryz.c176 : Tryz.prog.cellsOf 176 = 1 := rfl
@[go_sem] theorem Tryz.s176 : szIs Tryz.prog 176 1 := rfl
@[go_sem] theorem Tryz.a176 : apOK Tryz.prog 176 1 := ⟨_, _, rfl, rfl, rfl, rfl, by decide, by decide⟩
@[go_sem] theorem Tryz.c177 : Tryz.prog.cellsOf 177 = 11 := rfl
@[go_sem] theorem Tryz.s177 : szIs Tryz.prog 177 11 := rfl
@[go_sem] theorem Tryz.a177 : apOK Tryz.prog 177 11 := ⟨_, _, rfl, rfl, rfl, rfl, by decide, by decide⟩
@[go_sem] theorem Tryz.c178 : Tryz.prog.cellsOf 178 = 11 := rfl
@[go_sem] theorem Tryz.s178 : szIs Tryz.prog 178 11 := rfl
@[go_sem] theorem Tryz.a178 : apOK Tryz.prog 178 11 := ⟨_, _, rfl, rfl, rfl, rfl, by decide, by decide⟩
@[go_sem] theorem Tryz.g1 : aggT Tryz.prog 1 = false := rfl
@[go_sem] theorem Tryz.i1 : (Tryz.prog.underlying 1).isSome = true := rfl
@[go_sem] theorem Tryz.z1 : zeroAV Tryz.prog 1 = some (.atom .nilFunc) := rfl
@[go_sem] theorem Tryz.n1 : noIface Tryz.prog 1 = True := rfl
@[go_sem] theorem Tryz.g2 : aggT Tryz.prog 2 = false := rfl
@[go_sem] theorem Tryz.z2 : zeroAV Tryz.prog 2 = some (.int .i64 0) := rfl
@[go_sem] theorem Tryz.n2 : noIface Tryz.prog 2 = True := rfl
@[go_sem] theorem Tryz.g3 : aggT Tryz.prog 3 = false := rfl
@[go_sem] theorem Tryz.z3 : zeroAV Tryz.prog 3 = some (.int .i64 0) := rfl
@[go_sem] theorem Tryz.n3 : noIface Tryz.prog 3 = True := rfl
@[go_sem] theorem Tryz.g4 : aggT Tryz.prog 4 = false := rfl
@[go_sem] theorem Tryz.z4 : zeroAV Tryz.prog 4 = some (.bool false) := rfl
@[go_sem] theorem Tryz.n4 : noIface Tryz.prog 4 = True := rfl
@[go_sem] theorem Tryz.g5 : aggT Tryz.prog 5 = false := rfl
@[go_sem] theorem Tryz.z5 : zeroAV Tryz.prog 5 = some (.int .u8 0) := rfl
@[go_sem] theorem Tryz.n5 : noIface Tryz.prog 5 = True := rfl
@[go_sem] theorem Tryz.g6 : aggT Tryz.prog 6 = false := rfl
@[go_sem] theorem Tryz.z6 : zeroAV Tryz.prog 6 = some (.int .u8 0) := rfl
@[go_sem] theorem Tryz.n6 : noIface Tryz.prog 6 = True := rfl
@[go_sem] theorem Tryz.g7 : aggT Tryz.prog 7 = true := rfl
@[go_sem] theorem Tryz.i7 : (Tryz.prog.underlying 7).isSome = true := rfl
@[go_sem] theorem Tryz.f_7_0 : fieldTy Tryz.prog 7 0 = some (0, 2) := rfl
@[go_sem] theorem Tryz.f_7_1 : fieldTy Tryz.prog 7 1 = some (1, 3) := rfl
@[go_sem] theorem Tryz.f_7_2 : fieldTy Tryz.prog 7 2 = some (2, 4) := rfl
@[go_sem] theorem Tryz.f_7_3 : fieldTy Tryz.prog 7 3 = some (3, 6) := rfl
@[go_sem] theorem Tryz.z7 : zeroAV Tryz.prog 7 = some (.agg [.int .i64 0, .int .i64 0, .bool false, .int .u8 0]) := rfl
@[go_sem] theorem Tryz.p7 : placesOf Tryz.prog 7 = some [(0, 1), (1, 1), (2, 1), (3, 1)] := rfl
@[go_sem] theorem Tryz.e7 : eqFlat Tryz.prog 7 = some [(0, 0), (1, 0), (2, 1), (3, 0)] := by decide +kernel
@[go_sem] theorem Tryz.n7 : noIface Tryz.prog 7 = True := rfl
@[go_sem] theorem Tryz.g8 : aggT Tryz.prog 8 = true := rfl
@[go_sem] theorem Tryz.i8 : (Tryz.prog.underlying 8).isSome = true := rfl
@[go_sem] theorem Tryz.f_8_0 : fieldTy Tryz.prog 8 0 = some (0, 2) := rfl
@[go_sem] theorem Tryz.f_8_1 : fieldTy Tryz.prog 8 1 = some (1, 3) := rfl
@[go_sem] theorem Tryz.f_8_2 : fieldTy Tryz.prog 8 2 = some (2, 4) := rfl
@[go_sem] theorem Tryz.f_8_3 : fieldTy Tryz.prog 8 3 = some (3, 6) := rfl
@[go_sem] theorem Tryz.z8 : zeroAV Tryz.prog 8 = some (.agg [.int .i64 0, .int .i64 0, .bool false, .int .u8 0]) := rfl
@[go_sem] theorem Tryz.p8 : placesOf Tryz.prog 8 = some [(0, 1), (1, 1), (2, 1), (3, 1)] := rfl
@[go_sem] theorem Tryz.e8 : eqFlat Tryz.prog 8 = some [(0, 0), (1, 0), (2, 1), (3, 0)] := by decide +kernel
@[go_sem] theorem Tryz.n8 : noIface Tryz.prog 8 = True := rfl
@[go_sem] theorem Tryz.g9 : aggT Tryz.prog 9 = false := rfl
@[go_sem] theorem Tryz.z9 : zeroAV Tryz.prog 9 = some (.str []) := rfl
@[go_sem] theorem Tryz.n9 : noIface Tryz.prog 9 = True := rfl
@[go_sem] theorem Tryz.g10 : aggT Tryz.prog 10 = false := rfl
@[go_sem] theorem Tryz.z10 : zeroAV Tryz.prog 10 = some (.str []) := rfl
@[go_sem] theorem Tryz.n10 : noIface Tryz.prog 10 = True := rfl
@[go_sem] theorem Tryz.g11 : aggT Tryz.prog 11 = false := rfl
@[go_sem] theorem Tryz.z11 : zeroAV Tryz.prog 11 = some (.str []) := rfl
@[go_sem] theorem Tryz.n11 : noIface Tryz.prog 11 = True := rfl
@[go_sem] theorem Tryz.g12 : aggT Tryz.prog 12 = false := rfl
@[go_sem] theorem Tryz.z12 : zeroAV Tryz.prog 12 = some (.int .u64 0) := rfl
@[go_sem] theorem Tryz.n12 : noIface Tryz.prog 12 = True := rfl
@[go_sem] theorem Tryz.g13 : aggT Tryz.prog 13 = true := rfl
@[go_sem] theorem Tryz.i13 : (Tryz.prog.underlying 13).isSome = true := rfl
@[go_sem] theorem Tryz.f_13_0 : fieldTy Tryz.prog 13 0 = some (0, 9) := rfl
@[go_sem] theorem Tryz.f_13_1 : fieldTy Tryz.prog 13 1 = some (1, 12) := rfl
@[go_sem] theorem Tryz.z13 : zeroAV Tryz.prog 13 = some (.agg [.str [], .int .u64 0]) := rfl
@[go_sem] theorem Tryz.p13 : placesOf Tryz.prog 13 = some [(0, 1), (1, 1)] := rfl
@[go_sem] theorem Tryz.n13 : noIface Tryz.prog 13 = True := rfl
@[go_sem] theorem Tryz.g14 : aggT Tryz.prog 14 = true := rfl
@[go_sem] theorem Tryz.i14 : (Tryz.prog.underlying 14).isSome = true := rfl
@[go_sem] theorem Tryz.f_14_0 : fieldTy Tryz.prog 14 0 = some (0, 9) := rfl
@[go_sem] theorem Tryz.f_14_1 : fieldTy Tryz.prog 14 1 = some (1, 12) := rfl
@[go_sem] theorem Tryz.z14 : zeroAV Tryz.prog 14 = some (.agg [.str [], .int .u64 0]) := rfl
@[go_sem] theorem Tryz.p14 : placesOf Tryz.prog 14 = some [(0, 1), (1, 1)] := rfl
@[go_sem] theorem Tryz.n14 : noIface Tryz.prog 14 = True := rfl
@[go_sem] theorem Tryz.g15 : aggT Tryz.prog 15 = false := rfl
@[go_sem] theorem Tryz.z15 : zeroAV Tryz.prog 15 = some (.atom (.pointer none)) := rfl
@[go_sem] theorem Tryz.n15 : noIface Tryz.prog 15 = True := rfl
@[go_sem] theorem Tryz.g16 : aggT Tryz.prog 16 = false := rfl
@[go_sem] theorem Tryz.z16 : zeroAV Tryz.prog 16 = some (.atom (.pointer none)) := rfl
@[go_sem] theorem Tryz.n16 : noIface Tryz.prog 16 = True := rfl
@[go_sem] theorem Tryz.g17 : aggT Tryz.prog 17 = false := rfl
@[go_sem] theorem Tryz.z17 : zeroAV Tryz.prog 17 = some (.atom (.pointer none)) := rfl
@[go_sem] theorem Tryz.n17 : noIface Tryz.prog 17 = True := rfl
@[go_sem] theorem Tryz.g18 : aggT Tryz.prog 18 = true := rfl
@[go_sem] theorem Tryz.i18 : (Tryz.prog.underlying 18).isSome = true := rfl
@[go_sem] theorem Tryz.f_18_0 : fieldTy Tryz.prog 18 0 = some (0, 17) := rfl
@[go_sem] theorem Tryz.z18 : zeroAV Tryz.prog 18 = some (.agg [.atom (.pointer none)]) := rfl
@[go_sem] theorem Tryz.p18 : placesOf Tryz.prog 18 = some [(0, 1)] := rfl
@[go_sem] theorem Tryz.n18 : noIface Tryz.prog 18 = True := rfl
@[go_sem] theorem Tryz.g19 : aggT Tryz.prog 19 = true := rfl
@[go_sem] theorem Tryz.i19 : (Tryz.prog.underlying 19).isSome = true := rfl
@[go_sem] theorem Tryz.f_19_0 : fieldTy Tryz.prog 19 0 = some (0, 17) := rfl
@[go_sem] theorem Tryz.z19 : zeroAV Tryz.prog 19 = some (.agg [.atom (.pointer none)]) := rfl
@[go_sem] theorem Tryz.p19 : placesOf Tryz.prog 19 = some [(0, 1)] := rfl
@[go_sem] theorem Tryz.n19 : noIface Tryz.prog 19 = True := rfl
@[go_sem] theorem Tryz.g20 : aggT Tryz.prog 20 = false := rfl
@[go_sem] theorem Tryz.i20 : (Tryz.prog.underlying 20).isSome = true := rfl
@[go_sem] theorem Tryz.z20 : zeroAV Tryz.prog 20 = some (.atom .nilIface) := rfl
@[go_sem] theorem Tryz.g21 : aggT Tryz.prog 21 = false := rfl
@[go_sem] theorem Tryz.z21 : zeroAV Tryz.prog 21 = some (.int .i32 0) := rfl
@[go_sem] theorem Tryz.n21 : noIface Tryz.prog 21 = True := rfl
@[go_sem] theorem Tryz.g22 : aggT Tryz.prog 22 = false := rfl
@[go_sem] theorem Tryz.z22 : zeroAV Tryz.prog 22 = some (.sl true 1 []) := rfl
@[go_sem] theorem Tryz.n22 : noIface Tryz.prog 22 = True := rfl
@[go_sem] theorem Tryz.g23 : aggT Tryz.prog 23 = true := rfl
@[go_sem] theorem Tryz.z23 : zeroAV Tryz.prog 23 = some (.agg [.int .u8 0, .int .u8 0, .int .u8 0]) := rfl
@[go_sem] theorem Tryz.e23 : eqFlat Tryz.prog 23 = some [(0, 0), (1, 0), (2, 0)] := by decide +kernel
@[go_sem] theorem Tryz.p23 : placesOf Tryz.prog 23 = some [(0, 1), (1, 1), (2, 1)] := rfl
@[go_sem] theorem Tryz.n23 : noIface Tryz.prog 23 = True := rfl
@[go_sem] theorem Tryz.g24 : aggT Tryz.prog 24 = false := rfl
@[go_sem] theorem Tryz.i24 : (Tryz.prog.underlying 24).isSome = true := rfl
@[go_sem] theorem Tryz.z24 : zeroAV Tryz.prog 24 = some (.atom .nilFunc) := rfl
@[go_sem] theorem Tryz.n24 : noIface Tryz.prog 24 = True := rfl
@[go_sem] theorem Tryz.g25 : aggT Tryz.prog 25 = false := rfl
@[go_sem] theorem Tryz.z25 : zeroAV Tryz.prog 25 = some (.sl true 1 []) := rfl
@[go_sem] theorem Tryz.n25 : noIface Tryz.prog 25 = True := rfl
@[go_sem] theorem Tryz.g26 : aggT Tryz.prog 26 = false := rfl
@[go_sem] theorem Tryz.z26 : zeroAV Tryz.prog 26 = some (.sl true 1 []) := rfl
@[go_sem] theorem Tryz.n26 : noIface Tryz.prog 26 = True := rfl
@[go_sem] theorem Tryz.g27 : aggT Tryz.prog 27 = true := rfl
@[go_sem] theorem Tryz.z27 : zeroAV Tryz.prog 27 = some (.agg [.int .i64 0, .int .i64 0, .int .i64 0, .int .i64 0, .int .i64 0, .int .i64 0, .int .i64 0, .int .i64 0]) := rfl
@[go_sem] theorem Tryz.e27 : eqFlat Tryz.prog 27 = some [(0, 0), (1, 0), (2, 0), (3, 0), (4, 0), (5, 0), (6, 0), (7, 0)] := by decide +kernel
@[go_sem] theorem Tryz.p27 : placesOf Tryz.prog 27 = some [(0, 1), (1, 1), (2, 1), (3, 1), (4, 1), (5, 1), (6, 1), (7, 1)] := rfl
@[go_sem] theorem Tryz.n27 : noIface Tryz.prog 27 = True := rfl
@[go_sem] theorem Tryz.g28 : aggT Tryz.prog 28 = true := rfl
@[go_sem] theorem Tryz.i28 : (Tryz.prog.underlying 28).isSome = true := rfl
@[go_sem] theorem Tryz.f_28_0 : fieldTy Tryz.prog 28 0 = some (0, 25) := rfl
@[go_sem] theorem Tryz.f_28_1 : fieldTy Tryz.prog 28 1 = some (1, 26) := rfl
@[go_sem] theorem Tryz.f_28_2 : fieldTy Tryz.prog 28 2 = some (2, 27) := rfl
@[go_sem] theorem Tryz.z28 : zeroAV Tryz.prog 28 = some (.agg [.sl true 1 [], .sl true 1 [], .int .i64 0, .int .i64 0, .int .i64 0, .int .i64 0, .int .i64 0, .int .i64 0, .int .i64 0, .int .i64 0]) := rfl
@[go_sem] theorem Tryz.p28 : placesOf Tryz.prog 28 = some [(0, 1), (1, 1), (2, 8)] := rfl
@[go_sem] theorem Tryz.n28 : noIface Tryz.prog 28 = True := rfl
@[go_sem] theorem Tryz.g29 : aggT Tryz.prog 29 = true := rfl
@[go_sem] theorem Tryz.i29 : (Tryz.prog.underlying 29).isSome = true := rfl
@[go_sem] theorem Tryz.f_29_0 : fieldTy Tryz.prog 29 0 = some (0, 25) := rfl
@[go_sem] theorem Tryz.f_29_1 : fieldTy Tryz.prog 29 1 = some (1, 26) := rfl
@[go_sem] theorem Tryz.f_29_2 : fieldTy Tryz.prog 29 2 = some (2, 27) := rfl
@[go_sem] theorem Tryz.z29 : zeroAV Tryz.prog 29 = some (.agg [.sl true 1 [], .sl true 1 [], .int .i64 0, .int .i64 0, .int .i64 0, .int .i64 0, .int .i64 0, .int .i64 0, .int .i64 0, .int .i64 0]) := rfl
@[go_sem] theorem Tryz.p29 : placesOf Tryz.prog 29 = some [(0, 1), (1, 1), (2, 8)] := rfl
@[go_sem] theorem Tryz.n29 : noIface Tryz.prog 29 = True := rfl
@[go_sem] theorem Tryz.g30 : aggT Tryz.prog 30 = true := rfl
@[go_sem] theorem Tryz.z30 : zeroAV Tryz.prog 30 = some (.agg [.sl true 1 [], .sl true 1 [], .int .i64 0, .int .i64 0, .int .i64 0, .int .i64 0, .int .i64 0, .int .i64 0, .int .i64 0, .int .i64 0, .sl true 1 [], .sl true 1 [], .int .i64 0, .int .i64 0, .int .i64 0, .int .i64 0, .int .i64 0, .int .i64 0, .int .i64 0, .int .i64 0, .sl true 1 [], .sl true 1 [], .int .i64 0, .int .i64 0, .int .i64 0, .int .i64 0, .int .i64 0, .int .i64 0, .int .i64 0, .int .i64 0]) := rfl
@[go_sem] theorem Tryz.p30 : placesOf Tryz.prog 30 = some [(0, 10), (10, 10), (20, 10)] := rfl
@[go_sem] theorem Tryz.n30 : noIface Tryz.prog 30 = True := rfl
@[go_sem] theorem Tryz.g31 : aggT Tryz.prog 31 = true := rfl
@[go_sem] theorem Tryz.z31 : zeroAV Tryz.prog 31 = some (.agg [.sl true 1 [], .sl true 1 [], .int .i64 0, .int .i64 0, .int .i64 0, .int .i64 0, .int .i64 0, .int .i64 0, .int .i64 0, .int .i64 0, .sl true 1 [], .sl true 1 [], .int .i64 0, .int .i64 0, .int .i64 0, .int .i64 0, .int .i64 0, .int .i64 0, .int .i64 0, .int .i64 0, .sl true 1 [], .sl true 1 [], .int .i64 0, .int .i64 0, .int .i64 0, .int .i64 0, .int .i64 0, .int .i64 0, .int .i64 0, .int .i64 0]) := rfl
@[go_sem] theorem Tryz.p31 : placesOf Tryz.prog 31 = some [(0, 10), (10, 10), (20, 10)] := rfl
@[go_sem] theorem Tryz.n31 : noIface Tryz.prog 31 = True := rfl
@[go_sem] theorem Tryz.g32 : aggT Tryz.prog 32 = false := rfl
@[go_sem] theorem Tryz.i32 : (Tryz.prog.underlying 32).isSome = true := rfl
@[go_sem] theorem Tryz.z32 : zeroAV Tryz.prog 32 = some (.atom .nilFunc) := rfl
@[go_sem] theorem Tryz.n32 : noIface Tryz.prog 32 = True := rfl
@[go_sem] theorem Tryz.g33 : aggT Tryz.prog 33 = false := rfl
@[go_sem] theorem Tryz.z33 : zeroAV Tryz.prog 33 = some (.int .i64 0) := rfl
@[go_sem] theorem Tryz.n33 : noIface Tryz.prog 33 = True := rfl
@[go_sem] theorem Tryz.g35 : aggT Tryz.prog 35 = false := rfl
@[go_sem] theorem Tryz.i35 : (Tryz.prog.underlying 35).isSome = true := rfl
@[go_sem] theorem Tryz.z35 : zeroAV Tryz.prog 35 = some (.atom .nilFunc) := rfl
@[go_sem] theorem Tryz.n35 : noIface Tryz.prog 35 = True := rfl
@[go_sem] theorem Tryz.g36 : aggT Tryz.prog 36 = false := rfl
@[go_sem] theorem Tryz.i36 : (Tryz.prog.underlying 36).isSome = true := rfl
@[go_sem] theorem Tryz.z36 : zeroAV Tryz.prog 36 = some (.atom .nilFunc) := rfl
@[go_sem] theorem Tryz.n36 : noIface Tryz.prog 36 = True := rfl
@[go_sem] theorem Tryz.g37 : aggT Tryz.prog 37 = false := rfl
@[go_sem] theorem Tryz.i37 : (Tryz.prog.underlying 37).isSome = true := rfl
@[go_sem] theorem Tryz.z37 : zeroAV Tryz.prog 37 = some (.atom .nilFunc) := rfl
@[go_sem] theorem Tryz.n37 : noIface Tryz.prog 37 = True := rfl
@[go_sem] theorem Tryz.g38 : aggT Tryz.prog 38 = true := rfl
@[go_sem] theorem Tryz.i38 : (Tryz.prog.underlying 38).isSome = true := rfl
@[go_sem] theorem Tryz.f_38_0 : fieldTy Tryz.prog 38 0 = some (0, 3) := rfl
@[go_sem] theorem Tryz.f_38_1 : fieldTy Tryz.prog 38 1 = some (1, 3) := rfl
@[go_sem] theorem Tryz.f_38_2 : fieldTy Tryz.prog 38 2 = some (2, 3) := rfl
@[go_sem] theorem Tryz.f_38_3 : fieldTy Tryz.prog 38 3 = some (3, 9) := rfl
@[go_sem] theorem Tryz.f_38_4 : fieldTy Tryz.prog 38 4 = some (4, 3) := rfl
@[go_sem] theorem Tryz.f_38_5 : fieldTy Tryz.prog 38 5 = some (5, 3) := rfl
@[go_sem] theorem Tryz.z38 : zeroAV Tryz.prog 38 = some (.agg [.int .i64 0, .int .i64 0, .int .i64 0, .str [], .int .i64 0, .int .i64 0]) := rfl
@[go_sem] theorem Tryz.p38 : placesOf Tryz.prog 38 = some [(0, 1), (1, 1), (2, 1), (3, 1), (4, 1), (5, 1)] := rfl
@[go_sem] theorem Tryz.e38 : eqFlat Tryz.prog 38 = some [(0, 0), (1, 0), (2, 0), (3, 2), (4, 0), (5, 0)] := by decide +kernel
@[go_sem] theorem Tryz.n38 : noIface Tryz.prog 38 = True := rfl
@[go_sem] theorem Tryz.g39 : aggT Tryz.prog 39 = true := rfl
@[go_sem] theorem Tryz.i39 : (Tryz.prog.underlying 39).isSome = true := rfl
@[go_sem] theorem Tryz.f_39_0 : fieldTy Tryz.prog 39 0 = some (0, 3) := rfl
@[go_sem] theorem Tryz.f_39_1 : fieldTy Tryz.prog 39 1 = some (1, 3) := rfl
@[go_sem] theorem Tryz.f_39_2 : fieldTy Tryz.prog 39 2 = some (2, 3) := rfl
@[go_sem] theorem Tryz.f_39_3 : fieldTy Tryz.prog 39 3 = some (3, 9) := rfl
@[go_sem] theorem Tryz.f_39_4 : fieldTy Tryz.prog 39 4 = some (4, 3) := rfl
@[go_sem] theorem Tryz.f_39_5 : fieldTy Tryz.prog 39 5 = some (5, 3) := rfl
@[go_sem] theorem Tryz.z39 : zeroAV Tryz.prog 39 = some (.agg [.int .i64 0, .int .i64 0, .int .i64 0, .str [], .int .i64 0, .int .i64 0]) := rfl
@[go_sem] theorem Tryz.p39 : placesOf Tryz.prog 39 = some [(0, 1), (1, 1), (2, 1), (3, 1), (4, 1), (5, 1)] := rfl
@[go_sem] theorem Tryz.e39 : eqFlat Tryz.prog 39 = some [(0, 0), (1, 0), (2, 0), (3, 2), (4, 0), (5, 0)] := by decide +kernel
@[go_sem] theorem Tryz.n39 : noIface Tryz.prog 39 = True := rfl
@[go_sem] theorem Tryz.g40 : aggT Tryz.prog 40 = false := rfl
@[go_sem] theorem Tryz.i40 : (Tryz.prog.underlying 40).isSome = true := rfl
@[go_sem] theorem Tryz.z40 : zeroAV Tryz.prog 40 = some (.atom .nilFunc) := rfl
@[go_sem] theorem Tryz.n40 : noIface Tryz.prog 40 = True := rfl
@[go_sem] theorem Tryz.g41 : aggT Tryz.prog 41 = false := rfl
@[go_sem] theorem Tryz.i41 : (Tryz.prog.underlying 41).isSome = true := rfl
@[go_sem] theorem Tryz.z41 : zeroAV Tryz.prog 41 = some (.atom .nilFunc) := rfl
@[go_sem] theorem Tryz.n41 : noIface Tryz.prog 41 = True := rfl
@[go_sem] theorem Tryz.g42 : aggT Tryz.prog 42 = false := rfl
@[go_sem] theorem Tryz.i42 : (Tryz.prog.underlying 42).isSome = true := rfl
@[go_sem] theorem Tryz.z42 : zeroAV Tryz.prog 42 = some (.atom .nilFunc) := rfl
@[go_sem] theorem Tryz.n42 : noIface Tryz.prog 42 = True := rfl
@[go_sem] theorem Tryz.g43 : aggT Tryz.prog 43 = false := rfl
@[go_sem] theorem Tryz.i43 : (Tryz.prog.underlying 43).isSome = true := rfl
@[go_sem] theorem Tryz.z43 : zeroAV Tryz.prog 43 = some (.atom .nilFunc) := rfl
@[go_sem] theorem Tryz.n43 : noIface Tryz.prog 43 = True := rfl
@[go_sem] theorem Tryz.g45 : aggT Tryz.prog 45 = false := rfl
@[go_sem] theorem Tryz.i45 : (Tryz.prog.underlying 45).isSome = true := rfl
@[go_sem] theorem Tryz.z45 : zeroAV Tryz.prog 45 = some (.atom .nilFunc) := rfl
@[go_sem] theorem Tryz.n45 : noIface Tryz.prog 45 = True := rfl
@[go_sem] theorem Tryz.g46 : aggT Tryz.prog 46 = false := rfl
@[go_sem] theorem Tryz.z46 : zeroAV Tryz.prog 46 = some (.sl true 1 []) := rfl
@[go_sem] theorem Tryz.n46 : noIface Tryz.prog 46 = True := rfl
@[go_sem] theorem Tryz.g48 : aggT Tryz.prog 48 = false := rfl
@[go_sem] theorem Tryz.i48 : (Tryz.prog.underlying 48).isSome = true := rfl
@[go_sem] theorem Tryz.z48 : zeroAV Tryz.prog 48 = some (.atom .nilFunc) := rfl
@[go_sem] theorem Tryz.n48 : noIface Tryz.prog 48 = True := rfl
@[go_sem] theorem Tryz.g49 : aggT Tryz.prog 49 = false := rfl
@[go_sem] theorem Tryz.i49 : (Tryz.prog.underlying 49).isSome = true := rfl
@[go_sem] theorem Tryz.z49 : zeroAV Tryz.prog 49 = some (.atom .nilFunc) := rfl
@[go_sem] theorem Tryz.n49 : noIface Tryz.prog 49 = True := rfl
@[go_sem] theorem Tryz.g50 : aggT Tryz.prog 50 = false := rfl
@[go_sem] theorem Tryz.z50 : zeroAV Tryz.prog 50 = some (.sl true 1 []) := rfl
@[go_sem] theorem Tryz.n50 : noIface Tryz.prog 50 = True := rfl
@[go_sem] theorem Tryz.g52 : aggT Tryz.prog 52 = false := rfl
@[go_sem] theorem Tryz.i52 : (Tryz.prog.underlying 52).isSome = true := rfl
@[go_sem] theorem Tryz.z52 : zeroAV Tryz.prog 52 = some (.atom .nilFunc) := rfl
@[go_sem] theorem Tryz.n52 : noIface Tryz.prog 52 = True := rfl
@[go_sem] theorem Tryz.g53 : aggT Tryz.prog 53 = false := rfl
@[go_sem] theorem Tryz.i53 : (Tryz.prog.underlying 53).isSome = true := rfl
@[go_sem] theorem Tryz.z53 : zeroAV Tryz.prog 53 = some (.atom .nilFunc) := rfl
@[go_sem] theorem Tryz.n53 : noIface Tryz.prog 53 = True := rfl
@[go_sem] theorem Tryz.g54 : aggT Tryz.prog 54 = true := rfl
@[go_sem] theorem Tryz.i54 : (Tryz.prog.underlying 54).isSome = true := rfl
@[go_sem] theorem Tryz.f_54_0 : fieldTy Tryz.prog 54 0 = some (0, 5) := rfl
@[go_sem] theorem Tryz.f_54_1 : fieldTy Tryz.prog 54 1 = some (1, 5) := rfl
@[go_sem] theorem Tryz.f_54_2 : fieldTy Tryz.prog 54 2 = some (2, 5) := rfl
@[go_sem] theorem Tryz.f_54_3 : fieldTy Tryz.prog 54 3 = some (3, 5) := rfl
@[go_sem] theorem Tryz.f_54_4 : fieldTy Tryz.prog 54 4 = some (4, 5) := rfl
@[go_sem] theorem Tryz.f_54_5 : fieldTy Tryz.prog 54 5 = some (5, 5) := rfl
@[go_sem] theorem Tryz.z54 : zeroAV Tryz.prog 54 = some (.agg [.int .u8 0, .int .u8 0, .int .u8 0, .int .u8 0, .int .u8 0, .int .u8 0]) := rfl
@[go_sem] theorem Tryz.p54 : placesOf Tryz.prog 54 = some [(0, 1), (1, 1), (2, 1), (3, 1), (4, 1), (5, 1)] := rfl
@[go_sem] theorem Tryz.e54 : eqFlat Tryz.prog 54 = some [(0, 0), (1, 0), (2, 0), (3, 0), (4, 0), (5, 0)] := by decide +kernel
@[go_sem] theorem Tryz.n54 : noIface Tryz.prog 54 = True := rfl
@[go_sem] theorem Tryz.g55 : aggT Tryz.prog 55 = true := rfl
@[go_sem] theorem Tryz.i55 : (Tryz.prog.underlying 55).isSome = true := rfl
@[go_sem] theorem Tryz.f_55_0 : fieldTy Tryz.prog 55 0 = some (0, 5) := rfl
@[go_sem] theorem Tryz.f_55_1 : fieldTy Tryz.prog 55 1 = some (1, 5) := rfl
@[go_sem] theorem Tryz.f_55_2 : fieldTy Tryz.prog 55 2 = some (2, 5) := rfl
@[go_sem] theorem Tryz.f_55_3 : fieldTy Tryz.prog 55 3 = some (3, 5) := rfl
@[go_sem] theorem Tryz.f_55_4 : fieldTy Tryz.prog 55 4 = some (4, 5) := rfl
@[go_sem] theorem Tryz.f_55_5 : fieldTy Tryz.prog 55 5 = some (5, 5) := rfl
@[go_sem] theorem Tryz.z55 : zeroAV Tryz.prog 55 = some (.agg [.int .u8 0, .int .u8 0, .int .u8 0, .int .u8 0, .int .u8 0, .int .u8 0]) := rfl
@[go_sem] theorem Tryz.p55 : placesOf Tryz.prog 55 = some [(0, 1), (1, 1), (2, 1), (3, 1), (4, 1), (5, 1)] := rfl
@[go_sem] theorem Tryz.e55 : eqFlat Tryz.prog 55 = some [(0, 0), (1, 0), (2, 0), (3, 0), (4, 0), (5, 0)] := by decide +kernel
@[go_sem] theorem Tryz.n55 : noIface Tryz.prog 55 = True := rfl
@[go_sem] theorem Tryz.g56 : aggT Tryz.prog 56 = true := rfl
@[go_sem] theorem Tryz.i56 : (Tryz.prog.underlying 56).isSome = true := rfl
@[go_sem] theorem Tryz.f_56_0 : fieldTy Tryz.prog 56 0 = some (0, 55) := rfl
@[go_sem] theorem Tryz.f_56_1 : fieldTy Tryz.prog 56 1 = some (6, 4) := rfl
@[go_sem] theorem Tryz.f_56_2 : fieldTy Tryz.prog 56 2 = some (7, 5) := rfl
@[go_sem] theorem Tryz.z56 : zeroAV Tryz.prog 56 = some (.agg [.int .u8 0, .int .u8 0, .int .u8 0, .int .u8 0, .int .u8 0, .int .u8 0, .bool false, .int .u8 0]) := rfl
@[go_sem] theorem Tryz.p56 : placesOf Tryz.prog 56 = some [(0, 6), (6, 1), (7, 1)] := rfl
@[go_sem] theorem Tryz.e56 : eqFlat Tryz.prog 56 = some [(0, 0), (1, 0), (2, 0), (3, 0), (4, 0), (5, 0), (6, 1), (7, 0)] := by decide +kernel
@[go_sem] theorem Tryz.n56 : noIface Tryz.prog 56 = True := rfl
@[go_sem] theorem Tryz.g57 : aggT Tryz.prog 57 = true := rfl
@[go_sem] theorem Tryz.i57 : (Tryz.prog.underlying 57).isSome = true := rfl
@[go_sem] theorem Tryz.f_57_0 : fieldTy Tryz.prog 57 0 = some (0, 55) := rfl
@[go_sem] theorem Tryz.f_57_1 : fieldTy Tryz.prog 57 1 = some (6, 4) := rfl
@[go_sem] theorem Tryz.f_57_2 : fieldTy Tryz.prog 57 2 = some (7, 5) := rfl
@[go_sem] theorem Tryz.z57 : zeroAV Tryz.prog 57 = some (.agg [.int .u8 0, .int .u8 0, .int .u8 0, .int .u8 0, .int .u8 0, .int .u8 0, .bool false, .int .u8 0]) := rfl
@[go_sem] theorem Tryz.p57 : placesOf Tryz.prog 57 = some [(0, 6), (6, 1), (7, 1)] := rfl
@[go_sem] theorem Tryz.e57 : eqFlat Tryz.prog 57 = some [(0, 0), (1, 0), (2, 0), (3, 0), (4, 0), (5, 0), (6, 1), (7, 0)] := by decide +kernel
@[go_sem] theorem Tryz.n57 : noIface Tryz.prog 57 = True := rfl
@[go_sem] theorem Tryz.g59 : aggT Tryz.prog 59 = false := rfl
@[go_sem] theorem Tryz.i59 : (Tryz.prog.underlying 59).isSome = true := rfl
@[go_sem] theorem Tryz.z59 : zeroAV Tryz.prog 59 = some (.atom .nilFunc) := rfl
@[go_sem] theorem Tryz.n59 : noIface Tryz.prog 59 = True := rfl
@[go_sem] theorem Tryz.g60 : aggT Tryz.prog 60 = false := rfl
@[go_sem] theorem Tryz.i60 : (Tryz.prog.underlying 60).isSome = true := rfl
@[go_sem] theorem Tryz.z60 : zeroAV Tryz.prog 60 = some (.atom .nilFunc) := rfl
@[go_sem] theorem Tryz.n60 : noIface Tryz.prog 60 = True := rfl
@[go_sem] theorem Tryz.g61 : aggT Tryz.prog 61 = false := rfl
@[go_sem] theorem Tryz.i61 : (Tryz.prog.underlying 61).isSome = true := rfl
@[go_sem] theorem Tryz.z61 : zeroAV Tryz.prog 61 = some (.atom .nilFunc) := rfl
@[go_sem] theorem Tryz.n61 : noIface Tryz.prog 61 = True := rfl
@[go_sem] theorem Tryz.g62 : aggT Tryz.prog 62 = false := rfl
@[go_sem] theorem Tryz.i62 : (Tryz.prog.underlying 62).isSome = true := rfl
@[go_sem] theorem Tryz.z62 : zeroAV Tryz.prog 62 = some (.atom .nilFunc) := rfl
@[go_sem] theorem Tryz.n62 : noIface Tryz.prog 62 = True := rfl
@[go_sem] theorem Tryz.g63 : aggT Tryz.prog 63 = true := rfl
@[go_sem] theorem Tryz.i63 : (Tryz.prog.underlying 63).isSome = true := rfl
@[go_sem] theorem Tryz.f_63_0 : fieldTy Tryz.prog 63 0 = some (0, 3) := rfl
@[go_sem] theorem Tryz.f_63_1 : fieldTy Tryz.prog 63 1 = some (1, 3) := rfl
@[go_sem] theorem Tryz.z63 : zeroAV Tryz.prog 63 = some (.agg [.int .i64 0, .int .i64 0]) := rfl
@[go_sem] theorem Tryz.p63 : placesOf Tryz.prog 63 = some [(0, 1), (1, 1)] := rfl
@[go_sem] theorem Tryz.e63 : eqFlat Tryz.prog 63 = some [(0, 0), (1, 0)] := by decide +kernel
@[go_sem] theorem Tryz.n63 : noIface Tryz.prog 63 = True := rfl
@[go_sem] theorem Tryz.g64 : aggT Tryz.prog 64 = true := rfl
@[go_sem] theorem Tryz.i64 : (Tryz.prog.underlying 64).isSome = true := rfl
@[go_sem] theorem Tryz.f_64_0 : fieldTy Tryz.prog 64 0 = some (0, 3) := rfl
@[go_sem] theorem Tryz.f_64_1 : fieldTy Tryz.prog 64 1 = some (1, 3) := rfl
@[go_sem] theorem Tryz.z64 : zeroAV Tryz.prog 64 = some (.agg [.int .i64 0, .int .i64 0]) := rfl
@[go_sem] theorem Tryz.p64 : placesOf Tryz.prog 64 = some [(0, 1), (1, 1)] := rfl
@[go_sem] theorem Tryz.e64 : eqFlat Tryz.prog 64 = some [(0, 0), (1, 0)] := by decide +kernel
@[go_sem] theorem Tryz.n64 : noIface Tryz.prog 64 = True := rfl
@[go_sem] theorem Tryz.g65 : aggT Tryz.prog 65 = true := rfl
@[go_sem] theorem Tryz.i65 : (Tryz.prog.underlying 65).isSome = true := rfl
@[go_sem] theorem Tryz.f_65_0 : fieldTy Tryz.prog 65 0 = some (0, 60) := rfl
@[go_sem] theorem Tryz.f_65_1 : fieldTy Tryz.prog 65 1 = some (1, 61) := rfl
@[go_sem] theorem Tryz.z65 : zeroAV Tryz.prog 65 = some (.agg [.atom .nilFunc, .atom .nilFunc]) := rfl
@[go_sem] theorem Tryz.p65 : placesOf Tryz.prog 65 = some [(0, 1), (1, 1)] := rfl
@[go_sem] theorem Tryz.n65 : noIface Tryz.prog 65 = True := rfl
@[go_sem] theorem Tryz.g66 : aggT Tryz.prog 66 = true := rfl
@[go_sem] theorem Tryz.i66 : (Tryz.prog.underlying 66).isSome = true := rfl
@[go_sem] theorem Tryz.f_66_0 : fieldTy Tryz.prog 66 0 = some (0, 60) := rfl
@[go_sem] theorem Tryz.f_66_1 : fieldTy Tryz.prog 66 1 = some (1, 61) := rfl
@[go_sem] theorem Tryz.z66 : zeroAV Tryz.prog 66 = some (.agg [.atom .nilFunc, .atom .nilFunc]) := rfl
@[go_sem] theorem Tryz.p66 : placesOf Tryz.prog 66 = some [(0, 1), (1, 1)] := rfl
@[go_sem] theorem Tryz.n66 : noIface Tryz.prog 66 = True := rfl
@[go_sem] theorem Tryz.g68 : aggT Tryz.prog 68 = false := rfl
@[go_sem] theorem Tryz.i68 : (Tryz.prog.underlying 68).isSome = true := rfl
@[go_sem] theorem Tryz.z68 : zeroAV Tryz.prog 68 = some (.atom .nilFunc) := rfl
@[go_sem] theorem Tryz.n68 : noIface Tryz.prog 68 = True := rfl
@[go_sem] theorem Tryz.g69 : aggT Tryz.prog 69 = true := rfl
@[go_sem] theorem Tryz.i69 : (Tryz.prog.underlying 69).isSome = true := rfl
@[go_sem] theorem Tryz.f_69_0 : fieldTy Tryz.prog 69 0 = some (0, 3) := rfl
@[go_sem] theorem Tryz.f_69_1 : fieldTy Tryz.prog 69 1 = some (1, 3) := rfl
@[go_sem] theorem Tryz.f_69_2 : fieldTy Tryz.prog 69 2 = some (2, 3) := rfl
@[go_sem] theorem Tryz.f_69_3 : fieldTy Tryz.prog 69 3 = some (3, 3) := rfl
@[go_sem] theorem Tryz.f_69_4 : fieldTy Tryz.prog 69 4 = some (4, 9) := rfl
@[go_sem] theorem Tryz.f_69_5 : fieldTy Tryz.prog 69 5 = some (5, 3) := rfl
@[go_sem] theorem Tryz.f_69_6 : fieldTy Tryz.prog 69 6 = some (6, 3) := rfl
@[go_sem] theorem Tryz.z69 : zeroAV Tryz.prog 69 = some (.agg [.int .i64 0, .int .i64 0, .int .i64 0, .int .i64 0, .str [], .int .i64 0, .int .i64 0]) := rfl
@[go_sem] theorem Tryz.p69 : placesOf Tryz.prog 69 = some [(0, 1), (1, 1), (2, 1), (3, 1), (4, 1), (5, 1), (6, 1)] := rfl
@[go_sem] theorem Tryz.e69 : eqFlat Tryz.prog 69 = some [(0, 0), (1, 0), (2, 0), (3, 0), (4, 2), (5, 0), (6, 0)] := by decide +kernel
@[go_sem] theorem Tryz.n69 : noIface Tryz.prog 69 = True := rfl
@[go_sem] theorem Tryz.g70 : aggT Tryz.prog 70 = true := rfl
@[go_sem] theorem Tryz.i70 : (Tryz.prog.underlying 70).isSome = true := rfl
@[go_sem] theorem Tryz.f_70_0 : fieldTy Tryz.prog 70 0 = some (0, 3) := rfl
@[go_sem] theorem Tryz.f_70_1 : fieldTy Tryz.prog 70 1 = some (1, 3) := rfl
@[go_sem] theorem Tryz.f_70_2 : fieldTy Tryz.prog 70 2 = some (2, 3) := rfl
@[go_sem] theorem Tryz.f_70_3 : fieldTy Tryz.prog 70 3 = some (3, 3) := rfl
@[go_sem] theorem Tryz.f_70_4 : fieldTy Tryz.prog 70 4 = some (4, 9) := rfl
@[go_sem] theorem Tryz.f_70_5 : fieldTy Tryz.prog 70 5 = some (5, 3) := rfl
@[go_sem] theorem Tryz.f_70_6 : fieldTy Tryz.prog 70 6 = some (6, 3) := rfl
@[go_sem] theorem Tryz.z70 : zeroAV Tryz.prog 70 = some (.agg [.int .i64 0, .int .i64 0, .int .i64 0, .int .i64 0, .str [], .int .i64 0, .int .i64 0]) := rfl
@[go_sem] theorem Tryz.p70 : placesOf Tryz.prog 70 = some [(0, 1), (1, 1), (2, 1), (3, 1), (4, 1), (5, 1), (6, 1)] := rfl
@[go_sem] theorem Tryz.e70 : eqFlat Tryz.prog 70 = some [(0, 0), (1, 0), (2, 0), (3, 0), (4, 2), (5, 0), (6, 0)] := by decide +kernel
@[go_sem] theorem Tryz.n70 : noIface Tryz.prog 70 = True := rfl
@[go_sem] theorem Tryz.g71 : aggT Tryz.prog 71 = false := rfl
@[go_sem] theorem Tryz.i71 : (Tryz.prog.underlying 71).isSome = true := rfl
@[go_sem] theorem Tryz.z71 : zeroAV Tryz.prog 71 = some (.atom .nilFunc) := rfl
@[go_sem] theorem Tryz.n71 : noIface Tryz.prog 71 = True := rfl
@[go_sem] theorem Tryz.g72 : aggT Tryz.prog 72 = true := rfl
@[go_sem] theorem Tryz.i72 : (Tryz.prog.underlying 72).isSome = true := rfl
@[go_sem] theorem Tryz.f_72_0 : fieldTy Tryz.prog 72 0 = some (0, 71) := rfl
@[go_sem] theorem Tryz.f_72_1 : fieldTy Tryz.prog 72 1 = some (1, 61) := rfl
@[go_sem] theorem Tryz.z72 : zeroAV Tryz.prog 72 = some (.agg [.atom .nilFunc, .atom .nilFunc]) := rfl
@[go_sem] theorem Tryz.p72 : placesOf Tryz.prog 72 = some [(0, 1), (1, 1)] := rfl
@[go_sem] theorem Tryz.n72 : noIface Tryz.prog 72 = True := rfl
@[go_sem] theorem Tryz.g73 : aggT Tryz.prog 73 = true := rfl
@[go_sem] theorem Tryz.i73 : (Tryz.prog.underlying 73).isSome = true := rfl
@[go_sem] theorem Tryz.f_73_0 : fieldTy Tryz.prog 73 0 = some (0, 71) := rfl
@[go_sem] theorem Tryz.f_73_1 : fieldTy Tryz.prog 73 1 = some (1, 61) := rfl
@[go_sem] theorem Tryz.z73 : zeroAV Tryz.prog 73 = some (.agg [.atom .nilFunc, .atom .nilFunc]) := rfl
@[go_sem] theorem Tryz.p73 : placesOf Tryz.prog 73 = some [(0, 1), (1, 1)] := rfl
@[go_sem] theorem Tryz.n73 : noIface Tryz.prog 73 = True := rfl
@[go_sem] theorem Tryz.g74 : aggT Tryz.prog 74 = false := rfl
@[go_sem] theorem Tryz.i74 : (Tryz.prog.underlying 74).isSome = true := rfl
@[go_sem] theorem Tryz.z74 : zeroAV Tryz.prog 74 = some (.atom .nilFunc) := rfl
@[go_sem] theorem Tryz.n74 : noIface Tryz.prog 74 = True := rfl
@[go_sem] theorem Tryz.g75 : aggT Tryz.prog 75 = false := rfl
@[go_sem] theorem Tryz.i75 : (Tryz.prog.underlying 75).isSome = true := rfl
@[go_sem] theorem Tryz.z75 : zeroAV Tryz.prog 75 = some (.atom .nilFunc) := rfl
@[go_sem] theorem Tryz.n75 : noIface Tryz.prog 75 = True := rfl
@[go_sem] theorem Tryz.g76 : aggT Tryz.prog 76 = false := rfl
@[go_sem] theorem Tryz.i76 : (Tryz.prog.underlying 76).isSome = true := rfl
@[go_sem] theorem Tryz.z76 : zeroAV Tryz.prog 76 = some (.atom .nilFunc) := rfl
@[go_sem] theorem Tryz.n76 : noIface Tryz.prog 76 = True := rfl
@[go_sem] theorem Tryz.g77 : aggT Tryz.prog 77 = false := rfl
@[go_sem] theorem Tryz.i77 : (Tryz.prog.underlying 77).isSome = true := rfl
@[go_sem] theorem Tryz.z77 : zeroAV Tryz.prog 77 = some (.atom .nilFunc) := rfl
@[go_sem] theorem Tryz.n77 : noIface Tryz.prog 77 = True := rfl
@[go_sem] theorem Tryz.g78 : aggT Tryz.prog 78 = false := rfl
@[go_sem] theorem Tryz.i78 : (Tryz.prog.underlying 78).isSome = true := rfl
@[go_sem] theorem Tryz.z78 : zeroAV Tryz.prog 78 = some (.atom .nilFunc) := rfl
@[go_sem] theorem Tryz.n78 : noIface Tryz.prog 78 = True := rfl
@[go_sem] theorem Tryz.g79 : aggT Tryz.prog 79 = false := rfl
@[go_sem] theorem Tryz.i79 : (Tryz.prog.underlying 79).isSome = true := rfl
@[go_sem] theorem Tryz.z79 : zeroAV Tryz.prog 79 = some (.atom .nilFunc) := rfl
@[go_sem] theorem Tryz.n79 : noIface Tryz.prog 79 = True := rfl
@[go_sem] theorem Tryz.g80 : aggT Tryz.prog 80 = false := rfl
@[go_sem] theorem Tryz.i80 : (Tryz.prog.underlying 80).isSome = true := rfl
@[go_sem] theorem Tryz.z80 : zeroAV Tryz.prog 80 = some (.atom .nilFunc) := rfl
@[go_sem] theorem Tryz.n80 : noIface Tryz.prog 80 = True := rfl
@[go_sem] theorem Tryz.g81 : aggT Tryz.prog 81 = false := rfl
@[go_sem] theorem Tryz.i81 : (Tryz.prog.underlying 81).isSome = true := rfl
@[go_sem] theorem Tryz.z81 : zeroAV Tryz.prog 81 = some (.atom .nilFunc) := rfl
@[go_sem] theorem Tryz.n81 : noIface Tryz.prog 81 = True := rfl
@[go_sem] theorem Tryz.g83 : aggT Tryz.prog 83 = false := rfl
@[go_sem] theorem Tryz.i83 : (Tryz.prog.underlying 83).isSome = true := rfl
@[go_sem] theorem Tryz.z83 : zeroAV Tryz.prog 83 = some (.atom .nilFunc) := rfl
@[go_sem] theorem Tryz.n83 : noIface Tryz.prog 83 = True := rfl
@[go_sem] theorem Tryz.g84 : aggT Tryz.prog 84 = true := rfl
@[go_sem] theorem Tryz.i84 : (Tryz.prog.underlying 84).isSome = true := rfl
@[go_sem] theorem Tryz.f_84_0 : fieldTy Tryz.prog 84 0 = some (0, 3) := rfl
@[go_sem] theorem Tryz.f_84_1 : fieldTy Tryz.prog 84 1 = some (1, 3) := rfl
@[go_sem] theorem Tryz.z84 : zeroAV Tryz.prog 84 = some (.agg [.int .i64 0, .int .i64 0]) := rfl
@[go_sem] theorem Tryz.p84 : placesOf Tryz.prog 84 = some [(0, 1), (1, 1)] := rfl
@[go_sem] theorem Tryz.e84 : eqFlat Tryz.prog 84 = some [(0, 0), (1, 0)] := by decide +kernel
@[go_sem] theorem Tryz.n84 : noIface Tryz.prog 84 = True := rfl
@[go_sem] theorem Tryz.g85 : aggT Tryz.prog 85 = true := rfl
@[go_sem] theorem Tryz.i85 : (Tryz.prog.underlying 85).isSome = true := rfl
@[go_sem] theorem Tryz.f_85_0 : fieldTy Tryz.prog 85 0 = some (0, 3) := rfl
@[go_sem] theorem Tryz.f_85_1 : fieldTy Tryz.prog 85 1 = some (1, 3) := rfl
@[go_sem] theorem Tryz.z85 : zeroAV Tryz.prog 85 = some (.agg [.int .i64 0, .int .i64 0]) := rfl
@[go_sem] theorem Tryz.p85 : placesOf Tryz.prog 85 = some [(0, 1), (1, 1)] := rfl
@[go_sem] theorem Tryz.e85 : eqFlat Tryz.prog 85 = some [(0, 0), (1, 0)] := by decide +kernel
@[go_sem] theorem Tryz.n85 : noIface Tryz.prog 85 = True := rfl
@[go_sem] theorem Tryz.g86 : aggT Tryz.prog 86 = false := rfl
@[go_sem] theorem Tryz.i86 : (Tryz.prog.underlying 86).isSome = true := rfl
@[go_sem] theorem Tryz.z86 : zeroAV Tryz.prog 86 = some (.atom .nilFunc) := rfl
@[go_sem] theorem Tryz.n86 : noIface Tryz.prog 86 = True := rfl
@[go_sem] theorem Tryz.g87 : aggT Tryz.prog 87 = false := rfl
@[go_sem] theorem Tryz.i87 : (Tryz.prog.underlying 87).isSome = true := rfl
@[go_sem] theorem Tryz.n87 : noIface Tryz.prog 87 = True := rfl
@[go_sem] theorem Tryz.g88 : aggT Tryz.prog 88 = false := rfl
@[go_sem] theorem Tryz.i88 : (Tryz.prog.underlying 88).isSome = true := rfl
@[go_sem] theorem Tryz.z88 : zeroAV Tryz.prog 88 = some (.atom .nilFunc) := rfl
@[go_sem] theorem Tryz.n88 : noIface Tryz.prog 88 = True := rfl
@[go_sem] theorem Tryz.g89 : aggT Tryz.prog 89 = false := rfl
@[go_sem] theorem Tryz.i89 : (Tryz.prog.underlying 89).isSome = true := rfl
@[go_sem] theorem Tryz.z89 : zeroAV Tryz.prog 89 = some (.atom .nilFunc) := rfl
@[go_sem] theorem Tryz.n89 : noIface Tryz.prog 89 = True := rfl
@[go_sem] theorem Tryz.g90 : aggT Tryz.prog 90 = false := rfl
@[go_sem] theorem Tryz.i90 : (Tryz.prog.underlying 90).isSome = true := rfl
@[go_sem] theorem Tryz.z90 : zeroAV Tryz.prog 90 = some (.atom .nilFunc) := rfl
@[go_sem] theorem Tryz.n90 : noIface Tryz.prog 90 = True := rfl
@[go_sem] theorem Tryz.g91 : aggT Tryz.prog 91 = false := rfl
@[go_sem] theorem Tryz.i91 : (Tryz.prog.underlying 91).isSome = true := rfl
@[go_sem] theorem Tryz.z91 : zeroAV Tryz.prog 91 = some (.atom .nilFunc) := rfl
@[go_sem] theorem Tryz.n91 : noIface Tryz.prog 91 = True := rfl
@[go_sem] theorem Tryz.g92 : aggT Tryz.prog 92 = false := rfl
@[go_sem] theorem Tryz.i92 : (Tryz.prog.underlying 92).isSome = true := rfl
@[go_sem] theorem Tryz.z92 : zeroAV Tryz.prog 92 = some (.atom .nilFunc) := rfl
@[go_sem] theorem Tryz.n92 : noIface Tryz.prog 92 = True := rfl
@[go_sem] theorem Tryz.g93 : aggT Tryz.prog 93 = false := rfl
@[go_sem] theorem Tryz.i93 : (Tryz.prog.underlying 93).isSome = true := rfl
@[go_sem] theorem Tryz.z93 : zeroAV Tryz.prog 93 = some (.atom .nilFunc) := rfl
@[go_sem] theorem Tryz.n93 : noIface Tryz.prog 93 = True := rfl
@[go_sem] theorem Tryz.g94 : aggT Tryz.prog 94 = false := rfl
@[go_sem] theorem Tryz.i94 : (Tryz.prog.underlying 94).isSome = true := rfl
@[go_sem] theorem Tryz.z94 : zeroAV Tryz.prog 94 = some (.atom .nilFunc) := rfl
@[go_sem] theorem Tryz.n94 : noIface Tryz.prog 94 = True := rfl
@[go_sem] theorem Tryz.g96 : aggT Tryz.prog 96 = false := rfl
@[go_sem] theorem Tryz.i96 : (Tryz.prog.underlying 96).isSome = true := rfl
@[go_sem] theorem Tryz.z96 : zeroAV Tryz.prog 96 = some (.atom .nilFunc) := rfl
@[go_sem] theorem Tryz.n96 : noIface Tryz.prog 96 = True := rfl
@[go_sem] theorem Tryz.g97 : aggT Tryz.prog 97 = false := rfl
@[go_sem] theorem Tryz.i97 : (Tryz.prog.underlying 97).isSome = true := rfl
@[go_sem] theorem Tryz.z97 : zeroAV Tryz.prog 97 = some (.atom .nilFunc) := rfl
@[go_sem] theorem Tryz.n97 : noIface Tryz.prog 97 = True := rfl
@[go_sem] theorem Tryz.g98 : aggT Tryz.prog 98 = false := rfl
@[go_sem] theorem Tryz.i98 : (Tryz.prog.underlying 98).isSome = true := rfl
@[go_sem] theorem Tryz.z98 : zeroAV Tryz.prog 98 = some (.atom .nilFunc) := rfl
@[go_sem] theorem Tryz.n98 : noIface Tryz.prog 98 = True := rfl
@[go_sem] theorem Tryz.g99 : aggT Tryz.prog 99 = false := rfl
@[go_sem] theorem Tryz.i99 : (Tryz.prog.underlying 99).isSome = true := rfl
@[go_sem] theorem Tryz.z99 : zeroAV Tryz.prog 99 = some (.atom .nilFunc) := rfl
@[go_sem] theorem Tryz.n99 : noIface Tryz.prog 99 = True := rfl
@[go_sem] theorem Tryz.g100 : aggT Tryz.prog 100 = false := rfl
@[go_sem] theorem Tryz.i100 : (Tryz.prog.underlying 100).isSome = true := rfl
@[go_sem] theorem Tryz.z100 : zeroAV Tryz.prog 100 = some (.atom .nilFunc) := rfl
@[go_sem] theorem Tryz.n100 : noIface Tryz.prog 100 = True := rfl
@[go_sem] theorem Tryz.g101 : aggT Tryz.prog 101 = false := rfl
@[go_sem] theorem Tryz.z101 : zeroAV Tryz.prog 101 = some (.int .i64 0) := rfl
@[go_sem] theorem Tryz.n101 : noIface Tryz.prog 101 = True := rfl
@[go_sem] theorem Tryz.g102 : aggT Tryz.prog 102 = false := rfl
@[go_sem] theorem Tryz.i102 : (Tryz.prog.underlying 102).isSome = true := rfl
@[go_sem] theorem Tryz.z102 : zeroAV Tryz.prog 102 = some (.atom .nilFunc) := rfl
@[go_sem] theorem Tryz.n102 : noIface Tryz.prog 102 = True := rfl
@[go_sem] theorem Tryz.g103 : aggT Tryz.prog 103 = true := rfl
@[go_sem] theorem Tryz.i103 : (Tryz.prog.underlying 103).isSome = true := rfl
@[go_sem] theorem Tryz.f_103_0 : fieldTy Tryz.prog 103 0 = some (0, 3) := rfl
@[go_sem] theorem Tryz.f_103_1 : fieldTy Tryz.prog 103 1 = some (1, 3) := rfl
@[go_sem] theorem Tryz.z103 : zeroAV Tryz.prog 103 = some (.agg [.int .i64 0, .int .i64 0]) := rfl
@[go_sem] theorem Tryz.p103 : placesOf Tryz.prog 103 = some [(0, 1), (1, 1)] := rfl
@[go_sem] theorem Tryz.e103 : eqFlat Tryz.prog 103 = some [(0, 0), (1, 0)] := by decide +kernel
@[go_sem] theorem Tryz.n103 : noIface Tryz.prog 103 = True := rfl
@[go_sem] theorem Tryz.g104 : aggT Tryz.prog 104 = true := rfl
@[go_sem] theorem Tryz.i104 : (Tryz.prog.underlying 104).isSome = true := rfl
@[go_sem] theorem Tryz.f_104_0 : fieldTy Tryz.prog 104 0 = some (0, 3) := rfl
@[go_sem] theorem Tryz.f_104_1 : fieldTy Tryz.prog 104 1 = some (1, 3) := rfl
@[go_sem] theorem Tryz.z104 : zeroAV Tryz.prog 104 = some (.agg [.int .i64 0, .int .i64 0]) := rfl
@[go_sem] theorem Tryz.p104 : placesOf Tryz.prog 104 = some [(0, 1), (1, 1)] := rfl
@[go_sem] theorem Tryz.e104 : eqFlat Tryz.prog 104 = some [(0, 0), (1, 0)] := by decide +kernel
@[go_sem] theorem Tryz.n104 : noIface Tryz.prog 104 = True := rfl
@[go_sem] theorem Tryz.g105 : aggT Tryz.prog 105 = false := rfl
@[go_sem] theorem Tryz.i105 : (Tryz.prog.underlying 105).isSome = true := rfl
@[go_sem] theorem Tryz.z105 : zeroAV Tryz.prog 105 = some (.atom .nilFunc) := rfl
@[go_sem] theorem Tryz.n105 : noIface Tryz.prog 105 = True := rfl
@[go_sem] theorem Tryz.g106 : aggT Tryz.prog 106 = true := rfl
@[go_sem] theorem Tryz.i106 : (Tryz.prog.underlying 106).isSome = true := rfl
@[go_sem] theorem Tryz.f_106_0 : fieldTy Tryz.prog 106 0 = some (0, 78) := rfl
@[go_sem] theorem Tryz.f_106_1 : fieldTy Tryz.prog 106 1 = some (1, 77) := rfl
@[go_sem] theorem Tryz.z106 : zeroAV Tryz.prog 106 = some (.agg [.atom .nilFunc, .atom .nilFunc]) := rfl
@[go_sem] theorem Tryz.p106 : placesOf Tryz.prog 106 = some [(0, 1), (1, 1)] := rfl
@[go_sem] theorem Tryz.n106 : noIface Tryz.prog 106 = True := rfl
@[go_sem] theorem Tryz.g107 : aggT Tryz.prog 107 = true := rfl
@[go_sem] theorem Tryz.i107 : (Tryz.prog.underlying 107).isSome = true := rfl
@[go_sem] theorem Tryz.f_107_0 : fieldTy Tryz.prog 107 0 = some (0, 78) := rfl
@[go_sem] theorem Tryz.f_107_1 : fieldTy Tryz.prog 107 1 = some (1, 77) := rfl
@[go_sem] theorem Tryz.z107 : zeroAV Tryz.prog 107 = some (.agg [.atom .nilFunc, .atom .nilFunc]) := rfl
@[go_sem] theorem Tryz.p107 : placesOf Tryz.prog 107 = some [(0, 1), (1, 1)] := rfl
@[go_sem] theorem Tryz.n107 : noIface Tryz.prog 107 = True := rfl
@[go_sem] theorem Tryz.g110 : aggT Tryz.prog 110 = false := rfl
@[go_sem] theorem Tryz.i110 : (Tryz.prog.underlying 110).isSome = true := rfl
@[go_sem] theorem Tryz.z110 : zeroAV Tryz.prog 110 = some (.atom .nilFunc) := rfl
@[go_sem] theorem Tryz.n110 : noIface Tryz.prog 110 = True := rfl
@[go_sem] theorem Tryz.g111 : aggT Tryz.prog 111 = false := rfl
@[go_sem] theorem Tryz.i111 : (Tryz.prog.underlying 111).isSome = true := rfl
@[go_sem] theorem Tryz.z111 : zeroAV Tryz.prog 111 = some (.atom .nilFunc) := rfl
@[go_sem] theorem Tryz.n111 : noIface Tryz.prog 111 = True := rfl
@[go_sem] theorem Tryz.g112 : aggT Tryz.prog 112 = false := rfl
@[go_sem] theorem Tryz.z112 : zeroAV Tryz.prog 112 = some (.atom (.pointer none)) := rfl
@[go_sem] theorem Tryz.n112 : noIface Tryz.prog 112 = True := rfl
@[go_sem] theorem Tryz.g113 : aggT Tryz.prog 113 = true := rfl
@[go_sem] theorem Tryz.i113 : (Tryz.prog.underlying 113).isSome = true := rfl
@[go_sem] theorem Tryz.f_113_0 : fieldTy Tryz.prog 113 0 = some (0, 112) := rfl
@[go_sem] theorem Tryz.f_113_1 : fieldTy Tryz.prog 113 1 = some (1, 46) := rfl
@[go_sem] theorem Tryz.z113 : zeroAV Tryz.prog 113 = some (.agg [.atom (.pointer none), .sl true 1 []]) := rfl
@[go_sem] theorem Tryz.p113 : placesOf Tryz.prog 113 = some [(0, 1), (1, 1)] := rfl
@[go_sem] theorem Tryz.n113 : noIface Tryz.prog 113 = True := rfl
@[go_sem] theorem Tryz.g114 : aggT Tryz.prog 114 = true := rfl
@[go_sem] theorem Tryz.i114 : (Tryz.prog.underlying 114).isSome = true := rfl
@[go_sem] theorem Tryz.f_114_0 : fieldTy Tryz.prog 114 0 = some (0, 112) := rfl
@[go_sem] theorem Tryz.f_114_1 : fieldTy Tryz.prog 114 1 = some (1, 46) := rfl
@[go_sem] theorem Tryz.z114 : zeroAV Tryz.prog 114 = some (.agg [.atom (.pointer none), .sl true 1 []]) := rfl
@[go_sem] theorem Tryz.p114 : placesOf Tryz.prog 114 = some [(0, 1), (1, 1)] := rfl
@[go_sem] theorem Tryz.n114 : noIface Tryz.prog 114 = True := rfl
@[go_sem] theorem Tryz.g115 : aggT Tryz.prog 115 = false := rfl
@[go_sem] theorem Tryz.i115 : (Tryz.prog.underlying 115).isSome = true := rfl
@[go_sem] theorem Tryz.z115 : zeroAV Tryz.prog 115 = some (.atom .nilFunc) := rfl
@[go_sem] theorem Tryz.n115 : noIface Tryz.prog 115 = True := rfl
@[go_sem] theorem Tryz.g116 : aggT Tryz.prog 116 = false := rfl
@[go_sem] theorem Tryz.i116 : (Tryz.prog.underlying 116).isSome = true := rfl
@[go_sem] theorem Tryz.z116 : zeroAV Tryz.prog 116 = some (.atom .nilIface) := rfl
@[go_sem] theorem Tryz.g117 : aggT Tryz.prog 117 = false := rfl
@[go_sem] theorem Tryz.i117 : (Tryz.prog.underlying 117).isSome = true := rfl
@[go_sem] theorem Tryz.z117 : zeroAV Tryz.prog 117 = some (.atom .nilIface) := rfl
@[go_sem] theorem Tryz.g119 : aggT Tryz.prog 119 = false := rfl
@[go_sem] theorem Tryz.i119 : (Tryz.prog.underlying 119).isSome = true := rfl
@[go_sem] theorem Tryz.z119 : zeroAV Tryz.prog 119 = some (.atom .nilFunc) := rfl
@[go_sem] theorem Tryz.n119 : noIface Tryz.prog 119 = True := rfl
@[go_sem] theorem Tryz.g120 : aggT Tryz.prog 120 = false := rfl
@[go_sem] theorem Tryz.i120 : (Tryz.prog.underlying 120).isSome = true := rfl
@[go_sem] theorem Tryz.z120 : zeroAV Tryz.prog 120 = some (.atom .nilFunc) := rfl
@[go_sem] theorem Tryz.n120 : noIface Tryz.prog 120 = True := rfl
@[go_sem] theorem Tryz.g121 : aggT Tryz.prog 121 = false := rfl
@[go_sem] theorem Tryz.i121 : (Tryz.prog.underlying 121).isSome = true := rfl
@[go_sem] theorem Tryz.z121 : zeroAV Tryz.prog 121 = some (.atom .nilFunc) := rfl
@[go_sem] theorem Tryz.n121 : noIface Tryz.prog 121 = True := rfl
@[go_sem] theorem Tryz.g122 : aggT Tryz.prog 122 = false := rfl
@[go_sem] theorem Tryz.i122 : (Tryz.prog.underlying 122).isSome = true := rfl
@[go_sem] theorem Tryz.z122 : zeroAV Tryz.prog 122 = some (.atom .nilFunc) := rfl
@[go_sem] theorem Tryz.n122 : noIface Tryz.prog 122 = True := rfl
@[go_sem] theorem Tryz.g123 : aggT Tryz.prog 123 = false := rfl
@[go_sem] theorem Tryz.i123 : (Tryz.prog.underlying 123).isSome = true := rfl
@[go_sem] theorem Tryz.z123 : zeroAV Tryz.prog 123 = some (.atom .nilFunc) := rfl
@[go_sem] theorem Tryz.n123 : noIface Tryz.prog 123 = True := rfl
@[go_sem] theorem Tryz.g124 : aggT Tryz.prog 124 = false := rfl
@[go_sem] theorem Tryz.i124 : (Tryz.prog.underlying 124).isSome = true := rfl
@[go_sem] theorem Tryz.z124 : zeroAV Tryz.prog 124 = some (.atom .nilFunc) := rfl
@[go_sem] theorem Tryz.n124 : noIface Tryz.prog 124 = True := rfl
@[go_sem] theorem Tryz.g125 : aggT Tryz.prog 125 = false := rfl
@[go_sem] theorem Tryz.i125 : (Tryz.prog.underlying 125).isSome = true := rfl
@[go_sem] theorem Tryz.z125 : zeroAV Tryz.prog 125 = some (.atom .nilFunc) := rfl
@[go_sem] theorem Tryz.n125 : noIface Tryz.prog 125 = True := rfl
@[go_sem] theorem Tryz.g126 : aggT Tryz.prog 126 = false := rfl
@[go_sem] theorem Tryz.i126 : (Tryz.prog.underlying 126).isSome = true := rfl
@[go_sem] theorem Tryz.z126 : zeroAV Tryz.prog 126 = some (.atom .nilFunc) := rfl
@[go_sem] theorem Tryz.n126 : noIface Tryz.prog 126 = True := rfl
@[go_sem] theorem Tryz.g127 : aggT Tryz.prog 127 = false := rfl
@[go_sem] theorem Tryz.i127 : (Tryz.prog.underlying 127).isSome = true := rfl
@[go_sem] theorem Tryz.z127 : zeroAV Tryz.prog 127 = some (.atom .nilFunc) := rfl
@[go_sem] theorem Tryz.n127 : noIface Tryz.prog 127 = True := rfl
@[go_sem] theorem Tryz.g128 : aggT Tryz.prog 128 = false := rfl
@[go_sem] theorem Tryz.i128 : (Tryz.prog.underlying 128).isSome = true := rfl
@[go_sem] theorem Tryz.z128 : zeroAV Tryz.prog 128 = some (.atom .nilFunc) := rfl
@[go_sem] theorem Tryz.n128 : noIface Tryz.prog 128 = True := rfl
@[go_sem] theorem Tryz.g129 : aggT Tryz.prog 129 = false := rfl
@[go_sem] theorem Tryz.i129 : (Tryz.prog.underlying 129).isSome = true := rfl
@[go_sem] theorem Tryz.z129 : zeroAV Tryz.prog 129 = some (.atom .nilFunc) := rfl
@[go_sem] theorem Tryz.n129 : noIface Tryz.prog 129 = True := rfl
@[go_sem] theorem Tryz.g130 : aggT Tryz.prog 130 = true := rfl
@[go_sem] theorem Tryz.i130 : (Tryz.prog.underlying 130).isSome = true := rfl
@[go_sem] theorem Tryz.f_130_0 : fieldTy Tryz.prog 130 0 = some (0, 29) := rfl
@[go_sem] theorem Tryz.f_130_1 : fieldTy Tryz.prog 130 1 = some (10, 3) := rfl
@[go_sem] theorem Tryz.f_130_2 : fieldTy Tryz.prog 130 2 = some (11, 33) := rfl
@[go_sem] theorem Tryz.z130 : zeroAV Tryz.prog 130 = some (.agg [.sl true 1 [], .sl true 1 [], .int .i64 0, .int .i64 0, .int .i64 0, .int .i64 0, .int .i64 0, .int .i64 0, .int .i64 0, .int .i64 0, .int .i64 0, .int .i64 0]) := rfl
@[go_sem] theorem Tryz.p130 : placesOf Tryz.prog 130 = some [(0, 10), (10, 1), (11, 1)] := rfl
@[go_sem] theorem Tryz.n130 : noIface Tryz.prog 130 = True := rfl
@[go_sem] theorem Tryz.g131 : aggT Tryz.prog 131 = true := rfl
@[go_sem] theorem Tryz.i131 : (Tryz.prog.underlying 131).isSome = true := rfl
@[go_sem] theorem Tryz.f_131_0 : fieldTy Tryz.prog 131 0 = some (0, 29) := rfl
@[go_sem] theorem Tryz.f_131_1 : fieldTy Tryz.prog 131 1 = some (10, 3) := rfl
@[go_sem] theorem Tryz.f_131_2 : fieldTy Tryz.prog 131 2 = some (11, 33) := rfl
@[go_sem] theorem Tryz.z131 : zeroAV Tryz.prog 131 = some (.agg [.sl true 1 [], .sl true 1 [], .int .i64 0, .int .i64 0, .int .i64 0, .int .i64 0, .int .i64 0, .int .i64 0, .int .i64 0, .int .i64 0, .int .i64 0, .int .i64 0]) := rfl
@[go_sem] theorem Tryz.p131 : placesOf Tryz.prog 131 = some [(0, 10), (10, 1), (11, 1)] := rfl
@[go_sem] theorem Tryz.n131 : noIface Tryz.prog 131 = True := rfl
@[go_sem] theorem Tryz.g132 : aggT Tryz.prog 132 = false := rfl
@[go_sem] theorem Tryz.i132 : (Tryz.prog.underlying 132).isSome = true := rfl
@[go_sem] theorem Tryz.z132 : zeroAV Tryz.prog 132 = some (.atom .nilFunc) := rfl
@[go_sem] theorem Tryz.n132 : noIface Tryz.prog 132 = True := rfl
@[go_sem] theorem Tryz.g133 : aggT Tryz.prog 133 = false := rfl
@[go_sem] theorem Tryz.i133 : (Tryz.prog.underlying 133).isSome = true := rfl
@[go_sem] theorem Tryz.z133 : zeroAV Tryz.prog 133 = some (.atom .nilFunc) := rfl
@[go_sem] theorem Tryz.n133 : noIface Tryz.prog 133 = True := rfl
@[go_sem] theorem Tryz.g134 : aggT Tryz.prog 134 = false := rfl
@[go_sem] theorem Tryz.i134 : (Tryz.prog.underlying 134).isSome = true := rfl
@[go_sem] theorem Tryz.z134 : zeroAV Tryz.prog 134 = some (.atom .nilFunc) := rfl
@[go_sem] theorem Tryz.n134 : noIface Tryz.prog 134 = True := rfl
@[go_sem] theorem Tryz.g135 : aggT Tryz.prog 135 = false := rfl
@[go_sem] theorem Tryz.i135 : (Tryz.prog.underlying 135).isSome = true := rfl
@[go_sem] theorem Tryz.z135 : zeroAV Tryz.prog 135 = some (.atom .nilFunc) := rfl
@[go_sem] theorem Tryz.n135 : noIface Tryz.prog 135 = True := rfl
@[go_sem] theorem Tryz.g136 : aggT Tryz.prog 136 = false := rfl
@[go_sem] theorem Tryz.i136 : (Tryz.prog.underlying 136).isSome = true := rfl
@[go_sem] theorem Tryz.z136 : zeroAV Tryz.prog 136 = some (.atom .nilFunc) := rfl
@[go_sem] theorem Tryz.n136 : noIface Tryz.prog 136 = True := rfl
@[go_sem] theorem Tryz.g137 : aggT Tryz.prog 137 = false := rfl
@[go_sem] theorem Tryz.i137 : (Tryz.prog.underlying 137).isSome = true := rfl
@[go_sem] theorem Tryz.z137 : zeroAV Tryz.prog 137 = some (.atom .nilFunc) := rfl
@[go_sem] theorem Tryz.n137 : noIface Tryz.prog 137 = True := rfl
@[go_sem] theorem Tryz.g138 : aggT Tryz.prog 138 = false := rfl
@[go_sem] theorem Tryz.z138 : zeroAV Tryz.prog 138 = some (.sl true 1 []) := rfl
@[go_sem] theorem Tryz.n138 : noIface Tryz.prog 138 = True := rfl
@[go_sem] theorem Tryz.g139 : aggT Tryz.prog 139 = false := rfl
@[go_sem] theorem Tryz.i139 : (Tryz.prog.underlying 139).isSome = true := rfl
@[go_sem] theorem Tryz.z139 : zeroAV Tryz.prog 139 = some (.atom .nilFunc) := rfl
@[go_sem] theorem Tryz.n139 : noIface Tryz.prog 139 = True := rfl
@[go_sem] theorem Tryz.g140 : aggT Tryz.prog 140 = false := rfl
@[go_sem] theorem Tryz.z140 : zeroAV Tryz.prog 140 = some (.int .u64 0) := rfl
@[go_sem] theorem Tryz.n140 : noIface Tryz.prog 140 = True := rfl
@[go_sem] theorem Tryz.g141 : aggT Tryz.prog 141 = false := rfl
@[go_sem] theorem Tryz.z141 : zeroAV Tryz.prog 141 = some (.atom (.pointer none)) := rfl
@[go_sem] theorem Tryz.n141 : noIface Tryz.prog 141 = True := rfl
@[go_sem] theorem Tryz.g142 : aggT Tryz.prog 142 = false := rfl
@[go_sem] theorem Tryz.i142 : (Tryz.prog.underlying 142).isSome = true := rfl
@[go_sem] theorem Tryz.z142 : zeroAV Tryz.prog 142 = some (.atom .nilFunc) := rfl
@[go_sem] theorem Tryz.n142 : noIface Tryz.prog 142 = True := rfl
@[go_sem] theorem Tryz.g143 : aggT Tryz.prog 143 = false := rfl
@[go_sem] theorem Tryz.i143 : (Tryz.prog.underlying 143).isSome = true := rfl
@[go_sem] theorem Tryz.z143 : zeroAV Tryz.prog 143 = some (.atom .nilFunc) := rfl
@[go_sem] theorem Tryz.n143 : noIface Tryz.prog 143 = True := rfl
@[go_sem] theorem Tryz.g144 : aggT Tryz.prog 144 = true := rfl
@[go_sem] theorem Tryz.z144 : zeroAV Tryz.prog 144 = some (.agg [.int .i64 0, .int .i64 0]) := rfl
@[go_sem] theorem Tryz.e144 : eqFlat Tryz.prog 144 = some [(0, 0), (1, 0)] := by decide +kernel
@[go_sem] theorem Tryz.p144 : placesOf Tryz.prog 144 = some [(0, 1), (1, 1)] := rfl
@[go_sem] theorem Tryz.n144 : noIface Tryz.prog 144 = True := rfl
@[go_sem] theorem Tryz.g145 : aggT Tryz.prog 145 = false := rfl
@[go_sem] theorem Tryz.i145 : (Tryz.prog.underlying 145).isSome = true := rfl
@[go_sem] theorem Tryz.z145 : zeroAV Tryz.prog 145 = some (.atom .nilFunc) := rfl
@[go_sem] theorem Tryz.n145 : noIface Tryz.prog 145 = True := rfl
@[go_sem] theorem Tryz.g146 : aggT Tryz.prog 146 = false := rfl
@[go_sem] theorem Tryz.i146 : (Tryz.prog.underlying 146).isSome = true := rfl
@[go_sem] theorem Tryz.z146 : zeroAV Tryz.prog 146 = some (.atom .nilFunc) := rfl
@[go_sem] theorem Tryz.n146 : noIface Tryz.prog 146 = True := rfl
@[go_sem] theorem Tryz.g148 : aggT Tryz.prog 148 = false := rfl
@[go_sem] theorem Tryz.i148 : (Tryz.prog.underlying 148).isSome = true := rfl
@[go_sem] theorem Tryz.z148 : zeroAV Tryz.prog 148 = some (.atom .nilFunc) := rfl
@[go_sem] theorem Tryz.n148 : noIface Tryz.prog 148 = True := rfl
@[go_sem] theorem Tryz.g149 : aggT Tryz.prog 149 = false := rfl
@[go_sem] theorem Tryz.i149 : (Tryz.prog.underlying 149).isSome = true := rfl
@[go_sem] theorem Tryz.z149 : zeroAV Tryz.prog 149 = some (.atom .nilFunc) := rfl
@[go_sem] theorem Tryz.n149 : noIface Tryz.prog 149 = True := rfl
@[go_sem] theorem Tryz.g150 : aggT Tryz.prog 150 = true := rfl
@[go_sem] theorem Tryz.z150 : zeroAV Tryz.prog 150 = some (.agg [.int .u8 0, .int .u8 0, .int .u8 0, .int .u8 0, .int .u8 0, .int .u8 0, .int .u8 0, .int .u8 0, .int .u8 0, .int .u8 0, .int .u8 0, .int .u8 0, .int .u8 0, .int .u8 0, .int .u8 0, .int .u8 0, .int .u8 0, .int .u8 0, .int .u8 0, .int .u8 0, .int .u8 0, .int .u8 0, .int .u8 0, .int .u8 0]) := rfl
@[go_sem] theorem Tryz.e150 : eqFlat Tryz.prog 150 = some ((List.range 24).map fun i => (i, 0)) := by decide +kernel
@[go_sem] theorem Tryz.p150 : placesOf Tryz.prog 150 = some [(0, 1), (1, 1), (2, 1), (3, 1), (4, 1), (5, 1), (6, 1), (7, 1), (8, 1), (9, 1), (10, 1), (11, 1), (12, 1), (13, 1), (14, 1), (15, 1), (16, 1), (17, 1), (18, 1), (19, 1), (20, 1), (21, 1), (22, 1), (23, 1)] := rfl
@[go_sem] theorem Tryz.n150 : noIface Tryz.prog 150 = True := rfl
@[go_sem] theorem Tryz.g151 : aggT Tryz.prog 151 = false := rfl
@[go_sem] theorem Tryz.z151 : zeroAV Tryz.prog 151 = some (.int .u64 0) := rfl
@[go_sem] theorem Tryz.n151 : noIface Tryz.prog 151 = True := rfl
@[go_sem] theorem Tryz.g152 : aggT Tryz.prog 152 = false := rfl
@[go_sem] theorem Tryz.i152 : (Tryz.prog.underlying 152).isSome = true := rfl
@[go_sem] theorem Tryz.z152 : zeroAV Tryz.prog 152 = some (.atom .nilFunc) := rfl
@[go_sem] theorem Tryz.n152 : noIface Tryz.prog 152 = True := rfl
@[go_sem] theorem Tryz.g153 : aggT Tryz.prog 153 = false := rfl
@[go_sem] theorem Tryz.i153 : (Tryz.prog.underlying 153).isSome = true := rfl
@[go_sem] theorem Tryz.z153 : zeroAV Tryz.prog 153 = some (.atom .nilFunc) := rfl
@[go_sem] theorem Tryz.n153 : noIface Tryz.prog 153 = True := rfl
@[go_sem] theorem Tryz.g155 : aggT Tryz.prog 155 = false := rfl
@[go_sem] theorem Tryz.i155 : (Tryz.prog.underlying 155).isSome = true := rfl
@[go_sem] theorem Tryz.z155 : zeroAV Tryz.prog 155 = some (.atom .nilFunc) := rfl
@[go_sem] theorem Tryz.n155 : noIface Tryz.prog 155 = True := rfl
@[go_sem] theorem Tryz.g156 : aggT Tryz.prog 156 = false := rfl
@[go_sem] theorem Tryz.z156 : zeroAV Tryz.prog 156 = some (.sl true 1 []) := rfl
@[go_sem] theorem Tryz.n156 : noIface Tryz.prog 156 = True := rfl
@[go_sem] theorem Tryz.g157 : aggT Tryz.prog 157 = false := rfl
@[go_sem] theorem Tryz.i157 : (Tryz.prog.underlying 157).isSome = true := rfl
@[go_sem] theorem Tryz.z157 : zeroAV Tryz.prog 157 = some (.atom .nilFunc) := rfl
@[go_sem] theorem Tryz.n157 : noIface Tryz.prog 157 = True := rfl
@[go_sem] theorem Tryz.g158 : aggT Tryz.prog 158 = false := rfl
@[go_sem] theorem Tryz.i158 : (Tryz.prog.underlying 158).isSome = true := rfl
@[go_sem] theorem Tryz.z158 : zeroAV Tryz.prog 158 = some (.atom .nilFunc) := rfl
@[go_sem] theorem Tryz.n158 : noIface Tryz.prog 158 = True := rfl
@[go_sem] theorem Tryz.g159 : aggT Tryz.prog 159 = true := rfl
@[go_sem] theorem Tryz.z159 : zeroAV Tryz.prog 159 = some (.agg [.int .u64 0, .int .u64 0, .int .u64 0, .int .u64 0, .int .u64 0, .int .u64 0, .int .u64 0, .int .u64 0, .int .u64 0, .int .u64 0, .int .u64 0, .int .u64 0, .int .u64 0, .int .u64 0, .int .u64 0, .int .u64 0, .int .u64 0, .int .u64 0, .int .u64 0, .int .u64 0]) := rfl
@[go_sem] theorem Tryz.p159 : placesOf Tryz.prog 159 = some [(0, 1), (1, 1), (2, 1), (3, 1), (4, 1), (5, 1), (6, 1), (7, 1), (8, 1), (9, 1), (10, 1), (11, 1), (12, 1), (13, 1), (14, 1), (15, 1), (16, 1), (17, 1), (18, 1), (19, 1)] := rfl
@[go_sem] theorem Tryz.n159 : noIface Tryz.prog 159 = True := rfl
@[go_sem] theorem Tryz.g160 : aggT Tryz.prog 160 = false := rfl
@[go_sem] theorem Tryz.z160 : zeroAV Tryz.prog 160 = some (.int .u32 0) := rfl
@[go_sem] theorem Tryz.n160 : noIface Tryz.prog 160 = True := rfl
@[go_sem] theorem Tryz.g161 : aggT Tryz.prog 161 = true := rfl
@[go_sem] theorem Tryz.e161 : eqFlat Tryz.prog 161 = some ((List.range 65).map fun i => (i, 0)) := by decide +kernel
@[go_sem] theorem Tryz.n161 : noIface Tryz.prog 161 = True := rfl
@[go_sem] theorem Tryz.g162 : aggT Tryz.prog 162 = false := rfl
@[go_sem] theorem Tryz.i162 : (Tryz.prog.underlying 162).isSome = true := rfl
@[go_sem] theorem Tryz.z162 : zeroAV Tryz.prog 162 = some (.atom .nilFunc) := rfl
@[go_sem] theorem Tryz.n162 : noIface Tryz.prog 162 = True := rfl
@[go_sem] theorem Tryz.g163 : aggT Tryz.prog 163 = false := rfl
@[go_sem] theorem Tryz.i163 : (Tryz.prog.underlying 163).isSome = true := rfl
@[go_sem] theorem Tryz.z163 : zeroAV Tryz.prog 163 = some (.atom .nilFunc) := rfl
@[go_sem] theorem Tryz.n163 : noIface Tryz.prog 163 = True := rfl
@[go_sem] theorem Tryz.g164 : aggT Tryz.prog 164 = true := rfl
@[go_sem] theorem Tryz.z164 : zeroAV Tryz.prog 164 = some (.agg [.int .u8 0, .int .u8 0, .int .u8 0, .int .u8 0, .int .u8 0, .int .u8 0, .int .u8 0, .int .u8 0, .int .u8 0, .int .u8 0, .int .u8 0, .int .u8 0, .int .u8 0, .int .u8 0, .int .u8 0, .int .u8 0, .int .u8 0, .int .u8 0, .int .u8 0, .int .u8 0, .int .u8 0, .int .u8 0, .int .u8 0, .int .u8 0, .int .u8 0, .int .u8 0, .int .u8 0, .int .u8 0, .int .u8 0, .int .u8 0, .int .u8 0, .int .u8 0]) := rfl
@[go_sem] theorem Tryz.e164 : eqFlat Tryz.prog 164 = some ((List.range 32).map fun i => (i, 0)) := by decide +kernel
@[go_sem] theorem Tryz.p164 : placesOf Tryz.prog 164 = some [(0, 1), (1, 1), (2, 1), (3, 1), (4, 1), (5, 1), (6, 1), (7, 1), (8, 1), (9, 1), (10, 1), (11, 1), (12, 1), (13, 1), (14, 1), (15, 1), (16, 1), (17, 1), (18, 1), (19, 1), (20, 1), (21, 1), (22, 1), (23, 1), (24, 1), (25, 1), (26, 1), (27, 1), (28, 1), (29, 1), (30, 1), (31, 1)] := rfl
@[go_sem] theorem Tryz.n164 : noIface Tryz.prog 164 = True := rfl
@[go_sem] theorem Tryz.g165 : aggT Tryz.prog 165 = true := rfl
@[go_sem] theorem Tryz.z165 : zeroAV Tryz.prog 165 = some (.agg [.int .u8 0, .int .u8 0, .int .u8 0, .int .u8 0, .int .u8 0, .int .u8 0, .int .u8 0, .int .u8 0, .int .u8 0, .int .u8 0, .int .u8 0, .int .u8 0, .int .u8 0, .int .u8 0, .int .u8 0, .int .u8 0, .int .u8 0, .int .u8 0, .int .u8 0, .int .u8 0, .int .u8 0, .int .u8 0, .int .u8 0, .int .u8 0, .int .u8 0, .int .u8 0, .int .u8 0, .int .u8 0, .int .u8 0, .int .u8 0, .int .u8 0, .int .u8 0, .int .u8 0, .int .u8 0, .int .u8 0, .int .u8 0, .int .u8 0, .int .u8 0, .int .u8 0, .int .u8 0, .int .u8 0, .int .u8 0, .int .u8 0, .int .u8 0, .int .u8 0, .int .u8 0, .int .u8 0, .int .u8 0, .int .u8 0, .int .u8 0, .int .u8 0, .int .u8 0, .int .u8 0, .int .u8 0, .int .u8 0, .int .u8 0, .int .u8 0, .int .u8 0, .int .u8 0, .int .u8 0, .int .u8 0, .int .u8 0, .int .u8 0, .int .u8 0]) := rfl
@[go_sem] theorem Tryz.e165 : eqFlat Tryz.prog 165 = some ((List.range 64).map fun i => (i, 0)) := by decide +kernel
@[go_sem] theorem Tryz.p165 : placesOf Tryz.prog 165 = some [(0, 1), (1, 1), (2, 1), (3, 1), (4, 1), (5, 1), (6, 1), (7, 1), (8, 1), (9, 1), (10, 1), (11, 1), (12, 1), (13, 1), (14, 1), (15, 1), (16, 1), (17, 1), (18, 1), (19, 1), (20, 1), (21, 1), (22, 1), (23, 1), (24, 1), (25, 1), (26, 1), (27, 1), (28, 1), (29, 1), (30, 1), (31, 1), (32, 1), (33, 1), (34, 1), (35, 1), (36, 1), (37, 1), (38, 1), (39, 1), (40, 1), (41, 1), (42, 1), (43, 1), (44, 1), (45, 1), (46, 1), (47, 1), (48, 1), (49, 1), (50, 1), (51, 1), (52, 1), (53, 1), (54, 1), (55, 1), (56, 1), (57, 1), (58, 1), (59, 1), (60, 1), (61, 1), (62, 1), (63, 1)] := rfl
@[go_sem] theorem Tryz.n165 : noIface Tryz.prog 165 = True := rfl
@[go_sem] theorem Tryz.g166 : aggT Tryz.prog 166 = true := rfl
@[go_sem] theorem Tryz.i166 : (Tryz.prog.underlying 166).isSome = true := rfl
@[go_sem] theorem Tryz.f_166_0 : fieldTy Tryz.prog 166 0 = some (0, 17) := rfl
@[go_sem] theorem Tryz.f_166_1 : fieldTy Tryz.prog 166 1 = some (1, 17) := rfl
@[go_sem] theorem Tryz.f_166_2 : fieldTy Tryz.prog 166 2 = some (2, 17) := rfl
@[go_sem] theorem Tryz.f_166_3 : fieldTy Tryz.prog 166 3 = some (3, 9) := rfl
@[go_sem] theorem Tryz.z166 : zeroAV Tryz.prog 166 = some (.agg [.atom (.pointer none), .atom (.pointer none), .atom (.pointer none), .str []]) := rfl
@[go_sem] theorem Tryz.p166 : placesOf Tryz.prog 166 = some [(0, 1), (1, 1), (2, 1), (3, 1)] := rfl
@[go_sem] theorem Tryz.n166 : noIface Tryz.prog 166 = True := rfl
@[go_sem] theorem Tryz.g167 : aggT Tryz.prog 167 = true := rfl
@[go_sem] theorem Tryz.i167 : (Tryz.prog.underlying 167).isSome = true := rfl
@[go_sem] theorem Tryz.f_167_0 : fieldTy Tryz.prog 167 0 = some (0, 17) := rfl
@[go_sem] theorem Tryz.f_167_1 : fieldTy Tryz.prog 167 1 = some (1, 17) := rfl
@[go_sem] theorem Tryz.f_167_2 : fieldTy Tryz.prog 167 2 = some (2, 17) := rfl
@[go_sem] theorem Tryz.f_167_3 : fieldTy Tryz.prog 167 3 = some (3, 9) := rfl
@[go_sem] theorem Tryz.z167 : zeroAV Tryz.prog 167 = some (.agg [.atom (.pointer none), .atom (.pointer none), .atom (.pointer none), .str []]) := rfl
@[go_sem] theorem Tryz.p167 : placesOf Tryz.prog 167 = some [(0, 1), (1, 1), (2, 1), (3, 1)] := rfl
@[go_sem] theorem Tryz.n167 : noIface Tryz.prog 167 = True := rfl
@[go_sem] theorem Tryz.g168 : aggT Tryz.prog 168 = true := rfl
@[go_sem] theorem Tryz.p168 : placesOf Tryz.prog 168 = some [] := rfl
@[go_sem] theorem Tryz.n168 : noIface Tryz.prog 168 = True := rfl
@[go_sem] theorem Tryz.g169 : aggT Tryz.prog 169 = true := rfl
@[go_sem] theorem Tryz.i169 : (Tryz.prog.underlying 169).isSome = true := rfl
@[go_sem] theorem Tryz.f_169_0 : fieldTy Tryz.prog 169 0 = some (0, 168) := rfl
@[go_sem] theorem Tryz.p169 : placesOf Tryz.prog 169 = some [(0, 0)] := rfl
@[go_sem] theorem Tryz.n169 : noIface Tryz.prog 169 = True := rfl
@[go_sem] theorem Tryz.g170 : aggT Tryz.prog 170 = true := rfl
@[go_sem] theorem Tryz.i170 : (Tryz.prog.underlying 170).isSome = true := rfl
@[go_sem] theorem Tryz.f_170_0 : fieldTy Tryz.prog 170 0 = some (0, 168) := rfl
@[go_sem] theorem Tryz.p170 : placesOf Tryz.prog 170 = some [(0, 0)] := rfl
@[go_sem] theorem Tryz.n170 : noIface Tryz.prog 170 = True := rfl
@[go_sem] theorem Tryz.g171 : aggT Tryz.prog 171 = false := rfl
@[go_sem] theorem Tryz.i171 : (Tryz.prog.underlying 171).isSome = true := rfl
@[go_sem] theorem Tryz.z171 : zeroAV Tryz.prog 171 = some (.atom .nilFunc) := rfl
@[go_sem] theorem Tryz.n171 : noIface Tryz.prog 171 = True := rfl
@[go_sem] theorem Tryz.g172 : aggT Tryz.prog 172 = false := rfl
@[go_sem] theorem Tryz.z172 : zeroAV Tryz.prog 172 = some (.int .u8 0) := rfl
@[go_sem] theorem Tryz.n172 : noIface Tryz.prog 172 = True := rfl
@[go_sem] theorem Tryz.g173 : aggT Tryz.prog 173 = false := rfl
@[go_sem] theorem Tryz.z173 : zeroAV Tryz.prog 173 = some (.int .u8 0) := rfl
@[go_sem] theorem Tryz.n173 : noIface Tryz.prog 173 = True := rfl
@[go_sem] theorem Tryz.g174 : aggT Tryz.prog 174 = false := rfl
@[go_sem] theorem Tryz.i174 : (Tryz.prog.underlying 174).isSome = true := rfl
@[go_sem] theorem Tryz.z174 : zeroAV Tryz.prog 174 = some (.atom .nilFunc) := rfl
@[go_sem] theorem Tryz.n174 : noIface Tryz.prog 174 = True := rfl
@[go_sem] theorem Tryz.g175 : aggT Tryz.prog 175 = false := rfl
@[go_sem] theorem Tryz.z175 : zeroAV Tryz.prog 175 = some (.int .i32 0) := rfl
@[go_sem] theorem Tryz.n175 : noIface Tryz.prog 175 = True := rfl
@[go_sem] theorem Tryz.g176 : aggT Tryz.prog 176 = false := rfl
@[go_sem] theorem Tryz.z176 : zeroAV Tryz.prog 176 = some (.int .i32 0) := rfl
@[go_sem] theorem Tryz.n176 : noIface Tryz.prog 176 = True := rfl
@[go_sem] theorem Tryz.g177 : aggT Tryz.prog 177 = true := rfl
@[go_sem] theorem Tryz.i177 : (Tryz.prog.underlying 177).isSome = true := rfl
@[go_sem] theorem Tryz.f_177_0 : fieldTy Tryz.prog 177 0 = some (0, 12) := rfl
@[go_sem] theorem Tryz.f_177_1 : fieldTy Tryz.prog 177 1 = some (1, 12) := rfl
@[go_sem] theorem Tryz.f_177_2 : fieldTy Tryz.prog 177 2 = some (2, 160) := rfl
@[go_sem] theorem Tryz.f_177_3 : fieldTy Tryz.prog 177 3 = some (3, 172) := rfl
@[go_sem] theorem Tryz.f_177_4 : fieldTy Tryz.prog 177 4 = some (4, 5) := rfl
@[go_sem] theorem Tryz.f_177_5 : fieldTy Tryz.prog 177 5 = some (5, 5) := rfl
@[go_sem] theorem Tryz.f_177_6 : fieldTy Tryz.prog 177 6 = some (6, 173) := rfl
@[go_sem] theorem Tryz.f_177_7 : fieldTy Tryz.prog 177 7 = some (7, 174) := rfl
@[go_sem] theorem Tryz.f_177_8 : fieldTy Tryz.prog 177 8 = some (8, 141) := rfl
@[go_sem] theorem Tryz.f_177_9 : fieldTy Tryz.prog 177 9 = some (9, 175) := rfl
@[go_sem] theorem Tryz.f_177_10 : fieldTy Tryz.prog 177 10 = some (10, 176) := rfl
@[go_sem] theorem Tryz.z177 : zeroAV Tryz.prog 177 = some (.agg [.int .u64 0, .int .u64 0, .int .u32 0, .int .u8 0, .int .u8 0, .int .u8 0, .int .u8 0, .atom .nilFunc, .atom (.pointer none), .int .i32 0, .int .i32 0]) := rfl
@[go_sem] theorem Tryz.p177 : placesOf Tryz.prog 177 = some [(0, 1), (1, 1), (2, 1), (3, 1), (4, 1), (5, 1), (6, 1), (7, 1), (8, 1), (9, 1), (10, 1)] := rfl
@[go_sem] theorem Tryz.n177 : noIface Tryz.prog 177 = True := rfl
@[go_sem] theorem Tryz.g178 : aggT Tryz.prog 178 = true := rfl
@[go_sem] theorem Tryz.i178 : (Tryz.prog.underlying 178).isSome = true := rfl
@[go_sem] theorem Tryz.f_178_0 : fieldTy Tryz.prog 178 0 = some (0, 12) := rfl
@[go_sem] theorem Tryz.f_178_1 : fieldTy Tryz.prog 178 1 = some (1, 12) := rfl
@[go_sem] theorem Tryz.f_178_2 : fieldTy Tryz.prog 178 2 = some (2, 160) := rfl
@[go_sem] theorem Tryz.f_178_3 : fieldTy Tryz.prog 178 3 = some (3, 172) := rfl
@[go_sem] theorem Tryz.f_178_4 : fieldTy Tryz.prog 178 4 = some (4, 5) := rfl
@[go_sem] theorem Tryz.f_178_5 : fieldTy Tryz.prog 178 5 = some (5, 5) := rfl
@[go_sem] theorem Tryz.f_178_6 : fieldTy Tryz.prog 178 6 = some (6, 173) := rfl
@[go_sem] theorem Tryz.f_178_7 : fieldTy Tryz.prog 178 7 = some (7, 174) := rfl
@[go_sem] theorem Tryz.f_178_8 : fieldTy Tryz.prog 178 8 = some (8, 141) := rfl
@[go_sem] theorem Tryz.f_178_9 : fieldTy Tryz.prog 178 9 = some (9, 175) := rfl
@[go_sem] theorem Tryz.f_178_10 : fieldTy Tryz.prog 178 10 = some (10, 176) := rfl
@[go_sem] theorem Tryz.z178 : zeroAV Tryz.prog 178 = some (.agg [.int .u64 0, .int .u64 0, .int .u32 0, .int .u8 0, .int .u8 0, .int .u8 0, .int .u8 0, .atom .nilFunc, .atom (.pointer none), .int .i32 0, .int .i32 0]) := rfl
@[go_sem] theorem Tryz.p178 : placesOf Tryz.prog 178 = some [(0, 1), (1, 1), (2, 1), (3, 1), (4, 1), (5, 1), (6, 1), (7, 1), (8, 1), (9, 1), (10, 1)] := rfl
@[go_sem] theorem Tryz.n178 : noIface Tryz.prog 178 = True := rfl
end Go.Proofs
