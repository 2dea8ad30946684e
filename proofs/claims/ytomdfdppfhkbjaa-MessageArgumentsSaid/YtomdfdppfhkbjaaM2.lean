/- Messages: actions. -/
import Derived.Test.YtomdfdppfhkbjaaM1
set_option linter.unusedVariables false
set_option linter.unusedSimpArgs false
namespace Go.Proofs
open Go Go.Ideal
set_option maxRecDepth 8000
set_option maxHeartbeats 4000000

structure MRaw where
  k : UInt8
  i : UInt8
  app : UInt8
  t : UInt8
  deriving Inhabited
@[go_sem] def mrawA (x : MRaw) : AV := .agg [.int .u8 x.k.toNat, .int .u8 x.i.toNat, .int .u8 x.app.toNat, .int .u8 x.t.toNat]
def mrawsOf (l : List MRaw) : List AV := l.map mrawA
@[go_sem] theorem mrawsOf_len (l : List MRaw) : (mrawsOf l).length = l.length := by simp [mrawsOf]
@[go_sem] theorem mrawsOf_get {l : List MRaw} {i : Nat} (h : i < l.length) : (mrawsOf l).getD i .junk = mrawA (l.getD i default) := by simp [mrawsOf, List.getD, h]
@[go_sem] theorem mrawsOf_take (l : List MRaw) (n : Nat) : (mrawsOf l).take n = mrawsOf (l.take n) := by simp [mrawsOf]
structure Cmt where
  id : Int
  app : Int
  s : List UInt8
  deriving DecidableEq, Inhabited
@[go_sem] def cmA (c : Cmt) : AV := .agg [.int .i64 c.id, .int .i64 c.app, .str c.s]
end Go.Proofs
