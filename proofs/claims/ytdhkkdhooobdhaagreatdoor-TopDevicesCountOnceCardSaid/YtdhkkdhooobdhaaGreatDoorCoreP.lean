/- A rule for each kind of operation and of value. Written by genp.py. -/
import Derived.Test.YtdhkkdhooobdhaaGreatDoorCoreO
set_option linter.unusedVariables false
set_option linter.unusedSimpArgs false
namespace Go.Ideal
open Go.RowKit
theorem optOK_int {g : Bool} {q : IntKind} {m : Int} : optOK g (.int q m : AV) = True := rfl
theorem optOK_bool {g : Bool} {q : Bool} : optOK g (.bool q : AV) = True := rfl
theorem optOK_str {g : Bool} {q : List UInt8} : optOK g (.str q : AV) = True := rfl
theorem optOK_agg {g : Bool} {q : List AV} : optOK g (.agg q : AV) = True := rfl
theorem optOK_tup {g : Bool} {q : List AV} : optOK g (.tup q : AV) = True := rfl
theorem optOK_sl {g : Bool} {q : Bool} {m : Nat} {l : List AV} : optOK g (.sl q m l : AV) = True := rfl
theorem optOK_cp {g : Bool} {q : List AV} : optOK g (.cp q : AV) = True := rfl
theorem optOK_osl {g : Bool} {q m l : Nat} : optOK g (.osl q m l : AV) = True := rfl
theorem optOK_op {g : Bool} {q m l : Nat} : optOK g (.op q m l : AV) = True := rfl
theorem optOK_fn {g : Bool} {q : FuncId} {l : List AV} : optOK g (.fn q l : AV) = True := rfl
theorem optOK_ifc {g : Bool} {q : TypeId} {l : AV} : optOK g (.ifc q l : AV) = True := rfl
theorem optOK_mth {g : Bool} {q : String} {l : AV} : optOK g (.mth q l : AV) = True := rfl
theorem optOK_slk {g : Bool} {q m : Nat} {l : List AV} : optOK g (.slk q m l : AV) = True := rfl
theorem optOK_atom {g : Bool} {q : Value} : optOK g (.atom q : AV) = True := rfl
theorem optOK_mp {g : Bool} {q : List Int} {l : List AV} : optOK g (.mp q l : AV) = True := rfl
theorem optOK_val {g : Bool} {q : Value} : optOK g (.val q : AV) = True := rfl
theorem optOK_opt {g : Bool} {q : Bool} {l : AV} : optOK g (.opt q l : AV) = (g = true → q = true) := rfl
theorem optOK_big {g : Bool} {q : List AV} : optOK g (.big q : AV) = True := rfl
theorem optOK_junk {g : Bool}  : optOK g (.junk : AV) = True := rfl
theorem strip_int  {q : IntKind} {m : Int} : strip (.int q m : AV) = (.int q m) := rfl
theorem strip_bool  {q : Bool} : strip (.bool q : AV) = (.bool q) := rfl
theorem strip_str  {q : List UInt8} : strip (.str q : AV) = (.str q) := rfl
theorem strip_agg  {q : List AV} : strip (.agg q : AV) = (.agg q) := rfl
theorem strip_tup  {q : List AV} : strip (.tup q : AV) = (.tup q) := rfl
theorem strip_sl  {q : Bool} {m : Nat} {l : List AV} : strip (.sl q m l : AV) = (.sl q m l) := rfl
theorem strip_cp  {q : List AV} : strip (.cp q : AV) = (.cp q) := rfl
theorem strip_osl  {q m l : Nat} : strip (.osl q m l : AV) = (.osl q m l) := rfl
theorem strip_op  {q m l : Nat} : strip (.op q m l : AV) = (.op q m l) := rfl
theorem strip_fn  {q : FuncId} {l : List AV} : strip (.fn q l : AV) = (.fn q l) := rfl
theorem strip_ifc  {q : TypeId} {l : AV} : strip (.ifc q l : AV) = (.ifc q l) := rfl
theorem strip_mth  {q : String} {l : AV} : strip (.mth q l : AV) = (.mth q l) := rfl
theorem strip_slk  {q m : Nat} {l : List AV} : strip (.slk q m l : AV) = (.slk q m l) := rfl
theorem strip_atom  {q : Value} : strip (.atom q : AV) = (.atom q) := rfl
theorem strip_mp  {q : List Int} {l : List AV} : strip (.mp q l : AV) = (.mp q l) := rfl
theorem strip_val  {q : Value} : strip (.val q : AV) = (.val q) := rfl
theorem strip_opt  {q : Bool} {l : AV} : strip (.opt q l : AV) = l := rfl
theorem strip_big  {q : List AV} : strip (.big q : AV) = (.big q) := rfl
theorem strip_junk   : strip (.junk : AV) = (.junk) := rfl
theorem cells_int  {q : IntKind} {m : Int} : AV.cells (.int q m : AV) = [(.int q m)] := rfl
theorem cells_bool  {q : Bool} : AV.cells (.bool q : AV) = [(.bool q)] := rfl
theorem cells_str  {q : List UInt8} : AV.cells (.str q : AV) = [(.str q)] := rfl
theorem cells_agg  {q : List AV} : AV.cells (.agg q : AV) = q := rfl
theorem cells_tup  {q : List AV} : AV.cells (.tup q : AV) = [(.tup q)] := rfl
theorem cells_sl  {q : Bool} {m : Nat} {l : List AV} : AV.cells (.sl q m l : AV) = [(.sl q m l)] := rfl
theorem cells_cp  {q : List AV} : AV.cells (.cp q : AV) = [(.cp q)] := rfl
theorem cells_osl  {q m l : Nat} : AV.cells (.osl q m l : AV) = [(.osl q m l)] := rfl
theorem cells_op  {q m l : Nat} : AV.cells (.op q m l : AV) = [(.op q m l)] := rfl
theorem cells_fn  {q : FuncId} {l : List AV} : AV.cells (.fn q l : AV) = [(.fn q l)] := rfl
theorem cells_ifc  {q : TypeId} {l : AV} : AV.cells (.ifc q l : AV) = [(.ifc q l)] := rfl
theorem cells_mth  {q : String} {l : AV} : AV.cells (.mth q l : AV) = [(.mth q l)] := rfl
theorem cells_slk  {q m : Nat} {l : List AV} : AV.cells (.slk q m l : AV) = [(.slk q m l)] := rfl
theorem cells_atom  {q : Value} : AV.cells (.atom q : AV) = [(.atom q)] := rfl
theorem cells_mp  {q : List Int} {l : List AV} : AV.cells (.mp q l : AV) = [(.mp q l)] := rfl
theorem cells_val  {q : Value} : AV.cells (.val q : AV) = [(.val q)] := rfl
theorem cells_opt  {q : Bool} {l : AV} : AV.cells (.opt q l : AV) = [(.opt q l)] := rfl
theorem cells_big  {q : List AV} : AV.cells (.big q : AV) = [(.big q)] := rfl
theorem cells_junk   : AV.cells (.junk : AV) = [(.junk)] := rfl
theorem sto_int  {q : IntKind} {m : Int} : AV.sto (.int q m : AV) = true := rfl
theorem sto_bool  {q : Bool} : AV.sto (.bool q : AV) = true := rfl
theorem sto_str  {q : List UInt8} : AV.sto (.str q : AV) = true := rfl
theorem sto_agg  {q : List AV} : AV.sto (.agg q : AV) = true := rfl
theorem sto_tup  {q : List AV} : AV.sto (.tup q : AV) = false := rfl
theorem sto_sl  {q : Bool} {m : Nat} {l : List AV} : AV.sto (.sl q m l : AV) = true := rfl
theorem sto_cp  {q : List AV} : AV.sto (.cp q : AV) = true := rfl
theorem sto_osl  {q m l : Nat} : AV.sto (.osl q m l : AV) = false := rfl
theorem sto_op  {q m l : Nat} : AV.sto (.op q m l : AV) = false := rfl
theorem sto_fn  {q : FuncId} {l : List AV} : AV.sto (.fn q l : AV) = true := rfl
theorem sto_ifc  {q : TypeId} {l : AV} : AV.sto (.ifc q l : AV) = true := rfl
theorem sto_mth  {q : String} {l : AV} : AV.sto (.mth q l : AV) = false := rfl
theorem sto_slk  {q m : Nat} {l : List AV} : AV.sto (.slk q m l : AV) = false := rfl
theorem sto_atom  {q : Value} : AV.sto (.atom q : AV) = true := rfl
theorem sto_mp  {q : List Int} {l : List AV} : AV.sto (.mp q l : AV) = true := rfl
theorem sto_val  {q : Value} : AV.sto (.val q : AV) = false := rfl
theorem sto_opt  {q : Bool} {l : AV} : AV.sto (.opt q l : AV) = false := rfl
theorem sto_big  {q : List AV} : AV.sto (.big q : AV) = false := rfl
theorem sto_junk   : AV.sto (.junk : AV) = false := rfl
theorem data0_int  {q : IntKind} {m : Int} : AV.data0 (.int q m : AV) = true := rfl
theorem data0_bool  {q : Bool} : AV.data0 (.bool q : AV) = true := rfl
theorem data0_str  {q : List UInt8} : AV.data0 (.str q : AV) = true := rfl
theorem data0_agg  {q : List AV} : AV.data0 (.agg q : AV) = true := rfl
theorem data0_tup  {q : List AV} : AV.data0 (.tup q : AV) = true := rfl
theorem data0_sl  {q : Bool} {m : Nat} {l : List AV} : AV.data0 (.sl q m l : AV) = true := rfl
theorem data0_cp  {q : List AV} : AV.data0 (.cp q : AV) = true := rfl
theorem data0_osl  {q m l : Nat} : AV.data0 (.osl q m l : AV) = false := rfl
theorem data0_op  {q m l : Nat} : AV.data0 (.op q m l : AV) = false := rfl
theorem data0_fn  {q : FuncId} {l : List AV} : AV.data0 (.fn q l : AV) = true := rfl
theorem data0_ifc  {q : TypeId} {l : AV} : AV.data0 (.ifc q l : AV) = true := rfl
theorem data0_mth  {q : String} {l : AV} : AV.data0 (.mth q l : AV) = true := rfl
theorem data0_slk  {q m : Nat} {l : List AV} : AV.data0 (.slk q m l : AV) = true := rfl
theorem data0_atom  {q : Value} : AV.data0 (.atom q : AV) = true := rfl
theorem data0_mp  {q : List Int} {l : List AV} : AV.data0 (.mp q l : AV) = true := rfl
theorem data0_val  {q : Value} : AV.data0 (.val q : AV) = true := rfl
theorem data0_opt  {q : Bool} {l : AV} : AV.data0 (.opt q l : AV) = true := rfl
theorem data0_big  {q : List AV} : AV.data0 (.big q : AV) = true := rfl
theorem data0_junk   : AV.data0 (.junk : AV) = true := rfl
theorem data_int  {q : IntKind} {m : Int} : AV.data (.int q m : AV) = true := rfl
theorem data_bool  {q : Bool} : AV.data (.bool q : AV) = true := rfl
theorem data_str  {q : List UInt8} : AV.data (.str q : AV) = true := rfl
theorem data_agg  {q : List AV} : AV.data (.agg q : AV) = true := rfl
theorem data_tup  {q : List AV} : AV.data (.tup q : AV) = false := rfl
theorem data_sl  {q : Bool} {m : Nat} {l : List AV} : AV.data (.sl q m l : AV) = true := rfl
theorem data_cp  {q : List AV} : AV.data (.cp q : AV) = true := rfl
theorem data_osl  {q m l : Nat} : AV.data (.osl q m l : AV) = false := rfl
theorem data_op  {q m l : Nat} : AV.data (.op q m l : AV) = false := rfl
theorem data_fn  {q : FuncId} {l : List AV} : AV.data (.fn q l : AV) = l.all AV.data0 := rfl
theorem data_ifc  {q : TypeId} {l : AV} : AV.data (.ifc q l : AV) = true := rfl
theorem data_mth  {q : String} {l : AV} : AV.data (.mth q l : AV) = true := rfl
theorem data_slk  {q m : Nat} {l : List AV} : AV.data (.slk q m l : AV) = true := rfl
theorem data_atom  {q : Value} : AV.data (.atom q : AV) = true := rfl
theorem data_mp  {q : List Int} {l : List AV} : AV.data (.mp q l : AV) = true := rfl
theorem data_val  {q : Value} : AV.data (.val q : AV) = true := rfl
theorem data_opt  {q : Bool} {l : AV} : AV.data (.opt q l : AV) = true := rfl
theorem data_big  {q : List AV} : AV.data (.big q : AV) = false := rfl
theorem data_junk   : AV.data (.junk : AV) = true := rfl
theorem nm0_int  {q : IntKind} {m : Int} : AV.nm0 (.int q m : AV) = [] := rfl
theorem nm0_bool  {q : Bool} : AV.nm0 (.bool q : AV) = [] := rfl
theorem nm0_str  {q : List UInt8} : AV.nm0 (.str q : AV) = [] := rfl
theorem nm0_agg  {q : List AV} : AV.nm0 (.agg q : AV) = [] := rfl
theorem nm0_tup  {q : List AV} : AV.nm0 (.tup q : AV) = [] := rfl
theorem nm0_sl  {q : Bool} {m : Nat} {l : List AV} : AV.nm0 (.sl q m l : AV) = [] := rfl
theorem nm0_cp  {q : List AV} : AV.nm0 (.cp q : AV) = [] := rfl
theorem nm0_osl  {q m l : Nat} : AV.nm0 (.osl q m l : AV) = [q] := rfl
theorem nm0_op  {q m l : Nat} : AV.nm0 (.op q m l : AV) = [q] := rfl
theorem nm0_fn  {q : FuncId} {l : List AV} : AV.nm0 (.fn q l : AV) = [] := rfl
theorem nm0_ifc  {q : TypeId} {l : AV} : AV.nm0 (.ifc q l : AV) = [] := rfl
theorem nm0_mth  {q : String} {l : AV} : AV.nm0 (.mth q l : AV) = [] := rfl
theorem nm0_slk  {q m : Nat} {l : List AV} : AV.nm0 (.slk q m l : AV) = [] := rfl
theorem nm0_atom  {q : Value} : AV.nm0 (.atom q : AV) = [] := rfl
theorem nm0_mp  {q : List Int} {l : List AV} : AV.nm0 (.mp q l : AV) = [] := rfl
theorem nm0_val  {q : Value} : AV.nm0 (.val q : AV) = [] := rfl
theorem nm0_opt  {q : Bool} {l : AV} : AV.nm0 (.opt q l : AV) = [] := rfl
theorem nm0_big  {q : List AV} : AV.nm0 (.big q : AV) = [] := rfl
theorem nm0_junk   : AV.nm0 (.junk : AV) = [] := rfl
theorem nm_int  {q : IntKind} {m : Int} : AV.nm (.int q m : AV) = [] := rfl
theorem nm_bool  {q : Bool} : AV.nm (.bool q : AV) = [] := rfl
theorem nm_str  {q : List UInt8} : AV.nm (.str q : AV) = [] := rfl
theorem nm_agg  {q : List AV} : AV.nm (.agg q : AV) = [] := rfl
theorem nm_tup  {q : List AV} : AV.nm (.tup q : AV) = q.flatMap AV.nm0 := rfl
theorem nm_sl  {q : Bool} {m : Nat} {l : List AV} : AV.nm (.sl q m l : AV) = [] := rfl
theorem nm_cp  {q : List AV} : AV.nm (.cp q : AV) = [] := rfl
theorem nm_osl  {q m l : Nat} : AV.nm (.osl q m l : AV) = [q] := rfl
theorem nm_op  {q m l : Nat} : AV.nm (.op q m l : AV) = [q] := rfl
theorem nm_fn  {q : FuncId} {l : List AV} : AV.nm (.fn q l : AV) = l.flatMap AV.nm0 := rfl
theorem nm_ifc  {q : TypeId} {l : AV} : AV.nm (.ifc q l : AV) = [] := rfl
theorem nm_mth  {q : String} {l : AV} : AV.nm (.mth q l : AV) = [] := rfl
theorem nm_slk  {q m : Nat} {l : List AV} : AV.nm (.slk q m l : AV) = [] := rfl
theorem nm_atom  {q : Value} : AV.nm (.atom q : AV) = [] := rfl
theorem nm_mp  {q : List Int} {l : List AV} : AV.nm (.mp q l : AV) = [] := rfl
theorem nm_val  {q : Value} : AV.nm (.val q : AV) = [] := rfl
theorem nm_opt  {q : Bool} {l : AV} : AV.nm (.opt q l : AV) = [] := rfl
theorem nm_big  {q : List AV} : AV.nm (.big q : AV) = q.flatMap AV.nm0 := rfl
theorem nm_junk   : AV.nm (.junk : AV) = [] := rfl
theorem names0_int {k : Nat} {q : IntKind} {m : Int} : AV.names0 k (.int q m : AV) = false := rfl
theorem names0_bool {k : Nat} {q : Bool} : AV.names0 k (.bool q : AV) = false := rfl
theorem names0_str {k : Nat} {q : List UInt8} : AV.names0 k (.str q : AV) = false := rfl
theorem names0_agg {k : Nat} {q : List AV} : AV.names0 k (.agg q : AV) = false := rfl
theorem names0_tup {k : Nat} {q : List AV} : AV.names0 k (.tup q : AV) = false := rfl
theorem names0_sl {k : Nat} {q : Bool} {m : Nat} {l : List AV} : AV.names0 k (.sl q m l : AV) = false := rfl
theorem names0_cp {k : Nat} {q : List AV} : AV.names0 k (.cp q : AV) = false := rfl
theorem names0_osl {k : Nat} {q m l : Nat} : AV.names0 k (.osl q m l : AV) = (q == k) := rfl
theorem names0_op {k : Nat} {q m l : Nat} : AV.names0 k (.op q m l : AV) = (q == k) := rfl
theorem names0_fn {k : Nat} {q : FuncId} {l : List AV} : AV.names0 k (.fn q l : AV) = false := rfl
theorem names0_ifc {k : Nat} {q : TypeId} {l : AV} : AV.names0 k (.ifc q l : AV) = false := rfl
theorem names0_mth {k : Nat} {q : String} {l : AV} : AV.names0 k (.mth q l : AV) = false := rfl
theorem names0_slk {k : Nat} {q m : Nat} {l : List AV} : AV.names0 k (.slk q m l : AV) = false := rfl
theorem names0_atom {k : Nat} {q : Value} : AV.names0 k (.atom q : AV) = false := rfl
theorem names0_mp {k : Nat} {q : List Int} {l : List AV} : AV.names0 k (.mp q l : AV) = false := rfl
theorem names0_val {k : Nat} {q : Value} : AV.names0 k (.val q : AV) = false := rfl
theorem names0_opt {k : Nat} {q : Bool} {l : AV} : AV.names0 k (.opt q l : AV) = false := rfl
theorem names0_big {k : Nat} {q : List AV} : AV.names0 k (.big q : AV) = false := rfl
theorem names0_junk {k : Nat}  : AV.names0 k (.junk : AV) = false := rfl
theorem names1_int {k : Nat} {q : IntKind} {m : Int} : AV.names1 k (.int q m : AV) = false := rfl
theorem names1_bool {k : Nat} {q : Bool} : AV.names1 k (.bool q : AV) = false := rfl
theorem names1_str {k : Nat} {q : List UInt8} : AV.names1 k (.str q : AV) = false := rfl
theorem names1_agg {k : Nat} {q : List AV} : AV.names1 k (.agg q : AV) = false := rfl
theorem names1_tup {k : Nat} {q : List AV} : AV.names1 k (.tup q : AV) = q.any (AV.names0 k) := rfl
theorem names1_sl {k : Nat} {q : Bool} {m : Nat} {l : List AV} : AV.names1 k (.sl q m l : AV) = false := rfl
theorem names1_cp {k : Nat} {q : List AV} : AV.names1 k (.cp q : AV) = false := rfl
theorem names1_osl {k : Nat} {q m l : Nat} : AV.names1 k (.osl q m l : AV) = (q == k) := rfl
theorem names1_op {k : Nat} {q m l : Nat} : AV.names1 k (.op q m l : AV) = (q == k) := rfl
theorem names1_fn {k : Nat} {q : FuncId} {l : List AV} : AV.names1 k (.fn q l : AV) = l.any (AV.names0 k) := rfl
theorem names1_ifc {k : Nat} {q : TypeId} {l : AV} : AV.names1 k (.ifc q l : AV) = false := rfl
theorem names1_mth {k : Nat} {q : String} {l : AV} : AV.names1 k (.mth q l : AV) = false := rfl
theorem names1_slk {k : Nat} {q m : Nat} {l : List AV} : AV.names1 k (.slk q m l : AV) = false := rfl
theorem names1_atom {k : Nat} {q : Value} : AV.names1 k (.atom q : AV) = false := rfl
theorem names1_mp {k : Nat} {q : List Int} {l : List AV} : AV.names1 k (.mp q l : AV) = false := rfl
theorem names1_val {k : Nat} {q : Value} : AV.names1 k (.val q : AV) = false := rfl
theorem names1_opt {k : Nat} {q : Bool} {l : AV} : AV.names1 k (.opt q l : AV) = false := rfl
theorem names1_big {k : Nat} {q : List AV} : AV.names1 k (.big q : AV) = q.any (AV.names0 k) := rfl
theorem names1_junk {k : Nat}  : AV.names1 k (.junk : AV) = false := rfl
theorem kill_int {k : Nat} {q : IntKind} {m : Int} : AV.kill k (.int q m : AV) = (.int q m) := rfl
theorem kill_bool {k : Nat} {q : Bool} : AV.kill k (.bool q : AV) = (.bool q) := rfl
theorem kill_str {k : Nat} {q : List UInt8} : AV.kill k (.str q : AV) = (.str q) := rfl
theorem kill_agg {k : Nat} {q : List AV} : AV.kill k (.agg q : AV) = (.agg q) := rfl
theorem kill_tup {k : Nat} {q : List AV} : AV.kill k (.tup q : AV) = (if q.any (AV.names0 k) = true then .junk else (.tup q)) := rfl
theorem kill_sl {k : Nat} {q : Bool} {m : Nat} {l : List AV} : AV.kill k (.sl q m l : AV) = (.sl q m l) := rfl
theorem kill_cp {k : Nat} {q : List AV} : AV.kill k (.cp q : AV) = (.cp q) := rfl
theorem kill_osl {k : Nat} {q m l : Nat} : AV.kill k (.osl q m l : AV) = (if (q == k) = true then .junk else (.osl q m l)) := rfl
theorem kill_op {k : Nat} {q m l : Nat} : AV.kill k (.op q m l : AV) = (if (q == k) = true then .junk else (.op q m l)) := rfl
theorem kill_fn {k : Nat} {q : FuncId} {l : List AV} : AV.kill k (.fn q l : AV) = (if l.any (AV.names0 k) = true then .junk else (.fn q l)) := rfl
theorem kill_ifc {k : Nat} {q : TypeId} {l : AV} : AV.kill k (.ifc q l : AV) = (.ifc q l) := rfl
theorem kill_mth {k : Nat} {q : String} {l : AV} : AV.kill k (.mth q l : AV) = (.mth q l) := rfl
theorem kill_slk {k : Nat} {q m : Nat} {l : List AV} : AV.kill k (.slk q m l : AV) = (.slk q m l) := rfl
theorem kill_atom {k : Nat} {q : Value} : AV.kill k (.atom q : AV) = (.atom q) := rfl
theorem kill_mp {k : Nat} {q : List Int} {l : List AV} : AV.kill k (.mp q l : AV) = (.mp q l) := rfl
theorem kill_val {k : Nat} {q : Value} : AV.kill k (.val q : AV) = (.val q) := rfl
theorem kill_opt {k : Nat} {q : Bool} {l : AV} : AV.kill k (.opt q l : AV) = (if l.names1 k = true then .junk else (.opt q l)) := rfl
theorem kill_big {k : Nat} {q : List AV} : AV.kill k (.big q : AV) = (if q.any (AV.names0 k) = true then .junk else (.big q)) := rfl
theorem kill_junk {k : Nat}  : AV.kill k (.junk : AV) = (.junk) := rfl
theorem frz0_int {k sz : Nat} {xs : List AV} {q : IntKind} {m : Int} : frz0 k sz xs (.int q m : AV) = (.int q m) := rfl
theorem frz0_bool {k sz : Nat} {xs : List AV} {q : Bool} : frz0 k sz xs (.bool q : AV) = (.bool q) := rfl
theorem frz0_str {k sz : Nat} {xs : List AV} {q : List UInt8} : frz0 k sz xs (.str q : AV) = (.str q) := rfl
theorem frz0_agg {k sz : Nat} {xs : List AV} {q : List AV} : frz0 k sz xs (.agg q : AV) = (.agg q) := rfl
theorem frz0_tup {k sz : Nat} {xs : List AV} {q : List AV} : frz0 k sz xs (.tup q : AV) = (.tup q) := rfl
theorem frz0_sl {k sz : Nat} {xs : List AV} {q : Bool} {m : Nat} {l : List AV} : frz0 k sz xs (.sl q m l : AV) = (.sl q m l) := rfl
theorem frz0_cp {k sz : Nat} {xs : List AV} {q : List AV} : frz0 k sz xs (.cp q : AV) = (.cp q) := rfl
theorem frz0_osl {k sz : Nat} {xs : List AV} {q m l : Nat} : frz0 k sz xs (.osl q m l : AV) = (if q = k then (if m + l ≤ xs.length then .sl false sz ((xs.drop m).take l) else .junk) else (.osl q m l)) := rfl
theorem frz0_op {k sz : Nat} {xs : List AV} {q m l : Nat} : frz0 k sz xs (.op q m l : AV) = (if q = k then (if m < xs.length then .cp ((xs.getD m .junk).cells.drop l) else .junk) else (.op q m l)) := rfl
theorem frz0_fn {k sz : Nat} {xs : List AV} {q : FuncId} {l : List AV} : frz0 k sz xs (.fn q l : AV) = (.fn q l) := rfl
theorem frz0_ifc {k sz : Nat} {xs : List AV} {q : TypeId} {l : AV} : frz0 k sz xs (.ifc q l : AV) = (.ifc q l) := rfl
theorem frz0_mth {k sz : Nat} {xs : List AV} {q : String} {l : AV} : frz0 k sz xs (.mth q l : AV) = (.mth q l) := rfl
theorem frz0_slk {k sz : Nat} {xs : List AV} {q m : Nat} {l : List AV} : frz0 k sz xs (.slk q m l : AV) = (.slk q m l) := rfl
theorem frz0_atom {k sz : Nat} {xs : List AV} {q : Value} : frz0 k sz xs (.atom q : AV) = (.atom q) := rfl
theorem frz0_mp {k sz : Nat} {xs : List AV} {q : List Int} {l : List AV} : frz0 k sz xs (.mp q l : AV) = (.mp q l) := rfl
theorem frz0_val {k sz : Nat} {xs : List AV} {q : Value} : frz0 k sz xs (.val q : AV) = (.val q) := rfl
theorem frz0_opt {k sz : Nat} {xs : List AV} {q : Bool} {l : AV} : frz0 k sz xs (.opt q l : AV) = (.opt q l) := rfl
theorem frz0_big {k sz : Nat} {xs : List AV} {q : List AV} : frz0 k sz xs (.big q : AV) = (.big q) := rfl
theorem frz0_junk {k sz : Nat} {xs : List AV}  : frz0 k sz xs (.junk : AV) = (.junk) := rfl
theorem frz1_int {k sz : Nat} {xs : List AV} {q : IntKind} {m : Int} : frz1 k sz xs (.int q m : AV) = (.int q m) := rfl
theorem frz1_bool {k sz : Nat} {xs : List AV} {q : Bool} : frz1 k sz xs (.bool q : AV) = (.bool q) := rfl
theorem frz1_str {k sz : Nat} {xs : List AV} {q : List UInt8} : frz1 k sz xs (.str q : AV) = (.str q) := rfl
theorem frz1_agg {k sz : Nat} {xs : List AV} {q : List AV} : frz1 k sz xs (.agg q : AV) = (.agg q) := rfl
theorem frz1_tup {k sz : Nat} {xs : List AV} {q : List AV} : frz1 k sz xs (.tup q : AV) = .tup (q.map (frz0 k sz xs)) := rfl
theorem frz1_sl {k sz : Nat} {xs : List AV} {q : Bool} {m : Nat} {l : List AV} : frz1 k sz xs (.sl q m l : AV) = (.sl q m l) := rfl
theorem frz1_cp {k sz : Nat} {xs : List AV} {q : List AV} : frz1 k sz xs (.cp q : AV) = (.cp q) := rfl
theorem frz1_osl {k sz : Nat} {xs : List AV} {q m l : Nat} : frz1 k sz xs (.osl q m l : AV) = (if q = k then (if m + l ≤ xs.length then .sl false sz ((xs.drop m).take l) else .junk) else (.osl q m l)) := rfl
theorem frz1_op {k sz : Nat} {xs : List AV} {q m l : Nat} : frz1 k sz xs (.op q m l : AV) = (if q = k then (if m < xs.length then .cp ((xs.getD m .junk).cells.drop l) else .junk) else (.op q m l)) := rfl
theorem frz1_fn {k sz : Nat} {xs : List AV} {q : FuncId} {l : List AV} : frz1 k sz xs (.fn q l : AV) = .fn q (l.map (frz0 k sz xs)) := rfl
theorem frz1_ifc {k sz : Nat} {xs : List AV} {q : TypeId} {l : AV} : frz1 k sz xs (.ifc q l : AV) = (.ifc q l) := rfl
theorem frz1_mth {k sz : Nat} {xs : List AV} {q : String} {l : AV} : frz1 k sz xs (.mth q l : AV) = (.mth q l) := rfl
theorem frz1_slk {k sz : Nat} {xs : List AV} {q m : Nat} {l : List AV} : frz1 k sz xs (.slk q m l : AV) = (.slk q m l) := rfl
theorem frz1_atom {k sz : Nat} {xs : List AV} {q : Value} : frz1 k sz xs (.atom q : AV) = (.atom q) := rfl
theorem frz1_mp {k sz : Nat} {xs : List AV} {q : List Int} {l : List AV} : frz1 k sz xs (.mp q l : AV) = (.mp q l) := rfl
theorem frz1_val {k sz : Nat} {xs : List AV} {q : Value} : frz1 k sz xs (.val q : AV) = (.val q) := rfl
theorem frz1_opt {k sz : Nat} {xs : List AV} {q : Bool} {l : AV} : frz1 k sz xs (.opt q l : AV) = (.opt q l) := rfl
theorem frz1_big {k sz : Nat} {xs : List AV} {q : List AV} : frz1 k sz xs (.big q : AV) = mkBig (q.map (frz0 k sz xs)) := rfl
theorem frz1_junk {k sz : Nat} {xs : List AV}  : frz1 k sz xs (.junk : AV) = (.junk) := rfl
theorem frz2_int {k sz : Nat} {xs : List AV} {q : IntKind} {m : Int} : frz2 k sz xs (.int q m : AV) = (.int q m) := rfl
theorem frz2_bool {k sz : Nat} {xs : List AV} {q : Bool} : frz2 k sz xs (.bool q : AV) = (.bool q) := rfl
theorem frz2_str {k sz : Nat} {xs : List AV} {q : List UInt8} : frz2 k sz xs (.str q : AV) = (.str q) := rfl
theorem frz2_agg {k sz : Nat} {xs : List AV} {q : List AV} : frz2 k sz xs (.agg q : AV) = (.agg q) := rfl
theorem frz2_tup {k sz : Nat} {xs : List AV} {q : List AV} : frz2 k sz xs (.tup q : AV) = .tup (q.map (frz0 k sz xs)) := rfl
theorem frz2_sl {k sz : Nat} {xs : List AV} {q : Bool} {m : Nat} {l : List AV} : frz2 k sz xs (.sl q m l : AV) = (.sl q m l) := rfl
theorem frz2_cp {k sz : Nat} {xs : List AV} {q : List AV} : frz2 k sz xs (.cp q : AV) = (.cp q) := rfl
theorem frz2_osl {k sz : Nat} {xs : List AV} {q m l : Nat} : frz2 k sz xs (.osl q m l : AV) = (if q = k then (if m + l ≤ xs.length then .sl false sz ((xs.drop m).take l) else .junk) else (.osl q m l)) := rfl
theorem frz2_op {k sz : Nat} {xs : List AV} {q m l : Nat} : frz2 k sz xs (.op q m l : AV) = (if q = k then (if m < xs.length then .cp ((xs.getD m .junk).cells.drop l) else .junk) else (.op q m l)) := rfl
theorem frz2_fn {k sz : Nat} {xs : List AV} {q : FuncId} {l : List AV} : frz2 k sz xs (.fn q l : AV) = .fn q (l.map (frz0 k sz xs)) := rfl
theorem frz2_ifc {k sz : Nat} {xs : List AV} {q : TypeId} {l : AV} : frz2 k sz xs (.ifc q l : AV) = (.ifc q l) := rfl
theorem frz2_mth {k sz : Nat} {xs : List AV} {q : String} {l : AV} : frz2 k sz xs (.mth q l : AV) = (.mth q l) := rfl
theorem frz2_slk {k sz : Nat} {xs : List AV} {q m : Nat} {l : List AV} : frz2 k sz xs (.slk q m l : AV) = (.slk q m l) := rfl
theorem frz2_atom {k sz : Nat} {xs : List AV} {q : Value} : frz2 k sz xs (.atom q : AV) = (.atom q) := rfl
theorem frz2_mp {k sz : Nat} {xs : List AV} {q : List Int} {l : List AV} : frz2 k sz xs (.mp q l : AV) = (.mp q l) := rfl
theorem frz2_val {k sz : Nat} {xs : List AV} {q : Value} : frz2 k sz xs (.val q : AV) = (.val q) := rfl
theorem frz2_opt {k sz : Nat} {xs : List AV} {q : Bool} {l : AV} : frz2 k sz xs (.opt q l : AV) = .opt q (frz1 k sz xs l) := rfl
theorem frz2_big {k sz : Nat} {xs : List AV} {q : List AV} : frz2 k sz xs (.big q : AV) = mkBig (q.map (frz0 k sz xs)) := rfl
theorem frz2_junk {k sz : Nat} {xs : List AV}  : frz2 k sz xs (.junk : AV) = (.junk) := rfl
theorem ren0_int {k : Nat} {q : IntKind} {m : Int} : AV.ren0 k (.int q m : AV) = (.int q m) := rfl
theorem ren0_bool {k : Nat} {q : Bool} : AV.ren0 k (.bool q : AV) = (.bool q) := rfl
theorem ren0_str {k : Nat} {q : List UInt8} : AV.ren0 k (.str q : AV) = (.str q) := rfl
theorem ren0_agg {k : Nat} {q : List AV} : AV.ren0 k (.agg q : AV) = (.agg q) := rfl
theorem ren0_tup {k : Nat} {q : List AV} : AV.ren0 k (.tup q : AV) = (.tup q) := rfl
theorem ren0_sl {k : Nat} {q : Bool} {m : Nat} {l : List AV} : AV.ren0 k (.sl q m l : AV) = (.sl q m l) := rfl
theorem ren0_cp {k : Nat} {q : List AV} : AV.ren0 k (.cp q : AV) = (.cp q) := rfl
theorem ren0_osl {k : Nat} {q m l : Nat} : AV.ren0 k (.osl q m l : AV) = .osl k m l := rfl
theorem ren0_op {k : Nat} {q m l : Nat} : AV.ren0 k (.op q m l : AV) = .op k m l := rfl
theorem ren0_fn {k : Nat} {q : FuncId} {l : List AV} : AV.ren0 k (.fn q l : AV) = (.fn q l) := rfl
theorem ren0_ifc {k : Nat} {q : TypeId} {l : AV} : AV.ren0 k (.ifc q l : AV) = (.ifc q l) := rfl
theorem ren0_mth {k : Nat} {q : String} {l : AV} : AV.ren0 k (.mth q l : AV) = (.mth q l) := rfl
theorem ren0_slk {k : Nat} {q m : Nat} {l : List AV} : AV.ren0 k (.slk q m l : AV) = (.slk q m l) := rfl
theorem ren0_atom {k : Nat} {q : Value} : AV.ren0 k (.atom q : AV) = (.atom q) := rfl
theorem ren0_mp {k : Nat} {q : List Int} {l : List AV} : AV.ren0 k (.mp q l : AV) = (.mp q l) := rfl
theorem ren0_val {k : Nat} {q : Value} : AV.ren0 k (.val q : AV) = (.val q) := rfl
theorem ren0_opt {k : Nat} {q : Bool} {l : AV} : AV.ren0 k (.opt q l : AV) = (.opt q l) := rfl
theorem ren0_big {k : Nat} {q : List AV} : AV.ren0 k (.big q : AV) = (.big q) := rfl
theorem ren0_junk {k : Nat}  : AV.ren0 k (.junk : AV) = (.junk) := rfl
theorem ren_int {k : Nat} {q : IntKind} {m : Int} : AV.ren k (.int q m : AV) = (.int q m) := rfl
theorem ren_bool {k : Nat} {q : Bool} : AV.ren k (.bool q : AV) = (.bool q) := rfl
theorem ren_str {k : Nat} {q : List UInt8} : AV.ren k (.str q : AV) = (.str q) := rfl
theorem ren_agg {k : Nat} {q : List AV} : AV.ren k (.agg q : AV) = (.agg q) := rfl
theorem ren_tup {k : Nat} {q : List AV} : AV.ren k (.tup q : AV) = .tup (q.map (AV.ren0 k)) := rfl
theorem ren_sl {k : Nat} {q : Bool} {m : Nat} {l : List AV} : AV.ren k (.sl q m l : AV) = (.sl q m l) := rfl
theorem ren_cp {k : Nat} {q : List AV} : AV.ren k (.cp q : AV) = (.cp q) := rfl
theorem ren_osl {k : Nat} {q m l : Nat} : AV.ren k (.osl q m l : AV) = .osl k m l := rfl
theorem ren_op {k : Nat} {q m l : Nat} : AV.ren k (.op q m l : AV) = .op k m l := rfl
theorem ren_fn {k : Nat} {q : FuncId} {l : List AV} : AV.ren k (.fn q l : AV) = (.fn q l) := rfl
theorem ren_ifc {k : Nat} {q : TypeId} {l : AV} : AV.ren k (.ifc q l : AV) = (.ifc q l) := rfl
theorem ren_mth {k : Nat} {q : String} {l : AV} : AV.ren k (.mth q l : AV) = (.mth q l) := rfl
theorem ren_slk {k : Nat} {q m : Nat} {l : List AV} : AV.ren k (.slk q m l : AV) = (.slk q m l) := rfl
theorem ren_atom {k : Nat} {q : Value} : AV.ren k (.atom q : AV) = (.atom q) := rfl
theorem ren_mp {k : Nat} {q : List Int} {l : List AV} : AV.ren k (.mp q l : AV) = (.mp q l) := rfl
theorem ren_val {k : Nat} {q : Value} : AV.ren k (.val q : AV) = (.val q) := rfl
theorem ren_opt {k : Nat} {q : Bool} {l : AV} : AV.ren k (.opt q l : AV) = (.opt q l) := rfl
theorem ren_big {k : Nat} {q : List AV} : AV.ren k (.big q : AV) = .big (q.map (AV.ren0 k)) := rfl
theorem ren_junk {k : Nat}  : AV.ren k (.junk : AV) = (.junk) := rfl
theorem isAggV_int  {q : IntKind} {m : Int} : isAggV (.int q m : AV) = false := rfl
theorem isAggV_bool  {q : Bool} : isAggV (.bool q : AV) = false := rfl
theorem isAggV_str  {q : List UInt8} : isAggV (.str q : AV) = false := rfl
theorem isAggV_agg  {q : List AV} : isAggV (.agg q : AV) = true := rfl
theorem isAggV_tup  {q : List AV} : isAggV (.tup q : AV) = false := rfl
theorem isAggV_sl  {q : Bool} {m : Nat} {l : List AV} : isAggV (.sl q m l : AV) = false := rfl
theorem isAggV_cp  {q : List AV} : isAggV (.cp q : AV) = false := rfl
theorem isAggV_osl  {q m l : Nat} : isAggV (.osl q m l : AV) = false := rfl
theorem isAggV_op  {q m l : Nat} : isAggV (.op q m l : AV) = false := rfl
theorem isAggV_fn  {q : FuncId} {l : List AV} : isAggV (.fn q l : AV) = false := rfl
theorem isAggV_ifc  {q : TypeId} {l : AV} : isAggV (.ifc q l : AV) = false := rfl
theorem isAggV_mth  {q : String} {l : AV} : isAggV (.mth q l : AV) = false := rfl
theorem isAggV_slk  {q m : Nat} {l : List AV} : isAggV (.slk q m l : AV) = false := rfl
theorem isAggV_atom  {q : Value} : isAggV (.atom q : AV) = false := rfl
theorem isAggV_mp  {q : List Int} {l : List AV} : isAggV (.mp q l : AV) = false := rfl
theorem isAggV_val  {q : Value} : isAggV (.val q : AV) = false := rfl
theorem isAggV_opt  {q : Bool} {l : AV} : isAggV (.opt q l : AV) = false := rfl
theorem isAggV_big  {q : List AV} : isAggV (.big q : AV) = false := rfl
theorem isAggV_junk   : isAggV (.junk : AV) = false := rfl
theorem updE_int  {q : IntKind} {m : Int} : updE (.int q m : AV) = fun _ x => x := rfl
theorem updE_bool  {q : Bool} : updE (.bool q : AV) = fun _ x => x := rfl
theorem updE_str  {q : List UInt8} : updE (.str q : AV) = fun _ x => x := rfl
theorem updE_agg  {q : List AV} : updE (.agg q : AV) = fun j x => .agg (q.take j ++ x.cells ++ q.drop (j + x.cells.length)) := rfl
theorem updE_tup  {q : List AV} : updE (.tup q : AV) = fun _ x => x := rfl
theorem updE_sl  {q : Bool} {m : Nat} {l : List AV} : updE (.sl q m l : AV) = fun _ x => x := rfl
theorem updE_cp  {q : List AV} : updE (.cp q : AV) = fun _ x => x := rfl
theorem updE_osl  {q m l : Nat} : updE (.osl q m l : AV) = fun _ x => x := rfl
theorem updE_op  {q m l : Nat} : updE (.op q m l : AV) = fun _ x => x := rfl
theorem updE_fn  {q : FuncId} {l : List AV} : updE (.fn q l : AV) = fun _ x => x := rfl
theorem updE_ifc  {q : TypeId} {l : AV} : updE (.ifc q l : AV) = fun _ x => x := rfl
theorem updE_mth  {q : String} {l : AV} : updE (.mth q l : AV) = fun _ x => x := rfl
theorem updE_slk  {q m : Nat} {l : List AV} : updE (.slk q m l : AV) = fun _ x => x := rfl
theorem updE_atom  {q : Value} : updE (.atom q : AV) = fun _ x => x := rfl
theorem updE_mp  {q : List Int} {l : List AV} : updE (.mp q l : AV) = fun _ x => x := rfl
theorem updE_val  {q : Value} : updE (.val q : AV) = fun _ x => x := rfl
theorem updE_opt  {q : Bool} {l : AV} : updE (.opt q l : AV) = fun _ x => x := rfl
theorem updE_big  {q : List AV} : updE (.big q : AV) = fun _ x => x := rfl
theorem updE_junk   : updE (.junk : AV) = fun _ x => x := rfl
theorem flagOf_bool {b : Bool} {q : Bool} : flagOf b (.bool q : AV) = some (q == b) := rfl
theorem nameOf_int  {q : IntKind} {m : Int} : AV.nameOf (.int q m : AV) = none := rfl
theorem nameOf_bool  {q : Bool} : AV.nameOf (.bool q : AV) = none := rfl
theorem nameOf_str  {q : List UInt8} : AV.nameOf (.str q : AV) = none := rfl
theorem nameOf_agg  {q : List AV} : AV.nameOf (.agg q : AV) = none := rfl
theorem nameOf_tup  {q : List AV} : AV.nameOf (.tup q : AV) = none := rfl
theorem nameOf_sl  {q : Bool} {m : Nat} {l : List AV} : AV.nameOf (.sl q m l : AV) = none := rfl
theorem nameOf_cp  {q : List AV} : AV.nameOf (.cp q : AV) = none := rfl
theorem nameOf_osl  {q m l : Nat} : AV.nameOf (.osl q m l : AV) = some q := rfl
theorem nameOf_op  {q m l : Nat} : AV.nameOf (.op q m l : AV) = some q := rfl
theorem nameOf_fn  {q : FuncId} {l : List AV} : AV.nameOf (.fn q l : AV) = none := rfl
theorem nameOf_ifc  {q : TypeId} {l : AV} : AV.nameOf (.ifc q l : AV) = none := rfl
theorem nameOf_mth  {q : String} {l : AV} : AV.nameOf (.mth q l : AV) = none := rfl
theorem nameOf_slk  {q m : Nat} {l : List AV} : AV.nameOf (.slk q m l : AV) = none := rfl
theorem nameOf_atom  {q : Value} : AV.nameOf (.atom q : AV) = none := rfl
theorem nameOf_mp  {q : List Int} {l : List AV} : AV.nameOf (.mp q l : AV) = none := rfl
theorem nameOf_val  {q : Value} : AV.nameOf (.val q : AV) = none := rfl
theorem nameOf_opt  {q : Bool} {l : AV} : AV.nameOf (.opt q l : AV) = none := rfl
theorem nameOf_big  {q : List AV} : AV.nameOf (.big q : AV) = none := rfl
theorem nameOf_junk   : AV.nameOf (.junk : AV) = none := rfl
theorem isI_int  {q : IntKind} {m : Int} : isI (.int q m : AV) = True := rfl
theorem isI_bool  {q : Bool} : isI (.bool q : AV) = False := rfl
theorem isI_str  {q : List UInt8} : isI (.str q : AV) = False := rfl
theorem isI_agg  {q : List AV} : isI (.agg q : AV) = False := rfl
theorem isI_tup  {q : List AV} : isI (.tup q : AV) = False := rfl
theorem isI_sl  {q : Bool} {m : Nat} {l : List AV} : isI (.sl q m l : AV) = False := rfl
theorem isI_cp  {q : List AV} : isI (.cp q : AV) = False := rfl
theorem isI_osl  {q m l : Nat} : isI (.osl q m l : AV) = False := rfl
theorem isI_op  {q m l : Nat} : isI (.op q m l : AV) = False := rfl
theorem isI_fn  {q : FuncId} {l : List AV} : isI (.fn q l : AV) = False := rfl
theorem isI_ifc  {q : TypeId} {l : AV} : isI (.ifc q l : AV) = False := rfl
theorem isI_mth  {q : String} {l : AV} : isI (.mth q l : AV) = False := rfl
theorem isI_slk  {q m : Nat} {l : List AV} : isI (.slk q m l : AV) = False := rfl
theorem isI_atom  {q : Value} : isI (.atom q : AV) = False := rfl
theorem isI_mp  {q : List Int} {l : List AV} : isI (.mp q l : AV) = False := rfl
theorem isI_val  {q : Value} : isI (.val q : AV) = False := rfl
theorem isI_opt  {q : Bool} {l : AV} : isI (.opt q l : AV) = False := rfl
theorem isI_big  {q : List AV} : isI (.big q : AV) = False := rfl
theorem isI_junk   : isI (.junk : AV) = False := rfl
theorem inK_int {Kp : List Nat} {q : IntKind} {m : Int} : inK Kp (.int q m : AV) = True := rfl
theorem inK_bool {Kp : List Nat} {q : Bool} : inK Kp (.bool q : AV) = True := rfl
theorem inK_str {Kp : List Nat} {q : List UInt8} : inK Kp (.str q : AV) = True := rfl
theorem inK_agg {Kp : List Nat} {q : List AV} : inK Kp (.agg q : AV) = True := rfl
theorem inK_tup {Kp : List Nat} {q : List AV} : inK Kp (.tup q : AV) = True := rfl
theorem inK_sl {Kp : List Nat} {q : Bool} {m : Nat} {l : List AV} : inK Kp (.sl q m l : AV) = True := rfl
theorem inK_cp {Kp : List Nat} {q : List AV} : inK Kp (.cp q : AV) = True := rfl
theorem inK_osl {Kp : List Nat} {q m l : Nat} : inK Kp (.osl q m l : AV) = True := rfl
theorem inK_op {Kp : List Nat} {q m l : Nat} : inK Kp (.op q m l : AV) = (q ∈ Kp) := rfl
theorem inK_fn {Kp : List Nat} {q : FuncId} {l : List AV} : inK Kp (.fn q l : AV) = True := rfl
theorem inK_ifc {Kp : List Nat} {q : TypeId} {l : AV} : inK Kp (.ifc q l : AV) = True := rfl
theorem inK_mth {Kp : List Nat} {q : String} {l : AV} : inK Kp (.mth q l : AV) = True := rfl
theorem inK_slk {Kp : List Nat} {q m : Nat} {l : List AV} : inK Kp (.slk q m l : AV) = True := rfl
theorem inK_atom {Kp : List Nat} {q : Value} : inK Kp (.atom q : AV) = True := rfl
theorem inK_mp {Kp : List Nat} {q : List Int} {l : List AV} : inK Kp (.mp q l : AV) = True := rfl
theorem inK_val {Kp : List Nat} {q : Value} : inK Kp (.val q : AV) = True := rfl
theorem inK_opt {Kp : List Nat} {q : Bool} {l : AV} : inK Kp (.opt q l : AV) = True := rfl
theorem inK_big {Kp : List Nat} {q : List AV} : inK Kp (.big q : AV) = True := rfl
theorem inK_junk {Kp : List Nat}  : inK Kp (.junk : AV) = True := rfl
theorem kill0_int {k : Nat} {q : IntKind} {m : Int} : AV.kill0 k (.int q m : AV) = (.int q m) := rfl
theorem kill0_bool {k : Nat} {q : Bool} : AV.kill0 k (.bool q : AV) = (.bool q) := rfl
theorem kill0_str {k : Nat} {q : List UInt8} : AV.kill0 k (.str q : AV) = (.str q) := rfl
theorem kill0_agg {k : Nat} {q : List AV} : AV.kill0 k (.agg q : AV) = (.agg q) := rfl
theorem kill0_tup {k : Nat} {q : List AV} : AV.kill0 k (.tup q : AV) = (.tup q) := rfl
theorem kill0_sl {k : Nat} {q : Bool} {m : Nat} {l : List AV} : AV.kill0 k (.sl q m l : AV) = (.sl q m l) := rfl
theorem kill0_cp {k : Nat} {q : List AV} : AV.kill0 k (.cp q : AV) = (.cp q) := rfl
theorem kill0_osl {k : Nat} {q m l : Nat} : AV.kill0 k (.osl q m l : AV) = (if (q == k) = true then .junk else (.osl q m l)) := rfl
theorem kill0_op {k : Nat} {q m l : Nat} : AV.kill0 k (.op q m l : AV) = (if (q == k) = true then .junk else (.op q m l)) := rfl
theorem kill0_fn {k : Nat} {q : FuncId} {l : List AV} : AV.kill0 k (.fn q l : AV) = (.fn q l) := rfl
theorem kill0_ifc {k : Nat} {q : TypeId} {l : AV} : AV.kill0 k (.ifc q l : AV) = (.ifc q l) := rfl
theorem kill0_mth {k : Nat} {q : String} {l : AV} : AV.kill0 k (.mth q l : AV) = (.mth q l) := rfl
theorem kill0_slk {k : Nat} {q m : Nat} {l : List AV} : AV.kill0 k (.slk q m l : AV) = (.slk q m l) := rfl
theorem kill0_atom {k : Nat} {q : Value} : AV.kill0 k (.atom q : AV) = (.atom q) := rfl
theorem kill0_mp {k : Nat} {q : List Int} {l : List AV} : AV.kill0 k (.mp q l : AV) = (.mp q l) := rfl
theorem kill0_val {k : Nat} {q : Value} : AV.kill0 k (.val q : AV) = (.val q) := rfl
theorem kill0_opt {k : Nat} {q : Bool} {l : AV} : AV.kill0 k (.opt q l : AV) = (.opt q l) := rfl
theorem kill0_big {k : Nat} {q : List AV} : AV.kill0 k (.big q : AV) = (.big q) := rfl
theorem kill0_junk {k : Nat}  : AV.kill0 k (.junk : AV) = (.junk) := rfl
theorem killE_int {k : Nat} {q : IntKind} {m : Int} : killE k (.int q m : AV) = (.int q m) := rfl
theorem killE_bool {k : Nat} {q : Bool} : killE k (.bool q : AV) = (.bool q) := rfl
theorem killE_str {k : Nat} {q : List UInt8} : killE k (.str q : AV) = (.str q) := rfl
theorem killE_agg {k : Nat} {q : List AV} : killE k (.agg q : AV) = .agg (q.map (AV.kill0 k)) := rfl
theorem killE_tup {k : Nat} {q : List AV} : killE k (.tup q : AV) = (.tup q) := rfl
theorem killE_sl {k : Nat} {q : Bool} {m : Nat} {l : List AV} : killE k (.sl q m l : AV) = (.sl q m l) := rfl
theorem killE_cp {k : Nat} {q : List AV} : killE k (.cp q : AV) = (.cp q) := rfl
theorem killE_osl {k : Nat} {q m l : Nat} : killE k (.osl q m l : AV) = (if (q == k) = true then .junk else (.osl q m l)) := rfl
theorem killE_op {k : Nat} {q m l : Nat} : killE k (.op q m l : AV) = (if (q == k) = true then .junk else (.op q m l)) := rfl
theorem killE_fn {k : Nat} {q : FuncId} {l : List AV} : killE k (.fn q l : AV) = (.fn q l) := rfl
theorem killE_ifc {k : Nat} {q : TypeId} {l : AV} : killE k (.ifc q l : AV) = (.ifc q l) := rfl
theorem killE_mth {k : Nat} {q : String} {l : AV} : killE k (.mth q l : AV) = (.mth q l) := rfl
theorem killE_slk {k : Nat} {q m : Nat} {l : List AV} : killE k (.slk q m l : AV) = (.slk q m l) := rfl
theorem killE_atom {k : Nat} {q : Value} : killE k (.atom q : AV) = (.atom q) := rfl
theorem killE_mp {k : Nat} {q : List Int} {l : List AV} : killE k (.mp q l : AV) = (.mp q l) := rfl
theorem killE_val {k : Nat} {q : Value} : killE k (.val q : AV) = (.val q) := rfl
theorem killE_opt {k : Nat} {q : Bool} {l : AV} : killE k (.opt q l : AV) = (.opt q l) := rfl
theorem killE_big {k : Nat} {q : List AV} : killE k (.big q : AV) = (.big q) := rfl
theorem killE_junk {k : Nat}  : killE k (.junk : AV) = (.junk) := rfl
theorem frzE_int {k sz : Nat} {xs : List AV} {q : IntKind} {m : Int} : frzE k sz xs (.int q m : AV) = (.int q m) := rfl
theorem frzE_bool {k sz : Nat} {xs : List AV} {q : Bool} : frzE k sz xs (.bool q : AV) = (.bool q) := rfl
theorem frzE_str {k sz : Nat} {xs : List AV} {q : List UInt8} : frzE k sz xs (.str q : AV) = (.str q) := rfl
theorem frzE_agg {k sz : Nat} {xs : List AV} {q : List AV} : frzE k sz xs (.agg q : AV) = .agg (q.map (frz0 k sz xs)) := rfl
theorem frzE_tup {k sz : Nat} {xs : List AV} {q : List AV} : frzE k sz xs (.tup q : AV) = (.tup q) := rfl
theorem frzE_sl {k sz : Nat} {xs : List AV} {q : Bool} {m : Nat} {l : List AV} : frzE k sz xs (.sl q m l : AV) = (.sl q m l) := rfl
theorem frzE_cp {k sz : Nat} {xs : List AV} {q : List AV} : frzE k sz xs (.cp q : AV) = (.cp q) := rfl
theorem frzE_osl {k sz : Nat} {xs : List AV} {q m l : Nat} : frzE k sz xs (.osl q m l : AV) = (if q = k then (if m + l ≤ xs.length then .sl false sz ((xs.drop m).take l) else .junk) else (.osl q m l)) := rfl
theorem frzE_op {k sz : Nat} {xs : List AV} {q m l : Nat} : frzE k sz xs (.op q m l : AV) = (if q = k then (if m < xs.length then .cp ((xs.getD m .junk).cells.drop l) else .junk) else (.op q m l)) := rfl
theorem frzE_fn {k sz : Nat} {xs : List AV} {q : FuncId} {l : List AV} : frzE k sz xs (.fn q l : AV) = (.fn q l) := rfl
theorem frzE_ifc {k sz : Nat} {xs : List AV} {q : TypeId} {l : AV} : frzE k sz xs (.ifc q l : AV) = (.ifc q l) := rfl
theorem frzE_mth {k sz : Nat} {xs : List AV} {q : String} {l : AV} : frzE k sz xs (.mth q l : AV) = (.mth q l) := rfl
theorem frzE_slk {k sz : Nat} {xs : List AV} {q m : Nat} {l : List AV} : frzE k sz xs (.slk q m l : AV) = (.slk q m l) := rfl
theorem frzE_atom {k sz : Nat} {xs : List AV} {q : Value} : frzE k sz xs (.atom q : AV) = (.atom q) := rfl
theorem frzE_mp {k sz : Nat} {xs : List AV} {q : List Int} {l : List AV} : frzE k sz xs (.mp q l : AV) = (.mp q l) := rfl
theorem frzE_val {k sz : Nat} {xs : List AV} {q : Value} : frzE k sz xs (.val q : AV) = (.val q) := rfl
theorem frzE_opt {k sz : Nat} {xs : List AV} {q : Bool} {l : AV} : frzE k sz xs (.opt q l : AV) = (.opt q l) := rfl
theorem frzE_big {k sz : Nat} {xs : List AV} {q : List AV} : frzE k sz xs (.big q : AV) = (.big q) := rfl
theorem frzE_junk {k sz : Nat} {xs : List AV}  : frzE k sz xs (.junk : AV) = (.junk) := rfl
theorem stoB_int {b : Bool} {q : IntKind} {m : Int} : stoB b (.int q m : AV) = true := rfl
theorem stoB_bool {b : Bool} {q : Bool} : stoB b (.bool q : AV) = true := rfl
theorem stoB_str {b : Bool} {q : List UInt8} : stoB b (.str q : AV) = true := rfl
theorem stoB_agg {b : Bool} {q : List AV} : stoB b (.agg q : AV) = true := rfl
theorem stoB_tup {b : Bool} {q : List AV} : stoB b (.tup q : AV) = false := rfl
theorem stoB_sl {b : Bool} {q : Bool} {m : Nat} {l : List AV} : stoB b (.sl q m l : AV) = true := rfl
theorem stoB_cp {b : Bool} {q : List AV} : stoB b (.cp q : AV) = true := rfl
theorem stoB_osl {b : Bool} {q m l : Nat} : stoB b (.osl q m l : AV) = b := rfl
theorem stoB_op {b : Bool} {q m l : Nat} : stoB b (.op q m l : AV) = b := rfl
theorem stoB_fn {b : Bool} {q : FuncId} {l : List AV} : stoB b (.fn q l : AV) = l.all AV.data0 := rfl
theorem stoB_ifc {b : Bool} {q : TypeId} {l : AV} : stoB b (.ifc q l : AV) = true := rfl
theorem stoB_mth {b : Bool} {q : String} {l : AV} : stoB b (.mth q l : AV) = false := rfl
theorem stoB_slk {b : Bool} {q m : Nat} {l : List AV} : stoB b (.slk q m l : AV) = false := rfl
theorem stoB_atom {b : Bool} {q : Value} : stoB b (.atom q : AV) = true := rfl
theorem stoB_mp {b : Bool} {q : List Int} {l : List AV} : stoB b (.mp q l : AV) = true := rfl
theorem stoB_val {b : Bool} {q : Value} : stoB b (.val q : AV) = false := rfl
theorem stoB_opt {b : Bool} {q : Bool} {l : AV} : stoB b (.opt q l : AV) = false := rfl
theorem stoB_big {b : Bool} {q : List AV} : stoB b (.big q : AV) = false := rfl
theorem stoB_junk {b : Bool}  : stoB b (.junk : AV) = false := rfl
theorem stoC_int {b : Bool} {q : IntKind} {m : Int} : stoC b (.int q m : AV) = true := rfl
theorem stoC_bool {b : Bool} {q : Bool} : stoC b (.bool q : AV) = true := rfl
theorem stoC_str {b : Bool} {q : List UInt8} : stoC b (.str q : AV) = true := rfl
theorem stoC_agg {b : Bool} {q : List AV} : stoC b (.agg q : AV) = true := rfl
theorem stoC_tup {b : Bool} {q : List AV} : stoC b (.tup q : AV) = false := rfl
theorem stoC_sl {b : Bool} {q : Bool} {m : Nat} {l : List AV} : stoC b (.sl q m l : AV) = true := rfl
theorem stoC_cp {b : Bool} {q : List AV} : stoC b (.cp q : AV) = true := rfl
theorem stoC_osl {b : Bool} {q m l : Nat} : stoC b (.osl q m l : AV) = b := rfl
theorem stoC_op {b : Bool} {q m l : Nat} : stoC b (.op q m l : AV) = b := rfl
theorem stoC_fn {b : Bool} {q : FuncId} {l : List AV} : stoC b (.fn q l : AV) = l.all AV.data0 := rfl
theorem stoC_ifc {b : Bool} {q : TypeId} {l : AV} : stoC b (.ifc q l : AV) = true := rfl
theorem stoC_mth {b : Bool} {q : String} {l : AV} : stoC b (.mth q l : AV) = false := rfl
theorem stoC_slk {b : Bool} {q m : Nat} {l : List AV} : stoC b (.slk q m l : AV) = false := rfl
theorem stoC_atom {b : Bool} {q : Value} : stoC b (.atom q : AV) = true := rfl
theorem stoC_mp {b : Bool} {q : List Int} {l : List AV} : stoC b (.mp q l : AV) = true := rfl
theorem stoC_val {b : Bool} {q : Value} : stoC b (.val q : AV) = false := rfl
theorem stoC_opt {b : Bool} {q : Bool} {l : AV} : stoC b (.opt q l : AV) = false := rfl
theorem stoC_big {b : Bool} {q : List AV} : stoC b (.big q : AV) = b := rfl
theorem stoC_junk {b : Bool}  : stoC b (.junk : AV) = false := rfl
theorem unbig_int  {q : IntKind} {m : Int} : AV.unbig (.int q m : AV) = (.int q m) := rfl
theorem unbig_bool  {q : Bool} : AV.unbig (.bool q : AV) = (.bool q) := rfl
theorem unbig_str  {q : List UInt8} : AV.unbig (.str q : AV) = (.str q) := rfl
theorem unbig_agg  {q : List AV} : AV.unbig (.agg q : AV) = (.agg q) := rfl
theorem unbig_tup  {q : List AV} : AV.unbig (.tup q : AV) = (.tup q) := rfl
theorem unbig_sl  {q : Bool} {m : Nat} {l : List AV} : AV.unbig (.sl q m l : AV) = (.sl q m l) := rfl
theorem unbig_cp  {q : List AV} : AV.unbig (.cp q : AV) = (.cp q) := rfl
theorem unbig_osl  {q m l : Nat} : AV.unbig (.osl q m l : AV) = (.osl q m l) := rfl
theorem unbig_op  {q m l : Nat} : AV.unbig (.op q m l : AV) = (.op q m l) := rfl
theorem unbig_fn  {q : FuncId} {l : List AV} : AV.unbig (.fn q l : AV) = (.fn q l) := rfl
theorem unbig_ifc  {q : TypeId} {l : AV} : AV.unbig (.ifc q l : AV) = (.ifc q l) := rfl
theorem unbig_mth  {q : String} {l : AV} : AV.unbig (.mth q l : AV) = (.mth q l) := rfl
theorem unbig_slk  {q m : Nat} {l : List AV} : AV.unbig (.slk q m l : AV) = (.slk q m l) := rfl
theorem unbig_atom  {q : Value} : AV.unbig (.atom q : AV) = (.atom q) := rfl
theorem unbig_mp  {q : List Int} {l : List AV} : AV.unbig (.mp q l : AV) = (.mp q l) := rfl
theorem unbig_val  {q : Value} : AV.unbig (.val q : AV) = (.val q) := rfl
theorem unbig_opt  {q : Bool} {l : AV} : AV.unbig (.opt q l : AV) = (.opt q l) := rfl
theorem unbig_big  {q : List AV} : AV.unbig (.big q : AV) = .agg q := rfl
theorem unbig_junk   : AV.unbig (.junk : AV) = (.junk) := rfl
theorem partB_int  {q : IntKind} {m : Int} : partB (.int q m : AV) = true := rfl
theorem partB_bool  {q : Bool} : partB (.bool q : AV) = true := rfl
theorem partB_str  {q : List UInt8} : partB (.str q : AV) = true := rfl
theorem partB_agg  {q : List AV} : partB (.agg q : AV) = true := rfl
theorem partB_tup  {q : List AV} : partB (.tup q : AV) = false := rfl
theorem partB_sl  {q : Bool} {m : Nat} {l : List AV} : partB (.sl q m l : AV) = true := rfl
theorem partB_cp  {q : List AV} : partB (.cp q : AV) = true := rfl
theorem partB_osl  {q m l : Nat} : partB (.osl q m l : AV) = true := rfl
theorem partB_op  {q m l : Nat} : partB (.op q m l : AV) = false := rfl
theorem partB_fn  {q : FuncId} {l : List AV} : partB (.fn q l : AV) = (l.all AV.data0 && true) := rfl
theorem partB_ifc  {q : TypeId} {l : AV} : partB (.ifc q l : AV) = true := rfl
theorem partB_mth  {q : String} {l : AV} : partB (.mth q l : AV) = false := rfl
theorem partB_slk  {q m : Nat} {l : List AV} : partB (.slk q m l : AV) = false := rfl
theorem partB_atom  {q : Value} : partB (.atom q : AV) = true := rfl
theorem partB_mp  {q : List Int} {l : List AV} : partB (.mp q l : AV) = true := rfl
theorem partB_val  {q : Value} : partB (.val q : AV) = false := rfl
theorem partB_opt  {q : Bool} {l : AV} : partB (.opt q l : AV) = false := rfl
theorem partB_big  {q : List AV} : partB (.big q : AV) = false := rfl
theorem partB_junk   : partB (.junk : AV) = false := rfl
theorem capOK_int  {q : IntKind} {m : Int} : capOK (.int q m : AV) = true := rfl
theorem capOK_bool  {q : Bool} : capOK (.bool q : AV) = true := rfl
theorem capOK_str  {q : List UInt8} : capOK (.str q : AV) = true := rfl
theorem capOK_agg  {q : List AV} : capOK (.agg q : AV) = true := rfl
theorem capOK_tup  {q : List AV} : capOK (.tup q : AV) = false := rfl
theorem capOK_sl  {q : Bool} {m : Nat} {l : List AV} : capOK (.sl q m l : AV) = true := rfl
theorem capOK_cp  {q : List AV} : capOK (.cp q : AV) = true := rfl
theorem capOK_osl  {q m l : Nat} : capOK (.osl q m l : AV) = true := rfl
theorem capOK_op  {q m l : Nat} : capOK (.op q m l : AV) = true := rfl
theorem capOK_fn  {q : FuncId} {l : List AV} : capOK (.fn q l : AV) = false := rfl
theorem capOK_ifc  {q : TypeId} {l : AV} : capOK (.ifc q l : AV) = true := rfl
theorem capOK_mth  {q : String} {l : AV} : capOK (.mth q l : AV) = true := rfl
theorem capOK_slk  {q m : Nat} {l : List AV} : capOK (.slk q m l : AV) = true := rfl
theorem capOK_atom  {q : Value} : capOK (.atom q : AV) = true := rfl
theorem capOK_mp  {q : List Int} {l : List AV} : capOK (.mp q l : AV) = true := rfl
theorem capOK_val  {q : Value} : capOK (.val q : AV) = true := rfl
theorem capOK_opt  {q : Bool} {l : AV} : capOK (.opt q l : AV) = false := rfl
theorem capOK_big  {q : List AV} : capOK (.big q : AV) = false := rfl
theorem capOK_junk   : capOK (.junk : AV) = true := rfl
theorem keepN_int  {q : IntKind} {m : Int} : keepN (.int q m : AV) = [] := rfl
theorem keepN_bool  {q : Bool} : keepN (.bool q : AV) = [] := rfl
theorem keepN_str  {q : List UInt8} : keepN (.str q : AV) = [] := rfl
theorem keepN_agg  {q : List AV} : keepN (.agg q : AV) = [] := rfl
theorem keepN_tup  {q : List AV} : keepN (.tup q : AV) = q.flatMap AV.nm0 := rfl
theorem keepN_sl  {q : Bool} {m : Nat} {l : List AV} : keepN (.sl q m l : AV) = [] := rfl
theorem keepN_cp  {q : List AV} : keepN (.cp q : AV) = [] := rfl
theorem keepN_osl  {q m l : Nat} : keepN (.osl q m l : AV) = [] := rfl
theorem keepN_op  {q m l : Nat} : keepN (.op q m l : AV) = [] := rfl
theorem keepN_fn  {q : FuncId} {l : List AV} : keepN (.fn q l : AV) = l.flatMap AV.nm0 := rfl
theorem keepN_ifc  {q : TypeId} {l : AV} : keepN (.ifc q l : AV) = [] := rfl
theorem keepN_mth  {q : String} {l : AV} : keepN (.mth q l : AV) = [] := rfl
theorem keepN_slk  {q m : Nat} {l : List AV} : keepN (.slk q m l : AV) = [] := rfl
theorem keepN_atom  {q : Value} : keepN (.atom q : AV) = [] := rfl
theorem keepN_mp  {q : List Int} {l : List AV} : keepN (.mp q l : AV) = [] := rfl
theorem keepN_val  {q : Value} : keepN (.val q : AV) = [] := rfl
theorem keepN_opt  {q : Bool} {l : AV} : keepN (.opt q l : AV) = [] := rfl
theorem keepN_big  {q : List AV} : keepN (.big q : AV) = [] := rfl
theorem keepN_junk   : keepN (.junk : AV) = [] := rfl
theorem fin_int  {q : IntKind} {m : Int} : AV.fin (.int q m : AV) = true := rfl
theorem fin_bool  {q : Bool} : AV.fin (.bool q : AV) = true := rfl
theorem fin_str  {q : List UInt8} : AV.fin (.str q : AV) = true := rfl
theorem fin_agg  {q : List AV} : AV.fin (.agg q : AV) = true := rfl
theorem fin_tup  {q : List AV} : AV.fin (.tup q : AV) = false := rfl
theorem fin_sl  {q : Bool} {m : Nat} {l : List AV} : AV.fin (.sl q m l : AV) = true := rfl
theorem fin_cp  {q : List AV} : AV.fin (.cp q : AV) = true := rfl
theorem fin_osl  {q m l : Nat} : AV.fin (.osl q m l : AV) = false := rfl
theorem fin_op  {q m l : Nat} : AV.fin (.op q m l : AV) = false := rfl
theorem fin_fn  {q : FuncId} {l : List AV} : AV.fin (.fn q l : AV) = l.all AV.data0 := rfl
theorem fin_ifc  {q : TypeId} {l : AV} : AV.fin (.ifc q l : AV) = true := rfl
theorem fin_mth  {q : String} {l : AV} : AV.fin (.mth q l : AV) = false := rfl
theorem fin_slk  {q m : Nat} {l : List AV} : AV.fin (.slk q m l : AV) = false := rfl
theorem fin_atom  {q : Value} : AV.fin (.atom q : AV) = true := rfl
theorem fin_mp  {q : List Int} {l : List AV} : AV.fin (.mp q l : AV) = true := rfl
theorem fin_val  {q : Value} : AV.fin (.val q : AV) = false := rfl
theorem fin_opt  {q : Bool} {l : AV} : AV.fin (.opt q l : AV) = false := rfl
theorem fin_big  {q : List AV} : AV.fin (.big q : AV) = false := rfl
theorem fin_junk   : AV.fin (.junk : AV) = false := rfl
theorem flagOf_optb {b q t : Bool} : flagOf b (.opt q (.bool t)) = some (q && (t == b)) := rfl
/-- Operands that become data. -/
def frzL (k sz : Nat) (xs : List AV) : List (Nat × AV) → List (Nat × AV)
  | [] => []
  | (i, x) :: s => (i, frz2 k sz xs x) :: frzL k sz xs s
def killL (k : Nat) : List (Nat × AV) → List (Nat × AV)
  | [] => []
  | (i, x) :: s => (i, x.kill k) :: killL k s
def keepL (σ : St) : List Nat → List (Nat × AV)
  | [] => []
  | i :: L => (i, σ.look1 i) :: keepL σ L
def frzD (n : Nat) (s : List (Nat × AV)) (H : List (Nat × HO)) (k : Nat) : Option HO → St
  | none => ⟨dense n s, H⟩
  | some ⟨sz, _, false, xs⟩ => ⟨dense n (frzL k sz xs s), frzH k sz xs (drop H k)⟩
  | some ⟨sz, _, true, xs⟩ => bif (flat xs).all AV.data0 then ⟨dense n (frzL k sz xs s), frzH k sz xs (drop H k)⟩ else ⟨dense n s, H⟩
/-- The step behind its guard. -/
def gv (gd g : Bool) (y : AV) : AV := match gd with | true => .opt g y | false => y
def flagAt (ops : Array Oper) (σ : St) (j : Nat) (b : Bool) : Option Bool :=
  match (ops[j]?).bind (·.dst) with
  | some d => flagOf b (σ.look1 d)
  | none => none
def StepA (c : Ctx) (Kp : List Nat) (σ0 : St) (g gd : Bool) (dst : Option Tmp) (op : Op) (K : St → Prop) : Prop :=
    let σ := σ0.frzK (frzOf c.P σ0 op)
    match op with
    | .call ⟨.value x, args, _⟩ =>
      match (σ.get g x).2, dst with
      | .fn f caps, some d => (σ.get g x).1 ∧ caps.all AV.data0 = true ∧ (argsOf σ g args.toList).1 ∧
          CallK c.P f ((argsOf σ g args.toList).2 ++ caps) g (!gd) fun r ho => okK σ.h (retH ho d σ.h) (retK ho d) none Kp ∧ K ⟨(killO (retK ho d) σ.s).set d (gv gd g (r.ren d)), retH ho d σ.h⟩
      | _, _ => False
    | .call ⟨.invoke x m, args, _⟩ =>
      match (σ.get g x).2, dst with
      | .ifc t y, some d => (match methOf c.P t m with
          | some f => (σ.get g x).1 ∧ (argsOf σ g args.toList).1 ∧
          CallK c.P f (y :: (argsOf σ g args.toList).2) g (!gd) fun r ho => okK σ.h (retH ho d σ.h) (retK ho d) none Kp ∧ K ⟨(killO (retK ho d) σ.s).set d (gv gd g (r.ren d)), retH ho d σ.h⟩
          | none => False)
      | _, _ => False
    | op =>
      match effOf3 c.P σ ⟨dst, op, 0, "", #[], none⟩ with
      | some r => (g = true → r.1 ∧ okK σ.h r.2.2.1 r.2.2.2 (touchOf σ op) Kp ∧ K ⟨setO (killO r.2.2.2 σ.s) dst (gv gd true r.2.1), r.2.2.1⟩) ∧ (g = false → K ⟨setO σ.s dst (gv gd false .junk), σ.h⟩)
      | none =>
        match nilQ c.P σ g op with
        | some q => q.2.1 ∧ ∀ b, (b = true → q.2.2 = []) → K ⟨setO σ.s dst (gv gd g (.bool b)), σ.h⟩
        | none => (ev3 c.P σ g op).1 ∧ K ⟨setO σ.s dst (gv gd g (ev3 c.P σ g op).2), σ.h⟩

section
variable {c : Ctx} {ops : Array Oper} {σ : St} {K : St → Prop} {d ty t tt k n : Nat} {dst : Option Tmp} {pos : String} {after : Array Edge} {x y z : Operand} {j : Nat} {b g gd : Bool} {s : List (Nat × AV)} {H : List (Nat × HO)} {L Kp : List Nat} {P : Program}

theorem Step_none {op : Op} : Step c ops Kp σ ⟨dst, op, ty, pos, after, none⟩ K = StepA c Kp σ true false dst op K := by
  cases op <;> first | rfl | (rename_i cl; obtain ⟨callee, args, ts⟩ := cl; cases callee <;> rfl)
/-- Behind a guard. -/
def guardK (o : Option Bool) (f : Bool → Prop) : Prop := match o with | some g => f g | none => False
@[congr] theorem guardK_congr {o o' : Option Bool} {f : Bool → Prop} (h : o = o') : guardK o f = guardK o' f := by rw [h]
theorem guardK_eq {f : Bool → Prop} : guardK (some g) f = f g := rfl
theorem Step_some {op : Op} : Step c ops Kp σ ⟨dst, op, ty, pos, after, some (j, b)⟩ K = guardK (flagAt ops σ j b) (fun g => StepA c Kp σ g true dst op K) := by
  unfold guardK
  have e : gflag ops σ ⟨dst, op, ty, pos, after, some (j, b)⟩ = flagAt ops σ j b := rfl
  unfold Step
  rw [e]
  cases flagAt ops σ j b with
  | none => rfl
  | some g => cases op <;> first | rfl | (rename_i cl; obtain ⟨callee, args, ts⟩ := cl; cases callee <;> rfl)
/-- A step without effect. -/
def pureK (c : Ctx) (σ : St) (g gd : Bool) (dst : Option Tmp) (r : PA) (K : St → Prop) : Prop := r.1 ∧ K ⟨setO σ.s dst (gv gd g r.2), σ.h⟩
theorem pureK_eq {p : Prop} {v : AV} : pureK c σ g gd dst (p, v) K = (p ∧ K ⟨setO σ.s dst (gv gd g v), σ.h⟩) := rfl
def takeA (c : Ctx) (ops : Array Oper) (Kp : List Nat) (σ : St) (K : St → Prop) : Option Oper → Prop
  | some o => (match gflag ops σ o with | some g => takeOK Kp σ g o.op ∧ (ev3 c.P σ g o.op).1 ∧ K ⟨setO σ.s o.dst (gval o g (ev3 c.P σ g o.op).2), σ.h⟩ | none => False)
  | none => False
theorem take_eq {i : Nat} : takeStep c ops Kp σ i K = takeA c ops Kp σ K ops[i]? := by
  unfold takeStep; cases ops[i]? <;> rfl
theorem takeA_none {op : Op} : takeA c ops Kp σ K (some ⟨dst, op, ty, pos, after, none⟩) = (takeOK Kp σ true op ∧ pureK c σ true false dst (ev3 c.P σ true op) K) := rfl
theorem takeA_some {op : Op} : takeA c ops Kp σ K (some ⟨dst, op, ty, pos, after, some (j, b)⟩) = guardK (flagAt ops σ j b) (fun g => takeOK Kp σ g op ∧ pureK c σ g true dst (ev3 c.P σ g op) K) := by
  have e : gflag ops σ ⟨dst, op, ty, pos, after, some (j, b)⟩ = flagAt ops σ j b := rfl
  unfold takeA guardK; simp only; rw [e]; cases flagAt ops σ j b <;> rfl
def atA (c : Ctx) (ops : Array Oper) (Kp : List Nat) (σ : St) (K : St → Prop) : Option Oper → Prop
  | some o => Step c ops Kp σ o K
  | none => False
theorem hid_eq {q i : Nat} : hidStep c ops Kp σ q i K = hidK c ops Kp σ q i K (look σ.h q) := rfl
theorem hidK_eq {q q1 i o l sz e : Nat} {rest : List AV} : hidK c ops Kp σ q i K (some ⟨sz, e, true, [.agg (.osl q1 o l :: rest)]⟩) = (rest.all AV.data0 = true ∧ ∀ v : Value, v.oneCell' = true → takeStep c ops Kp ⟨σ.s, put σ.h q ⟨sz, e, true, [.agg (.atom v :: rest)]⟩⟩ i (fun σ' => K ⟨σ'.s, σ.h⟩)) := rfl
theorem at_eq {i : Nat} : atStep c ops Kp σ i K = atA c ops Kp σ K ops[i]? := by
  unfold atStep; cases ops[i]? <;> rfl
theorem atA_some {o : Oper} : atA c ops Kp σ K (some o) = Step c ops Kp σ o K := rfl

theorem A_move : StepA c Kp σ g gd dst (.move x) K = pureK c σ g gd dst (σ.get g x) K := rfl
theorem A_assign : StepA c Kp σ g gd dst (.assign x) K = pureK c σ g gd dst (σ.get g x) K := rfl
def picked (σ : St) (g : Bool) (x y : Operand) : PA → PA
  | (p, .bool t) => (p ∧ (σ.get (g && t) x).1 ∧ (σ.get (g && !t) y).1, mux t (σ.get (g && t) x).2 (σ.get (g && !t) y).2)
  | _ => no
theorem ev2_pick : ev3 P σ g (.pick x y z) = picked σ g y z (σ.get g x) := by
  unfold picked
  show (match (σ.get g x).2 with | .bool t => _ | _ => no) = _
  cases h : σ.get g x with
  | mk p v => cases v <;> rfl
theorem picked_bool {p : Prop} {t : Bool} : picked σ g x y (p, .bool t) = (p ∧ (σ.get (g && t) x).1 ∧ (σ.get (g && !t) y).1, mux t (σ.get (g && t) x).2 (σ.get (g && !t) y).2) := rfl
theorem A_pick : StepA c Kp σ g gd dst (.pick x y z) K = pureK c σ g gd dst (picked σ g y z (σ.get g x)) K := by
  rw [← ev2_pick (P := c.P)]; rfl
theorem A_unOp {op : UnOp} : StepA c Kp σ g gd dst (.unOp op t x) K = pureK c σ g gd dst ((σ.get g x).1 ∧ (g = true → (evUn op (σ.get g x).2).1), (evUn op (σ.get g x).2).2) K := rfl
theorem A_bin {op : BinOp} {u : Nat} : StepA c Kp σ g gd dst (.binOp op t x (.tmp u) tt) K = pureK c σ g gd dst ((σ.get g x).1 ∧ (σ.get g (.tmp u)).1 ∧ (g = true → (evBin c.P t op (σ.get g x).2 (σ.get g (.tmp u)).2).1), (evBin c.P t op (σ.get g x).2 (σ.get g (.tmp u)).2).2) K := by cases op <;> rfl
theorem A_binI {op : BinOp} {q : IntKind} {m : Int} : StepA c Kp σ g gd dst (.binOp op t x (.const (.int q m)) tt) K = pureK c σ g gd dst ((σ.get g x).1 ∧ True ∧ (g = true → (evBin c.P t op (σ.get g x).2 (.int q m)).1), (evBin c.P t op (σ.get g x).2 (.int q m)).2) K := by cases op <;> rfl
theorem A_binS {op : BinOp} {q : ByteArray} : StepA c Kp σ g gd dst (.binOp op t x (.const (.string q)) tt) K = pureK c σ g gd dst ((σ.get g x).1 ∧ True ∧ (g = true → (evBin c.P t op (σ.get g x).2 (.str q.data.toList)).1), (evBin c.P t op (σ.get g x).2 (.str q.data.toList)).2) K := by cases op <;> rfl
theorem A_binB {op : BinOp} {q : Bool} : StepA c Kp σ g gd dst (.binOp op t x (.const (.bool q)) tt) K = pureK c σ g gd dst ((σ.get g x).1 ∧ True ∧ (g = true → (evBin c.P t op (σ.get g x).2 (.bool q)).1), (evBin c.P t op (σ.get g x).2 (.bool q)).2) K := by cases op <;> rfl
def nilK (c : Ctx) (σ : St) (g gd : Bool) (dst : Option Tmp) (K : St → Prop) (p : Prop) : AV → Option TypeDesc → Prop
  | .sl _ _ xs, some (.slice _) => p ∧ ∀ b, (b = true → xs = []) → K ⟨setO σ.s dst (gv gd g (.bool b)), σ.h⟩
  | _, _ => False
def nilT (c : Ctx) (Kp : List Nat) (σ : St) (g gd : Bool) (dst : Option Tmp) (t tt : TypeId) (x : Operand) (K : St → Prop) (p : Prop) : AV → Option TypeDesc → Prop
  | .sl ex sz xs, some (.slice e) => nilK c σ g gd dst K p (.sl ex sz xs) (some (.slice e))
  | _, _ => StepA c Kp σ g gd dst (.binOp .eql t x (.const (.slice none 0 0)) tt) K
theorem nilT_sl {p : Prop} {ex : Bool} {sz e : Nat} {xs : List AV} : nilT c Kp σ g gd dst t tt x K p (.sl ex sz xs) (some (.slice e)) = nilK c σ g gd dst K p (.sl ex sz xs) (some (.slice e)) := rfl
theorem A_nil : StepA c Kp σ g gd dst (.binOp .eql t x (.const (.slice none 0 0)) tt) K = nilT c Kp σ g gd dst t tt x K (σ.get g x).1 (σ.get g x).2 (c.P.underlying t) := by
  unfold nilT nilK
  split
  · rename_i h1 h2
    unfold StepA
    simp only [show frzOf c.P σ (.binOp .eql t x (.const (.slice none 0 0)) tt) = [] from rfl, show σ.frzK [] = σ from rfl, effOf3, effOf, nilQ, h1, h2]
  · rfl
theorem nilK_sl {p : Prop} {ex : Bool} {sz e : Nat} {xs : List AV} : nilK c σ g gd dst K p (.sl ex sz xs) (some (.slice e)) = (p ∧ ∀ b, (b = true → xs = []) → K ⟨setO σ.s dst (gv gd g (.bool b)), σ.h⟩) := rfl
def loadK (c : Ctx) (g gd : Bool) (dst : Option Tmp) (t : Nat) (x : Operand) (K : St → Prop) (σ : St) : Prop := pureK c σ g gd dst ((σ.get g x).1 ∧ (c.P.underlying t).isSome = true ∧ szIs c.P t (c.P.cellsOf t) ∧ (g = true → (evLoad c.P σ.h t (σ.get g x).2).1), (evLoad c.P σ.h t (σ.get g x).2).2) K
theorem A_load : StepA c Kp σ g gd dst (.load t x) K = loadK c g gd dst t x K (σ.frzK (if aggT c.P t = true then loadN σ.h (σ.get true x).2 else [])) := rfl
theorem loadK_eq : loadK c g gd dst t x K ⟨dense k s, H⟩ = pureK c ⟨dense k s, H⟩ g gd dst ((St.get ⟨dense k s, H⟩ g x).1 ∧ (c.P.underlying t).isSome = true ∧ szIs c.P t (c.P.cellsOf t) ∧ (g = true → (evLoad c.P H t (St.get ⟨dense k s, H⟩ g x).2).1), (evLoad c.P H t (St.get ⟨dense k s, H⟩ g x).2).2) K := rfl
theorem loadN_op {q i m : Nat} : loadN H (.op q i m) = innO (look H q) := rfl
theorem loadN_cp {cs : List AV} : loadN H (.cp cs) = [] := rfl
theorem loadN_junk : loadN H .junk = [] := rfl
theorem A_slice {lo hi mx : Option Operand} : StepA c Kp σ g gd dst (.slice t x lo hi mx) K = pureK c σ g gd dst ((σ.get g x).1 ∧ (σ.getO g lo).1 ∧ (σ.getO g hi).1 ∧ (σ.getO g mx).1 ∧ (g = true → (evSliceX c.P σ.h t (σ.get g x).2 (σ.getO g lo).2 (σ.getO g hi).2 (σ.getO g mx).2).1),
      (evSliceX c.P σ.h t (σ.get g x).2 (σ.getO g lo).2 (σ.getO g hi).2 (σ.getO g mx).2).2) K := rfl
def ixK (P : Program) (σ : St) (g : Bool) (t : TypeId) (x i : Operand) : PA := ev3 P σ g (.indexAddr t x i)
theorem A_indexAddr : StepA c Kp σ g gd dst (.indexAddr t x y) K = pureK c σ g gd dst (ixK c.P σ g t x y) K := rfl
def ixA (P : Program) (σ : St) (g : Bool) (n e : Nat) (p q : Prop) : AV → AV → PA
  | .int _ m, .op k a b => (p ∧ q ∧ (g = true → szIs P e (P.cellsOf e) ∧ 0 ≤ m ∧ m < n), .op k a (b + m.toNat * P.cellsOf e))
  | .int _ m, .cp cs => (p ∧ q ∧ (g = true → szIs P e (P.cellsOf e) ∧ 0 ≤ m ∧ m < n), .cp (cs.drop (m.toNat * P.cellsOf e)))
  | _, _ => no
def ixT (P : Program) (σ : St) (g : Bool) (t : TypeId) (x y : Operand) : Option TypeDesc → PA
  | some (.array m e) => ixA P σ g m e (σ.get g x).1 (σ.get g y).1 (σ.get g y).2 (σ.get g x).2
  | _ => ((σ.get g x).1 ∧ (σ.get g y).1 ∧ (g = true → (evIndexAddr P σ.h t (σ.get g x).2 (σ.get g y).2).1), (evIndexAddr P σ.h t (σ.get g x).2 (σ.get g y).2).2)
theorem ixK_eq : ixK P σ g t x y = ixT P σ g t x y (P.underlying t) := by
  unfold ixK ixT
  show ev2 P σ g (.indexAddr t x y) = _
  simp only [ev2]
  split
  · rename_i h; rw [h]; simp only; unfold ixA; cases (σ.get g y).2 <;> cases (σ.get g x).2 <;> rfl
  · rename_i h
    split
    · rename_i h2; exact absurd h2 (h _ _)
    · rfl
theorem ixT_array {m e : Nat} : ixT P σ g t x y (some (.array m e)) = ixA P σ g m e (σ.get g x).1 (σ.get g y).1 (σ.get g y).2 (σ.get g x).2 := rfl
theorem ixT_slice {e : Nat} : ixT P σ g t x y (some (.slice e)) = ((σ.get g x).1 ∧ (σ.get g y).1 ∧ (g = true → (evIndexAddr P σ.h t (σ.get g x).2 (σ.get g y).2).1), (evIndexAddr P σ.h t (σ.get g x).2 (σ.get g y).2).2) := rfl
theorem ixA_op {m e q i j' : Nat} {p p' : Prop} {kk : IntKind} {z : Int} : ixA P σ g m e p p' (.int kk z) (.op q i j') = (p ∧ p' ∧ (g = true → szIs P e (P.cellsOf e) ∧ 0 ≤ z ∧ z < m), .op q i (j' + z.toNat * P.cellsOf e)) := rfl
theorem ixA_cp {m e : Nat} {p p' : Prop} {kk : IntKind} {z : Int} {cs : List AV} : ixA P σ g m e p p' (.int kk z) (.cp cs) = (p ∧ p' ∧ (g = true → szIs P e (P.cellsOf e) ∧ 0 ≤ z ∧ z < m), .cp (cs.drop (z.toNat * P.cellsOf e))) := rfl
theorem A_index : StepA c Kp σ g gd dst (.index t x y) K = pureK c σ g gd dst ((σ.get g x).1 ∧ (σ.get g y).1 ∧ (g = true → (evIndex c.P t (σ.get g x).2 (σ.get g y).2).1), (evIndex c.P t (σ.get g x).2 (σ.get g y).2).2) K := rfl
theorem A_extract {i : Nat} : StepA c Kp σ g gd dst (.extract x i) K = pureK c σ g gd dst ((σ.get g x).1 ∧ (g = true → (evExtract (σ.get g x).2 i).1), (evExtract (σ.get g x).2 i).2) K := rfl
theorem A_len : StepA c Kp σ g gd dst (.call ⟨.builtin .len, #[x], #[t]⟩) K = pureK c σ g gd dst ((σ.get g x).1 ∧ (g = true → (evLen c.P t (σ.get g x).2).1), (evLen c.P t (σ.get g x).2).2) K := rfl
def minK (p q : Prop) : AV → AV → PA
  | .int k a, .int _ b => (p ∧ q, .int k (if b < a then b else a))
  | _, _ => no
theorem minK_eq {p q : Prop} {k k' : IntKind} {a b : Int} : minK p q (.int k a) (.int k' b) = (p ∧ q, .int k (if b < a then b else a)) := rfl
theorem A_min {ts : Array TypeId} : StepA c Kp σ g gd dst (.call ⟨.builtin .min, #[x, y], ts⟩) K = pureK c σ g gd dst (minK (σ.get g x).1 (σ.get g y).1 (σ.get g x).2 (σ.get g y).2) K := by
  have e : ev3 c.P σ g (.call ⟨.builtin .min, #[x, y], ts⟩) = minK (σ.get g x).1 (σ.get g y).1 (σ.get g x).2 (σ.get g y).2 := by
    unfold minK
    show (match (σ.get g x).2, (σ.get g y).2 with | .int k a, .int _ b => _ | _, _ => no) = _
    cases (σ.get g x).2 <;> cases (σ.get g y).2 <;> rfl
  rw [← e]; rfl
def maxK (p q : Prop) : AV → AV → PA
  | .int k a, .int _ b => (p ∧ q, .int k (if b > a then b else a))
  | _, _ => no
theorem maxK_eq {p q : Prop} {k k' : IntKind} {a b : Int} : maxK p q (.int k a) (.int k' b) = (p ∧ q, .int k (if b > a then b else a)) := rfl
theorem E_max {ts : Array TypeId} : ev3 P σ g (.call ⟨.builtin .max, #[x, y], ts⟩) = maxK (σ.get g x).1 (σ.get g y).1 (σ.get g x).2 (σ.get g y).2 := by
    unfold maxK
    show (match (σ.get g x).2, (σ.get g y).2 with | .int k a, .int _ b => _ | _, _ => no) = _
    cases (σ.get g x).2 <;> cases (σ.get g y).2 <;> rfl
theorem A_max {ts : Array TypeId} : StepA c Kp σ g gd dst (.call ⟨.builtin .max, #[x, y], ts⟩) K = pureK c σ g gd dst (maxK (σ.get g x).1 (σ.get g y).1 (σ.get g x).2 (σ.get g y).2) K := by
  rw [← E_max (P := c.P) (ts := ts)]; rfl
theorem A_cap : StepA c Kp σ g gd dst (.call ⟨.builtin .cap, #[x], #[t]⟩) K = pureK c σ g gd dst ((σ.get g x).1 ∧ (g = true → (evCap c.P t (σ.get g x).2).1), (evCap c.P t (σ.get g x).2).2) K := rfl
theorem E_cap : ev3 P σ g (.call ⟨.builtin .cap, #[x], #[t]⟩) = ((σ.get g x).1 ∧ (g = true → (evCap P t (σ.get g x).2).1), (evCap P t (σ.get g x).2).2) := rfl
theorem app3_slk {u cap sz : Nat} {xs : List AV} {v : AV} : evApp3 P H d t u (.slk cap sz xs) v = evAppS P H d cap sz xs v (P.underlying t) (P.underlying u) := rfl
theorem app3_sl {u sz : Nat} {ex : Bool} {xs : List AV} {v : AV} : evApp3 P H d t u (.sl ex sz xs) v = evApp P H d t u (.sl ex sz xs) v := rfl
theorem app3_osl {u q m l : Nat} {v : AV} : evApp3 P H d t u (.osl q m l) v = evApp P H d t u (.osl q m l) v := rfl
theorem appS_int {cap sz e : Nat} {q q' : IntKind} {m : Int} {xs : List AV} : evAppS P H d cap sz xs (.int q m) (some (.slice e)) (some (.int q')) = evAppZ P H d e cap sz xs m (zeroAV P e) := rfl
theorem appZ_some {cap sz e : Nat} {m : Int} {xs : List AV} {z : AV} : evAppZ P H d e cap sz xs m (some z) = (sz = P.cellsOf e ∧ 0 < m ∧ cap < xs.length + m.toNat ∧ xs.length + m.toNat ≤ 68719476736 ∧ apOK P e (P.cellsOf e) ∧ z.cells.length = P.cellsOf e ∧ z.sto = true ∧ z.data = true,
      .osl d 0 (xs.length + m.toNat), put (killH d H) d ⟨P.cellsOf e, e, false, xs ++ List.replicate m.toNat z⟩, some d) := rfl
/-- The same for the evaluator alone. -/
theorem E_move : ev3 P σ g (.move x) = σ.get g x := rfl
theorem E_assign : ev3 P σ g (.assign x) = σ.get g x := rfl
theorem E_unOp {op : UnOp} : ev3 P σ g (.unOp op t x) = ((σ.get g x).1 ∧ (g = true → (evUn op (σ.get g x).2).1), (evUn op (σ.get g x).2).2) := rfl
theorem E_bin {op : BinOp} : ev3 P σ g (.binOp op t x y tt) = ((σ.get g x).1 ∧ (σ.get g y).1 ∧ (g = true → (evBin P t op (σ.get g x).2 (σ.get g y).2).1), (evBin P t op (σ.get g x).2 (σ.get g y).2).2) := rfl
theorem E_slice {lo hi mx : Option Operand} : ev3 P σ g (.slice t x lo hi mx) = ((σ.get g x).1 ∧ (σ.getO g lo).1 ∧ (σ.getO g hi).1 ∧ (σ.getO g mx).1 ∧ (g = true → (evSliceX P σ.h t (σ.get g x).2 (σ.getO g lo).2 (σ.getO g hi).2 (σ.getO g mx).2).1),
      (evSliceX P σ.h t (σ.get g x).2 (σ.getO g lo).2 (σ.getO g hi).2 (σ.getO g mx).2).2) := rfl
theorem E_indexAddr : ev3 P σ g (.indexAddr t x y) = ixK P σ g t x y := rfl
theorem E_index : ev3 P σ g (.index t x y) = ((σ.get g x).1 ∧ (σ.get g y).1 ∧ (g = true → (evIndex P t (σ.get g x).2 (σ.get g y).2).1), (evIndex P t (σ.get g x).2 (σ.get g y).2).2) := rfl
theorem E_extract {i : Nat} : ev3 P σ g (.extract x i) = ((σ.get g x).1 ∧ (g = true → (evExtract (σ.get g x).2 i).1), (evExtract (σ.get g x).2 i).2) := rfl
theorem E_len : ev3 P σ g (.call ⟨.builtin .len, #[x], #[t]⟩) = ((σ.get g x).1 ∧ (g = true → (evLen P t (σ.get g x).2).1), (evLen P t (σ.get g x).2).2) := rfl
theorem E_min {ts : Array TypeId} : ev3 P σ g (.call ⟨.builtin .min, #[x, y], ts⟩) = minK (σ.get g x).1 (σ.get g y).1 (σ.get g x).2 (σ.get g y).2 := by
    unfold minK
    show (match (σ.get g x).2, (σ.get g y).2 with | .int k a, .int _ b => _ | _, _ => no) = _
    cases (σ.get g x).2 <;> cases (σ.get g y).2 <;> rfl

theorem E_load : ev3 P σ g (.load t x) = ((σ.get g x).1 ∧ (P.underlying t).isSome = true ∧ szIs P t (P.cellsOf t) ∧ (g = true → (evLoad P σ.h t (σ.get g x).2).1), (evLoad P σ.h t (σ.get g x).2).2) := rfl
theorem E_conv : ev3 P σ g (.convert t tt x) = ((σ.get g x).1 ∧ (g = true → (evConv P t tt (σ.get g x).2).1), (evConv P t tt (σ.get g x).2).2) := rfl
theorem E_struct {parts : Array (Nat × Operand)} : ev3 P σ g (.build t parts) = evStruct σ g parts.toList (placesOf P t) (zeroAV P t) := rfl
theorem E_ifc : ev3 P σ g (.makeInterface t x) = ((σ.get g x).1 ∧ (g = true → P.concrete t = true ∧ (σ.get g x).2.data = true), .ifc t (σ.get g x).2) := rfl
theorem A_assert : StepA c Kp σ g gd dst (.typeAssert x t tt true) K = pureK c σ g gd dst ((σ.get g x).1 ∧ (g = true → (evAssert c.P tt (zeroAV c.P tt) (σ.get g x).2).1), (evAssert c.P tt (zeroAV c.P tt) (σ.get g x).2).2) K := rfl
theorem E_assert : ev3 P σ g (.typeAssert x t tt true) = ((σ.get g x).1 ∧ (g = true → (evAssert P tt (zeroAV P tt) (σ.get g x).2).1), (evAssert P tt (zeroAV P tt) (σ.get g x).2).2) := rfl
theorem assert_ifc {u : Nat} {v z : AV} : evAssert P t (some z) (.ifc u v) = (noIface P t ∧ z.data = true, .tup [if u = t then v else z, .bool (decide (u = t))]) := rfl
theorem assert_nil {z : AV} : evAssert P t (some z) (.atom .nilIface) = (noIface P t ∧ z.data = true, .tup [z, .bool false]) := rfl
theorem A_nilCheck : StepA c Kp σ g gd dst (.nilCheck x) K = pureK c σ g gd dst ((σ.get g x).1 ∧ (g = true → nilOK c.P (σ.get g x).2 = true), (σ.get g x).2) K := rfl
theorem E_nilCheck : ev3 P σ g (.nilCheck x) = ((σ.get g x).1 ∧ (g = true → nilOK P (σ.get g x).2 = true), (σ.get g x).2) := rfl
theorem isIfc_ifc {u : Nat} {v : AV} : nilOK P (.ifc u v) = true := rfl
theorem isIfc_mth {u : Nat} {q : String} {v : AV} : nilOK P (.mth q (.ifc u v)) = (methOf P u q).isSome := rfl
theorem takeOK_assert {cm : Bool} : takeOK Kp σ g (.typeAssert x t tt cm) = True := eq_true rfl
theorem takeOK_nilCheck : takeOK Kp σ g (.nilCheck x) = True := eq_true rfl
theorem takeOK_load : takeOK Kp σ g (.load t x) = (g = true → inK Kp (σ.get g x).2) := rfl
theorem takeOK_conv : takeOK Kp σ g (.convert t tt x) = (g = true → isI (σ.get g x).2) := rfl
theorem takeOK_move : takeOK Kp σ g (.move x) = True := eq_true rfl
theorem takeOK_assign : takeOK Kp σ g (.assign x) = True := eq_true rfl
theorem takeOK_pick : takeOK Kp σ g (.pick x y z) = True := eq_true rfl
theorem takeOK_unOp {op : UnOp} : takeOK Kp σ g (.unOp op t x) = True := eq_true rfl
theorem takeOK_bin {op : BinOp} : takeOK Kp σ g (.binOp op t x y tt) = True := eq_true rfl
theorem takeOK_slice {lo hi mx : Option Operand} : takeOK Kp σ g (.slice t x lo hi mx) = True := eq_true rfl
theorem takeOK_ixa : takeOK Kp σ g (.indexAddr t x y) = True := eq_true rfl
theorem takeOK_ix : takeOK Kp σ g (.index t x y) = True := eq_true rfl
theorem takeOK_ext {i : Nat} : takeOK Kp σ g (.extract x i) = True := eq_true rfl
theorem takeOK_fa {i : Nat} : takeOK Kp σ g (.fieldAddr t x i) = True := eq_true rfl
theorem takeOK_fd {i : Nat} : takeOK Kp σ g (.field t x i) = True := eq_true rfl
theorem takeOK_mf {f : Fn} {first caps : Array Operand} : takeOK Kp σ g (.makeFunc f first caps) = True := eq_true rfl
theorem takeOK_bd {parts : Array (Nat × Operand)} : takeOK Kp σ g (.build t parts) = True := eq_true rfl
theorem takeOK_mi : takeOK Kp σ g (.makeInterface t x) = True := eq_true rfl
theorem takeOK_call {cl : Call} : takeOK Kp σ g (.call cl) = True := eq_true rfl
/-- Fields, structs, closures. -/
theorem A_fieldAddr {i : Nat} : StepA c Kp σ g gd dst (.fieldAddr t x i) K = pureK c σ g gd dst ((σ.get g x).1 ∧ (g = true → (evFieldAddr c.P (σ.get g x).2 (fieldTy c.P t i)).1), (evFieldAddr c.P (σ.get g x).2 (fieldTy c.P t i)).2) K := rfl
theorem A_field {i : Nat} : StepA c Kp σ g gd dst (.field t x i) K = pureK c σ g gd dst ((σ.get g x).1 ∧ (g = true → (evField c.P (σ.get g x).2 (fieldTy c.P t i)).1), (evField c.P (σ.get g x).2 (fieldTy c.P t i)).2) K := rfl
theorem E_fieldAddr {i : Nat} : ev3 P σ g (.fieldAddr t x i) = ((σ.get g x).1 ∧ (g = true → (evFieldAddr P (σ.get g x).2 (fieldTy P t i)).1), (evFieldAddr P (σ.get g x).2 (fieldTy P t i)).2) := rfl
theorem E_field {i : Nat} : ev3 P σ g (.field t x i) = ((σ.get g x).1 ∧ (g = true → (evField P (σ.get g x).2 (fieldTy P t i)).1), (evField P (σ.get g x).2 (fieldTy P t i)).2) := rfl
theorem fa_op {off ty q i m : Nat} : evFieldAddr P (.op q i m) (some (off, ty)) = (szIs P ty (P.cellsOf ty) ∧ 0 < P.cellsOf ty, .op q i (m + off)) := rfl
theorem fa_cp {off ty : Nat} {cs : List AV} : evFieldAddr P (.cp cs) (some (off, ty)) = (szIs P ty (P.cellsOf ty) ∧ 0 < P.cellsOf ty, .cp (cs.drop off)) := rfl
theorem fa_junk {o : Option (Nat × TypeId)} : evFieldAddr P .junk o = no := by cases o <;> rfl
theorem fd_agg {off ty : Nat} {cs : List AV} : evField P (.agg cs) (some (off, ty)) = (if aggT P ty then ((P.underlying ty).isSome = true ∧ szIs P ty (P.cellsOf ty) ∧ off + P.cellsOf ty ≤ cs.length, .agg ((cs.drop off).take (P.cellsOf ty)))
      else ((P.underlying ty).isSome = true ∧ off < cs.length, cs.getD off .junk)) := rfl
theorem A_makeMeth {q : String} {first caps : Array Operand} : StepA c Kp σ g gd dst (.makeFunc (.method q) first caps) K = pureK c σ g gd dst (evMeth σ g q first.toList caps.toList) K := rfl
theorem E_makeMeth {q : String} {first caps : Array Operand} : ev3 P σ g (.makeFunc (.method q) first caps) = evMeth σ g q first.toList caps.toList := rfl
theorem evMeth_one {q : String} : evMeth σ g q [x] [] = ((σ.get g x).1 ∧ (g = true → (σ.get g x).2.data = true), .mth q (σ.get g x).2) := rfl
theorem A_makeFunc {f : FuncId} {first caps : Array Operand} : StepA c Kp σ g gd dst (.makeFunc (.func f) first caps) K = pureK c σ g gd dst (first.isEmpty = true ∧ (capsOf σ g caps.toList).1, .fn f (capsOf σ g caps.toList).2) K := rfl
theorem E_makeFunc {f : FuncId} {first caps : Array Operand} : ev3 P σ g (.makeFunc (.func f) first caps) = (first.isEmpty = true ∧ (capsOf σ g caps.toList).1, .fn f (capsOf σ g caps.toList).2) := rfl
def capsC (p : Prop) (g : Bool) (v : AV) (r : Prop × List AV) : Prop × List AV := (p ∧ (g = true → capOK v = true) ∧ r.1, v :: r.2)
theorem caps_nil : capsOf σ g [] = (True, []) := rfl
theorem caps_cons {xs : List Operand} : capsOf σ g (x :: xs) = capsC (σ.get g x).1 g (σ.get g x).2 (capsOf σ g xs) := rfl
theorem capsC_eq {p q : Prop} {v : AV} {vs : List AV} : capsC p g v (q, vs) = (p ∧ (g = true → capOK v = true) ∧ q, v :: vs) := rfl
def structK (c : Ctx) (g gd : Bool) (dst : Option Tmp) (t : Nat) (parts : List (Nat × Operand)) (K : St → Prop) (σ : St) : Prop := pureK c σ g gd dst (evStruct σ g parts (placesOf c.P t) (zeroAV c.P t)) K
theorem A_struct {parts : Array (Nat × Operand)} : StepA c Kp σ g gd dst (.build t parts) K = structK c g gd dst t parts.toList K σ := rfl
theorem structK_eq {parts : List (Nat × Operand)} : structK c g gd dst t parts K ⟨dense k s, H⟩ = pureK c ⟨dense k s, H⟩ g gd dst (evStruct ⟨dense k s, H⟩ g parts (placesOf c.P t) (zeroAV c.P t)) K := rfl
theorem struct_eq {parts : List (Nat × Operand)} {pl : List (Nat × Nat)} {zs : List AV} : evStruct σ g parts (some pl) (some (.agg zs)) = ((buildA σ g pl zs parts).1, mkBig (buildA σ g pl zs parts).2) := rfl
theorem mkBig_eq {cs : List AV} : mkBig cs = bif cs.all AV.data0 then .agg cs else .big cs := rfl
def buildR (σ : St) (g : Bool) (pl : List (Nat × Nat)) (cs : List AV) (i : Nat) (p : Prop) (v : AV) (r : List (Nat × Operand)) : Prop × List AV :=
  (p ∧ (g = true → partB v = true ∧ i < pl.length ∧ plLen pl i = v.cells.length ∧ plOff pl i + v.cells.length ≤ cs.length) ∧ (buildA σ g pl (setC cs (plOff pl i) v.cells) r).1, (buildA σ g pl (setC cs (plOff pl i) v.cells) r).2)
theorem buildA_nil {pl : List (Nat × Nat)} {cs : List AV} : buildA σ g pl cs [] = (True, cs) := rfl
theorem buildA_cons {pl : List (Nat × Nat)} {cs : List AV} {i : Nat} {r : List (Nat × Operand)} : buildA σ g pl cs ((i, x) :: r) = buildR σ g pl cs i (σ.get g x).1 (σ.get g x).2 r := rfl
theorem buildR_eq {pl : List (Nat × Nat)} {cs : List AV} {i : Nat} {p : Prop} {v : AV} {r : List (Nat × Operand)} : buildR σ g pl cs i p v r = (p ∧ (g = true → partB v = true ∧ i < pl.length ∧ plLen pl i = v.cells.length ∧ plOff pl i + v.cells.length ≤ cs.length) ∧ (buildA σ g pl (setC cs (plOff pl i) v.cells) r).1, (buildA σ g pl (setC cs (plOff pl i) v.cells) r).2) := rfl
theorem plOff_zero {a b : Nat} {pl : List (Nat × Nat)} : plOff ((a, b) :: pl) 0 = a := rfl
theorem plOff_succ {a : Nat × Nat} {pl : List (Nat × Nat)} {i : Nat} : plOff (a :: pl) (i + 1) = plOff pl i := rfl
theorem plLen_zero {a b : Nat} {pl : List (Nat × Nat)} : plLen ((a, b) :: pl) 0 = b := rfl
theorem plLen_succ {a : Nat × Nat} {pl : List (Nat × Nat)} {i : Nat} : plLen (a :: pl) (i + 1) = plLen pl i := rfl
theorem setC_eq {cs ys : List AV} {off : Nat} : setC cs off ys = cs.take off ++ ys ++ cs.drop (off + ys.length) := rfl
def ifcK (c : Ctx) (g gd : Bool) (dst : Option Tmp) (t : Nat) (x : Operand) (K : St → Prop) (σ : St) : Prop := pureK c σ g gd dst ((σ.get g x).1 ∧ (g = true → c.P.concrete t = true ∧ (σ.get g x).2.data = true), .ifc t (σ.get g x).2) K
theorem A_ifc : StepA c Kp σ g gd dst (.makeInterface t x) K = ifcK c g gd dst t x K (σ.frzK (σ.nms [x])) := rfl
theorem ifcK_eq : ifcK c g gd dst t x K ⟨dense k s, H⟩ = pureK c ⟨dense k s, H⟩ g gd dst ((St.get ⟨dense k s, H⟩ g x).1 ∧ (g = true → c.P.concrete t = true ∧ (St.get ⟨dense k s, H⟩ g x).2.data = true), .ifc t (St.get ⟨dense k s, H⟩ g x).2) K := rfl
/-- Comparing structs -/
theorem eqC_int {q q' : IntKind} {m m' : Int} {i : Nat} : eqC i (.int q m) (.int q' m') = (i = 0 ∧ q = q', decide (m = m')) := rfl
theorem eqC_bool {q q' : Bool} {i : Nat} : eqC i (.bool q) (.bool q') = (i = 1, q == q') := rfl
theorem eqC_str {q q' : List UInt8} {i : Nat} : eqC i (.str q) (.str q') = (i = 2, q == q') := rfl
theorem eqL_nil {cs ds : List AV} : eqL cs ds [] = (True, true) := rfl
theorem eqL_cons {cs ds : List AV} {l i : Nat} {ls : List (Nat × Nat)} : eqL cs ds ((l, i) :: ls) = (l < cs.length ∧ l < ds.length ∧ (eqC i (cs.getD l .junk) (ds.getD l .junk)).1 ∧ (eqL cs ds ls).1, (eqC i (cs.getD l .junk) (ds.getD l .junk)).2 && (eqL cs ds ls).2) := rfl
theorem evEqA_eql {cs ds : List AV} {ls : List (Nat × Nat)} : evEqA .eql cs ds (some ls) = ((eqL cs ds ls).1, .bool (eqL cs ds ls).2) := rfl
theorem evEqA_neq {cs ds : List AV} {ls : List (Nat × Nat)} : evEqA .neq cs ds (some ls) = ((eqL cs ds ls).1, .bool (!(eqL cs ds ls).2)) := rfl

/-- Steps with effects -/
def effK (σ : St) (g gd : Bool) (dst : Option Tmp) (Kp : List Nat) (tch : Option Nat) (K : St → Prop) (r : EffR) : Prop := (g = true → r.1 ∧ okK σ.h r.2.2.1 r.2.2.2 tch Kp ∧ K ⟨setO (killO r.2.2.2 σ.s) dst (gv gd true r.2.1), r.2.2.1⟩) ∧ (g = false → K ⟨setO σ.s dst (gv gd false .junk), σ.h⟩)
theorem okK_nil {H' : List (Nat × HO)} {kl tch : Option Nat} : okK H H' kl tch [] = True := rfl
theorem okK_cons {H' : List (Nat × HO)} {kl tch : Option Nat} {q : Nat} {ks : List Nat} : okK H H' kl tch (q :: ks) = (kl ≠ some q ∧ tch ≠ some q ∧ ((look H q).isSome = true → (look H' q).isSome = true) ∧ okK H H' kl tch ks) := rfl
theorem mem_nilK {q : Nat} : (q ∈ ([] : List Nat)) = False := by simp
theorem mem_consK {q q' : Nat} {ks : List Nat} : (q ∈ (q' :: ks)) = (q = q' ∨ q ∈ ks) := by simp
theorem effK_true {p : Prop} {v : AV} {H' : List (Nat × HO)} {kl tch : Option Nat} : effK σ true gd dst Kp tch K (p, v, H', kl) = (p ∧ okK σ.h H' kl tch Kp ∧ K ⟨setO (killO kl σ.s) dst (gv gd true v), H'⟩) := by simp [effK]
theorem effK_false {tch : Option Nat} {r : EffR} : effK σ false gd dst Kp tch K r = K ⟨setO σ.s dst (gv gd false .junk), σ.h⟩ := by simp [effK]
theorem frzO_nms (xs : List Operand) : σ.frzO xs = σ.frzK (σ.nms xs) := rfl
theorem frzK_nil : σ.frzK [] = σ := rfl
theorem frzK_cons {q : Nat} {ks : List Nat} : St.frzK ⟨dense k s, H⟩ (q :: ks) = St.frzs ⟨dense k s, H⟩ (deep H (q :: ks)) := rfl
theorem deep_eq {q : Nat} {ks : List Nat} : deep H (q :: ks) = inn H (inn H (q :: ks)) ++ (inn H (q :: ks) ++ (q :: ks)) := rfl
theorem inn_nil : inn H [] = [] := rfl
theorem inn_cons {q : Nat} {ks : List Nat} : inn H (q :: ks) = innO (look H q) ++ inn H ks := rfl
theorem innO_none : innO none = [] := rfl
theorem innO_true {sz e : Nat} {xs : List AV} : innO (some ⟨sz, e, true, xs⟩) = (flat xs).flatMap AV.nm0 := rfl
theorem innO_false {sz e : Nat} {xs : List AV} : innO (some ⟨sz, e, false, xs⟩) = [] := rfl
theorem nms_nil : St.nms σ [] = [] := rfl
theorem nms_cons {xs : List Operand} : St.nms σ (x :: xs) = (σ.get true x).2.nm ++ σ.nms xs := rfl
theorem flat_nil : flat [] = [] := rfl
theorem killH_nil {q : Nat} : killH q [] = [] := rfl
theorem killH_cons {q q' : Nat} {o : HO} : killH q ((q', o) :: H) = (q', killB q o) :: killH q H := rfl
theorem killB_true {q sz e : Nat} {xs : List AV} : killB q ⟨sz, e, true, xs⟩ = ⟨sz, e, true, xs.map (killE q)⟩ := rfl
theorem killB_false {q sz e : Nat} {xs : List AV} : killB q ⟨sz, e, false, xs⟩ = ⟨sz, e, false, xs⟩ := rfl
theorem frzH_nil {q sz : Nat} {xs : List AV} : frzH q sz xs [] = [] := rfl
theorem frzH_cons {q q' sz : Nat} {xs : List AV} {o : HO} : frzH q sz xs ((q', o) :: H) = (q', frzB q sz xs o) :: frzH q sz xs H := rfl
theorem frzB_true {q sz sz' e : Nat} {xs ys : List AV} : frzB q sz xs ⟨sz', e, true, ys⟩ = ⟨sz', e, true, ys.map (frzE q sz xs)⟩ := rfl
theorem frzB_false {q sz sz' e : Nat} {xs ys : List AV} : frzB q sz xs ⟨sz', e, false, ys⟩ = ⟨sz', e, false, ys⟩ := rfl
theorem storeN_op {v : AV} {q i m : Nat} : storeN H v (.op q i m) = storeO v (look H q) := rfl
theorem storeO_true {v : AV} {sz e : Nat} {xs : List AV} : storeO v (some ⟨sz, e, true, xs⟩) = keepN v := rfl
theorem storeO_false {v : AV} {sz e : Nat} {xs : List AV} : storeO v (some ⟨sz, e, false, xs⟩) = v.nm := rfl
def buildK (c : Ctx) (Kp : List Nat) (g gd : Bool) (dst : Option Tmp) (t n : Nat) (parts : List (Nat × Operand)) (K : St → Prop) (σ : St) : Prop := effK σ g gd dst Kp none K (evBuild c.P σ (dst.getD 0) t n parts)
theorem A_build {parts : Array (Nat × Operand)} : StepA c Kp σ g gd dst (.buildSlice t n parts) K = buildK c Kp g gd dst t n parts.toList K (σ.frzK (σ.nms (parts.toList.map (·.2)))) := rfl
theorem buildK_eq {parts : List (Nat × Operand)} : buildK c Kp g gd dst t n parts K ⟨dense k s, H⟩ = effK ⟨dense k s, H⟩ g gd dst Kp none K (evBuild c.P ⟨dense k s, H⟩ (dst.getD 0) t n parts) := rfl
def storeK (c : Ctx) (Kp : List Nat) (g gd : Bool) (dst : Option Tmp) (t : Nat) (x y : Operand) (K : St → Prop) (σ : St) : Prop := effK σ g gd dst Kp (σ.get true x).2.nameOf K ((σ.get true x).1 ∧ (σ.get true y).1 ∧ (evStore c.P σ t (σ.get true x).2 (σ.get true y).2).1, (evStore c.P σ t (σ.get true x).2 (σ.get true y).2).2)
theorem A_store : StepA c Kp σ g gd dst (.store t x y) K = storeK c Kp g gd dst t x y K (σ.frzK (storeN σ.h (σ.get true y).2 (σ.get true x).2)) := rfl
theorem storeK_eq : storeK c Kp g gd dst t x y K ⟨dense k s, H⟩ = effK ⟨dense k s, H⟩ g gd dst Kp (St.get ⟨dense k s, H⟩ true x).2.nameOf K ((St.get ⟨dense k s, H⟩ true x).1 ∧ (St.get ⟨dense k s, H⟩ true y).1 ∧ (evStore c.P ⟨dense k s, H⟩ t (St.get ⟨dense k s, H⟩ true x).2 (St.get ⟨dense k s, H⟩ true y).2).1, (evStore c.P ⟨dense k s, H⟩ t (St.get ⟨dense k s, H⟩ true x).2 (St.get ⟨dense k s, H⟩ true y).2).2) := rfl
def boxK (Kp : List Nat) (g gd : Bool) (dst : Option Tmp) (t : Nat) (x : Operand) (K : St → Prop) (σ : St) : Prop := effK σ g gd dst Kp none K ((σ.get true x).1 ∧ (evBox σ (dst.getD 0) t (σ.get true x).2).1, (evBox σ (dst.getD 0) t (σ.get true x).2).2)
theorem A_box : StepA c Kp σ g gd dst (.box t x) K = boxK Kp g gd dst t x K (σ.frzK (keepN (σ.get true x).2)) := rfl
theorem boxK_eq : boxK Kp g gd dst t x K ⟨dense k s, H⟩ = effK ⟨dense k s, H⟩ g gd dst Kp none K ((St.get ⟨dense k s, H⟩ true x).1 ∧ (evBox ⟨dense k s, H⟩ (dst.getD 0) t (St.get ⟨dense k s, H⟩ true x).2).1, (evBox ⟨dense k s, H⟩ (dst.getD 0) t (St.get ⟨dense k s, H⟩ true x).2).2) := rfl
def appK (c : Ctx) (Kp : List Nat) (g gd : Bool) (dst : Option Tmp) (t u : Nat) (x y : Operand) (K : St → Prop) (σ : St) : Prop := effK σ g gd dst Kp (σ.get true x).2.nameOf K ((σ.get true x).1 ∧ (σ.get true y).1 ∧ (evApp3 c.P σ.h (dst.getD 0) t u (σ.get true x).2 (σ.get true y).2).1, (evApp3 c.P σ.h (dst.getD 0) t u (σ.get true x).2 (σ.get true y).2).2)
theorem A_append {u : Nat} : StepA c Kp σ g gd dst (.call ⟨.builtin .append, #[x, y], #[t, u]⟩) K = appK c Kp g gd dst t u x y K (σ.frzK (σ.nms [y])) := rfl
theorem appK_eq {u : Nat} : appK c Kp g gd dst t u x y K ⟨dense k s, H⟩ = effK ⟨dense k s, H⟩ g gd dst Kp (St.get ⟨dense k s, H⟩ true x).2.nameOf K ((St.get ⟨dense k s, H⟩ true x).1 ∧ (St.get ⟨dense k s, H⟩ true y).1 ∧ (evApp3 c.P H (dst.getD 0) t u (St.get ⟨dense k s, H⟩ true x).2 (St.get ⟨dense k s, H⟩ true y).2).1, (evApp3 c.P H (dst.getD 0) t u (St.get ⟨dense k s, H⟩ true x).2 (St.get ⟨dense k s, H⟩ true y).2).2) := rfl
def allocK (c : Ctx) (Kp : List Nat) (g gd : Bool) (dst : Option Tmp) (t : Nat) (K : St → Prop) (σ : St) : Prop := effK σ g gd dst Kp none K (evAlloc σ (dst.getD 0) t (zeroAV c.P t))
theorem A_alloc : StepA c Kp σ g gd dst (.alloc t) K = allocK c Kp g gd dst t K σ := rfl
theorem allocK_eq : allocK c Kp g gd dst t K ⟨dense k s, H⟩ = effK ⟨dense k s, H⟩ g gd dst Kp none K (evAlloc ⟨dense k s, H⟩ (dst.getD 0) t (zeroAV c.P t)) := rfl
theorem evAlloc_eq {v : AV} : evAlloc ⟨dense k s, H⟩ d t (some v) = (stoB true v = true ∧ v.names0 d = false, .op d 0 0, put (killH d H) d ⟨v.cells.length, t, true, [v]⟩, some d) := rfl
def makeK (c : Ctx) (Kp : List Nat) (g gd : Bool) (dst : Option Tmp) (t : Nat) (x y : Operand) (K : St → Prop) (σ : St) : Prop := effK σ g gd dst Kp none K ((σ.get true x).1 ∧ (σ.get true y).1 ∧ (evMake c.P σ (dst.getD 0) (σ.get true x).2 (σ.get true y).2 (c.P.underlying t)).1, (evMake c.P σ (dst.getD 0) (σ.get true x).2 (σ.get true y).2 (c.P.underlying t)).2)
theorem A_make : StepA c Kp σ g gd dst (.makeSlice t x y) K = makeK c Kp g gd dst t x y K σ := rfl
theorem makeK_eq : makeK c Kp g gd dst t x y K ⟨dense k s, H⟩ = effK ⟨dense k s, H⟩ g gd dst Kp none K ((St.get ⟨dense k s, H⟩ true x).1 ∧ (St.get ⟨dense k s, H⟩ true y).1 ∧ (evMake c.P ⟨dense k s, H⟩ (dst.getD 0) (St.get ⟨dense k s, H⟩ true x).2 (St.get ⟨dense k s, H⟩ true y).2 (c.P.underlying t)).1, (evMake c.P ⟨dense k s, H⟩ (dst.getD 0) (St.get ⟨dense k s, H⟩ true x).2 (St.get ⟨dense k s, H⟩ true y).2 (c.P.underlying t)).2) := rfl
theorem evMake_eq {q q' : IntKind} {m m' : Int} {e : Nat} : evMake P σ d (.int q m) (.int q' m') (some (.slice e)) = evMakeZ P σ d e m m' (zeroAV P e) := rfl
theorem evMakeZ_eq {e : Nat} {m m' : Int} {z : AV} : evMakeZ P ⟨dense k s, H⟩ d e m m' (some z) = (0 ≤ m ∧ m ≤ m' ∧ m' ≤ 68719476736 ∧ apOK P e (P.cellsOf e) ∧ z.cells.length = P.cellsOf e ∧ z.sto = true ∧ z.data = true, .osl d 0 m.toNat, put (killH d H) d ⟨P.cellsOf e, e, false, List.replicate m.toNat z⟩, some d) := rfl
def copyK (c : Ctx) (Kp : List Nat) (g gd : Bool) (dst : Option Tmp) (t u : Nat) (x y : Operand) (K : St → Prop) (σ : St) : Prop := effK σ g gd dst Kp (σ.get true x).2.nameOf K ((σ.get true x).1 ∧ (σ.get true y).1 ∧ (evCopy c.P σ.h u (σ.get true x).2 (σ.get true y).2 (c.P.underlying t)).1, (evCopy c.P σ.h u (σ.get true x).2 (σ.get true y).2 (c.P.underlying t)).2)
theorem A_copy {u : Nat} : StepA c Kp σ g gd dst (.call ⟨.builtin .copy, #[x, y], #[t, u]⟩) K = copyK c Kp g gd dst t u x y K (σ.frzK (σ.nms [y])) := rfl
theorem copyK_eq {u : Nat} : copyK c Kp g gd dst t u x y K ⟨dense k s, H⟩ = effK ⟨dense k s, H⟩ g gd dst Kp (St.get ⟨dense k s, H⟩ true x).2.nameOf K ((St.get ⟨dense k s, H⟩ true x).1 ∧ (St.get ⟨dense k s, H⟩ true y).1 ∧ (evCopy c.P H u (St.get ⟨dense k s, H⟩ true x).2 (St.get ⟨dense k s, H⟩ true y).2 (c.P.underlying t)).1, (evCopy c.P H u (St.get ⟨dense k s, H⟩ true x).2 (St.get ⟨dense k s, H⟩ true y).2 (c.P.underlying t)).2) := rfl
def copyT (P : Program) (H : List (Nat × HO)) (e u q m l : Nat) (v : AV) : Option HO → EffR
  | some o => (o.e = e ∧ (evCopyO P H q m l (fun sz => isSrc P sz u v) (some o)).1, (evCopyO P H q m l (fun sz => isSrc P sz u v) (some o)).2)
  | none => noE
theorem evCopy_eq {u e q m l : Nat} {v : AV} : evCopy P H u (.osl q m l) v (some (.slice e)) = copyT P H e u q m l v (look H q) := by
  show (match look H q with | some o => _ | none => noE) = _
  cases look H q <;> rfl
theorem copyT_eq {e u q m l sz e' : Nat} {b' : Bool} {xs : List AV} {v : AV} : copyT P H e u q m l v (some ⟨sz, e', b', xs⟩) = (e' = e ∧ b' = false ∧ szIs P e' sz ∧ (isSrc P sz u v).1 ∧ m + min (isSrc P sz u v).2.length l ≤ xs.length, .int .i64 (min (isSrc P sz u v).2.length l : Nat),
      upd H q ⟨sz, e', false, xs.take m ++ (isSrc P sz u v).2.take (min (isSrc P sz u v).2.length l) ++ xs.drop (m + min (isSrc P sz u v).2.length l)⟩, none) := rfl
def callA (c : Ctx) (Kp : List Nat) (g gd : Bool) (dst : Option Tmp) (x : Operand) (args : List Operand) (K : St → Prop) (σ : St) : Prop :=
  match (σ.get g x).2, dst with
  | .fn f caps, some d => (σ.get g x).1 ∧ caps.all AV.data0 = true ∧ (argsOf σ g args).1 ∧
      CallK c.P f ((argsOf σ g args).2 ++ caps) g (!gd) fun r ho => okK σ.h (retH ho d σ.h) (retK ho d) none Kp ∧ K ⟨(killO (retK ho d) σ.s).set d (gv gd g (r.ren d)), retH ho d σ.h⟩
  | _, _ => False
theorem A_call {args : Array Operand} {ts : Array TypeId} : StepA c Kp σ g gd dst (.call ⟨.value x, args, ts⟩) K = callA c Kp g gd dst x args.toList K (σ.frzK (σ.nms (x :: args.toList))) := rfl
def invA (c : Ctx) (Kp : List Nat) (g gd : Bool) (dst : Option Tmp) (x : Operand) (q : String) (args : List Operand) (K : St → Prop) (σ : St) : Prop :=
  match (σ.get g x).2, dst with
  | .ifc t y, some d => (match methOf c.P t q with
      | some f => (σ.get g x).1 ∧ (argsOf σ g args).1 ∧
      CallK c.P f (y :: (argsOf σ g args).2) g (!gd) fun r ho => okK σ.h (retH ho d σ.h) (retK ho d) none Kp ∧ K ⟨(killO (retK ho d) σ.s).set d (gv gd g (r.ren d)), retH ho d σ.h⟩
      | none => False)
  | _, _ => False
theorem A_inv {args : Array Operand} {ts : Array TypeId} {q : String} : StepA c Kp σ g gd dst (.call ⟨.invoke x q, args, ts⟩) K = invA c Kp g gd dst x q args.toList K (σ.frzK (σ.nms args.toList)) := rfl
def invB (c : Ctx) (Kp : List Nat) (g gd : Bool) (d : Tmp) (p : Prop) (y : AV) (r : Prop × List AV) (K : St → Prop) (σ : St) : Option FuncId → Prop
  | some f => p ∧ r.1 ∧ CallK c.P f (y :: r.2) g (!gd) fun r ho => okK σ.h (retH ho d σ.h) (retK ho d) none Kp ∧ K ⟨(killO (retK ho d) σ.s).set d (gv gd g (r.ren d)), retH ho d σ.h⟩
  | none => False
def invC (c : Ctx) (Kp : List Nat) (g gd : Bool) (d : Tmp) (q : String) (args : List Operand) (K : St → Prop) (σ : St) : PA → Prop
  | (p, .ifc t y) => invB c Kp g gd d p y (argsOf σ g args) K σ (methOf c.P t q)
  | _ => False
theorem invA_eq {args : List Operand} {q : String} : invA c Kp g gd (some d) x q args K ⟨dense k s, H⟩ = invC c Kp g gd d q args K ⟨dense k s, H⟩ (St.get ⟨dense k s, H⟩ g x) := by
  unfold invA invC
  cases h : St.get ⟨dense k s, H⟩ g x with
  | mk p v => cases v <;> first | rfl | (rename_i t y; simp only; cases methOf c.P t q <;> rfl)
theorem invC_eq {args : List Operand} {q : String} {u : Nat} {v : AV} {p : Prop} : invC c Kp g gd d q args K ⟨dense k s, H⟩ (p, .ifc u v) = invB c Kp g gd d p v (argsOf ⟨dense k s, H⟩ g args) K ⟨dense k s, H⟩ (methOf c.P u q) := rfl
theorem invB_eq {f : FuncId} {p r : Prop} {v : AV} {vs : List AV} : invB c Kp g gd d p v (r, vs) K ⟨dense k s, H⟩ (some f) = (p ∧ r ∧ CallK c.P f (v :: vs) g (!gd) fun r ho => okK H (retH ho d H) (retK ho d) none Kp ∧ K ⟨(killO (retK ho d) (dense k s)).set d (gv gd g (r.ren d)), retH ho d H⟩) := rfl
def callB (c : Ctx) (Kp : List Nat) (g gd : Bool) (d : Tmp) (f : FuncId) (caps : List AV) (p : Prop) (r : Prop × List AV) (K : St → Prop) (σ : St) : Prop :=
  p ∧ caps.all AV.data0 = true ∧ r.1 ∧ CallK c.P f (r.2 ++ caps) g (!gd) fun r ho => okK σ.h (retH ho d σ.h) (retK ho d) none Kp ∧ K ⟨(killO (retK ho d) σ.s).set d (gv gd g (r.ren d)), retH ho d σ.h⟩
def callC (c : Ctx) (Kp : List Nat) (g gd : Bool) (d : Tmp) (x : Operand) (args : List Operand) (K : St → Prop) (σ : St) : PA → Prop
  | (p, .fn f caps) => callB c Kp g gd d f caps p (argsOf σ g args) K σ
  | _ => False
theorem callA_eq {args : List Operand} : callA c Kp g gd (some d) x args K ⟨dense k s, H⟩ = callC c Kp g gd d x args K ⟨dense k s, H⟩ (St.get ⟨dense k s, H⟩ g x) := by
  unfold callA callC
  cases h : St.get ⟨dense k s, H⟩ g x with
  | mk p v => cases v <;> rfl
theorem callC_eq {args : List Operand} {f : FuncId} {caps : List AV} {p : Prop} : callC c Kp g gd d x args K ⟨dense k s, H⟩ (p, .fn f caps) = callB c Kp g gd d f caps p (argsOf ⟨dense k s, H⟩ g args) K ⟨dense k s, H⟩ := rfl
theorem callB_eq {f : FuncId} {caps : List AV} {p q : Prop} {vs : List AV} : callB c Kp g gd d f caps p (q, vs) K ⟨dense k s, H⟩ = (p ∧ caps.all AV.data0 = true ∧ q ∧ CallK c.P f (vs ++ caps) g (!gd) fun r ho => okK H (retH ho d H) (retK ho d) none Kp ∧ K ⟨(killO (retK ho d) (dense k s)).set d (gv gd g (r.ren d)), retH ho d H⟩) := rfl
theorem args_nil : argsOf σ g [] = (True, []) := rfl
def argsC (p : Prop) (g : Bool) (v : AV) (r : Prop × List AV) : Prop × List AV := (p ∧ (g = true → v.data = true) ∧ r.1, v :: r.2)
theorem args_cons {xs : List Operand} : argsOf σ g (x :: xs) = argsC (σ.get g x).1 g (σ.get g x).2 (argsOf σ g xs) := rfl
theorem argsC_eq {p q : Prop} {v : AV} {vs : List AV} : argsC p g v (q, vs) = (p ∧ (g = true → v.data = true) ∧ q, v :: vs) := rfl

/-- Conversions -/
theorem eff_conv_none {o : Oper} (ho : o.op = .convert t tt x) (h : ∀ e, P.underlying tt ≠ some (.slice e)) : effOf3 P σ o = none := by
  unfold effOf3 effOf; rw [ho]
  simp only
  split
  · rename_i h2; exact absurd h2 (h _)
  · rename_i h2; exact absurd h2 (h _)
  · rfl
def convP (c : Ctx) (g gd : Bool) (dst : Option Tmp) (t tt : Nat) (x : Operand) (K : St → Prop) (σ : St) : Prop := pureK c σ g gd dst ((σ.get g x).1 ∧ (g = true → (evConv c.P t tt (σ.get g x).2).1), (evConv c.P t tt (σ.get g x).2).2) K
theorem convP_eq : convP c g gd dst t tt x K ⟨dense k s, H⟩ = pureK c ⟨dense k s, H⟩ g gd dst ((St.get ⟨dense k s, H⟩ g x).1 ∧ (g = true → (evConv c.P t tt (St.get ⟨dense k s, H⟩ g x).2).1), (evConv c.P t tt (St.get ⟨dense k s, H⟩ g x).2).2) K := rfl
theorem A_convI {q q' : IntKind} (_h1 : c.P.underlying t = some (.int q)) (h2 : c.P.underlying tt = some (.int q')) : StepA c Kp σ g gd dst (.convert t tt x) K = convP c g gd dst t tt x K σ := by
  unfold StepA
  have e : frzOf c.P σ (.convert t tt x) = [] := by simp [frzOf, convN, h2]
  simp only [e, show σ.frzK [] = σ from rfl]
  rw [eff_conv_none rfl (by rw [h2]; simp)]
  rfl
theorem A_convS (h2 : c.P.underlying tt = some .string) : StepA c Kp σ g gd dst (.convert t tt x) K = convP c g gd dst t tt x K (σ.frzK (σ.nms [x])) := by
  unfold StepA
  have e : frzOf c.P σ (.convert t tt x) = σ.nms [x] := by simp [frzOf, convN, h2]
  simp only [e]
  rw [eff_conv_none rfl (by rw [h2]; simp)]
  rfl
def convB (c : Ctx) (Kp : List Nat) (σ : St) (g gd : Bool) (dst : Option Tmp) (e : Nat) (K : St → Prop) (p : Prop) : AV → Prop
  | .str b => effK σ g gd dst Kp none K (p ∧ (evBytes c.P σ (dst.getD 0) e b).1, (evBytes c.P σ (dst.getD 0) e b).2)
  | _ => False
theorem convB_str {e : Nat} {p : Prop} {q : List UInt8} : convB c Kp σ g gd dst e K p (.str q) = effK σ g gd dst Kp none K (p ∧ (evBytes c.P σ (dst.getD 0) e q).1, (evBytes c.P σ (dst.getD 0) e q).2) := rfl
theorem A_convB' {e : Nat} {q : List UInt8} {p : Prop} (hv : σ.get true x = (p, .str q)) (h1 : c.P.underlying t = some .string) (h2 : c.P.underlying tt = some (.slice e)) : StepA c Kp σ g gd dst (.convert t tt x) K = effK σ g gd dst Kp none K (p ∧ (evBytes c.P σ (dst.getD 0) e q).1, (evBytes c.P σ (dst.getD 0) e q).2) := by
  unfold StepA
  have e : frzOf c.P σ (.convert t tt x) = [] := by simp [frzOf, convN, h2]
  simp only [e, show σ.frzK [] = σ from rfl]
  simp only [effOf3, effOf, touchOf, AV.nameOf, hv, h1, h2]
  rfl
theorem A_convM {e e' : Nat} {q m l : Nat} {p : Prop} (hv : σ.get true x = (p, .osl q m l)) (h1 : c.P.underlying t = some (.slice e)) (h2 : c.P.underlying tt = some (.slice e')) : StepA c Kp σ g gd dst (.convert t tt x) K = effK σ g gd dst Kp (some q) K (p ∧ t = tt ∧ c.P.underlying e = some (.int .u8) ∧ 0 < l ∧ (look σ.h q).isSome = true, .osl q m l, σ.h, none) := by
  unfold StepA
  have e : frzOf c.P σ (.convert t tt x) = [] := by simp [frzOf, convN, h2]
  simp only [e, show σ.frzK [] = σ from rfl]
  simp only [effOf3, effOf, touchOf, AV.nameOf, hv, h1, h2]
  rfl

def convV (c : Ctx) (Kp : List Nat) (σ : St) (g gd : Bool) (dst : Option Tmp) (t tt : Nat) (x : Operand) (K : St → Prop) (e : Nat) : PA → Prop
  | (p, .str q) => effK σ g gd dst Kp none K (p ∧ (evBytes c.P σ (dst.getD 0) e q).1, (evBytes c.P σ (dst.getD 0) e q).2)
  | _ => StepA c Kp σ g gd dst (.convert t tt x) K
theorem convV_str {e : Nat} {p : Prop} {q : List UInt8} : convV c Kp σ g gd dst t tt x K e (p, .str q) = effK σ g gd dst Kp none K (p ∧ (evBytes c.P σ (dst.getD 0) e q).1, (evBytes c.P σ (dst.getD 0) e q).2) := rfl
def convM (c : Ctx) (Kp : List Nat) (σ : St) (g gd : Bool) (dst : Option Tmp) (t tt : Nat) (x : Operand) (K : St → Prop) (e : Nat) : PA → Prop
  | (p, .osl q m l) => effK σ g gd dst Kp (some q) K (p ∧ t = tt ∧ c.P.underlying e = some (.int .u8) ∧ 0 < l ∧ (look σ.h q).isSome = true, .osl q m l, σ.h, none)
  | _ => StepA c Kp σ g gd dst (.convert t tt x) K
theorem convM_osl {e q m l : Nat} {p : Prop} : convM c Kp σ g gd dst t tt x K e (p, .osl q m l) = effK σ g gd dst Kp (some q) K (p ∧ t = tt ∧ c.P.underlying e = some (.int .u8) ∧ 0 < l ∧ (look σ.h q).isSome = true, .osl q m l, σ.h, none) := rfl
def convT (c : Ctx) (Kp : List Nat) (σ : St) (g gd : Bool) (dst : Option Tmp) (t tt : Nat) (x : Operand) (K : St → Prop) : Option TypeDesc → Option TypeDesc → Prop
  | _, some .string => convP c g gd dst t tt x K (σ.frzK (σ.nms [x]))
  | some (.int _), some (.int _) => convP c g gd dst t tt x K σ
  | some .string, some (.slice e) => convV c Kp σ g gd dst t tt x K e (σ.get true x)
  | some (.slice e), some (.slice _) => convM c Kp σ g gd dst t tt x K e (σ.get true x)
  | _, _ => StepA c Kp σ g gd dst (.convert t tt x) K
theorem A_conv : StepA c Kp σ g gd dst (.convert t tt x) K = convT c Kp σ g gd dst t tt x K (c.P.underlying t) (c.P.underlying tt) := by
  unfold convT
  split
  · rename_i h; exact A_convS h
  · rename_i h1 h2; exact A_convI h1 h2
  · rename_i h1 h2
    unfold convV
    split
    · rename_i hv; exact A_convB' hv h1 h2
    · rfl
  · rename_i h1 h2
    unfold convM
    split
    · rename_i hv; exact A_convM hv h1 h2
    · rfl
  · rfl
theorem convT_S {o : Option TypeDesc} : convT c Kp σ g gd dst t tt x K o (some .string) = convP c g gd dst t tt x K (σ.frzK (σ.nms [x])) := by
  unfold convT; cases o with
  | none => rfl
  | some d => cases d <;> rfl
theorem convT_I {q q' : IntKind} : convT c Kp σ g gd dst t tt x K (some (.int q)) (some (.int q')) = convP c g gd dst t tt x K σ := rfl
theorem convT_B {e : Nat} : convT c Kp σ g gd dst t tt x K (some .string) (some (.slice e)) = convV c Kp σ g gd dst t tt x K e (σ.get true x) := rfl
theorem convT_M {e e' : Nat} : convT c Kp σ g gd dst t tt x K (some (.slice e)) (some (.slice e')) = convM c Kp σ g gd dst t tt x K e (σ.get true x) := rfl

/-- Sparse states -/
theorem get_tmp {u : Nat} : St.get ⟨dense k s, H⟩ g (.tmp u) = (optOK g (St.look1 ⟨dense k s, H⟩ u), strip (St.look1 ⟨dense k s, H⟩ u)) := rfl
theorem get_cint {q : IntKind} {m : Int} : σ.get g (.const (.int q m)) = (True, .int q m) := rfl
theorem get_cbool {q : Bool} : σ.get g (.const (.bool q)) = (True, .bool q) := rfl
theorem get_cstr {q : ByteArray} : σ.get g (.const (.string q)) = (True, .str q.data.toList) := rfl
theorem get_cnil : σ.get g (.const (.slice none 0 0)) = (True, .sl true 1 []) := rfl
theorem get_cnilf : σ.get g (.const .nilFunc) = (True, .atom .nilFunc) := rfl
theorem get_cnili : σ.get g (.const .nilIface) = (True, .atom .nilIface) := rfl
theorem get_cnilp : σ.get g (.const (.pointer none)) = (True, .atom (.pointer none)) := rfl
theorem get_func {f : FuncId} : σ.get g (.func f) = (True, .fn f []) := rfl
theorem get_cagg {cs : Array Value} (h : cs.toList.all Value.oneCell' = true) : σ.get g (.const (.agg cs)) = (True, .agg (cs.toList.map AV.ofV0)) := by
  show (True, AV.cst (.agg cs)) = _
  simp only [AV.cst, h, if_true, AV.ofV]
theorem getO_none : σ.getO g none = (True, none) := rfl
theorem getO_some : σ.getO g (some x) = ((σ.get g x).1, some (σ.get g x).2) := rfl
theorem frzs_nil : σ.frzs [] = σ := rfl
theorem frzs_cons {q : Nat} {ks : List Nat} : σ.frzs (q :: ks) = (σ.frz q).frzs ks := rfl
theorem frz_dense {q : Nat} : St.frz ⟨dense k s, H⟩ q = frzD k s H q (look H q) := by
  unfold St.frz frzD
  have hL : ∀ (sz : Nat) (xs : List AV) (s : List (Nat × AV)), (s.map fun p => (p.1, frz2 q sz xs p.2)) = frzL q sz xs s := by
    intro sz xs s
    induction s with
    | nil => rfl
    | cons p s ih => obtain ⟨i, x⟩ := p; simp only [List.map_cons, frzL, ih]
  cases look H q with
  | none => rfl
  | some o =>
    obtain ⟨sz, e, bx, xs⟩ := o
    cases bx with
    | false => simp only [Bool.false_and, Bool.false_eq_true, if_false, dense_frz, hL]
    | true =>
      simp only [Bool.true_and, dense_frz, hL]
      cases (flat xs).all AV.data0 <;> rfl
theorem frzD_none {q : Nat} : frzD k s H q none = ⟨dense k s, H⟩ := rfl
theorem frzD_false {q sz e : Nat} {xs : List AV} : frzD k s H q (some ⟨sz, e, false, xs⟩) = ⟨dense k (frzL q sz xs s), frzH q sz xs (drop H q)⟩ := rfl
theorem frzD_true {q sz e : Nat} {xs : List AV} : frzD k s H q (some ⟨sz, e, true, xs⟩) = bif (flat xs).all AV.data0 then ⟨dense k (frzL q sz xs s), frzH q sz xs (drop H q)⟩ else ⟨dense k s, H⟩ := rfl
theorem bif_true {α : Type} {p q : α} : (bif true then p else q) = p := rfl
theorem bif_false {α : Type} {p q : α} : (bif false then p else q) = q := rfl
theorem kill_dense {q : Nat} : killO (some q) (dense k s) = dense k (killL q s) := by
  have hL : ∀ (s : List (Nat × AV)), (s.map fun p => (p.1, p.2.kill q)) = killL q s := by
    intro s
    induction s with
    | nil => rfl
    | cons p s ih => obtain ⟨i, x⟩ := p; simp only [List.map_cons, killL, ih]
  simp only [killO, dense_kill, hL]
theorem kill_none {xs : List AV} : killO none xs = xs := rfl
theorem setO_some {xs : List AV} {v : AV} : setO xs (some d) v = xs.set d v := rfl
theorem setO_none {xs : List AV} {v : AV} : setO xs none v = xs := rfl
theorem keep_dense : St.keep ⟨dense k s, H⟩ L t = ⟨dense t (keepL ⟨dense k s, H⟩ L), H⟩ := by
  have hL : ∀ L : List Nat, (L.map fun i => (i, St.look1 ⟨dense k s, H⟩ i)) = keepL ⟨dense k s, H⟩ L := by
    intro L
    induction L with
    | nil => rfl
    | cons i L ih => simp only [List.map_cons, keepL, ih]
  simp only [St.keep, hL]
theorem retH_none : retH none d H = H := rfl
theorem retH_some {o : HO} : retH (some o) d H = put (killH d H) d o := rfl
theorem retK_none : retK none d = none := rfl
theorem retK_some {o : HO} : retK (some o) d = some d := rfl
theorem gv_no {v : AV} : gv false g v = v := rfl
theorem gv_yes {v : AV} : gv true g v = .opt g v := rfl
def ownA (σ : St) (i k sz : Nat) (e : TypeId) : AV → St
  | .sl true _ [] => ⟨(killO (some k) σ.s).set i (.osl k 0 0), put (killH k σ.h) k ⟨sz, e, false, []⟩⟩
  | _ => σ
theorem own_eq {i q sz e : Nat} : St.own ⟨dense k s, H⟩ i q sz e = ownA ⟨dense k s, H⟩ i q sz e (St.look1 ⟨dense k s, H⟩ i) := rfl
theorem ownA_nil {i q sz e m : Nat} : ownA ⟨dense k s, H⟩ i q sz e (.sl true m []) = ⟨(killO (some q) (dense k s)).set i (.osl q 0 0), put (killH q H) q ⟨sz, e, false, []⟩⟩ := rfl
theorem ownC_eq {b' j' q sz e : Nat} : St.ownC ⟨dense k s, H⟩ b' j' q sz e = ownB q j' sz e (dense k s) H b' (look H b') := rfl
def ownO (q b' sz e s0 t' : Nat) (k : Nat) (s : List (Nat × AV)) (H : List (Nat × HO)) : Option (List AV) → St
  | some ys => if b' = q then ⟨dense k s, H⟩ else ⟨killO (some q) (dense k s), upd (put (killH q H) q ⟨sz, e, false, []⟩) b' ⟨s0, t', true, ys⟩⟩
  | none => ⟨dense k s, H⟩
theorem ownB_eq {b' j' q sz e s0 t' : Nat} {xs : List AV} : ownB q j' sz e (dense k s) H b' (some ⟨s0, t', true, xs⟩) = ownO q b' sz e s0 t' k s H (ownX q j' xs) := by
  show (match ownX q j' xs with | some ys => _ | none => _) = _
  cases ownX q j' xs <;> rfl
theorem ownO_some {q b' sz e s0 t' : Nat} {ys : List AV} (h : (b' = q) = False) : ownO q b' sz e s0 t' k s H (some ys) = ⟨killO (some q) (dense k s), upd (put (killH q H) q ⟨sz, e, false, []⟩) b' ⟨s0, t', true, ys⟩⟩ := by
  simp [ownO, h]
def ownY (q j' : Nat) (cs : List AV) : AV → Option (List AV)
  | .sl true _ [] => some [.agg ((cs.map (AV.kill0 q)).set j' (.osl q 0 0))]
  | _ => none
theorem ownX_agg {q j' : Nat} {cs : List AV} : ownX q j' [.agg cs] = ownY q j' cs (cs.getD j' .junk) := by
  show (match cs.getD j' .junk with | .sl true _ [] => _ | _ => none) = _
  cases cs.getD j' .junk <;> first | rfl | (rename_i ex sz xs; cases ex <;> cases xs <;> rfl)
theorem ownY_eq {q j' z : Nat} {cs : List AV} : ownY q j' cs (.sl true z []) = some [.agg ((cs.map (AV.kill0 q)).set j' (.osl q 0 0))] := rfl
theorem ownX_sl {q j' z : Nat} : ownX q j' [.sl true z []] = some [.osl q 0 0] := rfl
theorem look_cons {q q' : Nat} {o : HO} : look ((q, o) :: H) q' = if q = q' then some o else look H q' := rfl
theorem look_nil {q : Nat} : look [] q = none := rfl
theorem drop_nil {q : Nat} : drop [] q = [] := rfl
theorem drop_cons {q q' : Nat} {o : HO} : drop ((q, o) :: H) q' = if q = q' then drop H q' else (q, o) :: drop H q' := rfl
theorem upd_nil {q : Nat} {o : HO} : upd [] q o = [] := rfl
theorem upd_cons {q q' : Nat} {o o' : HO} : upd ((q, o) :: H) q' o' = if q = q' then (q, o') :: upd H q' o' else (q, o) :: upd H q' o' := rfl
theorem put_eq {q : Nat} {o : HO} : put H q o = (q, o) :: drop H q := rfl
end
attribute [go_sem] optOK_int optOK_bool optOK_str optOK_agg optOK_tup optOK_sl optOK_cp optOK_osl optOK_op optOK_fn optOK_ifc optOK_mth optOK_slk optOK_atom optOK_mp optOK_val optOK_opt optOK_big optOK_junk strip_int strip_bool strip_str strip_agg strip_tup strip_sl strip_cp strip_osl strip_op strip_fn strip_ifc strip_mth strip_slk strip_atom strip_mp strip_val strip_opt strip_big strip_junk cells_int cells_bool cells_str cells_agg cells_tup cells_sl cells_cp cells_osl cells_op cells_fn cells_ifc cells_mth cells_slk cells_atom cells_mp cells_val cells_opt cells_big cells_junk sto_int sto_bool sto_str sto_agg sto_tup sto_sl sto_cp sto_osl sto_op sto_fn sto_ifc sto_mth sto_slk sto_atom sto_mp sto_val sto_opt sto_big sto_junk data0_int data0_bool data0_str data0_agg data0_tup data0_sl data0_cp data0_osl data0_op data0_fn data0_ifc data0_mth data0_slk data0_atom data0_mp data0_val data0_opt data0_big data0_junk data_int data_bool data_str data_agg data_tup data_sl data_cp data_osl data_op data_fn data_ifc data_mth data_slk data_atom data_mp data_val data_opt data_big data_junk nm0_int nm0_bool nm0_str nm0_agg nm0_tup nm0_sl nm0_cp nm0_osl nm0_op nm0_fn nm0_ifc nm0_mth nm0_slk nm0_atom nm0_mp nm0_val nm0_opt nm0_big nm0_junk nm_int nm_bool nm_str nm_agg nm_tup nm_sl nm_cp nm_osl nm_op nm_fn nm_ifc nm_mth nm_slk nm_atom nm_mp nm_val nm_opt nm_big nm_junk names0_int names0_bool names0_str names0_agg names0_tup names0_sl names0_cp names0_osl names0_op names0_fn names0_ifc names0_mth names0_slk names0_atom names0_mp names0_val names0_opt names0_big names0_junk names1_int names1_bool names1_str names1_agg names1_tup names1_sl names1_cp names1_osl names1_op names1_fn names1_ifc names1_mth names1_slk names1_atom names1_mp names1_val names1_opt names1_big names1_junk kill_int kill_bool kill_str kill_agg kill_tup kill_sl kill_cp kill_osl kill_op kill_fn kill_ifc kill_mth kill_slk kill_atom kill_mp kill_val kill_opt kill_big kill_junk frz0_int frz0_bool frz0_str frz0_agg frz0_tup frz0_sl frz0_cp frz0_osl frz0_op frz0_fn frz0_ifc frz0_mth frz0_slk frz0_atom frz0_mp frz0_val frz0_opt frz0_big frz0_junk frz1_int frz1_bool frz1_str frz1_agg frz1_tup frz1_sl frz1_cp frz1_osl frz1_op frz1_fn frz1_ifc frz1_mth frz1_slk frz1_atom frz1_mp frz1_val frz1_opt frz1_big frz1_junk frz2_int frz2_bool frz2_str frz2_agg frz2_tup frz2_sl frz2_cp frz2_osl frz2_op frz2_fn frz2_ifc frz2_mth frz2_slk frz2_atom frz2_mp frz2_val frz2_opt frz2_big frz2_junk ren0_int ren0_bool ren0_str ren0_agg ren0_tup ren0_sl ren0_cp ren0_osl ren0_op ren0_fn ren0_ifc ren0_mth ren0_slk ren0_atom ren0_mp ren0_val ren0_opt ren0_big ren0_junk ren_int ren_bool ren_str ren_agg ren_tup ren_sl ren_cp ren_osl ren_op ren_fn ren_ifc ren_mth ren_slk ren_atom ren_mp ren_val ren_opt ren_big ren_junk isAggV_int isAggV_bool isAggV_str isAggV_agg isAggV_tup isAggV_sl isAggV_cp isAggV_osl isAggV_op isAggV_fn isAggV_ifc isAggV_mth isAggV_slk isAggV_atom isAggV_mp isAggV_val isAggV_opt isAggV_big isAggV_junk updE_int updE_bool updE_str updE_agg updE_tup updE_sl updE_cp updE_osl updE_op updE_fn updE_ifc updE_mth updE_slk updE_atom updE_mp updE_val updE_opt updE_big updE_junk flagOf_bool nameOf_int nameOf_bool nameOf_str nameOf_agg nameOf_tup nameOf_sl nameOf_cp nameOf_osl nameOf_op nameOf_fn nameOf_ifc nameOf_mth nameOf_slk nameOf_atom nameOf_mp nameOf_val nameOf_opt nameOf_big nameOf_junk isI_int isI_bool isI_str isI_agg isI_tup isI_sl isI_cp isI_osl isI_op isI_fn isI_ifc isI_mth isI_slk isI_atom isI_mp isI_val isI_opt isI_big isI_junk inK_int inK_bool inK_str inK_agg inK_tup inK_sl inK_cp inK_osl inK_op inK_fn inK_ifc inK_mth inK_slk inK_atom inK_mp inK_val inK_opt inK_big inK_junk kill0_int kill0_bool kill0_str kill0_agg kill0_tup kill0_sl kill0_cp kill0_osl kill0_op kill0_fn kill0_ifc kill0_mth kill0_slk kill0_atom kill0_mp kill0_val kill0_opt kill0_big kill0_junk killE_int killE_bool killE_str killE_agg killE_tup killE_sl killE_cp killE_osl killE_op killE_fn killE_ifc killE_mth killE_slk killE_atom killE_mp killE_val killE_opt killE_big killE_junk frzE_int frzE_bool frzE_str frzE_agg frzE_tup frzE_sl frzE_cp frzE_osl frzE_op frzE_fn frzE_ifc frzE_mth frzE_slk frzE_atom frzE_mp frzE_val frzE_opt frzE_big frzE_junk stoB_int stoB_bool stoB_str stoB_agg stoB_tup stoB_sl stoB_cp stoB_osl stoB_op stoB_fn stoB_ifc stoB_mth stoB_slk stoB_atom stoB_mp stoB_val stoB_opt stoB_big stoB_junk stoC_int stoC_bool stoC_str stoC_agg stoC_tup stoC_sl stoC_cp stoC_osl stoC_op stoC_fn stoC_ifc stoC_mth stoC_slk stoC_atom stoC_mp stoC_val stoC_opt stoC_big stoC_junk unbig_int unbig_bool unbig_str unbig_agg unbig_tup unbig_sl unbig_cp unbig_osl unbig_op unbig_fn unbig_ifc unbig_mth unbig_slk unbig_atom unbig_mp unbig_val unbig_opt unbig_big unbig_junk partB_int partB_bool partB_str partB_agg partB_tup partB_sl partB_cp partB_osl partB_op partB_fn partB_ifc partB_mth partB_slk partB_atom partB_mp partB_val partB_opt partB_big partB_junk capOK_int capOK_bool capOK_str capOK_agg capOK_tup capOK_sl capOK_cp capOK_osl capOK_op capOK_fn capOK_ifc capOK_mth capOK_slk capOK_atom capOK_mp capOK_val capOK_opt capOK_big capOK_junk keepN_int keepN_bool keepN_str keepN_agg keepN_tup keepN_sl keepN_cp keepN_osl keepN_op keepN_fn keepN_ifc keepN_mth keepN_slk keepN_atom keepN_mp keepN_val keepN_opt keepN_big keepN_junk fin_int fin_bool fin_str fin_agg fin_tup fin_sl fin_cp fin_osl fin_op fin_fn fin_ifc fin_mth fin_slk fin_atom fin_mp fin_val fin_opt fin_big fin_junk Step_none guardK_eq Step_some pureK_eq take_eq takeA_none takeA_some hid_eq hidK_eq at_eq atA_some A_move A_assign ev2_pick picked_bool A_pick A_unOp A_bin A_binI A_binS A_binB nilT_sl A_nil nilK_sl A_load loadK_eq loadN_op loadN_cp loadN_junk A_slice A_indexAddr ixK_eq ixT_array ixT_slice ixA_op ixA_cp A_index A_extract A_len minK_eq A_min maxK_eq E_max A_max A_cap E_cap app3_slk app3_sl app3_osl appS_int appZ_some E_move E_assign E_unOp E_bin E_slice E_indexAddr E_index E_extract E_len E_min E_load E_conv E_struct E_ifc A_assert E_assert assert_ifc assert_nil A_nilCheck E_nilCheck isIfc_ifc isIfc_mth takeOK_assert takeOK_nilCheck takeOK_load takeOK_conv takeOK_move takeOK_assign takeOK_pick takeOK_unOp takeOK_bin takeOK_slice takeOK_ixa takeOK_ix takeOK_ext takeOK_fa takeOK_fd takeOK_mf takeOK_bd takeOK_mi takeOK_call A_fieldAddr A_field E_fieldAddr E_field fa_op fa_cp fa_junk fd_agg A_makeMeth E_makeMeth evMeth_one A_makeFunc E_makeFunc caps_nil caps_cons capsC_eq A_struct structK_eq struct_eq mkBig_eq buildA_nil buildA_cons buildR_eq plOff_zero plOff_succ plLen_zero plLen_succ setC_eq A_ifc ifcK_eq eqC_int eqC_bool eqC_str eqL_nil eqL_cons evEqA_eql evEqA_neq okK_nil okK_cons mem_nilK mem_consK effK_true effK_false frzO_nms frzK_nil frzK_cons deep_eq inn_nil inn_cons innO_none innO_true innO_false nms_nil nms_cons flat_nil flat_cons killH_nil killH_cons killB_true killB_false frzH_nil frzH_cons frzB_true frzB_false storeN_op storeO_true storeO_false A_build buildK_eq A_store storeK_eq A_box boxK_eq A_append appK_eq A_alloc allocK_eq evAlloc_eq A_make makeK_eq evMake_eq evMakeZ_eq A_copy copyK_eq evCopy_eq copyT_eq A_call A_inv invA_eq invC_eq invB_eq callA_eq callC_eq callB_eq args_nil args_cons argsC_eq convP_eq convB_str convV_str convM_osl A_conv convT_S convT_I convT_B convT_M get_tmp get_cint get_cbool get_cstr get_cnil get_cnilf get_cnili get_cnilp get_func get_cagg getO_none getO_some frzs_nil frzs_cons frz_dense frzD_none frzD_false frzD_true bif_true bif_false kill_dense kill_none setO_some setO_none keep_dense retH_none retH_some retK_none retK_some gv_no gv_yes own_eq ownA_nil ownC_eq ownB_eq ownO_some ownX_agg ownY_eq ownX_sl look_cons look_nil drop_nil drop_cons upd_nil upd_cons put_eq flagOf_optb frzL killL keepL flagAt TS TP Option.some.injEq List.set_cons_zero List.set_cons_succ List.set_nil reduceCtorEq Nat.reduceEqDiff Nat.reduceBEq Nat.reduceAdd Nat.reduceMul Nat.reduceLeDiff Nat.reduceSub Int.reduceToNat Int.reduceNeg Nat.reduceLT Int.reduceMul Int.reduceSub Int.reduceAdd Int.reduceLT Int.reduceLE Int.reduceGE Int.reduceGT Int.reduceDiv Int.reduceMod Int.reduceEq Int.reducePow Nat.reducePow Nat.reduceDiv Nat.reduceMod
end Go.Ideal
