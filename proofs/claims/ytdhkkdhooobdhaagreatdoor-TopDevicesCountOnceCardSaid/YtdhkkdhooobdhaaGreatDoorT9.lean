/- Library functions by the kit's contracts: strings.Join, strconv.Itoa of small numbers (laid by the kit's tool for this program). -/
import Derived.Shelf.Strings.OnBuilder
import Derived.Shelf.Strconv.Itoa3
import Derived.Test.YtdhkkdhooobdhaaGreatDoorT7
set_option linter.unusedVariables false
set_option linter.unusedSimpArgs false
namespace Go.Proofs
open Go.Shelf
def Tryz.lays156_ren : Go.Shelf.Ren := ⟨fun | 156 => 39 | 165 => 66 | 166 => 67 | 169 => 68 | 240 => 90 | 241 => 91 | 276 => 100 | 277 => 101 | n => n, fun | 31 => 50 | 9 => 9 | 3 => 3 | 4 => 4 | 0 => 0 | 20 => 20 | 72 => 114 | 76 => 118 | 70 => 112 | 37 => 46 | 75 => 117 | 127 => 141 | 164 => 147 | 5 => 5 | 80 => 120 | n => n, fun | n => n⟩
theorem Tryz.lays156 : Go.Proofs.Lays.n156 Tryz.prog Tryz.lays156_ren := {
  mixed := by kernel_rfl
  f156 := Tryz.func39.trans (congrArg some (by kernel_rfl))
  f165 := Tryz.func66.trans (congrArg some (by kernel_rfl))
  f166 := Tryz.func67.trans (congrArg some (by kernel_rfl))
  f169 := Tryz.func68.trans (congrArg some (by kernel_rfl))
  f240 := Tryz.func90.trans (congrArg some (by kernel_rfl))
  f241 := Tryz.func91.trans (congrArg some (by kernel_rfl))
  f276 := Tryz.func100.trans (congrArg some (by kernel_rfl))
  f277 := Tryz.func101.trans (congrArg some (by kernel_rfl))
  t0 := Tryz.underlying0
  a0 := Tryz.isAgg0
  z0 := Tryz.sizeOf0
  v0 := Tryz.zeroValue0
  t3 := Tryz.underlying3
  a3 := Tryz.isAgg3
  z3 := Tryz.sizeOf3
  v3 := Tryz.zeroValue3
  t4 := Tryz.underlying4
  a4 := Tryz.isAgg4
  z4 := Tryz.sizeOf4
  v4 := Tryz.zeroValue4
  t9 := Tryz.underlying9
  a9 := Tryz.isAgg9
  z9 := Tryz.sizeOf9
  v9 := Tryz.zeroValue9
  t20 := Tryz.underlying20
  a20 := Tryz.isAgg20
  z20 := Tryz.sizeOf20
  v20 := Tryz.zeroValue20
  t31 := Tryz.underlying50
  a31 := Tryz.isAgg50
  z31 := Tryz.sizeOf50
  v31 := Tryz.zeroValue50
  t37 := Tryz.underlying46
  a37 := Tryz.isAgg46
  z37 := Tryz.sizeOf46
  v37 := Tryz.zeroValue46
  t70 := Tryz.underlying112
  a70 := Tryz.isAgg112
  z70 := Tryz.sizeOf112
  v70 := Tryz.zeroValue112
  t72 := Tryz.underlying114
  a72 := Tryz.isAgg114
  z72 := Tryz.sizeOf114
  v72 := Tryz.zeroValue114
  t75 := Tryz.underlying117
  a75 := Tryz.isAgg117
  z75 := Tryz.sizeOf117
  v75 := Tryz.zeroValue117
  t76 := Tryz.underlying118
  a76 := Tryz.isAgg118
  z76 := Tryz.sizeOf118
  v76 := Tryz.zeroValue118
  t127 := Tryz.underlying141
  a127 := Tryz.isAgg141
  z127 := Tryz.sizeOf141
  v127 := Tryz.zeroValue141
  t164 := Tryz.underlying147
  a164 := Tryz.isAgg147
  z164 := Tryz.sizeOf147
  v164 := Tryz.zeroValue147 }
theorem Tryz.Builder_Extra_156 : Builder.Extra Tryz.prog Tryz.lays156_ren := {
  sizeBuilder := by kernel_rfl
  liesBuilder := by kernel_rfl
  t5 := Tryz.underlying5
  a5 := Tryz.isAgg5
  z5 := Tryz.sizeOf5
  v5 := Tryz.zeroValue5
  infoByte := by kernel_rfl
  cellsByte := by kernel_rfl
  sizeByte := by kernel_rfl
  neB5 := by decide }
open Go.RowKit in
/-- strings.Join, however many elements it gets; laid by the kit in one application. -/
theorem Tryz.strings_Join (bk o c : Nat) (xs : List ByteArray) (sep : ByteArray) (w : World) (hcells : ∀ (j : Nat) x, xs[j]? = some x → w.cell? ⟨bk, o + j, none⟩ = some (.string x)) (hbk : bk < w.heap.size) (hN : xs.length ≤ 140737488355328) (hcap : xs.length ≤ c) (hlen : (Lib.join (xs.map (·.data.toList)) sep.data.toList).length ≤ 140737488355328) :
    Calls Tryz.prog 39 #[.slice (some ⟨bk, o, none⟩) xs.length c, .string sep] w fun e w' => e = .returned (.string ⟨(Lib.join (xs.map (·.data.toList)) sep.data.toList).toArray⟩) ∧ Below w.heap.size w w' := Any.strings_Join Tryz.lays156 Tryz.Builder_Extra_156 bk o c xs sep w hcells hbk hN hcap hlen
def Tryz.lays171_ren : Go.Shelf.Ren := ⟨fun | 171 => 40 | 243 => 69 | 246 => 92 | 283 => 102 | 284 => 103 | 285 => 104 | 286 => 105 | 129 => 108 | 317 => 107 | 318 => 109 | 319 => 110 | 320 => 111 | 337 => 112 | 338 => 113 | n => n, fun | 3 => 3 | 9 => 9 | 2 => 2 | 4 => 4 | 171 => 150 | 0 => 0 | 53 => 151 | 37 => 46 | 5 => 5 | 173 => 154 | 212 => 159 | 51 => 160 | 20 => 20 | 213 => 161 | 46 => 140 | 232 => 164 | 233 => 165 | n => n, fun | 17 => 1 | 18 => 2 | 19 => 3 | n => n⟩
theorem Tryz.lays171 : Go.Proofs.Lays.n171 Tryz.prog Tryz.lays171_ren := {
  mixed := by kernel_rfl
  f129 := Tryz.func108.trans (congrArg some (by kernel_rfl))
  f171 := Tryz.func40.trans (congrArg some (by kernel_rfl))
  f243 := Tryz.func69.trans (congrArg some (by kernel_rfl))
  f246 := Tryz.func92.trans (congrArg some (by kernel_rfl))
  f283 := Tryz.func102.trans (congrArg some (by kernel_rfl))
  f284 := Tryz.func103.trans (congrArg some (by kernel_rfl))
  f285 := Tryz.func104.trans (congrArg some (by kernel_rfl))
  f286 := Tryz.func105.trans (congrArg some (by kernel_rfl))
  f317 := Tryz.func107.trans (congrArg some (by kernel_rfl))
  f318 := Tryz.func109.trans (congrArg some (by kernel_rfl))
  f319 := Tryz.func110.trans (congrArg some (by kernel_rfl))
  f320 := Tryz.func111.trans (congrArg some (by kernel_rfl))
  f337 := Tryz.func112.trans (congrArg some (by kernel_rfl))
  f338 := Tryz.func113.trans (congrArg some (by kernel_rfl))
  t0 := Tryz.underlying0
  a0 := Tryz.isAgg0
  z0 := Tryz.sizeOf0
  v0 := Tryz.zeroValue0
  t2 := Tryz.underlying2
  a2 := Tryz.isAgg2
  z2 := Tryz.sizeOf2
  v2 := Tryz.zeroValue2
  t3 := Tryz.underlying3
  a3 := Tryz.isAgg3
  z3 := Tryz.sizeOf3
  v3 := Tryz.zeroValue3
  t4 := Tryz.underlying4
  a4 := Tryz.isAgg4
  z4 := Tryz.sizeOf4
  v4 := Tryz.zeroValue4
  t5 := Tryz.underlying5
  a5 := Tryz.isAgg5
  z5 := Tryz.sizeOf5
  v5 := Tryz.zeroValue5
  t9 := Tryz.underlying9
  a9 := Tryz.isAgg9
  z9 := Tryz.sizeOf9
  v9 := Tryz.zeroValue9
  t20 := Tryz.underlying20
  a20 := Tryz.isAgg20
  z20 := Tryz.sizeOf20
  v20 := Tryz.zeroValue20
  t37 := Tryz.underlying46
  a37 := Tryz.isAgg46
  z37 := Tryz.sizeOf46
  v37 := Tryz.zeroValue46
  t46 := Tryz.underlying140
  a46 := Tryz.isAgg140
  z46 := Tryz.sizeOf140
  v46 := Tryz.zeroValue140
  t51 := Tryz.underlying160
  a51 := Tryz.isAgg160
  z51 := Tryz.sizeOf160
  v51 := Tryz.zeroValue160
  t53 := Tryz.underlying151
  a53 := Tryz.isAgg151
  z53 := Tryz.sizeOf151
  v53 := Tryz.zeroValue151
  t171 := Tryz.underlying150
  a171 := Tryz.isAgg150
  z171 := Tryz.sizeOf150
  v171 := Tryz.zeroValue150
  t173 := Tryz.underlying154
  a173 := Tryz.isAgg154
  z173 := Tryz.sizeOf154
  v173 := Tryz.zeroValue154
  t212 := Tryz.underlying159
  a212 := Tryz.isAgg159
  z212 := Tryz.sizeOf159
  v212 := Tryz.zeroValue159
  t213 := Tryz.underlying161
  a213 := Tryz.isAgg161
  z213 := Tryz.sizeOf161
  t232 := Tryz.underlying164
  a232 := Tryz.isAgg164
  z232 := Tryz.sizeOf164
  v232 := Tryz.zeroValue164
  t233 := Tryz.underlying165
  a233 := Tryz.isAgg165
  z233 := Tryz.sizeOf165
  v233 := Tryz.zeroValue165
  g17 := by kernel_rfl
  g18 := by kernel_rfl
  g19 := by kernel_rfl }
open Go.RowKit Go.Sort Go.Lib in
/-- THE ROAD WITHOUT THE TABLE: 0 <= i < 100: NO PREMISE ON THE WORLD, AND THE WORLD IS AS IT WAS: a row that keeps its argument in that range need list no table ('laid = []'). (LAID: no walk: one application.) -/
theorem Tryz.strconv_Itoa_small (i : Nat) (hi : i < 100) (w : World) :
    Calls Tryz.prog 40 #[.int .i64 i] w fun e w' => e = .returned (.string ⟨(Lib.decDigits i).toArray⟩) ∧ w' = w := Any.strconv_Itoa_small Tryz.lays171 i hi w
open Go Go.Ideal Go.RowKit
theorem flat_strs : ∀ xs : List (List UInt8), flat (strsOf xs) = strsOf xs
  | [] => rfl
  | x :: l => by
    have := flat_strs l
    simp only [strsOf, List.map_cons] at this ⊢
    rw [flat_cons, this]; rfl
theorem itoa_spec (n : Nat) (h : n < 10) : Ideal.Spec Tryz.prog 40 [.int .i64 n] (.str [UInt8.ofNat (48 + n)]) none := by
  refine ⟨⟨Tryz.f40, Tryz.func40, rfl, rfl⟩, (fun o h => by cases h), fun ok w vs hlt hp => ?_⟩
  obtain ⟨v, vs', rfl, hv, hp'⟩ := hp.cons_inv
  rw [hp'.nil_inv]
  cases hv
  refine (Tryz.strconv_Itoa_small n (by omega) w).mono ?_
  rintro e w' ⟨rfl, rfl⟩
  have hd : Lib.decDigits n = [UInt8.ofNat (48 + n)] := Lib.decDigits_one h
  rw [hd]
  exact ⟨_, ok, fun _ => none, rfl, Below.refl _ _, fun _ h => h, fun b h => ⟨hlt b h, .inl h⟩, .str _, (fun k h => by cases h), ⟨by simp [Ideal.oneH, Ideal.look], by simp [Ideal.oneH, Ideal.look]⟩⟩
theorem join_spec (ex : Bool) (xs : List (List UInt8)) (sep : List UInt8) (h0 : xs ≠ []) (hn : xs.length ≤ 1000) (hl : (Lib.join xs sep).length ≤ 100000) : Ideal.Spec Tryz.prog 39 [.sl ex 1 (strsOf xs), .str sep] (.str (Lib.join xs sep)) none := by
  refine ⟨⟨Tryz.f39, Tryz.func39, rfl, rfl⟩, (fun o h => by cases h), fun ok w vs hlt hp => ?_⟩
  obtain ⟨v, vs', rfl, hv, hp'⟩ := hp.cons_inv
  obtain ⟨u, vs', rfl, hu, hp'⟩ := hp'.cons_inv
  rw [hp'.nil_inv]
  cases hu
  generalize hx : strsOf xs = ys at hv
  cases hv with
  | slNil => exact absurd (by simpa [strsOf] using hx) h0
  | sl _ b o cap _ _ us hb hne hcap hex hsz hl' h1 hm h =>
    subst hx
    have hlen : (strsOf xs).length = xs.length := by simp [strsOf]
    have hfl := flat_strs xs
    rw [hfl] at hl' h
    rw [hlen] at hl' hcap ⊢
    have hcells : ∀ (j : Nat) x, (xs.map fun l => (⟨l.toArray⟩ : ByteArray))[j]? = some x → w.cell? ⟨b, o + j, none⟩ = some (.string x) := fun j x hj => by
      rw [List.getElem?_map] at hj
      obtain ⟨l, hl1, hl2⟩ := Option.map_eq_some_iff.1 hj
      have hjl : j < us.length := by rw [hl']; exact (List.getElem?_eq_some_iff.1 hl1).1
      have e1 : us[j]? = some us[j] := by simp [hjl]
      rw [hm j _ e1]
      have := h j us[j] (.str l) e1 (by simp [strsOf, hl1])
      generalize us[j] = q at *
      cases this
      rw [hl2]
    have hmm : ((xs.map fun l => (⟨l.toArray⟩ : ByteArray)).map (·.data.toList)) = xs := by
      rw [List.map_map]; conv => rhs; rw [← List.map_id xs]
      exact List.map_congr_left fun x _ => rfl
    have hc := Tryz.strings_Join b o cap (xs.map fun l => (⟨l.toArray⟩ : ByteArray)) ⟨sep.toArray⟩ w hcells (hlt b hb) (by simp; omega) (by simpa using hcap) (by rw [hmm]; exact Nat.le_trans hl (by omega))
    rw [hmm, List.length_map] at hc
    refine hc.mono ?_
    rintro e w' ⟨rfl, hb2⟩
    exact ⟨_, ok, fun _ => none, rfl, hb2, fun _ h => h, fun b h => ⟨Nat.lt_of_lt_of_le (hlt b h) hb2.size, .inl h⟩, .str _, (fun k h => by cases h), ⟨by simp [Ideal.oneH, Ideal.look], by simp [Ideal.oneH, Ideal.look]⟩⟩
end Go.Proofs
