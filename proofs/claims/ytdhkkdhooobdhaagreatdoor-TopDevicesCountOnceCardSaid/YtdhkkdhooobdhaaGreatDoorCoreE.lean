/- The operations without effect do what CoreC says: strings, slices, pointers. -/
import Derived.Test.YtdhkkdhooobdhaaGreatDoorCoreD
import Derived.ChangeKeysEq
import Derived.Laws.BytesString
set_option linter.unusedVariables false
set_option linter.unusedSimpArgs false
namespace Go.Ideal
open Go.RowKit

section
variable {ok : Nat → Prop} {φ : Names} {w : World} {v u : Value} {P : Program}

theorem R1.sl_inv {ex : Bool} {sz : Nat} {xs : List AV} (h : R1 ok φ w v (.sl ex sz xs)) : DRep ok w v (.sl ex sz xs) := h
theorem R1.cp_inv {cs : List AV} (h : R1 ok φ w v (.cp cs)) : DRep ok w v (.cp cs) := h

/-- Its length and shape. -/
theorem DRep.sl_len {ex : Bool} {sz : Nat} {xs : List AV} (h : DRep ok w v (.sl ex sz xs)) : ∃ a cap, v = .slice a xs.length cap ∧ xs.length ≤ cap := by
  cases h with
  | slNil _ _ a cap _ => exact ⟨a, cap, rfl, by simp⟩
  | sl _ b o cap _ _ vs hb hne hcap => exact ⟨_, cap, rfl, hcap⟩

theorem size_mk (s : List UInt8) : (ByteArray.mk s.toArray).size = s.length := by cases s <;> rfl

theorem evLen_sound {x : AV} {t ty : TypeId} (hr : R1 ok φ w v x) (h : (evLen P t x).1) :
    ∃ u, (∀ w', (Builtin.len_ #[t] ty #[v]).run P w' = .ok u w') ∧ R1 ok φ w u (evLen P t x).2 := by
  unfold evLen at h ⊢
  split at h
  · rename_i ex sz xs e hu
    obtain ⟨a, cap, rfl, _⟩ := hr.sl_inv.sl_len
    simp only [hu]
    exact ⟨_, by intro w'; simp [Builtin.len_, run_underlying hu]; rfl, R1.int ..⟩
  · rename_i s hu
    rw [hr.str_inv]
    simp only [hu]
    exact ⟨_, by intro w'; simp only [run_len_string w' t ty _ hu, size_mk]; rfl, R1.int ..⟩
  · rename_i k off n e hu
    simp only [hu]
    rcases hr with ⟨a, rfl, h0⟩ | ⟨g, sz, N, cap, h1, rfl, _⟩
    · subst h0; exact ⟨_, by intro w'; simp [Builtin.len_, run_underlying hu]; rfl, R1.int ..⟩
    · exact ⟨_, by intro w'; simp [Builtin.len_, run_underlying hu]; rfl, R1.int ..⟩
  · rename_i cap sz xs e hu
    simp only [hu]
    have hr : DRep ok w v (.slk cap sz xs) := hr
    cases hr with
    | slk _ _ n _ a h =>
      obtain ⟨a', cap', hv, _⟩ := h.sl_len
      cases hv
      exact ⟨_, by intro w'; simp [Builtin.len_, run_underlying hu]; rfl, R1.int ..⟩
  · exact h.elim
theorem evCap_sound {x : AV} {t ty : TypeId} (hr : R1 ok φ w v x) (h : (evCap P t x).1) :
    ∃ u, (∀ w', (Builtin.cap_ #[t] ty #[v]).run P w' = .ok u w') ∧ R1 ok φ w u (evCap P t x).2 := by
  unfold evCap at h ⊢
  split at h
  · rename_i cap sz xs e hu
    simp only [hu]
    have hr : DRep ok w v (.slk cap sz xs) := hr
    cases hr with
    | slk _ _ n _ a h => exact ⟨_, by intro w'; simp [Builtin.cap_, run_underlying hu]; rfl, R1.int ..⟩
  · rename_i sz xs e hu
    simp only [hu]
    have hr : DRep ok w v (.sl true sz xs) := hr
    have : ∃ a, v = .slice a xs.length xs.length := by
      cases hr with
      | slNil _ _ a cap hc => exact ⟨a, by rw [hc rfl]; rfl⟩
      | sl _ b o cap _ _ vs hb hne hcap hex => exact ⟨_, by rw [hex rfl]⟩
    obtain ⟨a, rfl⟩ := this
    exact ⟨_, by intro w'; simp [Builtin.cap_, run_underlying hu]; rfl, R1.int ..⟩
  · exact h.elim

theorem eqC_sound {d : Nat} {t : TypeId} {x y : AV} {k : Nat} (hx : DRep ok w v x) (hy : DRep ok w u y) (hk : (match P.underlying t with
      | some (.int _) => some 0
      | some .bool => some 1
      | some .string => some 2
      | _ => none) = some k) (h : (eqC k x y).1) : ∀ w', (Op.equalIn (d + 1) t v u).run P w' = .ok (eqC k x y).2 w' := by
  intro w'
  cases x <;> cases y <;> simp only [eqC] at h ⊢ <;> first | exact h.elim | skip
  case int.int q a q' b =>
    obtain ⟨rfl, rfl⟩ := h
    cases hx; cases hy
    cases hu : P.underlying t with
    | none => simp [hu] at hk
    | some dd => cases dd <;> simp [hu] at hk
                 rw [run_equalIn_int w' d t _ _ _ _ hu]; rfl
  case bool.bool a b =>
    subst h
    cases hx; cases hy
    cases hu : P.underlying t with
    | none => simp [hu] at hk
    | some dd => cases dd <;> simp [hu] at hk
                 rw [run_equalIn_bool' w' d t _ _ hu]
  case str.str a b =>
    subst h
    cases hx; cases hy
    cases hu : P.underlying t with
    | none => simp [hu] at hk
    | some dd => cases dd <;> simp [hu] at hk
                 rw [run_equalIn_string w' d t _ _ hu, ← beq_toListBytes]
                 show Result.ok (a.toArray == b.toArray) w' = _
                 simp

theorem eqL_append (cs ds : List AV) : ∀ a b : List (Nat × Nat), ((eqL cs ds (a ++ b)).1 ↔ (eqL cs ds a).1 ∧ (eqL cs ds b).1) ∧ (eqL cs ds (a ++ b)).2 = ((eqL cs ds a).2 && (eqL cs ds b).2)
  | [], b => by simp [eqL]
  | (l, k) :: a, b => by
    obtain ⟨h1, h2⟩ := eqL_append cs ds a b
    simp only [List.cons_append, eqL, h1, h2, Bool.and_assoc]
    refine ⟨?_, trivial⟩
    constructor
    · rintro ⟨a1, a2, a3, a4, a5⟩; exact ⟨⟨a1, a2, a3, a4⟩, a5⟩
    · rintro ⟨⟨a1, a2, a3, a4⟩, a5⟩; exact ⟨a1, a2, a3, a4, a5⟩
theorem eqL_shift (cs ds : List AV) (o n : Nat) : ∀ ls : List (Nat × Nat), ls.all (fun p => p.1 < n) = true → (eqL cs ds (ls.map fun p => (o + p.1, p.2))).1 →
    (eqL ((cs.drop o).take n) ((ds.drop o).take n) ls).1 ∧ (eqL ((cs.drop o).take n) ((ds.drop o).take n) ls).2 = (eqL cs ds (ls.map fun p => (o + p.1, p.2))).2
  | [], _, _ => by simp [eqL]
  | (l, k) :: ls, ha, h => by
    simp only [List.all_cons, Bool.and_eq_true, decide_eq_true_eq] at ha
    simp only [List.map_cons, eqL] at h ⊢
    obtain ⟨h1, h2, h3, h4⟩ := h
    obtain ⟨i1, i2⟩ := eqL_shift cs ds o n ls ha.2 h4
    have hg : ∀ zs : List AV, ((zs.drop o).take n).getD l .junk = zs.getD (o + l) .junk := by
      intro zs
      simp only [List.getD]
      rw [List.getElem?_take, if_pos ha.1, List.getElem?_drop]
    rw [hg, hg, i2]
    refine ⟨⟨by simp; omega, by simp; omega, h3, i1⟩, rfl⟩
theorem eqL_sound {d : Nat} {vs us : List Value} {cs ds : List AV} (hx : Pts (DRep ok w) vs cs) (hy : Pts (DRep ok w) us ds) : ∀ (fs : List Field) (ls : List (Nat × Nat)),
    fs.mapM (eqOne P) = some ls → (eqL cs ds ls).1 → ∀ w', (Op.eqFields (d + 1) vs.toArray us.toArray fs).run P w' = .ok (eqL cs ds ls).2 w'
  | [], ls, hl, _, w' => by
    simp at hl; subst hl
    simp [Op.eqFields, eqL]
  | f :: fs, ls, hl, h, w' => by
    simp only [List.mapM_cons, Option.bind_eq_bind, Option.pure_def] at hl
    by_cases hn : f.name ≠ "_"
    rotate_left
    · simp [eqOne, hn] at hl
    obtain ⟨k, hk, hk'⟩ : ∃ k, (match P.underlying f.type with
      | some (.int _) => some 0
      | some .bool => some 1
      | some .string => some 2
      | _ => none) = some k ∧ eqOne P f = some (f.offset, k) := by
      unfold eqOne at hl ⊢
      rw [if_pos hn] at hl ⊢
      cases hu : P.underlying f.type with
      | none => simp [hu] at hl
      | some dd => cases dd <;> simp [hu] at hl <;> simp
    rw [hk'] at hl
    cases hr : fs.mapM (eqOne P) with
    | none => rw [hr] at hl; simp at hl
    | some rest =>
      rw [hr] at hl
      simp at hl
      subst hl
      obtain ⟨h1, h2, h3, h4⟩ := h
      have hpart : ∀ (zs : List Value) (l : Nat) (z : Value), zs[l]? = some z → ∀ w', (part f.type zs.toArray l).run P w' = .ok z w' := by
        intro zs l z hz w'
        cases hu : P.underlying f.type with
        | none => simp [hu] at hk
        | some dd => cases dd <;> simp [hu] at hk <;> simp [part, isAgg, run_underlying hu, hz]
      obtain ⟨x, hx1, hx2⟩ := hx.get (i := f.offset) (x := cs.getD f.offset .junk) (by simp [List.getD, h1])
      obtain ⟨y, hy1, hy2⟩ := hy.get (i := f.offset) (x := ds.getD f.offset .junk) (by simp [List.getD, h2])
      have he := eqC_sound (d := d) hx2 hy2 hk h3
      have ih := eqL_sound (d := d) hx hy fs rest hr h4
      simp only [Op.eqFields, if_pos hn, Sem.run_bind, hpart vs _ x hx1, hpart us _ y hy1, he, Result.andThen_ok, eqL]
      cases (eqC k (cs.getD f.offset .junk) (ds.getD f.offset .junk)).2
      · simp
      · simp only [Bool.not_true, Bool.false_eq_true, if_false, Bool.true_and]
        exact ih w'

theorem eqS_sound {d : Nat} {vs us : List Value} {cs ds : List AV} (hx : Pts (DRep ok w) vs cs) (hy : Pts (DRep ok w) us ds) : ∀ (fs : List Field) (lls : List (List (Nat × Nat))),
    fs.mapM (eqSub P) = some lls → (eqL cs ds lls.flatten).1 → ∀ w', (Op.eqFields (d + 2) vs.toArray us.toArray fs).run P w' = .ok (eqL cs ds lls.flatten).2 w'
  | [], ls, hl, _, w' => by
    simp at hl; subst hl
    simp [Op.eqFields, eqL]
  | f :: fs, lls, hl, h, w' => by
    simp only [List.mapM_cons, Option.bind_eq_bind, Option.pure_def] at hl
    by_cases hn : f.name ≠ "_"
    rotate_left
    · simp [eqSub, hn] at hl
    cases hf : eqSub P f with
    | none => rw [hf] at hl; simp at hl
    | some l0 =>
    rw [hf] at hl
    cases hr : fs.mapM (eqSub P) with
    | none => rw [hr] at hl; simp at hl
    | some rest =>
      rw [hr] at hl
      simp at hl
      subst hl
      rw [List.flatten_cons] at h ⊢
      obtain ⟨hap1, hap2⟩ := eqL_append cs ds l0 rest.flatten
      obtain ⟨h0, hrest⟩ := hap1.1 h
      rw [hap2]
      have ih := eqS_sound (d := d) hx hy fs rest hr hrest
      have key : ∀ w', (do let a ← part f.type vs.toArray f.offset; let b ← part f.type us.toArray f.offset; Op.equalIn (d + 2) f.type a b : Sem Bool).run P w' = .ok (eqL cs ds l0).2 w' := by
        intro w'
        unfold eqSub at hf
        rw [if_pos hn] at hf
        by_cases hsc : ∃ k, (match P.underlying f.type with
          | some (.int _) => some 0
          | some .bool => some 1
          | some .string => some 2
          | _ => none) = some k
        · obtain ⟨k, hk⟩ := hsc
          have hl0 : l0 = [(f.offset, k)] := by
            cases hu : P.underlying f.type with
            | none => simp [hu] at hk
            | some dd => cases dd <;> simp [hu] at hk hf <;> subst hk <;> exact hf.symm
          subst hl0
          obtain ⟨h1, h2, h3, _⟩ := h0
          have hpart : ∀ (zs : List Value) (l : Nat) (z : Value), zs[l]? = some z → ∀ w', (part f.type zs.toArray l).run P w' = .ok z w' := by
            intro zs l z hz w'
            cases hu : P.underlying f.type with
            | none => simp [hu] at hk
            | some dd => cases dd <;> simp [hu] at hk <;> simp [part, isAgg, run_underlying hu, hz]
          obtain ⟨x, hx1, hx2⟩ := hx.get (i := f.offset) (x := cs.getD f.offset .junk) (by simp [List.getD, h1])
          obtain ⟨y, hy1, hy2⟩ := hy.get (i := f.offset) (x := ds.getD f.offset .junk) (by simp [List.getD, h2])
          have he := eqC_sound (d := d + 1) hx2 hy2 hk h3
          simp only [Sem.run_bind, hpart vs _ x hx1, hpart us _ y hy1, he, Result.andThen_ok, eqL, Bool.and_true]
        · cases hu : P.underlying f.type with
          | none => simp [hu] at hf
          | some dd =>
            cases dd <;> simp [hu] at hf hsc
            rename_i gs
            obtain ⟨hst, hf⟩ := hf
            cases hg : gs.toList.mapM (eqOne P) with
            | none => rw [hg] at hf; simp at hf
            | some ls =>
              rw [hg] at hf
              simp only [Option.ite_none_right_eq_some, Option.some.injEq] at hf
              obtain ⟨hall, hf⟩ := hf
              subst hf
              have hall' : ls.all (fun p => p.1 < P.cellsOf f.type) = true := by simpa using hall
              obtain ⟨e1, e2⟩ := eqL_shift cs ds f.offset (P.cellsOf f.type) ls hall' h0
              obtain ⟨inf, hinf⟩ := info_of_underlying hu
              have hfo : P.fieldsOf f.type = gs := by simp [Program.fieldsOf, hu]
              have hpart : ∀ (zs : List Value), ∀ w', (part f.type zs.toArray f.offset).run P w' = .ok (.agg ((zs.drop f.offset).take (P.cellsOf f.type)).toArray) w' := by
                intro zs w'
                simp only [part, isAgg, Sem.run_bind, run_underlying hu, Result.andThen_ok, Sem.run_pure, if_true, run_sizeOf w' hinf]
                congr 2
                apply Array.ext'
                simp [List.extract_eq_take_drop]
              have hs := eqL_sound (P := P) (d := d) ((hx.drop f.offset).take (P.cellsOf f.type)) ((hy.drop f.offset).take (P.cellsOf f.type)) _ _ hg e1
              simp only [Sem.run_bind, hpart, Result.andThen_ok]
              rw [run_equalIn_struct w' (d + 1) f.type _ _ (by rw [hfo]; exact hu) hst, hfo, hs, e2]
      have e : Op.eqFields (d + 2) vs.toArray us.toArray (f :: fs) = (do
        let r ← (do let a ← part f.type vs.toArray f.offset; let b ← part f.type us.toArray f.offset; Op.equalIn (d + 2) f.type a b : Sem Bool)
        if (!r) = true then pure false else Op.eqFields (d + 2) vs.toArray us.toArray fs) := by
        simp only [Op.eqFields, if_pos hn, bind_assoc]
      rw [e, Sem.run_bind, key]
      simp only [Result.andThen_ok]
      cases (eqL cs ds l0).2
      · simp
      · simp only [Bool.not_true, Bool.false_eq_true, if_false, Bool.true_and]
        exact ih w'

theorem eqItems_sound {d k : Nat} {e : TypeId} {vs us : List Value} {cs ds : List AV} (hx : Pts (DRep ok w) vs cs) (hy : Pts (DRep ok w) us ds) (hk : (match P.underlying e with
      | some (.int _) => some 0
      | some .bool => some 1
      | some .string => some 2
      | _ => none) = some k) : ∀ is : List Nat, (eqL cs ds (is.map fun i => (i, k))).1 → ∀ w', (Op.eqItems (d + 1) e 1 vs.toArray us.toArray is).run P w' = .ok (eqL cs ds (is.map fun i => (i, k))).2 w'
  | [], _, w' => by simp [Op.eqItems, eqL]
  | i :: is, h, w' => by
    obtain ⟨h1, h2, h3, h4⟩ := h
    have hpart : ∀ (zs : List Value) (l : Nat) (z : Value), zs[l]? = some z → ∀ w', (part e zs.toArray l).run P w' = .ok z w' := by
      intro zs l z hz w'
      cases hu : P.underlying e with
      | none => simp [hu] at hk
      | some dd => cases dd <;> simp [hu] at hk <;> simp [part, isAgg, run_underlying hu, hz]
    obtain ⟨x, hx1, hx2⟩ := hx.get (i := i) (x := cs.getD i .junk) (by simp [List.getD, h1])
    obtain ⟨y, hy1, hy2⟩ := hy.get (i := i) (x := ds.getD i .junk) (by simp [List.getD, h2])
    have he := eqC_sound (d := d) hx2 hy2 hk h3
    have ih := eqItems_sound (d := d) hx hy hk is h4
    simp only [Op.eqItems, Sem.run_bind, Nat.mul_one, hpart vs i x hx1, hpart us i y hy1, he, Result.andThen_ok, eqL, List.map_cons]
    cases (eqC k (cs.getD i .junk) (ds.getD i .junk)).2
    · simp
    · simp only [Bool.not_true, Bool.false_eq_true, if_false, Bool.true_and]
      exact ih w'

theorem evBin_sound {op : BinOp} {x y : AV} {t : TypeId} (hx : R1 ok φ w v x) (hy : R1 ok φ w u y) (h : (evBin P t op x y).1) (xo yo : Operand) :
    ∃ r, (∀ w', (do eqGuard op t xo yo v u; binOp op t v u : Sem Value).run P w' = .ok r w') ∧ R1 ok φ w r (evBin P t op x y).2 := by
  cases x <;> cases y <;> simp only [evBin, no] at h ⊢ <;> first | exact h.elim | skip
  case int.int k a k' b =>
    rw [hx.int_inv, hy.int_inv]
    have hg : ∀ (s : Sem Value) (w : World), (do eqGuard op t xo yo (.int k a) (.int k' b); s : Sem Value).run P w = s.run P w := by
      intro s w; cases op <;> simp [eqGuard]
    simp only [hg]
    by_cases hs : op = .shl ∨ op = .shr
    · rcases hs with rfl | rfl
      · exact evShift_sound h
      · exact evShift_sound h
    · by_cases hk : k = k'
      · subst hk
        cases op <;> first | (simp only [if_true] at h ⊢; exact evInt_sound h) | simp at hs
      · cases op <;> first | (simp [hk] at h; done) | simp at hs
  case bool.bool a b =>
    rw [hx.bool_inv, hy.bool_inv]
    cases op <;> simp only at h ⊢ <;> first | exact h.elim | skip
    case eql => exact ⟨_, by intro w'; simp only [eqGuard, Sem.run_bind]; exact run_eql_bool w' t a b h, R1.bool _⟩
    case neq => exact ⟨_, by
      intro w'
      have e : binOp .neq t (.bool a) (.bool b) = (do pure (.bool (!(← Op.equal t (.bool a) (.bool b))))) := by simp only [binOp]
      rw [e]; simp only [eqGuard, Sem.run_bind]; simp [run_equal_bool w' t a b h], R1.bool _⟩
  case agg.agg cs ds =>
    have hx : DRep ok w v (.agg cs) := hx
    have hy : DRep ok w u (.agg ds) := hy
    cases hls : eqFlat P t with
    | none => simp [hls, evEqA, no] at h
    | some ls =>
      simp only [hls, evEqA] at h ⊢
      have hxp : ∃ vs : List Value, v = .agg vs.toArray ∧ Pts (DRep ok w) vs cs := by
        cases hx with
        | agg vs _ hl _ hh => exact ⟨vs, rfl, hl, hh⟩
      have hyp : ∃ vs : List Value, u = .agg vs.toArray ∧ Pts (DRep ok w) vs ds := by
        cases hy with
        | agg vs _ hl _ hh => exact ⟨vs, rfl, hl, hh⟩
      obtain ⟨vs, rfl, hvp⟩ := hxp
      obtain ⟨us, rfl, hup⟩ := hyp
      have both : P.eqGuardType P.depth t = false ∧ ((eqL cs ds ls).1 → ∀ w', (Op.equalIn 10000 t (.agg vs.toArray) (.agg us.toArray)).run P w' = .ok (eqL cs ds ls).2 w') := by
        unfold eqFlat at hls
        split at hls
        · rename_i fs hu
          split at hls
          · cases hls
          rename_i hcond
          simp only [Bool.or_eq_true, not_or, Bool.not_eq_true] at hcond
          have hfo : P.fieldsOf t = fs := by simp [Program.fieldsOf, hu]
          refine ⟨hcond.2, fun h w' => ?_⟩
          rw [run_equalIn_struct w' 9999 t _ _ (by rw [hfo]; exact hu) hcond.1, hfo]
          cases hm : fs.toList.mapM (eqSub P) with
          | none => rw [hm] at hls; cases hls
          | some lls =>
            rw [hm] at hls
            cases hls
            exact eqS_sound (d := 9997) hvp hup _ _ hm h w'
        · rename_i n e hu
          split at hls
          · cases hls
          rename_i hcond
          simp only [Bool.not_eq_true] at hcond
          split at hls
          rotate_left
          · cases hls
          rename_i hie
          simp only [Bool.and_eq_true, beq_iff_eq] at hie
          obtain ⟨hi1, hc1⟩ := hie
          obtain ⟨ie, hi1⟩ := Option.isSome_iff_exists.1 hi1
          refine ⟨hcond, fun h w' => ?_⟩
          rw [run_equalIn_array w' 9999 vs.toArray us.toArray hu hi1, hc1]
          cases hue : P.underlying e with
          | none => simp [hue] at hls
          | some dd =>
            cases dd <;> simp [hue] at hls
            all_goals
              subst hls
              first
              | exact eqItems_sound (d := 9998) (k := 0) hvp hup (by simp [hue]) _ h w'
              | exact eqItems_sound (d := 9998) (k := 1) hvp hup (by simp [hue]) _ h w'
              | exact eqItems_sound (d := 9998) (k := 2) hvp hup (by simp [hue]) _ h w'
        · cases hls
      obtain ⟨hgt, key⟩ := both
      have hg : ∀ (op : BinOp) (w' : World), (eqGuard op t xo yo (.agg vs.toArray) (.agg us.toArray)).run P w' = .ok () w' := fun op w' => run_eqGuard_agg w' op t xo yo _ _ hgt
      cases op <;> simp only at h ⊢ <;> first | exact h.elim | skip
      case eql => exact ⟨_, by intro w'; simp only [Sem.run_bind, hg, Result.andThen_ok, run_eql_struct, key h w'], R1.bool _⟩
      case neq => exact ⟨_, by intro w'; simp only [Sem.run_bind, hg, Result.andThen_ok, run_neq_struct, key h w'], R1.bool _⟩
  case str.str a b =>
    rw [hx.str_inv, hy.str_inv]
    cases op <;> simp only at h ⊢ <;> first | exact h.elim | skip
    case eql => exact ⟨_, by intro w'; simp [eqGuard, binOp, Op.stringOp], R1.bool _⟩
    case neq => exact ⟨_, by intro w'; simp [eqGuard, binOp, Op.stringOp], R1.bool _⟩
    case lss => exact ⟨_, by intro w'; simp [eqGuard, binOp, Op.stringOp], R1.bool _⟩
    case add =>
      have e : (ByteArray.mk a.toArray) ++ (ByteArray.mk b.toArray) = ByteArray.mk (a ++ b).toArray := by
        apply ByteArray.ext; simp
      refine ⟨_, fun w' => ?_, R1.str _⟩
      have hm : ¬ ((((ByteArray.mk a.toArray).size + (ByteArray.mk b.toArray).size : Nat) : Int) > IntKind.i64.max) := by
        rw [size_mk, size_mk]; simp [IntKind.max, IntKind.bits, IntKind.signed]; omega
      simp only [eqGuard, binOp, Op.stringOp]
      rw [if_neg hm, e]; simp

theorem evUn_sound {op : UnOp} {x : AV} (hx : R1 ok φ w v x) (h : (evUn op x).1) : ∃ r, (∀ w', (Op.unary op v).run P w' = .ok r w') ∧ R1 ok φ w r (evUn op x).2 := by
  unfold evUn at h ⊢
  split at h
  · rw [hx.bool_inv]; exact ⟨_, by intro w'; simp [Op.unary], R1.bool _⟩
  · exact h.elim

theorem evExtract_sound {x : AV} {i : Nat} (hx : R1 ok φ w v x) (h : (evExtract x i).1) : ∃ r, (∀ w', (Instr.extract v i).run P w' = .ok r w') ∧ R1 ok φ w r (evExtract x i).2 := by
  unfold evExtract at h ⊢
  split at h
  · rename_i xs
    obtain ⟨vs, rfl, hp⟩ := hx
    obtain ⟨u, hu, hr⟩ := hp.get (i := i) (x := xs.getD i .junk) (by
      have h : i < xs.length := h
      simp [List.getD, h])
    exact ⟨u, by intro w'; simp [Instr.extract, hu], R1.of_R0 hr⟩
  · exact h.elim

end
end Go.Ideal
