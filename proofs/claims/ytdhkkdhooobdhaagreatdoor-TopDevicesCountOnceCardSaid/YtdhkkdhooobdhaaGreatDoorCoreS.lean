/- More operations: fields, structs, closures, new variables, new slices, copying. -/
import Derived.Test.YtdhkkdhooobdhaaGreatDoorCoreL
import Derived.Laws.MakeOwn
set_option linter.unusedVariables false
set_option linter.unusedSimpArgs false
namespace Go.Ideal
open Go.RowKit

/-! ### Without effect -/
/-- The parts of a struct or an array: where, how many cells. -/
def placesOf (P : Program) (t : TypeId) : Option (List (Nat × Nat)) :=
  match P.underlying t with
  | some (.struct fields) => fields.toList.mapM fun f => (P.info? f.type).map fun i => (f.offset, i.size)
  | some (.array n e) => (P.info? e).map fun ie => (List.range n).map fun i => (i * ie.size, ie.size)
  | _ => none
def fieldTy (P : Program) (t : TypeId) (i : Nat) : Option (Nat × TypeId) :=
  match P.underlying t with
  | some (.struct fields) => (fields[i]?).map fun f => (f.offset, f.type)
  | _ => none
def zeroAV (P : Program) (t : TypeId) : Option AV := ((P.info? t).bind (·.zero)).map AV.cst
def setC (cs : List AV) (off : Nat) (ys : List AV) : List AV := cs.take off ++ ys ++ cs.drop (off + ys.length)
def plOff (pl : List (Nat × Nat)) (i : Nat) : Nat := (pl.getD i (0, 0)).1
def plLen (pl : List (Nat × Nat)) (i : Nat) : Nat := (pl.getD i (0, 0)).2
/-- What may be a part of a struct. -/
def partB : AV → Bool
  | .osl .. => true
  | x => x.data && x.sto
def buildA (σ : St) (g : Bool) (pl : List (Nat × Nat)) : List AV → List (Nat × Operand) → Prop × List AV
  | cs, [] => (True, cs)
  | cs, (i, x) :: r =>
    ((σ.get g x).1 ∧ (g = true → partB (σ.get g x).2 = true ∧ i < pl.length ∧ plLen pl i = (σ.get g x).2.cells.length ∧ plOff pl i + (σ.get g x).2.cells.length ≤ cs.length) ∧
      (buildA σ g pl (setC cs (plOff pl i) (σ.get g x).2.cells) r).1, (buildA σ g pl (setC cs (plOff pl i) (σ.get g x).2.cells) r).2)
def evStruct (σ : St) (g : Bool) (parts : List (Nat × Operand)) : Option (List (Nat × Nat)) → Option AV → PA
  | some pl, some (.agg zs) => ((buildA σ g pl zs parts).1, mkBig (buildA σ g pl zs parts).2)
  | _, _ => no
def evField (P : Program) (v : AV) : Option (Nat × TypeId) → PA
  | some (off, ty) => match v with
    | .agg cs => if aggT P ty then ((P.underlying ty).isSome = true ∧ szIs P ty (P.cellsOf ty) ∧ off + P.cellsOf ty ≤ cs.length, .agg ((cs.drop off).take (P.cellsOf ty)))
      else ((P.underlying ty).isSome = true ∧ off < cs.length, cs.getD off .junk)
    | _ => no
  | none => no
def evFieldAddr (P : Program) (v : AV) : Option (Nat × TypeId) → PA
  | some (off, ty) => match v with
    | .op k a b => (szIs P ty (P.cellsOf ty) ∧ 0 < P.cellsOf ty, .op k a (b + off))
    | .cp cs => (szIs P ty (P.cellsOf ty) ∧ 0 < P.cellsOf ty, .cp (cs.drop off))
    | _ => no
  | none => no
def capOK : AV → Bool
  | .fn .. | .tup _ | .opt .. | .big _ => false
  | _ => true
def capsOf (σ : St) (g : Bool) : List Operand → Prop × List AV
  | [] => (True, [])
  | x :: xs => ((σ.get g x).1 ∧ (g = true → capOK (σ.get g x).2 = true) ∧ (capsOf σ g xs).1, (σ.get g x).2 :: (capsOf σ g xs).2)

/-- The function behind a method of a type: one of the type itself, of a value. -/
def methOf (P : Program) (t : TypeId) (m : String) : Option FuncId :=
  match P.info? t, P.underlying t with
  | some i, some d =>
    match i.methods.find? (·.name == m) with
    | some r =>
      if r.path.isEmpty = true then
        match r.func, d with
        | some _, .pointer _ => none
        | some (f, false), _ => some f
        | _, _ => none
      else none
    | none => none
  | _, _ => none
def nilOK (P : Program) : AV → Bool
  | .ifc .. => true
  | .mth m (.ifc t _) => (methOf P t m).isSome
  | _ => false
/-- Not an interface. -/
def noIface (P : Program) (t : TypeId) : Prop :=
  match P.underlying t with
  | some (.interface _) => False
  | some _ => True
  | none => False
/-- Does an interface value hold that type? -/
def evAssert (P : Program) (t : TypeId) : Option AV → AV → PA
  | some z, .ifc u v => (noIface P t ∧ z.data = true, .tup [if u = t then v else z, .bool (decide (u = t))])
  | some z, .atom .nilIface => (noIface P t ∧ z.data = true, .tup [z, .bool false])
  | _, _ => no

def evMeth (σ : St) (g : Bool) (m : String) : List Operand → List Operand → PA
  | [x], [] => ((σ.get g x).1 ∧ (g = true → (σ.get g x).2.data = true), .mth m (σ.get g x).2)
  | _, _ => no
def ev3 (P : Program) (σ : St) (g : Bool) : Op → PA
  | .fieldAddr t x i => ((σ.get g x).1 ∧ (g = true → (evFieldAddr P (σ.get g x).2 (fieldTy P t i)).1), (evFieldAddr P (σ.get g x).2 (fieldTy P t i)).2)
  | .field t x i => ((σ.get g x).1 ∧ (g = true → (evField P (σ.get g x).2 (fieldTy P t i)).1), (evField P (σ.get g x).2 (fieldTy P t i)).2)
  | .build t parts => evStruct σ g parts.toList (placesOf P t) (zeroAV P t)
  | .makeFunc (.func f) first caps => (first.isEmpty = true ∧ (capsOf σ g caps.toList).1, .fn f (capsOf σ g caps.toList).2)
  | .makeFunc (.method m) first caps => evMeth σ g m first.toList caps.toList
  | .makeInterface t x => ((σ.get g x).1 ∧ (g = true → P.concrete t = true ∧ (σ.get g x).2.data = true), .ifc t (σ.get g x).2)
  | .typeAssert x _ t true => ((σ.get g x).1 ∧ (g = true → (evAssert P t (zeroAV P t) (σ.get g x).2).1), (evAssert P t (zeroAV P t) (σ.get g x).2).2)
  | .nilCheck x => ((σ.get g x).1 ∧ (g = true → nilOK P (σ.get g x).2 = true), (σ.get g x).2)
  | op => ev2 P σ g op

section
variable {ok ok' : Nat → Prop} {φ φ' : Names} {w w' : World} {v u : Value} {P : Program} {c : Ctx} {σ : St} {a : Act} {y : AV}

theorem zeroAV_inv {t : TypeId} {x : AV} (h : zeroAV P t = some x) : ∃ i z, P.info? t = some i ∧ i.zero = some z ∧ x = AV.cst z := by
  unfold zeroAV at h
  cases hi : P.info? t with
  | none => simp [hi] at h
  | some i =>
    cases hz : i.zero with
    | none => simp [hi, hz] at h
    | some z => simp [hi, hz] at h; exact ⟨i, z, rfl, hz, h.symm⟩

theorem fill_set (off : Nat) (l : List Value) (cur : Array Value) (h : off + l.length ≤ cur.size) :
    (l.toArray.zipIdx.foldl (fun cs (x : Value × Nat) => cs.setIfInBounds (off + x.2) x.1) cur).toList = cur.toList.take off ++ l ++ cur.toList.drop (off + l.length) := by
  have e : l.toArray.zipIdx.foldl (fun cs (x : Value × Nat) => cs.setIfInBounds (off + x.2) x.1) cur = (l.zipIdx 0).foldl (fun cs (x : Value × Nat) => cs.setIfInBounds (off + x.2) x.1) cur := by
    rw [← Array.foldl_toList]; simp
  rw [e]
  obtain ⟨h1, h2⟩ := Great.foldl_set off l 0 cur
  apply List.ext_getElem?
  intro k
  rw [Array.getElem?_toList, h2 k]
  simp only [Nat.add_zero]
  have hl : (cur.toList.take off).length = off := by rw [List.length_take]; simp; omega
  by_cases hk : k < off
  · rw [if_neg (by omega), List.append_assoc, List.getElem?_append_left (by omega), List.getElem?_take, if_pos hk]; simp
  · by_cases hk2 : k < off + l.length
    · rw [if_pos (by omega), List.append_assoc, List.getElem?_append_right (by omega), hl, List.getElem?_append_left (by omega)]
    · rw [if_neg (by omega), List.append_assoc, List.getElem?_append_right (by omega), hl, List.getElem?_append_right (by omega), List.getElem?_drop]
      have : off + l.length + (k - off - l.length) = k := by omega
      rw [this]; simp

theorem partB_sound {x : AV} (h : R1 ok φ w v x) (hs : partB x = true) : v.cells.size = x.cells.length ∧ (∀ u ∈ v.cells.toList, u.oneCell' = true) ∧ Pts (R0 ok φ w) v.cells.toList x.cells := by
  by_cases ho : ∃ k o l, x = .osl k o l
  · obtain ⟨k, o, l, rfl⟩ := ho
    exact RC.cells (b := true) h rfl
  · have e : partB x = (x.data && x.sto) := by cases x <;> first | rfl | exact absurd ⟨_, _, _, rfl⟩ ho
    rw [e, Bool.and_eq_true] at hs
    have hd := h.data hs.1
    have hp := hd.cellsPts hs.2
    exact ⟨by simpa using hp.1, hd.one hs.2, hp.mono fun v x hx => R0.of_data hx⟩
theorem setC_pts {R : Value → AV → Prop} {vs us : List Value} {cs ys : List AV} {off : Nat} (h : Pts R vs cs) (h' : Pts R us ys) : Pts R (vs.take off ++ us ++ vs.drop (off + us.length)) (setC cs off ys) := by
  unfold setC
  rw [h'.1]
  exact ((h.take off).append h').append (h.drop _)

theorem buildA_sound (h : Holds1 c ok φ σ a w) {pl : List (Nat × Nat)} {place : Nat → Option (Nat × Nat)} (hpl : ∀ i, i < pl.length → place i = some (plOff pl i, plLen pl i)) : ∀ (parts : List (Nat × Operand)) (cs : List AV) (cur : Array Value),
    Pts (R0 ok φ w) cur.toList cs → (∀ v ∈ cur.toList, v.oneCell' = true) → (buildA σ true pl cs parts).1 →
    ∃ cells, Instr.fill place cur (parts.map fun p => (p.1, a.eval p.2)) = some cells ∧ Pts (R0 ok φ w) cells.toList (buildA σ true pl cs parts).2 ∧ (∀ v ∈ cells.toList, v.oneCell' = true)
  | [], cs, cur, hp, h1, _ => ⟨cur, rfl, hp, h1⟩
  | (i, x) :: r, cs, cur, hp, h1, hc => by
    obtain ⟨hx, hd, hr⟩ := hc
    obtain ⟨hd1, hi, hn, hoff⟩ := hd rfl
    obtain ⟨hcl, hone0, hcp⟩ := partB_sound (h.get rfl hx) hd1
    have hsz : cur.size = cs.length := by simpa using hp.1
    have hfs := fill_set (plOff pl i) (a.eval x).cells.toList cur (by simp; omega)
    simp only [Array.toArray_toList] at hfs
    have hlen : (a.eval x).cells.toList.length = (σ.get true x).2.cells.length := by simpa using hcl
    obtain ⟨cells, hf, hp2, h2⟩ := buildA_sound h hpl r (setC cs (plOff pl i) (σ.get true x).2.cells) _ (by rw [hfs]; exact setC_pts hp hcp) (by
      rw [hfs]; intro v hv'
      simp only [List.mem_append] at hv'
      rcases hv' with (hv' | hv') | hv'
      · exact h1 v (List.mem_of_mem_take hv')
      · exact hone0 v hv'
      · exact h1 v (List.mem_of_mem_drop hv')) hr
    refine ⟨cells, ?_, hp2, h2⟩
    simp only [List.map_cons, Instr.fill, hpl i hi]
    have hc1 : ((a.eval x).cells.size ≠ plLen pl i || plOff pl i + (a.eval x).cells.size > cur.size) = false := by
      simp; omega
    rw [if_neg (by simp at hc1 ⊢; exact hc1)]
    exact hf

theorem evStruct_sound (h : Holds1 c ok φ σ a w) {t : TypeId} {parts : Array (Nat × Operand)} (hc : (evStruct σ true parts.toList (placesOf c.P t) (zeroAV c.P t)).1) :
    ∃ r, (∀ w', (Instr.build t (parts.map fun (i, x) => (i, a.eval x))).run c.P w' = .ok r w') ∧ R1 ok φ w r (evStruct σ true parts.toList (placesOf c.P t) (zeroAV c.P t)).2 := by
  generalize hpl : placesOf c.P t = opl at *
  generalize hza : zeroAV c.P t = oza at *
  cases opl with
  | none => exact hc.elim
  | some pl =>
    cases oza with
    | none => exact hc.elim
    | some za =>
      by_cases hag : ∃ zs, za = .agg zs
      rotate_left
      · cases za <;> first | exact hc.elim | exact absurd ⟨_, rfl⟩ hag
      obtain ⟨zs, rfl⟩ := hag
      obtain ⟨it, z, hi, hz, he⟩ := zeroAV_inv hza
      have hzr : DRep ok w z (.agg zs) := by rw [he]; rw [← he]; have := R1.cst (ok := ok) (φ := φ) (w := w) z; rw [← he] at this; exact this
      have hzv : ∃ vs : List Value, z = .agg vs.toArray ∧ Pts (DRep ok w) vs zs ∧ ∀ v ∈ vs, v.oneCell' = true := by
        cases hzr with
        | agg vs _ hl h1 hh => exact ⟨vs, rfl, ⟨hl, hh⟩, h1⟩
      obtain ⟨vs, rfl, hp, h1⟩ := hzv
      have hcell : (Value.agg vs.toArray).cells = vs.toArray := rfl
      have hparts : (parts.map fun (i, x) => (i, a.eval x)).toList = parts.toList.map fun p => (p.1, a.eval p.2) := by simp
      have fin : ∀ (place : Nat → Option (Nat × Nat)), (∀ i, i < pl.length → place i = some (plOff pl i, plLen pl i)) → ∃ cells, Instr.fill place vs.toArray (parts.toList.map fun p => (p.1, a.eval p.2)) = some cells ∧ Pts (R0 ok φ w) cells.toList (buildA σ true pl zs parts.toList).2 ∧ (∀ v ∈ cells.toList, v.oneCell' = true) :=
        fun place hpl => buildA_sound h hpl parts.toList zs vs.toArray (by simpa using hp.mono fun v x hx => R0.of_data hx) (by simpa using h1) hc
      have done : ∀ cells : Array Value, c.P.built t (parts.map fun (i, x) => (i, a.eval x)).toList = some cells → Pts (R0 ok φ w) cells.toList (buildA σ true pl zs parts.toList).2 → (∀ v ∈ cells.toList, v.oneCell' = true) →
          ∃ r, (∀ w', (Instr.build t (parts.map fun (i, x) => (i, a.eval x))).run c.P w' = .ok r w') ∧ R1 ok φ w r (mkBig (buildA σ true pl zs parts.toList).2) := by
        intro cells hb hp hone
        exact ⟨.agg cells, fun w' => run_build w' t _ cells hb, by have := R1.mkBig hone hp; simpa using this⟩
      show ∃ r, (∀ w', (Instr.build t (parts.map fun (i, x) => (i, a.eval x))).run c.P w' = .ok r w') ∧ R1 ok φ w r (mkBig (buildA σ true pl zs parts.toList).2)
      unfold placesOf at hpl
      split at hpl
      · rename_i fields hu
        obtain ⟨cells, hf, hp2, h2⟩ := fin (pl.toArray[·]?) (fun i hi => by simp [hi, plOff, plLen, List.getD])
        refine done cells ?_ hp2 h2
        simp only [Program.built, hi, hu, hz, hpl, hparts, hcell]
        exact hf
      · rename_i n e hu
        cases hie : c.P.info? e with
        | none => simp [hie] at hpl
        | some ie =>
          simp only [hie, Option.map_some, Option.some.injEq] at hpl
          subst hpl
          obtain ⟨cells, hf, hp2, h2⟩ := fin (fun i => some (i * ie.size, ie.size)) (fun i hi => by
            simp at hi
            simp [plOff, plLen, List.getD, hi])
          refine done cells ?_ hp2 h2
          simp only [Program.built, hi, hu, hz, hie, hparts, hcell]
          exact hf
      · cases hpl

theorem evField_sound {x : AV} {t : TypeId} {i : Nat} (hx : R1 ok φ w v x) (h : (evField P x (fieldTy P t i)).1) : ∃ r, (∀ w', (Instr.field t v i).run P w' = .ok r w') ∧ R1 ok φ w r (evField P x (fieldTy P t i)).2 := by
  generalize hf : fieldTy P t i = of at *
  cases of with
  | none => exact h.elim
  | some p =>
    obtain ⟨off, ty⟩ := p
    by_cases hag : ∃ cs, x = .agg cs
    rotate_left
    · cases x <;> first | exact h.elim | exact absurd ⟨_, rfl⟩ hag
    obtain ⟨cs, rfl⟩ := hag
    have hx : DRep ok w v (.agg cs) := hx
    have hv : ∃ vs : List Value, v = .agg vs.toArray ∧ Pts (DRep ok w) vs cs ∧ ∀ v ∈ vs, v.oneCell' = true := by
      cases hx with
      | agg vs _ hl h1 hh => exact ⟨vs, rfl, ⟨hl, hh⟩, h1⟩
    obtain ⟨vs, rfl, hp, h1⟩ := hv
    unfold fieldTy at hf
    split at hf
    rotate_left
    · cases hf
    rename_i fields hu
    cases hfi : fields[i]? with
    | none => simp [hfi] at hf
    | some f =>
      simp only [hfi, Option.map_some, Option.some.injEq, Prod.mk.injEq] at hf
      obtain ⟨rfl, rfl⟩ := hf
      simp only [evField] at h ⊢
      by_cases ha : aggT P f.type = true
      · simp only [ha, if_true] at h ⊢
        obtain ⟨hun, hs, hl⟩ := h
        refine ⟨_, fun w' => ?_, R1.of_data (.agg _ _ ((hp.drop f.offset).take (P.cellsOf f.type)).1 (fun v hv => h1 v (List.mem_of_mem_drop (List.mem_of_mem_take hv))) ((hp.drop f.offset).take (P.cellsOf f.type)).2)⟩
        simp [Instr.field, run_underlying hu, hfi, asAgg, (part_run hun w').1 ha hs]
      · simp only [ha] at h ⊢
        obtain ⟨hun, hl⟩ := h
        obtain ⟨z, hz, hr⟩ := hp.get (i := f.offset) (x := cs.getD f.offset .junk) (getD_some hl)
        refine ⟨z, fun w' => ?_, R1.of_data hr⟩
        simp [Instr.field, run_underlying hu, hfi, asAgg, (part_run hun w').2 (by simpa using ha) z hz]

theorem evFieldAddr_sound {x : AV} {t : TypeId} {i : Nat} (hx : R1 ok φ w v x) (h : (evFieldAddr P x (fieldTy P t i)).1) : ∃ r, (∀ w', (Instr.fieldAt t v i).run P w' = .ok r w') ∧ R1 ok φ w r (evFieldAddr P x (fieldTy P t i)).2 := by
  generalize hf : fieldTy P t i = of at *
  cases of with
  | none => exact h.elim
  | some p =>
    obtain ⟨off, ty⟩ := p
    unfold fieldTy at hf
    split at hf
    rotate_left
    · cases hf
    rename_i fields hu
    cases hfi : fields[i]? with
    | none => simp [hfi] at hf
    | some f =>
      simp only [hfi, Option.map_some, Option.some.injEq, Prod.mk.injEq] at hf
      obtain ⟨rfl, rfl⟩ := hf
      have run : ∀ (b o : Nat), szIs P f.type (P.cellsOf f.type) → 0 < P.cellsOf f.type → ∀ w', (Instr.fieldAt t (.pointer (some ⟨b, o, none⟩)) i).run P w' = .ok (.pointer (some ⟨b, o + f.offset, none⟩)) w' := by
        intro b o hs hp w'
        have hne : P.cellsOf f.type ≠ 0 := by omega
        simp [Instr.fieldAt, run_underlying hu, hfi, Instr.sureAddr, fieldPlace, hs.run, hne, addr_add]
      cases x <;> simp only [evFieldAddr, no] at h ⊢ <;> first | exact h.elim | skip
      case op k p q =>
        obtain ⟨g, sz, N, hφ, rfl⟩ := hx
        exact ⟨_, run _ _ h.1 h.2, ⟨g, sz, N, hφ, by rw [Nat.add_assoc]⟩⟩
      case cp cs =>
        have hx := hx.cp_inv
        have hv : ∃ b o, v = .pointer (some ⟨b, o, none⟩) := by
          cases hx with
          | cp b o _ _ _ _ _ _ _ => exact ⟨b, o, rfl⟩
        obtain ⟨b, o, rfl⟩ := hv
        exact ⟨_, run _ _ h.1 h.2, R1.of_data (hx.cp_drop _)⟩

theorem evAssert_sound {x : AV} {t xt : TypeId} (hx : R1 ok φ w v x) (h : (evAssert P t (zeroAV P t) x).1) :
    ∃ r, (∀ w', (Instr.typeAssert v xt t true).run P w' = .ok r w') ∧ R1 ok φ w r (evAssert P t (zeroAV P t) x).2 := by
  generalize hza : zeroAV P t = oza at *
  cases oza with
  | none => exact h.elim
  | some za =>
    obtain ⟨it, z, hi, hz, rfl⟩ := zeroAV_inv hza
    have fin : noIface P t → ∃ d, P.underlying t = some d ∧ ∀ ms, d ≠ .interface ms := by
      intro hn
      unfold noIface at hn
      cases hu : P.underlying t with
      | none => rw [hu] at hn; exact hn.elim
      | some d =>
        rw [hu] at hn
        exact ⟨d, rfl, fun ms e => by subst e; exact hn.elim⟩
    have fails : ∀ (v : Value), noIface P t → (AV.cst z).data = true → (v = .nilIface ∨ ∃ u y, v = .iface u y ∧ u ≠ t) → (∀ w', (Instr.typeAssert v xt t true).run P w' = .ok (.tuple #[z, .bool false]) w') := by
      intro v hn _ hv w'
      obtain ⟨d, hu, hd⟩ := fin hn
      rcases hv with rfl | ⟨u, y, rfl, hne⟩
      · cases d <;> first | exact absurd rfl (hd _) | simp [Instr.typeAssert, run_underlying hu, zeroValue, typeInfo, hi, hz]
      · cases d <;> first | exact absurd rfl (hd _) | simp [Instr.typeAssert, run_underlying hu, zeroValue, typeInfo, hi, hz, hne]
    have rep : (AV.cst z).data = true → R1 ok φ w (.tuple #[z, .bool false]) (.tup [AV.cst z, .bool false]) := fun hd =>
      ⟨[z, .bool false], rfl, Pts.cons (R0.of_data ((R1.cst (ok := ok) (φ := φ) (w := w) z).data hd)) (Pts.cons (R0.of_data (.bool false)) Pts.nil)⟩
    cases x <;> first | exact h.elim | skip
    case ifc u y =>
      obtain ⟨hn, hd⟩ := h
      have hx : DRep ok w v (.ifc u y) := hx
      have hv : ∃ y0, v = .iface u y0 ∧ DRep ok w y0 y := by
        cases hx with
        | ifc _ y0 _ hh => exact ⟨y0, rfl, hh⟩
      obtain ⟨y0, rfl, hy⟩ := hv
      simp only [evAssert]
      by_cases hut : u = t
      · subst hut
        obtain ⟨d, hu, hdd⟩ := fin hn
        refine ⟨.tuple #[y0, .bool true], fun w' => ?_, ?_⟩
        · cases d <;> first | exact absurd rfl (hdd _) | simp [Instr.typeAssert, run_underlying hu]
        · rw [if_pos rfl, decide_eq_true rfl]
          exact ⟨[y0, .bool true], rfl, Pts.cons (R0.of_data hy) (Pts.cons (R0.of_data (.bool true)) Pts.nil)⟩
      · rw [if_neg hut, decide_eq_false hut]
        exact ⟨_, fails _ hn hd (.inr ⟨u, y0, rfl, hut⟩), rep hd⟩
    case atom v0 =>
      cases v0 <;> first | exact h.elim | skip
      obtain ⟨hn, hd⟩ := h
      have hx : DRep ok w v (.atom .nilIface) := hx
      have hv : v = .nilIface := by cases hx; rfl
      exact ⟨_, fails _ hn hd (.inl hv), rep hd⟩

theorem capsOf_sound (h : Holds1 c ok φ σ a w) : ∀ xs : List Operand, (capsOf σ true xs).1 → Pts (R0 ok φ w) (xs.map a.eval) (capsOf σ true xs).2
  | [], _ => Pts.nil
  | x :: xs, hx => Pts.cons (by
      have h1 := h.get rfl hx.1
      have h2 := hx.2.1 rfl
      generalize (σ.get true x).2 = y at h1 h2
      cases y <;> first | exact h1 | cases h2) (capsOf_sound h xs hx.2.2)

theorem methOf_inv {t : TypeId} {m : String} {f : FuncId} (h : methOf P t m = some f) : ∃ i d r, P.info? t = some i ∧ P.underlying t = some d ∧ i.methods.find? (·.name == m) = some r ∧ r.path.toList = [] ∧ r.func = some (f, false) ∧ (∀ e, d ≠ .pointer e) := by
  unfold methOf at h
  split at h
  · rename_i i d hi hd
    split at h
    · rename_i r hr
      split at h
      · rename_i hp
        split at h
        · cases h
        · cases h
          refine ⟨i, _, r, hi, hd, hr, by simpa using hp, by assumption, fun e he => ?_⟩
          simp_all
        · cases h
      · cases h
    · cases h
  · cases h
theorem run_method {t : TypeId} {m : String} {f : FuncId} (h : methOf P t m = some f) (n : Nat) (v : Value) (w : World) : (method (n + 1) t v m).run P w = .ok (f, v) w := by
  obtain ⟨i, d, r, h1, h2, h3, h4, h5, h6⟩ := methOf_inv h
  unfold method
  cases d <;> first | exact absurd rfl (h6 _) | simp [typeInfo, h1, h3, h4, h5, follow, receiverAt, run_underlying h2, Place.get]
theorem run_nilAhead {t : TypeId} {m : String} {f : FuncId} (h : methOf P t m = some f) (n : Nat) (v : Value) (w : World) : (nilAhead (n + 1) t v m).run P w = .ok (some false) w := by
  obtain ⟨i, d, r, h1, h2, h3, h4, h5, h6⟩ := methOf_inv h
  unfold nilAhead
  cases d <;> first | exact absurd rfl (h6 _) | simp [typeInfo, h1, h3, h4, h5, followBlind, run_underlying h2]
theorem ev3_sound (h : Holds1 c ok φ σ a w) {g : Bool} (hg : g = true) (o : Oper) (hc : (ev3 c.P σ g o.op).1) :
    ∃ v, (∀ w', (wi o.op = true ∨ w' = w) → (execOp a.eval o).run c.P w' = .ok (.value v) w') ∧ R1 ok φ w v (ev3 c.P σ g o.op).2 := by
  subst hg
  obtain ⟨dst, op, type, pos, after, guard⟩ := o
  cases op <;> first | exact ev2_sound h rfl _ hc | skip
  case fieldAddr t x i =>
    obtain ⟨r, h1, h2⟩ := evFieldAddr_sound (P := c.P) (h.get rfl hc.1) (hc.2 rfl)
    exact ⟨r, fun w' _ => by have := h1 w'; simp [execOp, this], h2⟩
  case field t x i =>
    obtain ⟨r, h1, h2⟩ := evField_sound (P := c.P) (h.get rfl hc.1) (hc.2 rfl)
    exact ⟨r, fun w' _ => by have := h1 w'; simp [execOp, this], h2⟩
  case build t parts =>
    obtain ⟨r, h1, h2⟩ := evStruct_sound h hc
    exact ⟨r, fun w' _ => by have := h1 w'; simp [execOp, this], h2⟩
  case makeFunc fn first caps =>
    cases fn <;> first | exact ev2_sound h rfl _ hc | skip
    case method m =>
      simp only [ev3] at hc ⊢
      unfold evMeth at hc ⊢
      split at hc
      · rename_i x h1 h2
        have hv := h.get rfl hc.1
        have e1 : first = #[x] := by apply Array.toList_inj.1; rw [h1]
        have e2 : caps = #[] := by apply Array.toList_inj.1; rw [h2]
        exact ⟨.func (.method m) #[a.eval x] #[], fun w' _ => by simp [execOp, Instr.makeFunc, e1, e2], R1.of_data (.mth m _ _ (hv.data (hc.2 rfl)))⟩
      · exact hc.elim
    case func f =>
      obtain ⟨h1, h2⟩ := hc
      have hp := capsOf_sound h _ h2
      have he : first = #[] := by simpa using h1
      subst he
      refine ⟨.func (.func f) #[] (caps.map a.eval), fun w' _ => by simp [execOp, Instr.makeFunc], (caps.toList.map a.eval), by congr 1; apply Array.toList_inj.1; simp, hp⟩
  case makeInterface t x =>
    obtain ⟨h1, h2⟩ := hc
    obtain ⟨h3, h4⟩ := h2 rfl
    have hv := h.get rfl h1
    refine ⟨.iface t (a.eval x), fun w' _ => by simp [execOp, run_makeInterface w' t _ h3], R1.of_data (.ifc t _ _ (hv.data h4))⟩
  case typeAssert x xt t cm =>
    cases cm with
    | false => exact ev2_sound h rfl _ hc
    | true =>
      obtain ⟨h1, h2⟩ := hc
      obtain ⟨r, h3, h4⟩ := evAssert_sound (P := c.P) (xt := xt) (h.get rfl h1) (h2 rfl)
      exact ⟨r, fun w' _ => by have := h3 w'; simp [execOp, this], h4⟩
  case nilCheck x =>
    obtain ⟨h1, h2⟩ := hc
    have hv := h.get rfl h1
    have h2 := h2 rfl
    simp only [ev3]
    generalize (σ.get true x).2 = y at hv h2
    cases y <;> first | (cases h2; done) | skip
    case mth m y =>
      cases y <;> first | (cases h2; done) | skip
      rename_i t z
      have hv : DRep ok w (a.eval x) (.mth _ _) := hv
      have hs : ∃ y0, a.eval x = .func (.method m) #[.iface t y0] #[] := by
        generalize a.eval x = v0 at hv
        cases hv with
        | mth _ y1 _ hh =>
          cases hh with
          | ifc _ y0 _ _ => exact ⟨y0, rfl⟩
      obtain ⟨y0, hs⟩ := hs
      obtain ⟨f, hf⟩ := Option.isSome_iff_exists.1 h2
      refine ⟨a.eval x, fun w' _ => ?_, R1.of_data hv⟩
      have := run_nilAhead hf (c.P.types.size + 99) y0 w'
      simp [execOp, hs, Made.depth, this]
    have hv : DRep ok w (a.eval x) (.ifc _ _) := hv
    have hs : ∃ u y0, a.eval x = .iface u y0 := by
      generalize a.eval x = v0 at hv
      cases hv with
      | ifc _ y0 _ _ => exact ⟨_, y0, rfl⟩
    obtain ⟨u, y0, hs⟩ := hs
    exact ⟨a.eval x, fun w' _ => by simp [execOp, hs], R1.of_data hv⟩
end
end Go.Ideal
