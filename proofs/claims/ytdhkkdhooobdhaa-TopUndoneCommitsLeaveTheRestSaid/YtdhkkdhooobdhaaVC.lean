/- Undo: slices.Delete, which works in place. -/
import Derived.Test.YtdhkkdhooobdhaaU1
import Derived.WalkSpells
import Derived.Deep.LoopGhost
import Derived.Deep.RegionLaw
import Derived.Shelf.RegionOpenPlain
import Derived.Test.YtdhkkdhooobdhaaCoreW
import Derived.Test.YtdhkkdhooobdhaaU9
import Derived.Test.YtdhkkdhooobdhaaV6
set_option linter.unusedVariables false
set_option linter.unusedSimpArgs false
namespace Go.Proofs
open Go Go.RowKit

theorem step_app {P : Program} {ops : Array Oper} {o : Oper} {a : Act} {w w1 : World} {K : Act → World → Prop} {Q : Exit → Act → World → Prop} {E : Prop} {r : Value}
    (hg : o.guard = none) (s x : Operand) (t : TypeId) (hop : o.op = Op.call { callee := Callee.builtin Builtin.append, args := #[s, x], argTypes := #[t, t] }) (vs vx : Value) (hs : a.eval s = vs) (hx : a.eval x = vx)
    (hrun : ∀ ty, (Builtin.append_ #[t, t] ty #[vs, vx]).run P w = .ok r w1) (hK : K (a.put o.dst r) w1) : if Region.wanted o (yielded ops a.tmps) = true then Oper.wp P o a w K Q else E := by
  have hw : Region.wanted o (yielded ops a.tmps) = true := by simp [Region.wanted, hg]
  rw [if_pos hw]
  unfold Oper.wp
  simp [execOp, hop, resolve, invoke, builtin, hs, hx, hrun, Result.andThen]
  exact hK

set_option maxRecDepth 100000 in
set_option maxHeartbeats 4000000 in
theorem delete_calls (g n cap i j : Nat) (hj1 : j = i + 1) (cur : Array Value) (fz : Nat × Nat) (w : World) (hg : w.heap[g]? = some (.cells cur 51 fz)) (hf : Ideal.noFz fz cur.size) (hsz : cur.size = cap * 8) (hn : n ≤ cap) (hi : i < n) (hm : cap ≤ 9223372036854775807)
    (h1 : ∀ v ∈ cur.toList.take (n * 8), v.oneCell' = true) :
    Calls Try.prog 37 #[.slice (some ⟨g, 0, none⟩) n cap, .int .i64 i, .int .i64 j] w fun e w' => e = .returned (.slice (some ⟨g, 0, none⟩) (n - 1) cap) ∧
      w'.os = w.os ∧ w'.tape = w.tape ∧ w'.output = w.output ∧ w'.heap.size = w.heap.size ∧ (∀ k, k ≠ g → w'.heap[k]? = w.heap[k]?) ∧
      ∃ rest : List Value, w'.heap[g]? = some (.cells (cur.toList.take (i * 8) ++ (cur.toList.take (n * 8)).drop (j * 8) ++ rest).toArray 51 fz) ∧ (cur.toList.take (i * 8) ++ (cur.toList.take (n * 8)).drop (j * 8) ++ rest).length = cap * 8 := by
  obtain ⟨inf, z, hinf, hz, hs8, hz8, hz1⟩ : ∃ inf z, Try.prog.info? 51 = some inf ∧ inf.zero = some z ∧ inf.size = 8 ∧ z.cells.size = 8 ∧ ∀ v ∈ z.cells.toList, v.oneCell' = true := ⟨_, _, rfl, rfl, rfl, rfl, by decide +kernel⟩
  obtain ⟨m, hmd⟩ : ∃ m, n = j + m := ⟨n - j, by omega⟩
  obtain ⟨news, hnews⟩ : ∃ news, news = (cur.toList.take (n * 8)).drop (j * 8) := ⟨_, rfl⟩
  have hnl : news.length = m * 8 := by rw [hnews]; simp; omega
  have hnone : ∀ v ∈ news, v.oneCell' = true := fun v hv => h1 v (by rw [hnews] at hv; exact List.mem_of_mem_drop hv)
  have hng : ∀ q v, news[q]? = some v → cur[j * 8 + q]? = some v := by
    intro q v hj
    rw [hnews, List.getElem?_drop, List.getElem?_take] at hj
    split at hj
    · rw [← Array.getElem?_toList]; exact hj
    · cases hj
  obtain ⟨A, hA, hsrc⟩ : ∃ A : Addr, (if cap = j then (some ⟨g, 0, none⟩ : Option Addr) else some ⟨g, j * 8, none⟩) = some A ∧ Ideal.Src Try.prog w.drew inf.size (.slice (some A) m (cap - j)) m news := by
    by_cases h : cap = j
    · have hm0 : m = 0 := by omega
      subst hm0
      have hnil : news = [] := List.eq_nil_of_length_eq_zero (by omega)
      refine ⟨⟨g, 0, none⟩, by simp [h], ⟨fun w' => by simp [Builtin.lenOf], by rw [hnil]; simp, hnone, fun w' _ => ?_⟩⟩
      rw [hnil]
      simp [Builtin.firstCells, loadCells, loadCellsFrom]
    · refine ⟨⟨g, j * 8, none⟩, by simp [h], ⟨fun w' => by simp [Builtin.lenOf], by rw [hnl, hs8], hnone, fun w' hw => ?_⟩⟩
      refine run_firstCells_some (P := Try.prog) w' inf.size m _ _ _ news (by rw [hnl, hs8]) fun q v hj => ?_
      have hw2 : w'.heap[g]? = some (.cells cur 51 fz) := by rw [hw]; exact hg
      rw [Ideal.addr_add]
      simp only [World.cell?, hw2]
      simpa using hng q v hj
  obtain ⟨W1, hW1⟩ : ∃ W1, W1 = w.drew.setRow g (cur.toList.take (i * inf.size) ++ news ++ cur.toList.drop (i * inf.size + news.length)).toArray := ⟨_, rfl⟩
  have happ : ∀ ty, (Builtin.append_ #[31, 31] ty #[.slice (some ⟨g, 0, none⟩) i cap, .slice (some A) m (cap - j)]).run Try.prog w.drew = .ok (.slice (some ⟨g, 0, none⟩) (i + m) cap) W1 := fun ty => by
    rw [hW1]
    exact Ideal.app_room (P := Try.prog) (e := 51) (d := .slice 51) (i := inf) rfl rfl (.inr ⟨_, rfl⟩) hinf hsrc g i cap cur fz hg hf (by omega) (by rw [hnl, hs8]; omega)
  have hcur1 : W1.heap[g]? = some (.cells (cur.toList.take (i * inf.size) ++ news ++ cur.toList.drop (i * inf.size + news.length)).toArray 51 fz) := by
    rw [hW1]; exact setRow_heap _ g cur _ _ _ hg
  have hsz1 : (cur.toList.take (i * inf.size) ++ news ++ cur.toList.drop (i * inf.size + news.length)).length = cap * 8 := by
    simp [hnl, hs8, hsz]; omega
  generalize hL1 : cur.toList.take (i * inf.size) ++ news ++ cur.toList.drop (i * inf.size + news.length) = L1 at *
  have hzl : (Builtin.zeroCells z.cells (n - (i + m))).toList.length = 8 := by
    simp [size_zeroCells, hz8]; omega
  obtain ⟨W2, hW2⟩ : ∃ W2, W2 = W1.setRow g (L1.take ((i + m) * 8) ++ (Builtin.zeroCells z.cells (n - (i + m))).toList ++ L1.drop ((i + m) * 8 + 8)).toArray := ⟨_, rfl⟩
  have hcl : ∀ ty, (Builtin.clear_ #[31] ty #[.slice (some ⟨g, (i + m) * 8, none⟩) (n - (i + m)) (cap - (i + m))]).run Try.prog W1 = .ok (.tuple #[]) W2 := fun ty => by
    have hst := Ideal.store_cells (P := Try.prog) g ((i + m) * 8) 51 fz (Builtin.zeroCells z.cells (n - (i + m))).toList 0 L1.toArray W1 hcur1 (by simpa [hsz1, ← hsz] using hf) (by simp [hsz1, hzl]; omega) (by
      intro v hv
      obtain ⟨k, hk⟩ := List.getElem?_of_mem hv
      have hk2 : k < (n - (i + m)) * z.cells.size := by
        have := (List.getElem?_eq_some_iff.1 hk).1
        rw [hzl] at this
        have : n - (i + m) = 1 := by omega
        rw [this, hz8]; omega
      rw [Array.getElem?_toList, Ideal.zeroCells_get hk2 (by omega)] at hk
      exact hz1 v (by rw [Array.mem_toList_iff]; exact Array.mem_of_getElem? hk))
    have hut : Try.prog.underlying 31 = some (.slice 51) := rfl
    simp only [Nat.add_zero, hzl] at hst
    rw [hW2]
    obtain ⟨q, hq⟩ : ∃ q, n - (i + m) = q + 1 := ⟨n - (i + m) - 1, by omega⟩
    rw [hq] at hst ⊢
    simp [Builtin.clear_, run_underlying hut, zeroValue, typeInfo, hinf, hz, hst]
  have HA : Hid (W1.heap[g]? = some (.cells L1.toArray 51 fz)) := hcur1
  have mixed : Try.prog.follows .mixedOrders = true := by kernel_rfl
  have hic : i ≤ cap := by omega
  have hjc : j ≤ cap := by omega
  have hjn : (j : Int) ≤ ((j + m : Nat) : Int) := by omega
  have hjn2 : (j : Int) ≤ (j : Int) + (m : Int) := by omega
  have hij : i ≤ j := by omega
  have hne : (i : Int) ≠ (j : Int) := by omega
  have HL1 : Aside (cur.toList.take (i * inf.size) ++ news ++ cur.toList.drop (i * inf.size + news.length) = L1) := hL1
  have HW1 : Aside (W1 = w.drew.setRow g L1.toArray) := hW1
  have HW2 : Aside (W2 = W1.setRow g (L1.take ((i + m) * 8) ++ (Builtin.zeroCells z.cells (n - (i + m))).toList ++ L1.drop ((i + m) * 8 + 8)).toArray) := hW2
  have Hnews : Aside (news = (cur.toList.take (n * 8)).drop (j * 8)) := hnews
  have Hg : Aside (w.heap[g]? = some (.cells cur 51 fz)) := hg
  have HJ : Aside (j = i + 1) := hj1
  have hji : ¬ ((i : Int) = (j : Int)) := hne
  clear hj1 hcur1 hng hnone hnews hsrc hL1 hW1 hW2 hg hf h1 hinf hz
  subst hmd
  go_enter Try.func37, Try.ntmps37
  go_wp2_with fail
  go_region_law_o (refine step_app rfl (.tmp 22) (.tmp 25) 31 rfl (.slice (some ⟨g, 0, none⟩) i cap) (.slice (some A) m (cap - j)) (by simp [Act.eval, Act.put]) (by simp [Act.eval, Act.put]) happ ?_)
  go_wp2
  go_ret
  have e8 : j + m - 1 = i + m := by have := HJ.out; omega
  have f1 := HW1.out
  have f2 := HW2.out
  have f3 := HL1.out
  have f4 := Hnews.out
  have f5 := HA.out
  have f6 := Hg.out
  subst f2 f1
  have hl0 : (cur.toList.take (i * 8)).length = i * 8 := by simp; omega
  have htk : L1.take ((i + m) * 8) = cur.toList.take (i * 8) ++ (cur.toList.take ((j + m) * 8)).drop (j * 8) := by
    rw [← f3, hs8, ← f4, List.append_assoc, List.take_append, List.take_append, hl0, List.take_of_length_le (by rw [hl0]; omega), show (i + m) * 8 - i * 8 = m * 8 by omega, ← hnl, List.take_length]
    simp
  refine ⟨by rw [e8]; rfl, rfl, rfl, rfl, (by first | rfl | (simp [World.setRow]; done) | (simp [World.setRow]; rfl)), fun k hk => ?_, (Builtin.zeroCells z.cells (j + m - (i + m))).toList ++ L1.drop ((i + m) * 8 + 8), ?_, ?_⟩
  · rw [setRow_other _ g k _ hk, setRow_other _ g k _ hk]; rfl
  · rw [← htk, ← List.append_assoc]
    exact setRow_heap _ g _ _ _ _ f5
  · rw [← htk]
    simp only [List.length_append, List.length_take, List.length_drop, hzl, hsz1]
    have := HJ.out; omega

open Go.Ideal in
theorem delete_spec (l : List Stp) (i : Nat) (hi : i < l.length) : SpecO Try.prog 37 ⟨8, 51, false, stsOf l⟩ [.osl 0 0 l.length, .int .i64 i, .int .i64 ((i : Int) + 1)]
    (.osl 0 0 (l.length - 1)) ⟨8, 51, false, stsOf (l.take i ++ l.drop (i + 1))⟩ := by
  refine ⟨⟨_, rfl, rfl, rfl⟩, rfl, rfl, fun ok φ w vs hlt hφ0 hheap hp => ?_⟩
  obtain ⟨v0, vs1, rfl, h0, hp1⟩ := hp.cons_inv
  obtain ⟨v1, vs2, rfl, h1, hp2⟩ := hp1.cons_inv
  obtain ⟨v2, vs3, rfl, h2, hp3⟩ := hp2.cons_inv
  rw [hp3.nil_inv]
  cases h1
  cases h2
  rcases h0 with ⟨a, _, hz⟩ | ⟨g, sz, N, cap, hφ, rfl, hcap, hN, hcm⟩
  · omega
  rcases hheap.at_ 0 _ rfl with ⟨h3, _⟩ | ⟨g', N', h3, _, hnok, cur, fz, hcur, hfz, hcs, hfl, hall, hone, hpts⟩
  · rw [h3] at hφ; cases hφ
  rw [h3] at hφ
  cases hφ
  simp only [Nat.zero_add] at hN
  have hlen : (stsOf l).length = l.length := by simp [stsOf]
  have hfl2 := flat_len hall
  simp only [hlen] at hfl2
  have hgl : g < w.heap.size := by
    rcases Nat.lt_or_ge g w.heap.size with h | h
    · exact h
    · simp [h] at hcur
  have D := delete_calls g l.length cap i (i + 1) rfl cur fz w hcur (by rw [hcs]; exact hfz) (by rw [hcs, ← hN]) hcap hi (by simpa [maxLen] using hcm) (by rw [← hfl2]; exact hone)
  have hzero : (⟨g, 0 * 8, none⟩ : Addr) = ⟨g, 0, none⟩ := by simp
  rw [hzero]
  rw [show ((i : Int) + 1) = ((i + 1 : Nat) : Int) by omega]
  refine Calls.mono D ?_
  rintro e w' ⟨rfl, d1, d2, d3, d4, d5, rest, d6, d7⟩
  have hnew : (l.take i ++ l.drop (i + 1)).length = l.length - 1 := by simp; omega
  have hall' : ∀ x ∈ stsOf (l.take i ++ l.drop (i + 1)), x.cells.length = 8 := by
    intro x hx
    obtain ⟨s, _, rfl⟩ := List.mem_map.1 hx
    rfl
  have hF1 : flat (stsOf (l.take i)) = (flat (stsOf l)).take (i * 8) := by
    rw [← stsOf_take, flat_take hall]
  have hF2 : flat (stsOf (l.drop (i + 1))) = (flat (stsOf l)).drop ((i + 1) * 8) := by
    rw [← stsOf_drop, flat_drop hall]
  have hF : flat (stsOf (l.take i ++ l.drop (i + 1))) = (flat (stsOf l)).take (i * 8) ++ (flat (stsOf l)).drop ((i + 1) * 8) := by
    rw [stsOf_app, flat_append, hF1, hF2]
  have hfl' : (flat (stsOf (l.take i ++ l.drop (i + 1)))).length = (l.length - 1) * 8 := by
    rw [flat_len hall']; simp only [stsOf_len, hnew]
  have hcl : l.length * 8 ≤ cur.toList.length := by rw [Array.length_toList (xs := cur), hcs, ← hN]; exact Nat.mul_le_mul_right _ hcap
  have hA : (cur.toList.take (i * 8)).length = i * 8 := by rw [List.length_take]; omega
  have hB : ((cur.toList.take (l.length * 8)).drop ((i + 1) * 8)).length = (l.length - 1 - i) * 8 := by
    rw [List.length_drop, List.length_take]; omega
  have htk : (cur.toList.take (i * 8) ++ (cur.toList.take (l.length * 8)).drop ((i + 1) * 8) ++ rest).take (flat (stsOf (l.take i ++ l.drop (i + 1)))).length =
      (cur.toList.take (flat (stsOf l)).length).take (i * 8) ++ (cur.toList.take (flat (stsOf l)).length).drop ((i + 1) * 8) := by
    rw [hfl', hfl2, List.take_take, Nat.min_eq_left (by omega)]
    exact List.take_left' (by rw [List.length_append, hA, hB]; omega)
  have hpts2 : Pts (fun v x => DRep ok w v x) (cur.toList.take (flat (stsOf l)).length) (flat (stsOf l)) := hpts
  refine ⟨_, ok, φ, rfl, ⟨d1, d2, d3, by omega, fun k hk hn => d5 k fun e => hn ⟨8, N, by rw [e]; exact h3⟩⟩, fun _ h => h, fun b hb => ⟨by rw [d4]; exact hlt b hb, .inl hb⟩, ?_, ?_, ?_⟩
  · refine .inr ⟨g, 8, N, cap, h3, by simp, by omega, by omega, hcm⟩
  · intro k hk
    simp only [AV.names, AV.names1, AV.names0, beq_iff_eq] at hk
    exact hk.symm
  · refine ⟨fun j p hj => ?_, fun j j' o1 o2 g sz N sz' N' h1 h2 _ _ => ?_⟩
    · simp only [Go.Ideal.look] at hj
      split at hj
      · rename_i e; subst e; cases hj
        refine .inr ⟨g, N, h3, .inr ⟨8, N, h3⟩, hnok, _, fz, d6, hfz, ?_, ?_, hall', ?_, ?_⟩
        · simp only [List.size_toArray, d7]; exact hN
        · rw [hfl', ← hN]; exact Nat.mul_le_mul_right _ (by omega)
        · simp only
          rw [htk]
          intro v hv
          rcases List.mem_append.1 hv with hv | hv
          · exact hone v (List.mem_of_mem_take hv)
          · exact hone v (List.mem_of_mem_drop hv)
        · simp only
          rw [htk, hF]
          refine ((hpts2.take _).append (hpts2.drop _)).mono fun v x hx => ?_
          exact RC.of_data (hx.mono (fun _ h => h) fun b hb => d5 b fun e => hnok (by rw [← e]; exact hb))
      · cases hj
    · simp only [Go.Ideal.look] at h1 h2
      split at h1
      · split at h2
        · omega
        · cases h2
      · cases h1
end Go.Proofs

/- Undo: contracts of Without, of the program and of the reference. -/
set_option linter.unusedVariables false
set_option linter.unusedSimpArgs false
namespace Go.Proofs
open Go Go.Ideal
set_option maxRecDepth 8000
set_option maxHeartbeats 4000000

theorem own_map (k : Nat) (s : List AV) : List.map (AV.kill k) s = killO (some k) s := rfl
def witU (p : Past) (i : Int) : Past × Int :=
  if (undU p i).2.2 ≠ 0 then (noPast, (undU p i).2.2) else (⟨(undU p i).1.docs, (undU p i).1.st.take i.toNat ++ (undU p i).1.st.drop (i.toNat + 1)⟩, 0)
theorem witU_no (p : Past) (i : Int) (h : (witU p i).2 ≠ 0) : (witU p i).1 = noPast := by
  unfold witU at h ⊢
  split
  · rfl
  · rename_i h1; rw [if_neg h1] at h; exact absurd rfl h
theorem und_nat {p : Past} {i : Int} (h0 : (undU p i).2.2 = 0) : ∃ n : Nat, i = n ∧ n < p.st.length ∧ isCom p n = true ∧ (depU p n).1 = [] := by
  have hc : isCom p i = true := by
    unfold undU at h0
    split at h0
    · rename_i h1; exact absurd h0 h1
    · rename_i h1; exact depU_inv.1.1 (by omega)
  obtain ⟨h1, h2, _⟩ := isCom_inv hc
  have e : i = (i.toNat : Int) := by omega
  rw [e] at h0
  obtain ⟨c1, c2⟩ := und_zero h0
  exact ⟨i.toNat, e, h2, c1, c2⟩
theorem Without_spec {p : Past} (h : Good p) (i : Int) : Ideal.Spec Try.prog 17 [pastA p, .int .i64 i] (.tup [pastA (witU p i).1, .int .i64 (witU p i).2]) none := by
  have s1 := h.Undo_spec i
  have hsl := h.sl
  refine Spec.weakT (rs := [pastX (witU p i), .int .i64 (witU p i).2]) ?_ (by simp [pastX_fin]; rfl) rfl ⟨pastX_le _ (witU_no p i), AvLe.refl, trivial⟩
  refine Ideal.Spec.of_MD (n := 29) (fn := Try.f17) rfl rfl rfl rfl (by simp [pastX_fin]; rfl) rfl rfl fun w ok => ?_
  refine T.post [.tmp 4] ?_
  refine T.sregD 29 [0, 1, 2, 4, 5, 6, 8, 17] fun Kr hKr => ?_
  simp only [go_sem]
  (repeat (refine ⟨by (first | exact True.intro | omega | rfl | (simp; done) | (simp; omega)), ?_⟩)); try (refine hKr _ ?_; clear hKr Kr)
  refine T.sregD 29 [0, 1, 2, 4, 5, 6, 8, 17] fun Kr hKr => ?_
  simp only [go_sem]
  (repeat (refine ⟨by (first | exact True.intro | omega | rfl | (simp; done) | (simp; omega)), ?_⟩)); try (refine hKr _ ?_; clear hKr Kr)
  refine CallK.tup (fun _ => Spec.args (s1) (by (first | exact ArgsLe.refl | (repeat (first | exact True.intro | refine And.intro (by first | exact AvLe.refl | exact AvLe.loose | exact AvLe.nil | exact AvLe.nilT | exact AvLe.slk | (refine AvLe.agg ?_; exact ArgsLe.refl) | (refine AvLe.agg ?_; (repeat (first | exact True.intro | refine And.intro (by first | exact AvLe.refl | exact AvLe.loose | exact AvLe.nil | exact AvLe.nilT | exact AvLe.slk) ?_)))) ?_))))) ?_
  simp only [go_sem]
  (repeat (refine ⟨by (first | exact True.intro | omega | rfl | (simp; done) | (simp; omega)), ?_⟩)); try (refine hKr _ ?_; clear hKr Kr)
  refine T.seqK fun K46 hK46 => ?_
  refine T.sregD 29 [0, 1, 2, 4, 5, 6, 8, 17] fun Kr hKr => ?_
  simp only [go_sem]
  (repeat (refine ⟨by (first | exact True.intro | omega | rfl | (simp; done) | (simp; omega)), ?_⟩)); try (refine hKr _ ?_; clear hKr Kr)
  refine T.condTD rfl rfl (fun hb => ?_) (fun hb => ?_) <;> simp at hb
  · -- yes
    have ee : witU p i = (noPast, (undU p i).2.2) := by unfold witU; rw [if_pos hb]
    have e2 : pastX (witU p i) = .agg [.sl true 1 [], .sl true 1 []] := by rw [ee]; unfold pastX; rw [if_neg hb]
    refine T.sregD 29 [0, 1, 2, 4, 5, 6, 8, 17] fun Kr hKr => ?_
    simp only [go_sem]
    (repeat (refine ⟨by (first | exact True.intro | omega | rfl | (simp; done) | (simp; omega)), ?_⟩)); try (refine hKr _ ?_; clear hKr Kr)
    refine T.ret ?_
    simp only [go_sem]
    exact ⟨ResCellD rfl rfl rfl rfl (by simp only [go_sem]) (by rw [e2]; simp only [go_sem]) (by rw [e2]; rfl), ResAtD (by rw [ee]; simp only [go_sem]) rfl rfl, trivial⟩
  obtain ⟨n, rfl, hn, c1, c2⟩ := und_nat hb
  obtain ⟨a, D', ha, hal, hu, hr, _⟩ := undU_eq h c1 c2
  have hl := undS_len hn
  have ee : witU p n = (⟨p.docs.set a D', (undS p n).take n ++ (undS p n).drop (n + 1)⟩, 0) := by unfold witU; rw [if_neg (by rw [hu]; simp), hu]; rfl
  have e2 : pastX (witU p n) = .agg [.sl false 2 (docsOf (p.docs.set a D')), .sl false 8 (stsOf ((undS p n).take n ++ (undS p n).drop (n + 1)))] := by rw [ee]; rfl
  rw [hu] at hb ⊢
  generalize p.docs.set a D' = S at *
  generalize undS p n = Q at *
  refine T.skip ?_
  refine hK46 _ ?_
  have s2 := cloneS_spec Q (by omega)
  have s3 := delete_spec Q n (by omega)
  have hT : (Q.take n ++ Q.drop (n + 1)).length = Q.length - 1 := by simp; omega
  generalize Q.take n ++ Q.drop (n + 1) = Q' at *
  refine T.sregO 29 [0, 1, 4, 5, 6, 7, 8] 6 (by decide) fun Kr hKr => ?_
  simp only [go_sem, List.take_succ_cons, List.take_zero, List.drop_succ_cons, List.drop_zero]
  refine CallK.own (Spec.args (s2) (by (first | exact ArgsLe.refl | (repeat (first | exact True.intro | refine And.intro (by first | exact AvLe.refl | exact AvLe.loose | exact AvLe.nil | exact AvLe.nilT | exact AvLe.slk | (refine AvLe.agg ?_; exact ArgsLe.refl) | (refine AvLe.agg ?_; (repeat (first | exact True.intro | refine And.intro (by first | exact AvLe.refl | exact AvLe.loose | exact AvLe.nil | exact AvLe.nilT | exact AvLe.slk) ?_)))) ?_))))) ?_
  simp only [go_sem, List.take_succ_cons, List.take_zero, List.drop_succ_cons, List.drop_zero]
  refine ⟨by omega, ?_⟩
  refine ⟨_, _, _, _, _, _, _, 37, 22, 0, Q.length, _, _, ⟨8, 51, false, stsOf Q⟩, .osl 0 0 (Q.length - 1), ⟨8, 51, false, stsOf Q'⟩, rfl, by simp only [go_sem], by simp only [go_sem], rfl, by simp only [go_sem], by simp only [go_sem], by simp only [go_sem], by simp only [go_sem], (by simp only [go_sem]; exact s3), (fun _ _ h => by cases h), by simp only [go_sem], ?_⟩
  simp only [go_sem, own_map, List.take_succ_cons, List.take_zero, List.drop_succ_cons, List.drop_zero]
  refine hKr _ ?_
  have hT2 : Q'.take (Q.length - 1) = Q' := List.take_of_length_le (by omega)
  refine T.sregD 29 [0, 1, 2, 4, 5, 6, 8, 17] fun Kr hKr => ?_
  simp only [go_sem, hT, hT2, Nat.le_refl]
  (repeat (refine ⟨by (first | exact True.intro | omega | rfl | (simp; done) | (simp; omega)), ?_⟩)); try (refine hKr _ ?_; clear hKr Kr)
  refine T.ret ?_
  simp only [go_sem, hT, hT2, Nat.le_refl]
  exact ⟨ResCellD rfl rfl rfl rfl (by simp only [go_sem]) (by rw [e2]; simp only [go_sem]) (by rw [e2]; rfl), ResAtD (by rw [ee]; simp only [go_sem]) rfl rfl, trivial⟩
end Go.Proofs

/- Undo, plainly: the steps that remain, done from nothing. -/
set_option linter.unusedVariables false
set_option linter.unusedSimpArgs false
namespace Go.Proofs
open Go Go.Ideal
set_option maxRecDepth 8000
set_option maxHeartbeats 4000000

/-- Without a step that was undone. -/
theorem good_skip {S : List Doc} {Q : List Stp} {n : Nat} (h : Good ⟨S, Q⟩) (hn : n < Q.length) (hu : (Q.getD n default).und = true) : Good ⟨S, Q.take n ++ Q.drop (n + 1)⟩ := by
  have hs : Q = Q.take n ++ Q.getD n default :: Q.drop (n + 1) := by rw [← drop_d hn]; simp
  have sub : (Q.take n ++ Q.drop (n + 1)).Sublist Q := by
    conv => rhs; rw [hs]
    exact List.Sublist.append (List.Sublist.refl _) (List.sublist_cons_self _ _)
  have mem : ∀ s ∈ Q.take n ++ Q.drop (n + 1), s ∈ Q := fun s hs => sub.subset hs
  refine ⟨h.dl, Nat.le_trans sub.length_le h.sl, fun a ha => ?_, fun s hs => h.com s (mem s hs), List.Pairwise.sublist sub h.dst, fun s hs => h.app s (mem s hs), fun s hs => h.txt s (mem s hs), fun s hs => h.idr s (mem s hs)⟩
  have hr := h.rep a ha
  simp only at hr ⊢
  rw [hs] at hr
  obtain ⟨D0, r0, r1⟩ := rep_split hr
  rw [rep_gone (.inr hu)] at r1
  rw [rep_join r0]
  exact r1
theorem repF_filter (app : Int) : ∀ (l : List Stp) (d : Doc), repF app (l.filter fun s => !s.und) d = repF app l d
  | [], _ => rfl
  | s :: l, d => by
    cases hu : s.und with
    | true =>
      rw [List.filter_cons, if_neg (by simp [hu]), rep_gone (.inr hu)]
      exact repF_filter app l d
    | false =>
      rw [List.filter_cons, if_pos (by simp [hu])]
      simp only [repF]
      rw [repF_filter app l d, repF_filter app l _]
theorem rep_take {app : Int} {Q : List Stp} {Dn : Doc} (h : repF app Q noDoc = (Dn, 0)) (k : Nat) : ∃ D, repF app (Q.take k) noDoc = (D, 0) ∧ OkD D ∧ repF app (Q.drop k) D = (Dn, 0) := by
  have hs : Q = Q.take k ++ Q.drop k := by simp
  rw [hs] at h
  obtain ⟨D, r0, r1⟩ := rep_split h
  exact ⟨D, r0, repF_ok _ _ _ _ noDoc_ok r0, r1⟩
/-- What the first steps that were not undone make. -/
def nowU (Q : List Stp) (k : Nat) : Past := ⟨[(repF 0 (Q.take k) noDoc).1, (repF 1 (Q.take k) noDoc).1], (Q.take k).filter fun s => !s.und⟩
theorem nowU_doc {Q : List Stp} {k a : Nat} (ha : a < 2) : (nowU Q k).docs.getD a default = (repF a (Q.take k) noDoc).1 := by
  match a, ha with
  | 0, _ => rfl
  | 1, _ => rfl
theorem now_good {S : List Doc} {Q : List Stp} (h : Good ⟨S, Q⟩) (h2 : S.length = 2) (k : Nat) : Good (nowU Q k) := by
  have sub : ((Q.take k).filter fun s => !s.und).Sublist Q := List.filter_sublist.trans (List.take_sublist k Q)
  have mem : ∀ s ∈ (Q.take k).filter fun s => !s.und, s ∈ Q := fun s hs => sub.subset hs
  refine ⟨by simp [nowU], Nat.le_trans sub.length_le h.sl, fun a ha => ?_, fun s hs => h.com s (mem s hs), List.Pairwise.sublist sub h.dst, fun s hs => ?_, fun s hs => h.txt s (mem s hs), fun s hs => h.idr s (mem s hs)⟩
  · have ha : a < 2 := by simpa [nowU] using ha
    obtain ⟨D, r0, _⟩ := rep_take (h.rep a (by simp only; omega)) k
    simp only at r0
    rw [nowU_doc ha]
    show repF a ((Q.take k).filter fun s => !s.und) noDoc = _
    rw [repF_filter, r0]
  · have := h.app s (mem s hs)
    simp only at this
    simp only [nowU, List.length_cons, List.length_nil]
    omega
theorem now_skip {Q : List Stp} {k : Nat} (hk : k < Q.length) (hu : (Q.getD k default).und = true) : nowU Q (k + 1) = nowU Q k := by
  unfold nowU
  rw [take_succ_d hk, List.filter_append]
  have e : ∀ a : Int, repF a (Q.take k ++ [Q.getD k default]) noDoc = repF a (Q.take k) noDoc ∨ (repF a (Q.take k) noDoc).2 ≠ 0 := fun a => by
    rw [repF_app]
    by_cases h : (repF a (Q.take k) noDoc).2 = 0
    · left
      rw [if_neg (by omega), rep_gone (.inr hu)]
      have : repF a [] (repF a (Q.take k) noDoc).1 = ((repF a (Q.take k) noDoc).1, 0) := rfl
      rw [this]
      exact Prod.ext rfl h.symm
    · exact .inr h
  have e2 : ∀ a : Int, (repF a (Q.take k ++ [Q.getD k default]) noDoc).1 = (repF a (Q.take k) noDoc).1 := fun a => by
    rcases e a with h | h
    · rw [h]
    · rw [repF_app, if_pos h, repF_no _ _ _ h]
  rw [e2, e2]
  simp [-List.getD_eq_getElem?_getD, hu]
theorem now_step {S : List Doc} {Q : List Stp} (h : Good ⟨S, Q⟩) (h2 : S.length = 2) {k : Nat} (hk : k < Q.length) (hu : (Q.getD k default).und = false) : doU (nowU Q k) (Q.getD k default) = (nowU Q (k + 1), 0) := by
  have hmem : Q.getD k default ∈ Q := by simp [List.getD, hk]
  obtain ⟨a1, a2⟩ := h.app _ hmem
  have hcom := h.com _ hmem
  have hidr := h.idr _ hmem
  simp only at a1 a2
  obtain ⟨a, ha⟩ : ∃ a : Nat, (Q.getD k default).app = a := ⟨(Q.getD k default).app.toNat, by omega⟩
  have ha2 : a < 2 := by omega
  obtain ⟨D, r0, oD, r1⟩ := rep_take (h.rep a (by simp only; omega)) k
  simp only at r0 r1
  rw [drop_d hk] at r1
  have ng : ¬ goneS a (Q.getD k default) := by rintro (g | g); exact g ha; rw [hu] at g; cases g
  obtain ⟨z, r2⟩ := rep_cons ng r1
  have hdoc : (nowU Q k).docs.getD a default = D := by rw [nowU_doc ha2, r0]
  have hsl := (now_good h h2 k).sl
  have hnh : (Q.getD k default).id ≥ 0 → hasS (nowU Q k).st (Q.getD k default).id = false := fun g => by
    cases hh : hasS (nowU Q k).st (Q.getD k default).id with
    | false => rfl
    | true =>
      obtain ⟨y, hy, he⟩ := List.any_eq_true.1 hh
      have hy2 : y ∈ Q.take k := (List.mem_filter.1 hy).1
      have hd := h.dst
      simp only at hd
      rw [show Q = Q.take k ++ Q.getD k default :: Q.drop (k + 1) by rw [← drop_d hk]; simp] at hd
      have := (List.pairwise_append.1 hd).2.2 y hy2 (Q.getD k default) (by simp)
      simp only [decide_eq_true_eq] at he
      exact absurd he.symm (this (by omega))
  have hl2 : (nowU Q k).docs.length = 2 := rfl
  unfold doU
  rw [if_neg (by rw [hl2, hu, ha]; simp [-List.getD_eq_getElem?_getD]; omega), if_neg (by omega), if_neg (by
    rintro ⟨g1, g2⟩
    rcases g2 with g2 | g2
    · exact g2 (hcom g1)
    · rw [hnh g1] at g2; cases g2), ha, Int.toNat_natCast, hdoc, if_neg (by rw [z]; simp)]
  congr 1
  unfold nowU
  rw [take_succ_d hk, List.filter_append]
  have hf : [Q.getD k default].filter (fun s => !s.und) = [Q.getD k default] := by simp [-List.getD_eq_getElem?_getD, hu]
  have e : ∀ b : Nat, b < 2 → (repF b (Q.take k ++ [Q.getD k default]) noDoc).1 = if b = a then (actF D (Q.getD k default)).1 else (repF b (Q.take k) noDoc).1 := fun b hb => by
    obtain ⟨E, q0, _, _⟩ := rep_take (h.rep b (by simp only; omega)) k
    simp only at q0
    rw [rep_join q0]
    split
    · rename_i hba
      subst hba
      rw [r0] at q0
      cases q0
      simp only [repF]
      rw [if_neg (by exact ng), if_neg (by rw [z]; simp)]
    · rename_i hba
      rw [rep_gone (.inl (by omega)), q0]; rfl
  have e0 := e 0 (by omega)
  have e1 := e 1 (by omega)
  simp only [Int.natCast_zero, Int.natCast_one] at e0 e1
  rw [hf]
  have f0 : (repF 0 (Q.take k ++ [Q.getD k default]) noDoc).1 = if 0 = a then (actF D (Q.getD k default)).1 else (repF 0 (Q.take k) noDoc).1 := e0
  have f1 : (repF 1 (Q.take k ++ [Q.getD k default]) noDoc).1 = if 1 = a then (actF D (Q.getD k default)).1 else (repF 1 (Q.take k) noDoc).1 := e1
  rw [f0, f1]
  match a, ha2 with
  | 0, _ => rfl
  | 1, _ => rfl
theorem now_end {S : List Doc} {Q : List Stp} (h : Good ⟨S, Q⟩) (h2 : S.length = 2) : (nowU Q Q.length).docs = S := by
  have r0 := h.rep 0 (by simp only; omega)
  have r1 := h.rep 1 (by simp only; omega)
  simp only at r0 r1
  unfold nowU
  rw [List.take_length]
  match S, h2 with
  | [A, B], _ =>
    have r0 : repF 0 Q noDoc = (A, 0) := r0
    have r1 : repF 1 Q noDoc = (B, 0) := r1
    rw [r0, r1]
theorem now_zero (Q : List Stp) : nowU Q 0 = ⟨List.replicate 2 noDoc, []⟩ := rfl
end Go.Proofs

/- Undo: a history in which the commit never was. -/
set_option linter.unusedVariables false
set_option linter.unusedSimpArgs false
namespace Go.Proofs
open Go Go.Ideal
set_option maxRecDepth 8000
set_option maxHeartbeats 4000000

theorem wit_eq {p : Past} {i a : Nat} (c : Cho p i a) : ((depU p i).1 ≠ [] → undU p i = (noPast, (depU p i).1, 320) ∧ witU p i = (noPast, 320)) ∧
    ∀ D', Und p i a D' → witU p i = (⟨p.docs.set a D', (undS p i).take i ++ (undS p i).drop (i + 1)⟩, 0) ∧ Good ⟨p.docs.set a D', (undS p i).take i ++ (undS p i).drop (i + 1)⟩ ∧ ((undS p i).take i ++ (undS p i).drop (i + 1)).length = p.st.length - 1 := by
  constructor
  · intro hw
    have e : undU p i = (noPast, (depU p i).1, 320) := by unfold undU; rw [if_neg (by rw [depU_inv.1.2 c.com]; simp), if_pos hw]
    exact ⟨e, by unfold witU; rw [e]; rfl⟩
  · intro D' U
    have hi := c.lt
    have hl := U.len
    refine ⟨by unfold witU; rw [U.eq]; rfl, good_skip U.good (by omega) ?_, by simp; omega⟩
    rw [(undS_at c hi).2.1]; simp
end Go.Proofs

