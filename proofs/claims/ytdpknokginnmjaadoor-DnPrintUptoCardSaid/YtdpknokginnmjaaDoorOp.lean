/- From the reading of a name to the name as data, and how much it holds. -/
import Derived.Test.YtdpknokginnmjaaDoorRows
import Derived.Test.YtdpknokginnmjaaDoorD0
import Derived.Deep.SlicePairs
set_option linter.unusedVariables false
set_option linter.unusedSimpArgs false
namespace Go.Proofs.YtdpknokginnmjaaDoor
open Go.RowKit Go.ChangeShapes Go.WideShapes Go.Deep
theorem spot_none {w : World} {a : Addr} {v : Value} (h : w.cell? a = some v) : ∃ b off, a = ⟨b, off, none⟩ := by
  obtain ⟨b, off, sp⟩ := a
  cases sp with
  | none => exact ⟨b, off, rfl⟩
  | some k => simp [World.cell?] at h; split at h <;> simp at h
theorem add_none (b off j : Nat) : (⟨b, off, none⟩ : Addr).add j = ⟨b, off + j, none⟩ := by unfold Addr.add; split <;> simp_all
theorem ls_inv (s : ByteArray) : s.data.toList.length = s.size := by show s.data.toList.length = s.data.size; exact Array.length_toList
theorem bulkAll_app {H : Type} (l r : List (DataW H)) : Rows.uptoBulkAll (l ++ r) = Rows.uptoBulkAll l + Rows.uptoBulkAll r := by
  induction l with
  | nil => simp [Rows.uptoBulkAll]
  | cons x l ih => simp only [List.cons_append, Rows.uptoBulkAll, ih]; omega
theorem bulkR_app (l r : RdnP) : bulkR (l ++ r) = bulkR l + bulkR r := by
  induction l with
  | nil => simp [bulkR]
  | cons x l ih => rw [List.cons_append, bulkR_cons, bulkR_cons, ih]; omega
theorem bulkD_app (l r : DnP) : bulkD (l ++ r) = bulkD l + bulkD r := by
  induction l with
  | nil => simp [bulkD]
  | cons x l ih => rw [List.cons_append, bulkD_cons, bulkD_cons, ih]; omega
theorem und_ava2 : Tryd.prog.cellsOf 55 = 2 := by kernel_rfl
theorem cells_rdn : Tryd.prog.cellsOf 47 = 1 := by kernel_rfl
theorem cells_strT : Tryd.prog.cellsOf 9 = 1 := by kernel_rfl
section
variable {H : Type} {enc : TypeId × Value → H} {W : World} {spare : Nat → Bool} {held : Bool}
theorem rdn_of_trod {fuel : Nat} {cs : List Value} {x : DataW H × List MemPlace} (h : DataW.trod enc Tryd.prog W 0 spare held fuel 47 cs = some x) :
    ∃ v r, cs = [v] ∧ IsRdn W v r ∧ bulkR r + 1 ≤ Rows.uptoBulk x.1 := by
  rcases open_slice_pairs (show Tryd.prog.underlying 47 = some (.slice 55) by kernel_rfl) Tryd.underlying55 und_ava2 rfl rfl cells_strT cells_strT h with ⟨rfl, rfl⟩ | ⟨a, len, cap, m, n, V0, V1, D0, D1, P0, P1, rfl, _, hlc, _, hm, rfl, hx⟩
  · exact ⟨_, [], rfl, ⟨none, 0, rfl, fun h => absurd h (by simp)⟩, by simp [bulkR, Rows.uptoBulk]⟩
  · have hlm : len ≤ m := by rw [hm]; split <;> omega
    have each : ∀ i, i < m → ∃ s : AvaP, V0 i = .string s.1 ∧ V1 i = .string s.2 ∧ D0 i = .lit (.string s.1.data.toList) ∧ D1 i = .lit (.string s.2.data.toList) := by
      intro i hi
      obtain ⟨_, _, h0, h1⟩ := hx i hi
      obtain ⟨s, e1, e2, _⟩ := DataW.trod_string (show Tryd.prog.underlying 9 = some .string by kernel_rfl) h0
      obtain ⟨s', e3, e4, _⟩ := DataW.trod_string (show Tryd.prog.underlying 9 = some .string by kernel_rfl) h1
      simp only [List.cons.injEq, and_true] at e1 e3
      simp only [Prod.mk.injEq] at e2 e4
      exact ⟨(s, s'), e1, e3, e2.1, e4.1⟩
    have : Inhabited AvaP := ⟨ava0⟩
    obtain ⟨f, hf⟩ := choose_lt each
    refine ⟨_, (List.range len).map f, rfl, ⟨some a, cap, by simp, fun hp => ?_⟩, ?_⟩
    · simp only [List.length_map, List.length_range] at hp
      obtain ⟨b, off, rfl⟩ := spot_none (by have := (hx 0 (by omega)).1; rw [show (0 : Nat) * 2 = 0 from rfl] at this; simpa [Addr.add] using this)
      refine ⟨b, off, rfl, fun j hj => ?_⟩
      simp only [List.length_map, List.length_range] at hj
      obtain ⟨c0, c1, _, _⟩ := hx j (by omega)
      obtain ⟨e0, e1, _, _⟩ := hf j (by omega)
      have eg : ((List.range len).map f).getD j ava0 = f j := by simp [List.getD_eq_getElem?_getD, hj]
      rw [eg, ← e0, ← e1]
      rw [add_none] at c0 c1
      exact ⟨c0, by rw [Nat.add_assoc]; exact c1⟩
    · have key : ∀ k, k ≤ len → bulkR ((List.range k).map f) ≤ Rows.uptoBulkAll ((List.range k).map fun i => DataW.agg [D0 i, D1 i]) := by
        intro k
        induction k with
        | zero => intro _; simp [bulkR, Rows.uptoBulkAll]
        | succ k ih =>
          intro hk
          obtain ⟨_, _, e2, e3⟩ := hf k (by omega)
          have := ih (by omega)
          rw [List.range_succ, List.map_append, List.map_append, bulkR_app, bulkAll_app]
          have e4 : bulkR [f k] = (f k).1.size + (f k).2.size + 2 := by simp [bulkR]
          simp only [List.map_cons, List.map_nil, e2, e3, e4, Rows.uptoBulkAll, Rows.uptoBulk, ls_inv]
          omega
      have := key len (Nat.le_refl _)
      simp only [Rows.uptoBulk]
      omega
theorem dn_of_trod {fuel : Nat} {cs : List Value} {x : DataW H × List MemPlace} (h : DataW.trod enc Tryd.prog W 0 spare held fuel 23 cs = some x) :
    ∃ v d, cs = [v] ∧ IsDn W v d ∧ bulkD d + 1 ≤ Rows.uptoBulk x.1 := by
  rcases open_slice1 (show Tryd.prog.underlying 23 = some (.slice 47) by kernel_rfl) cells_rdn h with ⟨rfl, rfl⟩ | ⟨a, len, cap, m, n, V, D, Pl, rfl, _, hlc, _, hm, rfl, hx⟩
  · exact ⟨_, [], rfl, ⟨none, 0, rfl, fun h => absurd h (by simp)⟩, by simp [bulkD, Rows.uptoBulk]⟩
  · have hlm : len ≤ m := by rw [hm]; split <;> omega
    have each : ∀ i, i < m → ∃ r : RdnP, IsRdn W (V i) r ∧ bulkR r + 1 ≤ Rows.uptoBulk (D i) := by
      intro i hi
      obtain ⟨_, h1⟩ := hx i hi
      obtain ⟨v, r, e, hr, hb⟩ := rdn_of_trod h1
      simp only [List.cons.injEq, and_true] at e
      subst e
      exact ⟨r, hr, hb⟩
    obtain ⟨f, hf⟩ := choose_lt each
    refine ⟨_, (List.range len).map f, rfl, ⟨some a, cap, by simp, fun hp => ?_⟩, ?_⟩
    · simp only [List.length_map, List.length_range] at hp
      obtain ⟨b, off, rfl⟩ := spot_none (by have := (hx 0 (by omega)).1; simpa [Addr.add] using this)
      refine ⟨b, off, rfl, fun j hj => ?_⟩
      simp only [List.length_map, List.length_range] at hj
      obtain ⟨c0, _⟩ := hx j (by omega)
      have eg : ((List.range len).map f).getD j [] = f j := by simp [List.getD_eq_getElem?_getD, hj]
      rw [eg]
      rw [add_none] at c0
      exact ⟨V j, c0, (hf j (by omega)).1⟩
    · have key : ∀ k, k ≤ len → bulkD ((List.range k).map f) ≤ Rows.uptoBulkAll ((List.range k).map D) := by
        intro k
        induction k with
        | zero => intro _; simp [bulkD, Rows.uptoBulkAll]
        | succ k ih =>
          intro hk
          have e2 := (hf k (by omega)).2
          have := ih (by omega)
          rw [List.range_succ, List.map_append, List.map_append, bulkD_app, bulkAll_app]
          have e4 : bulkD [f k] = bulkR (f k) + 1 := by simp [bulkD]
          simp only [List.map_cons, List.map_nil, e4, Rows.uptoBulkAll]
          omega
      have := key len (Nat.le_refl _)
      simp only [Rows.uptoBulk]
      omega
end
end Go.Proofs.YtdpknokginnmjaaDoor
