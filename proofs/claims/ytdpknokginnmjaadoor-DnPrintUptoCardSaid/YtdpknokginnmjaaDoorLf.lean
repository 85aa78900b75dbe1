/- From the listed variables to the walk's facts: the table, errors' handle, the ten reasons. -/
import Derived.Test.YtdpknokginnmjaaDoorRows
import Derived.Test.YtdpknokginnmjaaDoorFa
import Derived.Test.YtdpknokginnmjaaDoorRs
import Derived.Stop.LaidErr
import Derived.Lib.LaidTab
import Derived.LaidHandle
set_option linter.unusedVariables false
set_option linter.unusedSimpArgs false
namespace Go.Proofs.YtdpknokginnmjaaDoor
open Go.RowKit Go.ChangeShapes Go.WideShapes
theorem lf_star : "*" ++ "errors.errorString" = "*errors.errorString" := by decide
theorem lf_row (u : TypeId) (h : Tryd.prog.typeName? 3 u = some "*errors.errorString") : u = 224 :=
  typeName_ptr_named (nm := "errors.errorString") (by rw [lf_star]; kernel_rfl) (by kernel_rfl) (by decide) u (by rw [lf_star]; exact h)
theorem lf_cells : Tryd.prog.cellsOf 243 = 1 := by kernel_rfl
theorem lf_cellsS : Tryd.prog.cellsOf 9 = 1 := by kernel_rfl
/-- One listed reason: its pointer, its text, its block. -/
theorem laid_sent {P : Program} {n nm : String} {text : List UInt8} {r : List (String × DataW Unit)} {W : World} {g : Nat} {ti tp te ts : TypeId} {ms : Array (String × TypeId)} {f : Field}
    (h : laidMet P ((n, .iface nm (.ptr (.agg [.lit (.string text)]))) :: r) W)
    (hg : P.globalNamed n = some g) (ht : (P.globals[g]?).map (·.type) = some ti) (hi : P.underlying ti = some (.interface ms)) (hrow : ∀ u, P.typeName? 3 u = some nm → u = tp)
    (hp : P.underlying tp = some (.pointer te)) (he : P.underlying te = some (.struct #[f])) (hft : f.type = ts) (hfo : f.offset = 0) (hs : P.underlying ts = some .string) (hc : P.cellsOf te = 1) (hcs : P.cellsOf ts = 1) :
    ∃ (a : Addr) (s : ByteArray) (c : Array Value) (t : TypeId), W.cell? ⟨g, 0, none⟩ = some (.iface tp (.pointer (some a))) ∧ W.cell? a = some (.string s) ∧ s.data.toList = text ∧ W.heap[a.block]? = some (.cells c t (0, 0)) := by
  obtain ⟨ps, ⟨g0, t0, cs0, f0, p0, q0, hg0, ht0, hv0, hd0, _, e0⟩, _, hrows⟩ := h
  obtain rfl := Option.some.inj (hg.symm.trans hg0)
  obtain rfl := Option.some.inj (ht.symm.trans ht0)
  subst e0
  obtain ⟨l0⟩ := cs0
  have ok0 : ∀ u v, l0 = [.iface u v] → Value.okWide P W .any 0 u v := fun u v e => by
    subst e
    exact (hrows g 0 (by simp [MemPlace.row])).2 u v (by simpa using World.var?_cell hg0 hv0 0)
  obtain ⟨a0, s0, rfl, hc0, hs0, hz0, rfl⟩ := errorString_of_trod hi hrow hp he hft hfo hs hc hcs hd0 ok0
  obtain ⟨c, t, hb⟩ := (hrows a0.block a0.off (by simp [MemPlace.row])).1
  exact ⟨a0, s0, c, t, by simpa using World.var?_cell hg0 hv0 0, hc0, hs0, hb⟩
theorem sent_ne {W : World} {a b : Addr} {s t : ByteArray} {l m : List UInt8} (h1 : W.cell? a = some (.string s)) (h2 : W.cell? b = some (.string t)) (e1 : s.data.toList = l) (e2 : t.data.toList = m) (hne : l ≠ m) : a ≠ b := by
  rintro rfl
  rw [h1] at h2
  simp only [Option.some.injEq, Value.string.injEq] at h2
  exact hne (by rw [← e1, ← e2, h2])
theorem oneRowT : ((List.range 255).filter fun t => Tryd.prog.rowNamed t [101, 114, 114, 111, 114]) = [26] := by kernel_rfl
theorem sizeT : Tryd.prog.types.size = 255 := by kernel_rfl
theorem handle_met {W : World} (h : handlesMet Tryd.prog [("errors.errorType", Rows.laid_errors_errorType)] W) : HasType W := by
  obtain ⟨name, u, ty, e1, e2, e3, e4, e5⟩ := h _ (List.mem_singleton.2 rfl)
  have en : name = [101, 114, 114, 111, 114] := (Option.some.inj e1).symm
  subst en
  obtain rfl := Option.some.inj ((show (Tryd.prog.cutTypes.find? (·.1 == "internal/reflectlite.rtype")).map (·.2) = some 143 by kernel_rfl).symm.trans e2)
  have hm : ty ∈ (List.range 255).filter fun t => Tryd.prog.rowNamed t [101, 114, 114, 111, 114] := List.mem_filter.2 ⟨List.mem_range.2 (by rw [← sizeT]; exact e3), e4⟩
  rw [oneRowT] at hm
  obtain rfl := List.mem_singleton.1 hm
  rw [show typeHandle Tryd.prog 26 = .pointer (some ⟨13, 26, none⟩) by kernel_rfl] at e5
  unfold HasType
  simpa using World.var?_cell (show Tryd.prog.globalNamed "errors.errorType" = some 10 by kernel_rfl) e5 0
theorem errs_met {W : World} (h0 : laidMet Tryd.prog [("roster/dn.ErrLong", Rows.laid_roster_dn_ErrLong), ("roster/dn.ErrUTF8", Rows.laid_roster_dn_ErrUTF8), ("roster/dn.ErrType", Rows.laid_roster_dn_ErrType), ("roster/dn.ErrEquals", Rows.laid_roster_dn_ErrEquals), ("roster/dn.ErrEscape", Rows.laid_roster_dn_ErrEscape), ("roster/dn.ErrChar", Rows.laid_roster_dn_ErrChar), ("roster/dn.ErrHex", Rows.laid_roster_dn_ErrHex), ("roster/dn.ErrTwice", Rows.laid_roster_dn_ErrTwice), ("roster/dn.ErrWide", Rows.laid_roster_dn_ErrWide), ("roster/dn.ErrMade", Rows.laid_roster_dn_ErrMade)] W) : ∃ E : Nat → Addr, Errs W E := by
  obtain ⟨a0, s0, c0, t0, g0, x0, e0, r0⟩ := laid_sent h0 (g := 0) (by kernel_rfl) (by kernel_rfl) Tryd.underlying26 lf_row Tryd.underlying224 Tryd.underlying243 rfl rfl Tryd.underlying9 lf_cells lf_cellsS
  have h1 := laidMet.tail h0
  obtain ⟨a1, s1, c1, t1, g1, x1, e1, r1⟩ := laid_sent h1 (g := 1) (by kernel_rfl) (by kernel_rfl) Tryd.underlying26 lf_row Tryd.underlying224 Tryd.underlying243 rfl rfl Tryd.underlying9 lf_cells lf_cellsS
  have h2 := laidMet.tail h1
  obtain ⟨a2, s2, c2, t2, g2, x2, e2, r2⟩ := laid_sent h2 (g := 2) (by kernel_rfl) (by kernel_rfl) Tryd.underlying26 lf_row Tryd.underlying224 Tryd.underlying243 rfl rfl Tryd.underlying9 lf_cells lf_cellsS
  have h3 := laidMet.tail h2
  obtain ⟨a3, s3, c3, t3, g3, x3, e3, r3⟩ := laid_sent h3 (g := 3) (by kernel_rfl) (by kernel_rfl) Tryd.underlying26 lf_row Tryd.underlying224 Tryd.underlying243 rfl rfl Tryd.underlying9 lf_cells lf_cellsS
  have h4 := laidMet.tail h3
  obtain ⟨a4, s4, c4, t4, g4, x4, e4, r4⟩ := laid_sent h4 (g := 4) (by kernel_rfl) (by kernel_rfl) Tryd.underlying26 lf_row Tryd.underlying224 Tryd.underlying243 rfl rfl Tryd.underlying9 lf_cells lf_cellsS
  have h5 := laidMet.tail h4
  obtain ⟨a5, s5, c5, t5, g5, x5, e5, r5⟩ := laid_sent h5 (g := 5) (by kernel_rfl) (by kernel_rfl) Tryd.underlying26 lf_row Tryd.underlying224 Tryd.underlying243 rfl rfl Tryd.underlying9 lf_cells lf_cellsS
  have h6 := laidMet.tail h5
  obtain ⟨a6, s6, c6, t6, g6, x6, e6, r6⟩ := laid_sent h6 (g := 6) (by kernel_rfl) (by kernel_rfl) Tryd.underlying26 lf_row Tryd.underlying224 Tryd.underlying243 rfl rfl Tryd.underlying9 lf_cells lf_cellsS
  have h7 := laidMet.tail h6
  obtain ⟨a7, s7, c7, t7, g7, x7, e7, r7⟩ := laid_sent h7 (g := 7) (by kernel_rfl) (by kernel_rfl) Tryd.underlying26 lf_row Tryd.underlying224 Tryd.underlying243 rfl rfl Tryd.underlying9 lf_cells lf_cellsS
  have h8 := laidMet.tail h7
  obtain ⟨a8, s8, c8, t8, g8, x8, e8, r8⟩ := laid_sent h8 (g := 8) (by kernel_rfl) (by kernel_rfl) Tryd.underlying26 lf_row Tryd.underlying224 Tryd.underlying243 rfl rfl Tryd.underlying9 lf_cells lf_cellsS
  have h9 := laidMet.tail h8
  obtain ⟨a9, s9, c9, t9, g9, x9, e9, r9⟩ := laid_sent h9 (g := 9) (by kernel_rfl) (by kernel_rfl) Tryd.underlying26 lf_row Tryd.underlying224 Tryd.underlying243 rfl rfl Tryd.underlying9 lf_cells lf_cellsS
  refine ⟨fun k => [a0, a1, a2, a3, a4, a5, a6, a7, a8, a9].getD k a0, ⟨g0, g1, g2, g3, g4, g5, g6, g7, g8, g9, ?_, ?_⟩⟩
  · intro k hk
    match k, hk with
    | 0, _ => exact ⟨_, _, r0⟩
    | 1, _ => exact ⟨_, _, r1⟩
    | 2, _ => exact ⟨_, _, r2⟩
    | 3, _ => exact ⟨_, _, r3⟩
    | 4, _ => exact ⟨_, _, r4⟩
    | 5, _ => exact ⟨_, _, r5⟩
    | 6, _ => exact ⟨_, _, r6⟩
    | 7, _ => exact ⟨_, _, r7⟩
    | 8, _ => exact ⟨_, _, r8⟩
    | 9, _ => exact ⟨_, _, r9⟩
  · have key : ∀ j k, j < k → k < 10 → [a0, a1, a2, a3, a4, a5, a6, a7, a8, a9].getD j a0 ≠ [a0, a1, a2, a3, a4, a5, a6, a7, a8, a9].getD k a0 := by
      intro j k hjk hk
      match j, k, hjk, hk with
      | 0, 1, _, _ => exact sent_ne x0 x1 e0 e1 (by decide)
      | 0, 2, _, _ => exact sent_ne x0 x2 e0 e2 (by decide)
      | 0, 3, _, _ => exact sent_ne x0 x3 e0 e3 (by decide)
      | 0, 4, _, _ => exact sent_ne x0 x4 e0 e4 (by decide)
      | 0, 5, _, _ => exact sent_ne x0 x5 e0 e5 (by decide)
      | 0, 6, _, _ => exact sent_ne x0 x6 e0 e6 (by decide)
      | 0, 7, _, _ => exact sent_ne x0 x7 e0 e7 (by decide)
      | 0, 8, _, _ => exact sent_ne x0 x8 e0 e8 (by decide)
      | 0, 9, _, _ => exact sent_ne x0 x9 e0 e9 (by decide)
      | 1, 2, _, _ => exact sent_ne x1 x2 e1 e2 (by decide)
      | 1, 3, _, _ => exact sent_ne x1 x3 e1 e3 (by decide)
      | 1, 4, _, _ => exact sent_ne x1 x4 e1 e4 (by decide)
      | 1, 5, _, _ => exact sent_ne x1 x5 e1 e5 (by decide)
      | 1, 6, _, _ => exact sent_ne x1 x6 e1 e6 (by decide)
      | 1, 7, _, _ => exact sent_ne x1 x7 e1 e7 (by decide)
      | 1, 8, _, _ => exact sent_ne x1 x8 e1 e8 (by decide)
      | 1, 9, _, _ => exact sent_ne x1 x9 e1 e9 (by decide)
      | 2, 3, _, _ => exact sent_ne x2 x3 e2 e3 (by decide)
      | 2, 4, _, _ => exact sent_ne x2 x4 e2 e4 (by decide)
      | 2, 5, _, _ => exact sent_ne x2 x5 e2 e5 (by decide)
      | 2, 6, _, _ => exact sent_ne x2 x6 e2 e6 (by decide)
      | 2, 7, _, _ => exact sent_ne x2 x7 e2 e7 (by decide)
      | 2, 8, _, _ => exact sent_ne x2 x8 e2 e8 (by decide)
      | 2, 9, _, _ => exact sent_ne x2 x9 e2 e9 (by decide)
      | 3, 4, _, _ => exact sent_ne x3 x4 e3 e4 (by decide)
      | 3, 5, _, _ => exact sent_ne x3 x5 e3 e5 (by decide)
      | 3, 6, _, _ => exact sent_ne x3 x6 e3 e6 (by decide)
      | 3, 7, _, _ => exact sent_ne x3 x7 e3 e7 (by decide)
      | 3, 8, _, _ => exact sent_ne x3 x8 e3 e8 (by decide)
      | 3, 9, _, _ => exact sent_ne x3 x9 e3 e9 (by decide)
      | 4, 5, _, _ => exact sent_ne x4 x5 e4 e5 (by decide)
      | 4, 6, _, _ => exact sent_ne x4 x6 e4 e6 (by decide)
      | 4, 7, _, _ => exact sent_ne x4 x7 e4 e7 (by decide)
      | 4, 8, _, _ => exact sent_ne x4 x8 e4 e8 (by decide)
      | 4, 9, _, _ => exact sent_ne x4 x9 e4 e9 (by decide)
      | 5, 6, _, _ => exact sent_ne x5 x6 e5 e6 (by decide)
      | 5, 7, _, _ => exact sent_ne x5 x7 e5 e7 (by decide)
      | 5, 8, _, _ => exact sent_ne x5 x8 e5 e8 (by decide)
      | 5, 9, _, _ => exact sent_ne x5 x9 e5 e9 (by decide)
      | 6, 7, _, _ => exact sent_ne x6 x7 e6 e7 (by decide)
      | 6, 8, _, _ => exact sent_ne x6 x8 e6 e8 (by decide)
      | 6, 9, _, _ => exact sent_ne x6 x9 e6 e9 (by decide)
      | 7, 8, _, _ => exact sent_ne x7 x8 e7 e8 (by decide)
      | 7, 9, _, _ => exact sent_ne x7 x9 e7 e9 (by decide)
      | 8, 9, _, _ => exact sent_ne x8 x9 e8 e9 (by decide)
      | n + 9, k, h, h2 => exact absurd h (by omega)
    intro j k hj hk hne
    rcases Nat.lt_or_gt_of_ne hne with h | h
    · exact key j k h hk
    · exact (key k j h hj).symm
end Go.Proofs.YtdpknokginnmjaaDoor
