/- From the listed table to its cells. -/
import Derived.Test.YtdpknokginnmjaaDoorRows
import Derived.Test.YtdpknokginnmjaaDoorRs
import Derived.Stop.LaidErr
import Derived.Lib.LaidTab
set_option linter.unusedVariables false
set_option linter.unusedSimpArgs false
namespace Go.Proofs.YtdpknokginnmjaaDoor
open Go.RowKit Go.ChangeShapes Go.WideShapes
def tabZ (r : Nat) : List Int := (List.range 9).map fun j => (rowCells r).getD j 0
theorem tabZ_at (r j : Nat) (hj : j < 9) : (tabZ r).getD j 0 = (rowCells r).getD j 0 := by
  unfold tabZ
  simp [List.getD_eq_getElem?_getD, hj]
theorem tab_datum {H : Type} : (Rows.laid_roster_rosterref01_rows : DataW H) = .agg (((List.range 9).map tabZ).map fun z => Lib.tabData .i64 z) := by rfl
theorem cells_of_tabs {H : Type} {enc : TypeId × Value → H} {P : Program} {w : World} {base : Nat} {sp : Nat → Bool} {held : Bool} {fuel : Nat} {t u e : TypeId} {n m : Nat} {k : IntKind} {cs : List Value} {zs : List (List Int)} {p : List MemPlace}
    (ht : P.underlying t = some (.array m u)) (hu : P.underlying u = some (.array n e)) (he : P.underlying e = some (.int k)) (hce : P.cellsOf e = 1) (hcu : P.cellsOf u = n)
    (h : DataW.trod enc P w base sp held fuel t cs = some (.agg (zs.map fun z => Lib.tabData k z), p)) : ∀ r, r < m → ∃ z, zs[r]? = some z ∧ (cs.drop (r * n)).take n = z.map fun x => Value.int k x := by
  cases fuel with
  | zero => simp [DataW.trod] at h
  | succ fuel =>
    simp only [DataW.trod, ht, hcu] at h
    split at h
    · obtain ⟨xs, hm, hx⟩ := Option.map_eq_some_iff.1 h
      have hxs : xs.map (·.1) = zs.map fun z => (Lib.tabData k z : DataW H) := by
        have := congrArg Prod.fst hx
        simpa using this
      intro r hr
      obtain ⟨b, hb, hf⟩ := Lib.mapM_at hm r r (by simp [hr])
      have h2 : (xs.map (·.1))[r]? = some b.1 := by simp [hb]
      rw [hxs, List.getElem?_map] at h2
      obtain ⟨z, hz, he2⟩ := Option.map_eq_some_iff.1 h2
      refine ⟨z, hz, ?_⟩
      obtain ⟨d, q⟩ := b
      simp only at he2
      subst he2
      exact Lib.cells_of_tab hu he hce hcu hf
    · cases h
theorem tab_met {r : List (String × DataW Unit)} {W : World} (h : laidMet Tryd.prog (("roster/rosterref01.rows", Rows.laid_roster_rosterref01_rows) :: r) W) : Utf8Tab W := by
  obtain ⟨ps, ⟨g0, t0, cs0, f0, p0, q0, hg0, ht0, hv0, hd0, _, e0⟩, _, hrows⟩ := h
  obtain rfl := Option.some.inj ((show Tryd.prog.globalNamed "roster/rosterref01.rows" = some 12 by kernel_rfl).symm.trans hg0)
  obtain rfl := Option.some.inj ((show (Tryd.prog.globals[12]?).map (·.type) = some 198 by kernel_rfl).symm.trans ht0)
  rw [tab_datum] at hd0
  have key := cells_of_tabs Tryd.underlying198 Tryd.underlying197 Tryd.underlying3 (by kernel_rfl) (by kernel_rfl) hd0
  intro i hi j hj
  obtain ⟨z, hz, hc⟩ := key i hi
  have ez : z = tabZ i := by
    simp [hi] at hz
    exact hz.symm
  subst ez
  have h1 := World.var?_cell hg0 hv0 (i * 9 + j)
  rw [h1]
  have h2 := congrArg (·[j]?) hc
  simp only [List.getElem?_take, hj, if_true, List.getElem?_drop, List.getElem?_map, Array.getElem?_toList] at h2
  rw [h2, ← tabZ_at i j hj]
  have : j < (tabZ i).length := by simp [tabZ, hj]
  simp [List.getD_eq_getElem?_getD, List.getElem?_eq_getElem this]
end Go.Proofs.YtdpknokginnmjaaDoor
