/- The row DnPrint (the second form): from the walk to the statement. -/
import Derived.Test.YtdpknokginnmjaaDoorCards
import Derived.Test.YtdpknokginnmjaaDoorTie
import Derived.Test.YtdpknokginnmjaaDoorLp
import Derived.Test.YtdpknokginnmjaaDoorOp
import Derived.Test.YtdpknokginnmjaaDoorLf
import Derived.Test.YtdpknokginnmjaaDoorLt
import Derived.ProofKit
import Derived.OpenShut
import Derived.LaidMore
import Derived.Deep.DeepHandedRow
import Derived.Deep.DeepWitnessRowRef
set_option linter.unusedVariables false
set_option linter.unusedSimpArgs false
namespace Go.Proofs.YtdpknokginnmjaaDoor.dnPrint
open Go.ChangeShapes Go.WideShapes Go.ChangeAt Go.RowKit
theorem laidOut0 : laidOutB Tryd.prog = true := by kernel_rfl
theorem own : ownKnob Tryd.prog.godebug = none := by kernel_rfl
theorem facts {W : World} (h : laidMetH Tryd.prog Rows.dnPrintRow.laid W) : (∃ E, Errs W E) ∧ HasType W ∧ Utf8Tab W := by
  have h' : laidMet Tryd.prog (("roster/rosterref01.rows", Rows.laid_roster_rosterref01_rows) :: [("roster/dn.ErrLong", Rows.laid_roster_dn_ErrLong), ("roster/dn.ErrUTF8", Rows.laid_roster_dn_ErrUTF8), ("roster/dn.ErrType", Rows.laid_roster_dn_ErrType), ("roster/dn.ErrEquals", Rows.laid_roster_dn_ErrEquals), ("roster/dn.ErrEscape", Rows.laid_roster_dn_ErrEscape), ("roster/dn.ErrChar", Rows.laid_roster_dn_ErrChar), ("roster/dn.ErrHex", Rows.laid_roster_dn_ErrHex), ("roster/dn.ErrTwice", Rows.laid_roster_dn_ErrTwice), ("roster/dn.ErrWide", Rows.laid_roster_dn_ErrWide), ("roster/dn.ErrMade", Rows.laid_roster_dn_ErrMade)]) W ∧ handlesMet Tryd.prog [("errors.errorType", Rows.laid_errors_errorType)] W := h
  exact ⟨errs_met h'.1.tail, handle_met h'.2, tab_met h'.1⟩
set_option maxRecDepth 100000 in
theorem contract (H : Type) (enc : TypeId × Value → H) (W : World) (base : Nat) (args : Array Value) (ds gs : List (DataW H)) (before : List MemPlace)
    (hval : ∀ (j : Nat) t v, Tryd.f3.params[j]? = some t → args[j]? = some v → Value.okWide Tryd.prog W .any base t v)
    (hW : DataW.Whole enc Tryd.prog Tryd.f3.params.toList Rows.dnPrintSpec.vars false W args.toList ds gs before) (hL : laidMetH Tryd.prog Rows.dnPrintRow.laid W) (hk : Rows.uptoSmall H (ds ++ gs) = true) :
    Calls Tryd.prog 3 args W fun e W' => ∃ v, e = .returned v ∧ Rows.dnPrintSpec.post enc Tryd.prog Tryd.f3 false true false false W args v W' := by
  have hW' := hW
  obtain ⟨p, q, hA0, hV, rfl, hfz, hnd⟩ := hW
  have hA : DataW.TrodAll enc Tryd.prog W 0 (fun _ => true) true Tryd.f3.params.toList args.toList ds p := hA0
  rw [Tryd.params3] at hA hval
  obtain ⟨v0, vs0, d0, ds0, p0, q0, hargs, rfl, rfl, h0, r0⟩ := trodAll_cons hA
  obtain ⟨rfl, rfl, rfl⟩ := trodAll_nil r0
  obtain rfl : args = #[v0] := by cases args; simp_all
  obtain ⟨rfl, rfl⟩ := trodVars_none hV
  have h0k := h0
  obtain ⟨fuel, h0⟩ := h0
  obtain ⟨v, d, hv, hd, hb⟩ := dn_of_trod h0
  obtain ⟨a, n, c, rfl⟩ := okWide_slice Tryd.underlying23 (hval 0 23 v0 (by simp) (by simp))
  obtain rfl : v = .slice a n c := by simpa [Value.cells] using hv.symm
  have hbk : bulkD d ≤ 1048576 := by
    have h1 := hk
    unfold Rows.uptoSmall at h1
    rw [decide_eq_true_eq] at h1
    simp only [List.append_nil, Rows.uptoBulkAll] at h1
    simp only at hb
    omega
  obtain ⟨⟨E, hE⟩, hT, hU⟩ := facts hL
  refine (dnprint_any d _ W E hd hbk hE hT hU).mono fun e W' ⟨he, hbel⟩ => ?_
  subst he
  refine ⟨_, rfl, _, _, _, [], p0, [], hW', ?_, ?_, rfl, hbel.frame _, fun h => by cases h⟩
  · rw [show Rows.dnPrintSpec.fn H ([d0] ++ []) = { results := [.lit (.bool true)], args := [d0] } from rfl]
    exact trodAll_mk1 (shut_bool Tryd.underlying4 true)
  · exact trodAll_mk1 (Below.trod laidOut0 (by kernel_rfl) (of_decide_eq_true (by kernel_rfl)) h0k hbel (fun x hx => by simpa using hW'.lt x (by simpa using hx)))
end Go.Proofs.YtdpknokginnmjaaDoor.dnPrint
