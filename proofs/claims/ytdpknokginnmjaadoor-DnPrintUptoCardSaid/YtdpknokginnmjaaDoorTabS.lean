/- attr.rows at every row. -/
import Derived.Test.YtdpknokginnmjaaDoorTabR
set_option linter.unusedVariables false
set_option linter.unusedSimpArgs false
namespace Go.Proofs.YtdpknokginnmjaaDoor
open Go.RowKit
set_option maxRecDepth 100000 in
set_option maxHeartbeats 1600000 in
theorem rows_later (k : Nat) (h0 : 31 ≤ k) (h : k < 62) (w : World) : Calls Tryd.prog 75 #[.int .i64 k] w (RowR k w) := by
  go_enter Tryd.func75, Tryd.ntmps75
  go_wp2_with (go_at_call 100; refine (later_any k h0 h _).mono ?_; rintro e w1 ⟨va, rfl, hv, hb⟩; unfold rowV; obtain ⟨A, c, hva⟩ := OwnR.shape hv; obtain ⟨hc, hf⟩ := bcell hb; have hz := hb.size; simp only [World.size_alloc] at hz hv; subst hva)
  refine bodyPost_ret (v := rowV k (.slice A (attrRow k).2.1.length c)) (by simp [results, Tryd.results75, go_sem, rowV, hc, hz]) rfl ⟨_, rfl, ?_, ?_⟩
  · refine OwnR.mono (B := w.heap.size + 1) ?_ (Nat.le_succ _)
    iterate 6 (refine OwnR.setCellLt ?_ (by simp) _)
    exact hv
  · have h1 := ((Below.refl w.heap.size w).alloc (Nat.le_refl _) _).trans (hb.mono (by simp))
    iterate 6 (refine Below.setCell ?_ (by simp) _)
    exact h1
theorem rows_any (k : Nat) (h : k < 62) (w : World) : Calls Tryd.prog 75 #[.int .i64 k] w (RowR k w) := by
  match k, h with
  | 0, _ => exact rows_0 w
  | 1, _ => exact rows_1 w
  | 2, _ => exact rows_2 w
  | 3, _ => exact rows_3 w
  | 4, _ => exact rows_4 w
  | 5, _ => exact rows_5 w
  | 6, _ => exact rows_6 w
  | 7, _ => exact rows_7 w
  | 8, _ => exact rows_8 w
  | 9, _ => exact rows_9 w
  | 10, _ => exact rows_10 w
  | 11, _ => exact rows_11 w
  | 12, _ => exact rows_12 w
  | 13, _ => exact rows_13 w
  | 14, _ => exact rows_14 w
  | 15, _ => exact rows_15 w
  | 16, _ => exact rows_16 w
  | 17, _ => exact rows_17 w
  | 18, _ => exact rows_18 w
  | 19, _ => exact rows_19 w
  | 20, _ => exact rows_20 w
  | 21, _ => exact rows_21 w
  | 22, _ => exact rows_22 w
  | 23, _ => exact rows_23 w
  | 24, _ => exact rows_24 w
  | 25, _ => exact rows_25 w
  | 26, _ => exact rows_26 w
  | 27, _ => exact rows_27 w
  | 28, _ => exact rows_28 w
  | 29, _ => exact rows_29 w
  | 30, _ => exact rows_30 w
  | k + 31, h => exact rows_later (k + 31) (by omega) h w
end Go.Proofs.YtdpknokginnmjaaDoor
