/- attr.rows and attr.later by walks, a row each. -/
import Derived.Test.YtdpknokginnmjaaDoorB
import Derived.Test.YtdpknokginnmjaaDoorTabD
set_option linter.unusedVariables false
set_option linter.unusedSimpArgs false
namespace Go.Proofs.YtdpknokginnmjaaDoor
open Go.RowKit
def rowV (k : Nat) (va : Value) : Value := .agg #[.string (attrRow k).1, va, .string (attrRow k).2.2.1, .string (attrRow k).2.2.2.1, .int .i64 (attrRow k).2.2.2.2.1, .int .i64 (attrRow k).2.2.2.2.2]
def RowR (k : Nat) (w : World) (e : Ending) (w' : World) : Prop := ∃ va, e = .returned (rowV k va) ∧ OwnS w' w.heap.size va (attrRow k).2.1 ∧ Below w.heap.size w w'
set_option maxRecDepth 100000 in
set_option maxHeartbeats 1600000 in
theorem later_31 (w : World) : Calls Tryd.prog 100 #[.int .i64 31] w (RowR 31 w) := by
  go_enter Tryd.func100, Tryd.ntmps100
  go_wp2
  refine bodyPost_ret (v := rowV 31 (.slice (some ⟨w.heap.size + 1, 0, none⟩) 1 1)) (by simp [results, Tryd.results100, go_sem, rowV, attrRow]) rfl ⟨_, rfl, ?_, (by repeat (first | exact Below.refl _ _ | assumption | apply Below.drew | apply below_drewN | refine Below.setCell ?_ (by simp) _ | refine Below.alloc ?_ (by simp; try omega) _))⟩
  exact OwnS.one (by simpa using heap_alloc_new (w.alloc _) (.cells #[.string ⟨#[103, 110]⟩] 9)) (by omega)
set_option maxRecDepth 100000 in
set_option maxHeartbeats 1600000 in
theorem later_32 (w : World) : Calls Tryd.prog 100 #[.int .i64 32] w (RowR 32 w) := by
  go_enter Tryd.func100, Tryd.ntmps100
  go_wp2
  refine bodyPost_ret (v := rowV 32 (.slice none 0 0)) (by simp [results, Tryd.results100, go_sem, rowV, attrRow]) rfl ⟨_, rfl, ?_, (by repeat (first | exact Below.refl _ _ | assumption | apply Below.drew | apply below_drewN | refine Below.setCell ?_ (by simp) _ | refine Below.alloc ?_ (by simp; try omega) _))⟩
  exact OwnR.nil _ _
set_option maxRecDepth 100000 in
set_option maxHeartbeats 1600000 in
theorem later_33 (w : World) : Calls Tryd.prog 100 #[.int .i64 33] w (RowR 33 w) := by
  go_enter Tryd.func100, Tryd.ntmps100
  go_wp2
  refine bodyPost_ret (v := rowV 33 (.slice none 0 0)) (by simp [results, Tryd.results100, go_sem, rowV, attrRow]) rfl ⟨_, rfl, ?_, (by repeat (first | exact Below.refl _ _ | assumption | apply Below.drew | apply below_drewN | refine Below.setCell ?_ (by simp) _ | refine Below.alloc ?_ (by simp; try omega) _))⟩
  exact OwnR.nil _ _
set_option maxRecDepth 100000 in
set_option maxHeartbeats 1600000 in
theorem later_34 (w : World) : Calls Tryd.prog 100 #[.int .i64 34] w (RowR 34 w) := by
  go_enter Tryd.func100, Tryd.ntmps100
  go_wp2
  refine bodyPost_ret (v := rowV 34 (.slice none 0 0)) (by simp [results, Tryd.results100, go_sem, rowV, attrRow]) rfl ⟨_, rfl, ?_, (by repeat (first | exact Below.refl _ _ | assumption | apply Below.drew | apply below_drewN | refine Below.setCell ?_ (by simp) _ | refine Below.alloc ?_ (by simp; try omega) _))⟩
  exact OwnR.nil _ _
set_option maxRecDepth 100000 in
set_option maxHeartbeats 1600000 in
theorem later_35 (w : World) : Calls Tryd.prog 100 #[.int .i64 35] w (RowR 35 w) := by
  go_enter Tryd.func100, Tryd.ntmps100
  go_wp2
  refine bodyPost_ret (v := rowV 35 (.slice none 0 0)) (by simp [results, Tryd.results100, go_sem, rowV, attrRow]) rfl ⟨_, rfl, ?_, (by repeat (first | exact Below.refl _ _ | assumption | apply Below.drew | apply below_drewN | refine Below.setCell ?_ (by simp) _ | refine Below.alloc ?_ (by simp; try omega) _))⟩
  exact OwnR.nil _ _
set_option maxRecDepth 100000 in
set_option maxHeartbeats 1600000 in
theorem later_36 (w : World) : Calls Tryd.prog 100 #[.int .i64 36] w (RowR 36 w) := by
  go_enter Tryd.func100, Tryd.ntmps100
  go_wp2
  refine bodyPost_ret (v := rowV 36 (.slice none 0 0)) (by simp [results, Tryd.results100, go_sem, rowV, attrRow]) rfl ⟨_, rfl, ?_, (by repeat (first | exact Below.refl _ _ | assumption | apply Below.drew | apply below_drewN | refine Below.setCell ?_ (by simp) _ | refine Below.alloc ?_ (by simp; try omega) _))⟩
  exact OwnR.nil _ _
set_option maxRecDepth 100000 in
set_option maxHeartbeats 1600000 in
theorem later_37 (w : World) : Calls Tryd.prog 100 #[.int .i64 37] w (RowR 37 w) := by
  go_enter Tryd.func100, Tryd.ntmps100
  go_wp2
  refine bodyPost_ret (v := rowV 37 (.slice none 0 0)) (by simp [results, Tryd.results100, go_sem, rowV, attrRow]) rfl ⟨_, rfl, ?_, (by repeat (first | exact Below.refl _ _ | assumption | apply Below.drew | apply below_drewN | refine Below.setCell ?_ (by simp) _ | refine Below.alloc ?_ (by simp; try omega) _))⟩
  exact OwnR.nil _ _
set_option maxRecDepth 100000 in
set_option maxHeartbeats 1600000 in
theorem later_38 (w : World) : Calls Tryd.prog 100 #[.int .i64 38] w (RowR 38 w) := by
  go_enter Tryd.func100, Tryd.ntmps100
  go_wp2
  refine bodyPost_ret (v := rowV 38 (.slice none 0 0)) (by simp [results, Tryd.results100, go_sem, rowV, attrRow]) rfl ⟨_, rfl, ?_, (by repeat (first | exact Below.refl _ _ | assumption | apply Below.drew | apply below_drewN | refine Below.setCell ?_ (by simp) _ | refine Below.alloc ?_ (by simp; try omega) _))⟩
  exact OwnR.nil _ _
set_option maxRecDepth 100000 in
set_option maxHeartbeats 1600000 in
theorem later_39 (w : World) : Calls Tryd.prog 100 #[.int .i64 39] w (RowR 39 w) := by
  go_enter Tryd.func100, Tryd.ntmps100
  go_wp2
  refine bodyPost_ret (v := rowV 39 (.slice none 0 0)) (by simp [results, Tryd.results100, go_sem, rowV, attrRow]) rfl ⟨_, rfl, ?_, (by repeat (first | exact Below.refl _ _ | assumption | apply Below.drew | apply below_drewN | refine Below.setCell ?_ (by simp) _ | refine Below.alloc ?_ (by simp; try omega) _))⟩
  exact OwnR.nil _ _
set_option maxRecDepth 100000 in
set_option maxHeartbeats 1600000 in
theorem later_40 (w : World) : Calls Tryd.prog 100 #[.int .i64 40] w (RowR 40 w) := by
  go_enter Tryd.func100, Tryd.ntmps100
  go_wp2
  refine bodyPost_ret (v := rowV 40 (.slice (some ⟨w.heap.size + 1, 0, none⟩) 1 1)) (by simp [results, Tryd.results100, go_sem, rowV, attrRow]) rfl ⟨_, rfl, ?_, (by repeat (first | exact Below.refl _ _ | assumption | apply Below.drew | apply below_drewN | refine Below.setCell ?_ (by simp) _ | refine Below.alloc ?_ (by simp; try omega) _))⟩
  exact OwnS.one (by simpa using heap_alloc_new (w.alloc _) (.cells #[.string ⟨#[117, 115, 101, 114, 105, 100]⟩] 9)) (by omega)
set_option maxRecDepth 100000 in
set_option maxHeartbeats 1600000 in
theorem later_41 (w : World) : Calls Tryd.prog 100 #[.int .i64 41] w (RowR 41 w) := by
  go_enter Tryd.func100, Tryd.ntmps100
  go_wp2
  refine bodyPost_ret (v := rowV 41 (.slice (some ⟨w.heap.size + 1, 0, none⟩) 1 1)) (by simp [results, Tryd.results100, go_sem, rowV, attrRow]) rfl ⟨_, rfl, ?_, (by repeat (first | exact Below.refl _ _ | assumption | apply Below.drew | apply below_drewN | refine Below.setCell ?_ (by simp) _ | refine Below.alloc ?_ (by simp; try omega) _))⟩
  exact OwnS.one (by simpa using heap_alloc_new (w.alloc _) (.cells #[.string ⟨#[114, 102, 99, 56, 50, 50, 109, 97, 105, 108, 98, 111, 120]⟩] 9)) (by omega)
set_option maxRecDepth 100000 in
set_option maxHeartbeats 1600000 in
theorem later_42 (w : World) : Calls Tryd.prog 100 #[.int .i64 42] w (RowR 42 w) := by
  go_enter Tryd.func100, Tryd.ntmps100
  go_wp2
  refine bodyPost_ret (v := rowV 42 (.slice none 0 0)) (by simp [results, Tryd.results100, go_sem, rowV, attrRow]) rfl ⟨_, rfl, ?_, (by repeat (first | exact Below.refl _ _ | assumption | apply Below.drew | apply below_drewN | refine Below.setCell ?_ (by simp) _ | refine Below.alloc ?_ (by simp; try omega) _))⟩
  exact OwnR.nil _ _
set_option maxRecDepth 100000 in
set_option maxHeartbeats 1600000 in
theorem later_43 (w : World) : Calls Tryd.prog 100 #[.int .i64 43] w (RowR 43 w) := by
  go_enter Tryd.func100, Tryd.ntmps100
  go_wp2
  refine bodyPost_ret (v := rowV 43 (.slice none 0 0)) (by simp [results, Tryd.results100, go_sem, rowV, attrRow]) rfl ⟨_, rfl, ?_, (by repeat (first | exact Below.refl _ _ | assumption | apply Below.drew | apply below_drewN | refine Below.setCell ?_ (by simp) _ | refine Below.alloc ?_ (by simp; try omega) _))⟩
  exact OwnR.nil _ _
set_option maxRecDepth 100000 in
set_option maxHeartbeats 1600000 in
theorem later_44 (w : World) : Calls Tryd.prog 100 #[.int .i64 44] w (RowR 44 w) := by
  go_enter Tryd.func100, Tryd.ntmps100
  go_wp2
  refine bodyPost_ret (v := rowV 44 (.slice (some ⟨w.heap.size + 1, 0, none⟩) 1 1)) (by simp [results, Tryd.results100, go_sem, rowV, attrRow]) rfl ⟨_, rfl, ?_, (by repeat (first | exact Below.refl _ _ | assumption | apply Below.drew | apply below_drewN | refine Below.setCell ?_ (by simp) _ | refine Below.alloc ?_ (by simp; try omega) _))⟩
  exact OwnS.one (by simpa using heap_alloc_new (w.alloc _) (.cells #[.string ⟨#[104, 111, 109, 101, 116, 101, 108, 101, 112, 104, 111, 110, 101, 110, 117, 109, 98, 101, 114]⟩] 9)) (by omega)
set_option maxRecDepth 100000 in
set_option maxHeartbeats 1600000 in
theorem later_45 (w : World) : Calls Tryd.prog 100 #[.int .i64 45] w (RowR 45 w) := by
  go_enter Tryd.func100, Tryd.ntmps100
  go_wp2
  refine bodyPost_ret (v := rowV 45 (.slice none 0 0)) (by simp [results, Tryd.results100, go_sem, rowV, attrRow]) rfl ⟨_, rfl, ?_, (by repeat (first | exact Below.refl _ _ | assumption | apply Below.drew | apply below_drewN | refine Below.setCell ?_ (by simp) _ | refine Below.alloc ?_ (by simp; try omega) _))⟩
  exact OwnR.nil _ _
set_option maxRecDepth 100000 in
set_option maxHeartbeats 1600000 in
theorem later_46 (w : World) : Calls Tryd.prog 100 #[.int .i64 46] w (RowR 46 w) := by
  go_enter Tryd.func100, Tryd.ntmps100
  go_wp2
  refine bodyPost_ret (v := rowV 46 (.slice (some ⟨w.heap.size + 1, 0, none⟩) 1 1)) (by simp [results, Tryd.results100, go_sem, rowV, attrRow]) rfl ⟨_, rfl, ?_, (by repeat (first | exact Below.refl _ _ | assumption | apply Below.drew | apply below_drewN | refine Below.setCell ?_ (by simp) _ | refine Below.alloc ?_ (by simp; try omega) _))⟩
  exact OwnS.one (by simpa using heap_alloc_new (w.alloc _) (.cells #[.string ⟨#[100, 111, 109, 97, 105, 110, 99, 111, 109, 112, 111, 110, 101, 110, 116]⟩] 9)) (by omega)
set_option maxRecDepth 100000 in
set_option maxHeartbeats 1600000 in
theorem later_47 (w : World) : Calls Tryd.prog 100 #[.int .i64 47] w (RowR 47 w) := by
  go_enter Tryd.func100, Tryd.ntmps100
  go_wp2
  refine bodyPost_ret (v := rowV 47 (.slice (some ⟨w.heap.size + 1, 0, none⟩) 1 1)) (by simp [results, Tryd.results100, go_sem, rowV, attrRow]) rfl ⟨_, rfl, ?_, (by repeat (first | exact Below.refl _ _ | assumption | apply Below.drew | apply below_drewN | refine Below.setCell ?_ (by simp) _ | refine Below.alloc ?_ (by simp; try omega) _))⟩
  exact OwnS.one (by simpa using heap_alloc_new (w.alloc _) (.cells #[.string ⟨#[109, 111, 98, 105, 108, 101, 116, 101, 108, 101, 112, 104, 111, 110, 101, 110, 117, 109, 98, 101, 114]⟩] 9)) (by omega)
set_option maxRecDepth 100000 in
set_option maxHeartbeats 1600000 in
theorem later_48 (w : World) : Calls Tryd.prog 100 #[.int .i64 48] w (RowR 48 w) := by
  go_enter Tryd.func100, Tryd.ntmps100
  go_wp2
  refine bodyPost_ret (v := rowV 48 (.slice (some ⟨w.heap.size + 1, 0, none⟩) 1 1)) (by simp [results, Tryd.results100, go_sem, rowV, attrRow]) rfl ⟨_, rfl, ?_, (by repeat (first | exact Below.refl _ _ | assumption | apply Below.drew | apply below_drewN | refine Below.setCell ?_ (by simp) _ | refine Below.alloc ?_ (by simp; try omega) _))⟩
  exact OwnS.one (by simpa using heap_alloc_new (w.alloc _) (.cells #[.string ⟨#[112, 97, 103, 101, 114, 116, 101, 108, 101, 112, 104, 111, 110, 101, 110, 117, 109, 98, 101, 114]⟩] 9)) (by omega)
set_option maxRecDepth 100000 in
set_option maxHeartbeats 1600000 in
theorem later_49 (w : World) : Calls Tryd.prog 100 #[.int .i64 49] w (RowR 49 w) := by
  go_enter Tryd.func100, Tryd.ntmps100
  go_wp2
  refine bodyPost_ret (v := rowV 49 (.slice none 0 0)) (by simp [results, Tryd.results100, go_sem, rowV, attrRow]) rfl ⟨_, rfl, ?_, (by repeat (first | exact Below.refl _ _ | assumption | apply Below.drew | apply below_drewN | refine Below.setCell ?_ (by simp) _ | refine Below.alloc ?_ (by simp; try omega) _))⟩
  exact OwnR.nil _ _
set_option maxRecDepth 100000 in
set_option maxHeartbeats 1600000 in
theorem later_50 (w : World) : Calls Tryd.prog 100 #[.int .i64 50] w (RowR 50 w) := by
  go_enter Tryd.func100, Tryd.ntmps100
  go_wp2
  refine bodyPost_ret (v := rowV 50 (.slice none 0 0)) (by simp [results, Tryd.results100, go_sem, rowV, attrRow]) rfl ⟨_, rfl, ?_, (by repeat (first | exact Below.refl _ _ | assumption | apply Below.drew | apply below_drewN | refine Below.setCell ?_ (by simp) _ | refine Below.alloc ?_ (by simp; try omega) _))⟩
  exact OwnR.nil _ _
set_option maxRecDepth 100000 in
set_option maxHeartbeats 1600000 in
theorem later_51 (w : World) : Calls Tryd.prog 100 #[.int .i64 51] w (RowR 51 w) := by
  go_enter Tryd.func100, Tryd.ntmps100
  go_wp2
  refine bodyPost_ret (v := rowV 51 (.slice none 0 0)) (by simp [results, Tryd.results100, go_sem, rowV, attrRow]) rfl ⟨_, rfl, ?_, (by repeat (first | exact Below.refl _ _ | assumption | apply Below.drew | apply below_drewN | refine Below.setCell ?_ (by simp) _ | refine Below.alloc ?_ (by simp; try omega) _))⟩
  exact OwnR.nil _ _
set_option maxRecDepth 100000 in
set_option maxHeartbeats 1600000 in
theorem later_52 (w : World) : Calls Tryd.prog 100 #[.int .i64 52] w (RowR 52 w) := by
  go_enter Tryd.func100, Tryd.ntmps100
  go_wp2
  refine bodyPost_ret (v := rowV 52 (.slice none 0 0)) (by simp [results, Tryd.results100, go_sem, rowV, attrRow]) rfl ⟨_, rfl, ?_, (by repeat (first | exact Below.refl _ _ | assumption | apply Below.drew | apply below_drewN | refine Below.setCell ?_ (by simp) _ | refine Below.alloc ?_ (by simp; try omega) _))⟩
  exact OwnR.nil _ _
set_option maxRecDepth 100000 in
set_option maxHeartbeats 1600000 in
theorem later_53 (w : World) : Calls Tryd.prog 100 #[.int .i64 53] w (RowR 53 w) := by
  go_enter Tryd.func100, Tryd.ntmps100
  go_wp2
  refine bodyPost_ret (v := rowV 53 (.slice none 0 0)) (by simp [results, Tryd.results100, go_sem, rowV, attrRow]) rfl ⟨_, rfl, ?_, (by repeat (first | exact Below.refl _ _ | assumption | apply Below.drew | apply below_drewN | refine Below.setCell ?_ (by simp) _ | refine Below.alloc ?_ (by simp; try omega) _))⟩
  exact OwnR.nil _ _
set_option maxRecDepth 100000 in
set_option maxHeartbeats 1600000 in
theorem later_54 (w : World) : Calls Tryd.prog 100 #[.int .i64 54] w (RowR 54 w) := by
  go_enter Tryd.func100, Tryd.ntmps100
  go_wp2
  refine bodyPost_ret (v := rowV 54 (.slice none 0 0)) (by simp [results, Tryd.results100, go_sem, rowV, attrRow]) rfl ⟨_, rfl, ?_, (by repeat (first | exact Below.refl _ _ | assumption | apply Below.drew | apply below_drewN | refine Below.setCell ?_ (by simp) _ | refine Below.alloc ?_ (by simp; try omega) _))⟩
  exact OwnR.nil _ _
set_option maxRecDepth 100000 in
set_option maxHeartbeats 1600000 in
theorem later_55 (w : World) : Calls Tryd.prog 100 #[.int .i64 55] w (RowR 55 w) := by
  go_enter Tryd.func100, Tryd.ntmps100
  go_wp2
  refine bodyPost_ret (v := rowV 55 (.slice none 0 0)) (by simp [results, Tryd.results100, go_sem, rowV, attrRow]) rfl ⟨_, rfl, ?_, (by repeat (first | exact Below.refl _ _ | assumption | apply Below.drew | apply below_drewN | refine Below.setCell ?_ (by simp) _ | refine Below.alloc ?_ (by simp; try omega) _))⟩
  exact OwnR.nil _ _
set_option maxRecDepth 100000 in
set_option maxHeartbeats 1600000 in
theorem later_56 (w : World) : Calls Tryd.prog 100 #[.int .i64 56] w (RowR 56 w) := by
  go_enter Tryd.func100, Tryd.ntmps100
  go_wp2
  refine bodyPost_ret (v := rowV 56 (.slice none 0 0)) (by simp [results, Tryd.results100, go_sem, rowV, attrRow]) rfl ⟨_, rfl, ?_, (by repeat (first | exact Below.refl _ _ | assumption | apply Below.drew | apply below_drewN | refine Below.setCell ?_ (by simp) _ | refine Below.alloc ?_ (by simp; try omega) _))⟩
  exact OwnR.nil _ _
set_option maxRecDepth 100000 in
set_option maxHeartbeats 1600000 in
theorem later_57 (w : World) : Calls Tryd.prog 100 #[.int .i64 57] w (RowR 57 w) := by
  go_enter Tryd.func100, Tryd.ntmps100
  go_wp2
  refine bodyPost_ret (v := rowV 57 (.slice none 0 0)) (by simp [results, Tryd.results100, go_sem, rowV, attrRow]) rfl ⟨_, rfl, ?_, (by repeat (first | exact Below.refl _ _ | assumption | apply Below.drew | apply below_drewN | refine Below.setCell ?_ (by simp) _ | refine Below.alloc ?_ (by simp; try omega) _))⟩
  exact OwnR.nil _ _
set_option maxRecDepth 100000 in
set_option maxHeartbeats 1600000 in
theorem later_58 (w : World) : Calls Tryd.prog 100 #[.int .i64 58] w (RowR 58 w) := by
  go_enter Tryd.func100, Tryd.ntmps100
  go_wp2
  refine bodyPost_ret (v := rowV 58 (.slice none 0 0)) (by simp [results, Tryd.results100, go_sem, rowV, attrRow]) rfl ⟨_, rfl, ?_, (by repeat (first | exact Below.refl _ _ | assumption | apply Below.drew | apply below_drewN | refine Below.setCell ?_ (by simp) _ | refine Below.alloc ?_ (by simp; try omega) _))⟩
  exact OwnR.nil _ _
set_option maxRecDepth 100000 in
set_option maxHeartbeats 1600000 in
theorem later_59 (w : World) : Calls Tryd.prog 100 #[.int .i64 59] w (RowR 59 w) := by
  go_enter Tryd.func100, Tryd.ntmps100
  go_wp2
  refine bodyPost_ret (v := rowV 59 (.slice none 0 0)) (by simp [results, Tryd.results100, go_sem, rowV, attrRow]) rfl ⟨_, rfl, ?_, (by repeat (first | exact Below.refl _ _ | assumption | apply Below.drew | apply below_drewN | refine Below.setCell ?_ (by simp) _ | refine Below.alloc ?_ (by simp; try omega) _))⟩
  exact OwnR.nil _ _
set_option maxRecDepth 100000 in
set_option maxHeartbeats 1600000 in
theorem later_60 (w : World) : Calls Tryd.prog 100 #[.int .i64 60] w (RowR 60 w) := by
  go_enter Tryd.func100, Tryd.ntmps100
  go_wp2
  refine bodyPost_ret (v := rowV 60 (.slice none 0 0)) (by simp [results, Tryd.results100, go_sem, rowV, attrRow]) rfl ⟨_, rfl, ?_, (by repeat (first | exact Below.refl _ _ | assumption | apply Below.drew | apply below_drewN | refine Below.setCell ?_ (by simp) _ | refine Below.alloc ?_ (by simp; try omega) _))⟩
  exact OwnR.nil _ _
set_option maxRecDepth 100000 in
set_option maxHeartbeats 1600000 in
theorem later_61 (w : World) : Calls Tryd.prog 100 #[.int .i64 61] w (RowR 61 w) := by
  go_enter Tryd.func100, Tryd.ntmps100
  go_wp2
  refine bodyPost_ret (v := rowV 61 (.slice none 0 0)) (by simp [results, Tryd.results100, go_sem, rowV, attrRow]) rfl ⟨_, rfl, ?_, (by repeat (first | exact Below.refl _ _ | assumption | apply Below.drew | apply below_drewN | refine Below.setCell ?_ (by simp) _ | refine Below.alloc ?_ (by simp; try omega) _))⟩
  exact OwnR.nil _ _
theorem later_any (k : Nat) (h0 : 31 ≤ k) (h : k < 62) (w : World) : Calls Tryd.prog 100 #[.int .i64 k] w (RowR k w) := by
  obtain ⟨j, rfl⟩ : ∃ j, k = 31 + j := ⟨k - 31, by omega⟩
  match j, (show j < 31 by omega) with
  | 0, _ => exact later_31 w
  | 1, _ => exact later_32 w
  | 2, _ => exact later_33 w
  | 3, _ => exact later_34 w
  | 4, _ => exact later_35 w
  | 5, _ => exact later_36 w
  | 6, _ => exact later_37 w
  | 7, _ => exact later_38 w
  | 8, _ => exact later_39 w
  | 9, _ => exact later_40 w
  | 10, _ => exact later_41 w
  | 11, _ => exact later_42 w
  | 12, _ => exact later_43 w
  | 13, _ => exact later_44 w
  | 14, _ => exact later_45 w
  | 15, _ => exact later_46 w
  | 16, _ => exact later_47 w
  | 17, _ => exact later_48 w
  | 18, _ => exact later_49 w
  | 19, _ => exact later_50 w
  | 20, _ => exact later_51 w
  | 21, _ => exact later_52 w
  | 22, _ => exact later_53 w
  | 23, _ => exact later_54 w
  | 24, _ => exact later_55 w
  | 25, _ => exact later_56 w
  | 26, _ => exact later_57 w
  | 27, _ => exact later_58 w
  | 28, _ => exact later_59 w
  | 29, _ => exact later_60 w
  | 30, _ => exact later_61 w
  | j + 31, h => exact absurd h (by omega)
set_option maxRecDepth 100000 in
set_option maxHeartbeats 1600000 in
theorem rows_0 (w : World) : Calls Tryd.prog 75 #[.int .i64 0] w (RowR 0 w) := by
  go_enter Tryd.func75, Tryd.ntmps75
  go_wp2
  refine bodyPost_ret (v := rowV 0 (.slice none 0 0)) (by simp [results, Tryd.results75, go_sem, rowV, attrRow]) rfl ⟨_, rfl, ?_, (by repeat (first | exact Below.refl _ _ | assumption | apply Below.drew | apply below_drewN | refine Below.setCell ?_ (by simp) _ | refine Below.alloc ?_ (by simp; try omega) _))⟩
  exact OwnR.nil _ _
set_option maxRecDepth 100000 in
set_option maxHeartbeats 1600000 in
theorem rows_1 (w : World) : Calls Tryd.prog 75 #[.int .i64 1] w (RowR 1 w) := by
  go_enter Tryd.func75, Tryd.ntmps75
  go_wp2
  refine bodyPost_ret (v := rowV 1 (.slice (some ⟨w.heap.size + 1, 0, none⟩) 1 1)) (by simp [results, Tryd.results75, go_sem, rowV, attrRow]) rfl ⟨_, rfl, ?_, (by repeat (first | exact Below.refl _ _ | assumption | apply Below.drew | apply below_drewN | refine Below.setCell ?_ (by simp) _ | refine Below.alloc ?_ (by simp; try omega) _))⟩
  exact OwnS.one (by simpa using heap_alloc_new (w.alloc _) (.cells #[.string ⟨#[97, 108, 105, 97, 115, 101, 100, 101, 110, 116, 114, 121, 110, 97, 109, 101]⟩] 9)) (by omega)
set_option maxRecDepth 100000 in
set_option maxHeartbeats 1600000 in
theorem rows_2 (w : World) : Calls Tryd.prog 75 #[.int .i64 2] w (RowR 2 w) := by
  go_enter Tryd.func75, Tryd.ntmps75
  go_wp2
  refine bodyPost_ret (v := rowV 2 (.slice none 0 0)) (by simp [results, Tryd.results75, go_sem, rowV, attrRow]) rfl ⟨_, rfl, ?_, (by repeat (first | exact Below.refl _ _ | assumption | apply Below.drew | apply below_drewN | refine Below.setCell ?_ (by simp) _ | refine Below.alloc ?_ (by simp; try omega) _))⟩
  exact OwnR.nil _ _
set_option maxRecDepth 100000 in
set_option maxHeartbeats 1600000 in
theorem rows_3 (w : World) : Calls Tryd.prog 75 #[.int .i64 3] w (RowR 3 w) := by
  go_enter Tryd.func75, Tryd.ntmps75
  go_wp2
  refine bodyPost_ret (v := rowV 3 (.slice none 0 0)) (by simp [results, Tryd.results75, go_sem, rowV, attrRow]) rfl ⟨_, rfl, ?_, (by repeat (first | exact Below.refl _ _ | assumption | apply Below.drew | apply below_drewN | refine Below.setCell ?_ (by simp) _ | refine Below.alloc ?_ (by simp; try omega) _))⟩
  exact OwnR.nil _ _
set_option maxRecDepth 100000 in
set_option maxHeartbeats 1600000 in
theorem rows_4 (w : World) : Calls Tryd.prog 75 #[.int .i64 4] w (RowR 4 w) := by
  go_enter Tryd.func75, Tryd.ntmps75
  go_wp2
  refine bodyPost_ret (v := rowV 4 (.slice (some ⟨w.heap.size + 1, 0, none⟩) 1 1)) (by simp [results, Tryd.results75, go_sem, rowV, attrRow]) rfl ⟨_, rfl, ?_, (by repeat (first | exact Below.refl _ _ | assumption | apply Below.drew | apply below_drewN | refine Below.setCell ?_ (by simp) _ | refine Below.alloc ?_ (by simp; try omega) _))⟩
  exact OwnS.one (by simpa using heap_alloc_new (w.alloc _) (.cells #[.string ⟨#[99, 111, 109, 109, 111, 110, 110, 97, 109, 101]⟩] 9)) (by omega)
set_option maxRecDepth 100000 in
set_option maxHeartbeats 1600000 in
theorem rows_5 (w : World) : Calls Tryd.prog 75 #[.int .i64 5] w (RowR 5 w) := by
  go_enter Tryd.func75, Tryd.ntmps75
  go_wp2
  refine bodyPost_ret (v := rowV 5 (.slice (some ⟨w.heap.size + 1, 0, none⟩) 1 1)) (by simp [results, Tryd.results75, go_sem, rowV, attrRow]) rfl ⟨_, rfl, ?_, (by repeat (first | exact Below.refl _ _ | assumption | apply Below.drew | apply below_drewN | refine Below.setCell ?_ (by simp) _ | refine Below.alloc ?_ (by simp; try omega) _))⟩
  exact OwnS.one (by simpa using heap_alloc_new (w.alloc _) (.cells #[.string ⟨#[115, 117, 114, 110, 97, 109, 101]⟩] 9)) (by omega)
set_option maxRecDepth 100000 in
set_option maxHeartbeats 1600000 in
theorem rows_6 (w : World) : Calls Tryd.prog 75 #[.int .i64 6] w (RowR 6 w) := by
  go_enter Tryd.func75, Tryd.ntmps75
  go_wp2
  refine bodyPost_ret (v := rowV 6 (.slice none 0 0)) (by simp [results, Tryd.results75, go_sem, rowV, attrRow]) rfl ⟨_, rfl, ?_, (by repeat (first | exact Below.refl _ _ | assumption | apply Below.drew | apply below_drewN | refine Below.setCell ?_ (by simp) _ | refine Below.alloc ?_ (by simp; try omega) _))⟩
  exact OwnR.nil _ _
set_option maxRecDepth 100000 in
set_option maxHeartbeats 1600000 in
theorem rows_7 (w : World) : Calls Tryd.prog 75 #[.int .i64 7] w (RowR 7 w) := by
  go_enter Tryd.func75, Tryd.ntmps75
  go_wp2
  refine bodyPost_ret (v := rowV 7 (.slice (some ⟨w.heap.size + 1, 0, none⟩) 1 1)) (by simp [results, Tryd.results75, go_sem, rowV, attrRow]) rfl ⟨_, rfl, ?_, (by repeat (first | exact Below.refl _ _ | assumption | apply Below.drew | apply below_drewN | refine Below.setCell ?_ (by simp) _ | refine Below.alloc ?_ (by simp; try omega) _))⟩
  exact OwnS.one (by simpa using heap_alloc_new (w.alloc _) (.cells #[.string ⟨#[99, 111, 117, 110, 116, 114, 121, 110, 97, 109, 101]⟩] 9)) (by omega)
set_option maxRecDepth 100000 in
set_option maxHeartbeats 1600000 in
theorem rows_8 (w : World) : Calls Tryd.prog 75 #[.int .i64 8] w (RowR 8 w) := by
  go_enter Tryd.func75, Tryd.ntmps75
  go_wp2
  refine bodyPost_ret (v := rowV 8 (.slice (some ⟨w.heap.size + 1, 0, none⟩) 1 1)) (by simp [results, Tryd.results75, go_sem, rowV, attrRow]) rfl ⟨_, rfl, ?_, (by repeat (first | exact Below.refl _ _ | assumption | apply Below.drew | apply below_drewN | refine Below.setCell ?_ (by simp) _ | refine Below.alloc ?_ (by simp; try omega) _))⟩
  exact OwnS.one (by simpa using heap_alloc_new (w.alloc _) (.cells #[.string ⟨#[108, 111, 99, 97, 108, 105, 116, 121, 110, 97, 109, 101]⟩] 9)) (by omega)
set_option maxRecDepth 100000 in
set_option maxHeartbeats 1600000 in
theorem rows_9 (w : World) : Calls Tryd.prog 75 #[.int .i64 9] w (RowR 9 w) := by
  go_enter Tryd.func75, Tryd.ntmps75
  go_wp2
  refine bodyPost_ret (v := rowV 9 (.slice (some ⟨w.heap.size + 1, 0, none⟩) 1 1)) (by simp [results, Tryd.results75, go_sem, rowV, attrRow]) rfl ⟨_, rfl, ?_, (by repeat (first | exact Below.refl _ _ | assumption | apply Below.drew | apply below_drewN | refine Below.setCell ?_ (by simp) _ | refine Below.alloc ?_ (by simp; try omega) _))⟩
  exact OwnS.one (by simpa using heap_alloc_new (w.alloc _) (.cells #[.string ⟨#[115, 116, 97, 116, 101, 111, 114, 112, 114, 111, 118, 105, 110, 99, 101, 110, 97, 109, 101]⟩] 9)) (by omega)
set_option maxRecDepth 100000 in
set_option maxHeartbeats 1600000 in
theorem rows_10 (w : World) : Calls Tryd.prog 75 #[.int .i64 10] w (RowR 10 w) := by
  go_enter Tryd.func75, Tryd.ntmps75
  go_wp2
  refine bodyPost_ret (v := rowV 10 (.slice (some ⟨w.heap.size + 1, 0, none⟩) 1 1)) (by simp [results, Tryd.results75, go_sem, rowV, attrRow]) rfl ⟨_, rfl, ?_, (by repeat (first | exact Below.refl _ _ | assumption | apply Below.drew | apply below_drewN | refine Below.setCell ?_ (by simp) _ | refine Below.alloc ?_ (by simp; try omega) _))⟩
  exact OwnS.one (by simpa using heap_alloc_new (w.alloc _) (.cells #[.string ⟨#[115, 116, 114, 101, 101, 116, 97, 100, 100, 114, 101, 115, 115]⟩] 9)) (by omega)
set_option maxRecDepth 100000 in
set_option maxHeartbeats 1600000 in
theorem rows_11 (w : World) : Calls Tryd.prog 75 #[.int .i64 11] w (RowR 11 w) := by
  go_enter Tryd.func75, Tryd.ntmps75
  go_wp2
  refine bodyPost_ret (v := rowV 11 (.slice (some ⟨w.heap.size + 1, 0, none⟩) 1 1)) (by simp [results, Tryd.results75, go_sem, rowV, attrRow]) rfl ⟨_, rfl, ?_, (by repeat (first | exact Below.refl _ _ | assumption | apply Below.drew | apply below_drewN | refine Below.setCell ?_ (by simp) _ | refine Below.alloc ?_ (by simp; try omega) _))⟩
  exact OwnS.one (by simpa using heap_alloc_new (w.alloc _) (.cells #[.string ⟨#[111, 114, 103, 97, 110, 105, 122, 97, 116, 105, 111, 110, 110, 97, 109, 101]⟩] 9)) (by omega)
set_option maxRecDepth 100000 in
set_option maxHeartbeats 1600000 in
theorem rows_12 (w : World) : Calls Tryd.prog 75 #[.int .i64 12] w (RowR 12 w) := by
  go_enter Tryd.func75, Tryd.ntmps75
  go_wp2
  refine bodyPost_ret (v := rowV 12 (.slice (some ⟨w.heap.size + 1, 0, none⟩) 1 1)) (by simp [results, Tryd.results75, go_sem, rowV, attrRow]) rfl ⟨_, rfl, ?_, (by repeat (first | exact Below.refl _ _ | assumption | apply Below.drew | apply below_drewN | refine Below.setCell ?_ (by simp) _ | refine Below.alloc ?_ (by simp; try omega) _))⟩
  exact OwnS.one (by simpa using heap_alloc_new (w.alloc _) (.cells #[.string ⟨#[111, 114, 103, 97, 110, 105, 122, 97, 116, 105, 111, 110, 97, 108, 117, 110, 105, 116, 110, 97, 109, 101]⟩] 9)) (by omega)
set_option maxRecDepth 100000 in
set_option maxHeartbeats 1600000 in
theorem rows_13 (w : World) : Calls Tryd.prog 75 #[.int .i64 13] w (RowR 13 w) := by
  go_enter Tryd.func75, Tryd.ntmps75
  go_wp2
  refine bodyPost_ret (v := rowV 13 (.slice none 0 0)) (by simp [results, Tryd.results75, go_sem, rowV, attrRow]) rfl ⟨_, rfl, ?_, (by repeat (first | exact Below.refl _ _ | assumption | apply Below.drew | apply below_drewN | refine Below.setCell ?_ (by simp) _ | refine Below.alloc ?_ (by simp; try omega) _))⟩
  exact OwnR.nil _ _
set_option maxRecDepth 100000 in
set_option maxHeartbeats 1600000 in
theorem rows_14 (w : World) : Calls Tryd.prog 75 #[.int .i64 14] w (RowR 14 w) := by
  go_enter Tryd.func75, Tryd.ntmps75
  go_wp2
  refine bodyPost_ret (v := rowV 14 (.slice none 0 0)) (by simp [results, Tryd.results75, go_sem, rowV, attrRow]) rfl ⟨_, rfl, ?_, (by repeat (first | exact Below.refl _ _ | assumption | apply Below.drew | apply below_drewN | refine Below.setCell ?_ (by simp) _ | refine Below.alloc ?_ (by simp; try omega) _))⟩
  exact OwnR.nil _ _
set_option maxRecDepth 100000 in
set_option maxHeartbeats 1600000 in
theorem rows_15 (w : World) : Calls Tryd.prog 75 #[.int .i64 15] w (RowR 15 w) := by
  go_enter Tryd.func75, Tryd.ntmps75
  go_wp2
  refine bodyPost_ret (v := rowV 15 (.slice none 0 0)) (by simp [results, Tryd.results75, go_sem, rowV, attrRow]) rfl ⟨_, rfl, ?_, (by repeat (first | exact Below.refl _ _ | assumption | apply Below.drew | apply below_drewN | refine Below.setCell ?_ (by simp) _ | refine Below.alloc ?_ (by simp; try omega) _))⟩
  exact OwnR.nil _ _
set_option maxRecDepth 100000 in
set_option maxHeartbeats 1600000 in
theorem rows_16 (w : World) : Calls Tryd.prog 75 #[.int .i64 16] w (RowR 16 w) := by
  go_enter Tryd.func75, Tryd.ntmps75
  go_wp2
  refine bodyPost_ret (v := rowV 16 (.slice none 0 0)) (by simp [results, Tryd.results75, go_sem, rowV, attrRow]) rfl ⟨_, rfl, ?_, (by repeat (first | exact Below.refl _ _ | assumption | apply Below.drew | apply below_drewN | refine Below.setCell ?_ (by simp) _ | refine Below.alloc ?_ (by simp; try omega) _))⟩
  exact OwnR.nil _ _
set_option maxRecDepth 100000 in
set_option maxHeartbeats 1600000 in
theorem rows_17 (w : World) : Calls Tryd.prog 75 #[.int .i64 17] w (RowR 17 w) := by
  go_enter Tryd.func75, Tryd.ntmps75
  go_wp2
  refine bodyPost_ret (v := rowV 17 (.slice none 0 0)) (by simp [results, Tryd.results75, go_sem, rowV, attrRow]) rfl ⟨_, rfl, ?_, (by repeat (first | exact Below.refl _ _ | assumption | apply Below.drew | apply below_drewN | refine Below.setCell ?_ (by simp) _ | refine Below.alloc ?_ (by simp; try omega) _))⟩
  exact OwnR.nil _ _
set_option maxRecDepth 100000 in
set_option maxHeartbeats 1600000 in
theorem rows_18 (w : World) : Calls Tryd.prog 75 #[.int .i64 18] w (RowR 18 w) := by
  go_enter Tryd.func75, Tryd.ntmps75
  go_wp2
  refine bodyPost_ret (v := rowV 18 (.slice none 0 0)) (by simp [results, Tryd.results75, go_sem, rowV, attrRow]) rfl ⟨_, rfl, ?_, (by repeat (first | exact Below.refl _ _ | assumption | apply Below.drew | apply below_drewN | refine Below.setCell ?_ (by simp) _ | refine Below.alloc ?_ (by simp; try omega) _))⟩
  exact OwnR.nil _ _
set_option maxRecDepth 100000 in
set_option maxHeartbeats 1600000 in
theorem rows_19 (w : World) : Calls Tryd.prog 75 #[.int .i64 19] w (RowR 19 w) := by
  go_enter Tryd.func75, Tryd.ntmps75
  go_wp2
  refine bodyPost_ret (v := rowV 19 (.slice none 0 0)) (by simp [results, Tryd.results75, go_sem, rowV, attrRow]) rfl ⟨_, rfl, ?_, (by repeat (first | exact Below.refl _ _ | assumption | apply Below.drew | apply below_drewN | refine Below.setCell ?_ (by simp) _ | refine Below.alloc ?_ (by simp; try omega) _))⟩
  exact OwnR.nil _ _
set_option maxRecDepth 100000 in
set_option maxHeartbeats 1600000 in
theorem rows_20 (w : World) : Calls Tryd.prog 75 #[.int .i64 20] w (RowR 20 w) := by
  go_enter Tryd.func75, Tryd.ntmps75
  go_wp2
  refine bodyPost_ret (v := rowV 20 (.slice none 0 0)) (by simp [results, Tryd.results75, go_sem, rowV, attrRow]) rfl ⟨_, rfl, ?_, (by repeat (first | exact Below.refl _ _ | assumption | apply Below.drew | apply below_drewN | refine Below.setCell ?_ (by simp) _ | refine Below.alloc ?_ (by simp; try omega) _))⟩
  exact OwnR.nil _ _
set_option maxRecDepth 100000 in
set_option maxHeartbeats 1600000 in
theorem rows_21 (w : World) : Calls Tryd.prog 75 #[.int .i64 21] w (RowR 21 w) := by
  go_enter Tryd.func75, Tryd.ntmps75
  go_wp2
  refine bodyPost_ret (v := rowV 21 (.slice (some ⟨w.heap.size + 1, 0, none⟩) 1 1)) (by simp [results, Tryd.results75, go_sem, rowV, attrRow]) rfl ⟨_, rfl, ?_, (by repeat (first | exact Below.refl _ _ | assumption | apply Below.drew | apply below_drewN | refine Below.setCell ?_ (by simp) _ | refine Below.alloc ?_ (by simp; try omega) _))⟩
  exact OwnS.one (by simpa using heap_alloc_new (w.alloc _) (.cells #[.string ⟨#[102, 97, 120]⟩] 9)) (by omega)
set_option maxRecDepth 100000 in
set_option maxHeartbeats 1600000 in
theorem rows_22 (w : World) : Calls Tryd.prog 75 #[.int .i64 22] w (RowR 22 w) := by
  go_enter Tryd.func75, Tryd.ntmps75
  go_wp2
  refine bodyPost_ret (v := rowV 22 (.slice none 0 0)) (by simp [results, Tryd.results75, go_sem, rowV, attrRow]) rfl ⟨_, rfl, ?_, (by repeat (first | exact Below.refl _ _ | assumption | apply Below.drew | apply below_drewN | refine Below.setCell ?_ (by simp) _ | refine Below.alloc ?_ (by simp; try omega) _))⟩
  exact OwnR.nil _ _
set_option maxRecDepth 100000 in
set_option maxHeartbeats 1600000 in
theorem rows_23 (w : World) : Calls Tryd.prog 75 #[.int .i64 23] w (RowR 23 w) := by
  go_enter Tryd.func75, Tryd.ntmps75
  go_wp2
  refine bodyPost_ret (v := rowV 23 (.slice none 0 0)) (by simp [results, Tryd.results75, go_sem, rowV, attrRow]) rfl ⟨_, rfl, ?_, (by repeat (first | exact Below.refl _ _ | assumption | apply Below.drew | apply below_drewN | refine Below.setCell ?_ (by simp) _ | refine Below.alloc ?_ (by simp; try omega) _))⟩
  exact OwnR.nil _ _
set_option maxRecDepth 100000 in
set_option maxHeartbeats 1600000 in
theorem rows_24 (w : World) : Calls Tryd.prog 75 #[.int .i64 24] w (RowR 24 w) := by
  go_enter Tryd.func75, Tryd.ntmps75
  go_wp2
  refine bodyPost_ret (v := rowV 24 (.slice none 0 0)) (by simp [results, Tryd.results75, go_sem, rowV, attrRow]) rfl ⟨_, rfl, ?_, (by repeat (first | exact Below.refl _ _ | assumption | apply Below.drew | apply below_drewN | refine Below.setCell ?_ (by simp) _ | refine Below.alloc ?_ (by simp; try omega) _))⟩
  exact OwnR.nil _ _
set_option maxRecDepth 100000 in
set_option maxHeartbeats 1600000 in
theorem rows_25 (w : World) : Calls Tryd.prog 75 #[.int .i64 25] w (RowR 25 w) := by
  go_enter Tryd.func75, Tryd.ntmps75
  go_wp2
  refine bodyPost_ret (v := rowV 25 (.slice none 0 0)) (by simp [results, Tryd.results75, go_sem, rowV, attrRow]) rfl ⟨_, rfl, ?_, (by repeat (first | exact Below.refl _ _ | assumption | apply Below.drew | apply below_drewN | refine Below.setCell ?_ (by simp) _ | refine Below.alloc ?_ (by simp; try omega) _))⟩
  exact OwnR.nil _ _
set_option maxRecDepth 100000 in
set_option maxHeartbeats 1600000 in
theorem rows_26 (w : World) : Calls Tryd.prog 75 #[.int .i64 26] w (RowR 26 w) := by
  go_enter Tryd.func75, Tryd.ntmps75
  go_wp2
  refine bodyPost_ret (v := rowV 26 (.slice none 0 0)) (by simp [results, Tryd.results75, go_sem, rowV, attrRow]) rfl ⟨_, rfl, ?_, (by repeat (first | exact Below.refl _ _ | assumption | apply Below.drew | apply below_drewN | refine Below.setCell ?_ (by simp) _ | refine Below.alloc ?_ (by simp; try omega) _))⟩
  exact OwnR.nil _ _
set_option maxRecDepth 100000 in
set_option maxHeartbeats 1600000 in
theorem rows_27 (w : World) : Calls Tryd.prog 75 #[.int .i64 27] w (RowR 27 w) := by
  go_enter Tryd.func75, Tryd.ntmps75
  go_wp2
  refine bodyPost_ret (v := rowV 27 (.slice none 0 0)) (by simp [results, Tryd.results75, go_sem, rowV, attrRow]) rfl ⟨_, rfl, ?_, (by repeat (first | exact Below.refl _ _ | assumption | apply Below.drew | apply below_drewN | refine Below.setCell ?_ (by simp) _ | refine Below.alloc ?_ (by simp; try omega) _))⟩
  exact OwnR.nil _ _
set_option maxRecDepth 100000 in
set_option maxHeartbeats 1600000 in
theorem rows_28 (w : World) : Calls Tryd.prog 75 #[.int .i64 28] w (RowR 28 w) := by
  go_enter Tryd.func75, Tryd.ntmps75
  go_wp2
  refine bodyPost_ret (v := rowV 28 (.slice none 0 0)) (by simp [results, Tryd.results75, go_sem, rowV, attrRow]) rfl ⟨_, rfl, ?_, (by repeat (first | exact Below.refl _ _ | assumption | apply Below.drew | apply below_drewN | refine Below.setCell ?_ (by simp) _ | refine Below.alloc ?_ (by simp; try omega) _))⟩
  exact OwnR.nil _ _
set_option maxRecDepth 100000 in
set_option maxHeartbeats 1600000 in
theorem rows_29 (w : World) : Calls Tryd.prog 75 #[.int .i64 29] w (RowR 29 w) := by
  go_enter Tryd.func75, Tryd.ntmps75
  go_wp2
  refine bodyPost_ret (v := rowV 29 (.slice none 0 0)) (by simp [results, Tryd.results75, go_sem, rowV, attrRow]) rfl ⟨_, rfl, ?_, (by repeat (first | exact Below.refl _ _ | assumption | apply Below.drew | apply below_drewN | refine Below.setCell ?_ (by simp) _ | refine Below.alloc ?_ (by simp; try omega) _))⟩
  exact OwnR.nil _ _
set_option maxRecDepth 100000 in
set_option maxHeartbeats 1600000 in
theorem rows_30 (w : World) : Calls Tryd.prog 75 #[.int .i64 30] w (RowR 30 w) := by
  go_enter Tryd.func75, Tryd.ntmps75
  go_wp2
  refine bodyPost_ret (v := rowV 30 (.slice none 0 0)) (by simp [results, Tryd.results75, go_sem, rowV, attrRow]) rfl ⟨_, rfl, ?_, (by repeat (first | exact Below.refl _ _ | assumption | apply Below.drew | apply below_drewN | refine Below.setCell ?_ (by simp) _ | refine Below.alloc ?_ (by simp; try omega) _))⟩
  exact OwnR.nil _ _
end Go.Proofs.YtdpknokginnmjaaDoor
