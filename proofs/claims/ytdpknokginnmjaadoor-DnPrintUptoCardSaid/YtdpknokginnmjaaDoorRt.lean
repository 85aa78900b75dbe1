/- rosterref04.names by a walk: the table, whole. -/
import Derived.Test.YtdpknokginnmjaaDoorB
import Derived.Test.YtdpknokginnmjaaDoorRtD
import Derived.Deep.WholeRow
set_option linter.unusedVariables false
set_option linter.unusedSimpArgs false
namespace Go.Proofs.YtdpknokginnmjaaDoor
open Go.RowKit
theorem oper_value {P : Program} {o : Oper} {a : Act} {w : World} {K : Act → World → Prop} {Q : Exit → Act → World → Prop} {v : Value} (h : (execOp a.eval o).run P w = .ok (.value v) w) (k : K (a.put o.dst v) w) : o.wp P a w K Q := by
  unfold Oper.wp; rw [h]; exact k
theorem names_size : (Tryd.prog.info? 194).map (·.size) = some refCells.size := by kernel_rfl
theorem names_one : refCells.all (·.oneCell') = true := by kernel_rfl
theorem names_und : Tryd.prog.underlying 194 = some (.array 62 193) := by kernel_rfl
theorem names_zero : (Tryd.prog.info? 194).map (fun i => (i.zero, i.size)) = some (some (.agg (Array.replicate 186 (.string ⟨#[]⟩))), 186) := by kernel_rfl
set_option maxRecDepth 100000 in
set_option maxHeartbeats 4000000 in
theorem names_any (w : World) : Calls Tryd.prog 133 #[] w fun e w' => e = .returned (.agg refCells) ∧ Below w.heap.size w w' := by
  go_enter Tryd.func133, Tryd.ntmps133
  go_wp2_with fail
  refine oper_value (v := .agg refCells) (by kernel_rfl) ?_
  have hz : refCells.size = 186 := by kernel_rfl
  have hsc : ∀ c : Array Value, c.size = 186 → (storeCells ⟨w.heap.size, 0, none⟩ refCells.toList 0).run Tryd.prog (w.alloc (.cells c 194)) = .ok () (w.alloc (.cells refCells 194)) := fun c hc => run_storeCells_new (P := Tryd.prog) w 194 c refCells names_size (hc.trans hz.symm) names_one
  go_wp2_with fail
  trace "B"
  go_goals
  refine bodyPost_ret (v := .agg refCells) (results_cell_row Tryd.results133 _ _ w.heap.size 194 refCells (0, 0) _ rfl (heap_alloc_new w _) names_und rfl names_size) rfl ⟨rfl, (by repeat (first | exact Below.refl _ _ | assumption | apply Below.drew | apply below_drewN | refine Below.setCell ?_ (by simp) _ | refine Below.alloc ?_ (by simp; try omega) _))⟩
end Go.Proofs.YtdpknokginnmjaaDoor
