/- dn.Fault and the law's own fault, at what dn answers. -/
import Derived.Test.YtdpknokginnmjaaDoorEa
import Derived.Test.YtdpknokginnmjaaDoorNu
set_option linter.unusedVariables false
set_option linter.unusedSimpArgs false
namespace Go.Proofs.YtdpknokginnmjaaDoor
open Go.RowKit
/-- errors' own variable: the handle of the type 'error'. -/
def HasType (w : World) : Prop := w.cell? ⟨10, 0, none⟩ = some (.iface 143 (.agg #[.pointer (some ⟨13, 26, none⟩)]))
theorem HasType.below {w w' : World} (h : HasType w) (hb : Below w.heap.size w w') : HasType w' := bkeep hb h
theorem Errs.drewN {w : World} {E : Nat → Addr} (h : Errs w E) (n : Nat) : Errs (w.drewN n) E := ⟨h.g0, h.g1, h.g2, h.g3, h.g4, h.g5, h.g6, h.g7, h.g8, h.g9, h.row, h.inj⟩
theorem as_any (e t : Addr) (old : Value) (w : World) (B : Nat) (hB : B ≤ t.block) (hBw : B ≤ w.heap.size) (hg : HasType w) (ht0 : w.cell? t = some old) (hf0 : w.frozen? t = false) :
    Calls Tryd.prog 39 #[.iface 64 (.pointer (some e)), .iface 77 (.pointer (some t))] w fun ev w' => ev = .returned (.bool true) ∧ Below B w w' ∧ w'.cell? t = some (.pointer (some e)) := by
  refine (as_hit e t old w hg ht0 hf0).mono ?_
  have htl := World.block_lt_of_cell? w t ht0
  rintro ev w' ⟨rfl, rfl⟩
  refine ⟨rfl, ?_, ?_⟩
  · exact Below.setCell (((((Below.refl B w).alloc hBw _).alloc (by simp; omega) _).alloc (by simp; omega) _).alloc (by simp; omega) _) hB _
  · rw [World.cell?_setCell_same' _ _ _ ?_]
    rw [World.cell?_alloc_lt _ _ t (by simp; omega), World.cell?_alloc_lt _ _ t (by simp; omega), World.cell?_alloc_lt _ _ t (by simp; omega), World.cell?_alloc_lt _ _ t htl, ht0]; rfl
set_option maxRecDepth 100000 in
set_option maxHeartbeats 1600000 in
theorem fault_nil (w : World) : Calls Tryd.prog 18 #[.nilIface] w fun e w' => e = .returned (.tuple #[.int .i64 0, .int .i64 0]) ∧ Below w.heap.size w w' := by
  go_enter Tryd.func18, Tryd.ntmps18
  go_wp2
  go_ret2
  exact ⟨rfl, Below.refl _ _⟩
set_option maxRecDepth 100000 in
set_option maxHeartbeats 1600000 in
theorem fault_ref (E : Nat → Addr) (k : Nat) (hk : k < 10) (at_ : Int) (g : Nat) (w : World) (hE : Errs w E) (hT : HasType w) (hg : w.heap[g]? = some (.cells #[.iface 224 (.pointer (some (E k))), .int .i64 at_] 66 (0, 0))) :
    Calls Tryd.prog 18 #[.iface 64 (.pointer (some ⟨g, 0, none⟩))] w fun e w' => e = .returned (.tuple #[.int .i64 (50 + k), .int .i64 at_]) ∧ Below w.heap.size w w' := by
  have hgl := lt_of_heap hg
  have hc0 : w.cell? ⟨g, 0, none⟩ = some (.iface 224 (.pointer (some (E k)))) := by rw [Lib.cell_of_heap hg]; rfl
  have hc1 : w.cell? ⟨g, 1, none⟩ = some (.int .i64 at_) := by rw [Lib.cell_of_heap hg]; rfl
  have HE := Lib.hid hE
  have HT := Lib.hid hT
  clear hE hT
  go_enter Tryd.func18, Tryd.ntmps18
  go_wp2_with (go_at_call 39; refine (as_any _ _ _ _ w.heap.size (Nat.le_refl _) (by simp) (HT.out.below ((Below.refl _ w).alloc (Nat.le_refl _) _)) (cell_of_row _ _ 0 _ _ (0, 0) (heap_alloc_new w (.cells #[.pointer none] 64))) (Lib.frozen_of_heap (heap_alloc_new w (.cells #[.pointer none] 64)) 0)).mono ?_; rintro e w1 ⟨rfl, hb1, ht1⟩; have hbw := ((Below.refl _ w).alloc (Nat.le_refl _) _).trans hb1; have hk0 := bkeep hbw hc0; have hk1 := bkeep hbw hc1; have hE1 := HE.out.below hbw)
  go_quiet ((go_at_call 40; exact Calls.quiet_of_same (number_any E k hk _ (hE1.drewN _))))
  go_wp2
  go_ret2
  exact ⟨rfl, below_drewN hbw _⟩
set_option maxRecDepth 100000 in
set_option maxHeartbeats 1600000 in
theorem lawfault_ok (p : Int) (w : World) : Calls Tryd.prog 12 #[.nilIface, .int .i64 0, .int .i64 p] w fun e w' => e = .returned (.bool true) ∧ Below w.heap.size w w' := by
  go_enter Tryd.func12, Tryd.ntmps12
  go_wp2_with (go_at_call 18; refine (fault_nil _).mono ?_; rintro e w1 ⟨rfl, hw1⟩)
  go_ret
  exact ⟨rfl, hw1⟩
set_option maxRecDepth 100000 in
set_option maxHeartbeats 1600000 in
theorem lawfault_bad (E : Nat → Addr) (k : Nat) (hk : k < 10) (p : Int) (g : Nat) (w : World) (hE : Errs w E) (hT : HasType w) (hg : w.heap[g]? = some (.cells #[.iface 224 (.pointer (some (E k))), .int .i64 p] 66 (0, 0))) :
    Calls Tryd.prog 12 #[.iface 64 (.pointer (some ⟨g, 0, none⟩)), .int .i64 (50 + k), .int .i64 p] w fun e w' => e = .returned (.bool true) ∧ Below w.heap.size w w' := by
  have hb0 : ((50 + (k : Int)) == 0) = false := by rw [beq_eq_false_iff_ne]; omega
  go_enter Tryd.func12, Tryd.ntmps12
  go_wp2_with (go_at_call 18; refine (fault_ref E k hk p g _ hE hT hg).mono ?_; rintro e w1 ⟨rfl, hw1⟩)
  go_ret
  exact ⟨rfl, hw1⟩
end Go.Proofs.YtdpknokginnmjaaDoor
