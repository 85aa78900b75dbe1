/- dn.number by ten walks. -/
import Derived.Test.YtdpknokginnmjaaDoorEi
import Derived.Test.YtdpknokginnmjaaDoorSo
set_option linter.unusedVariables false
set_option linter.unusedSimpArgs false
namespace Go.Proofs.YtdpknokginnmjaaDoor
open Go.RowKit
/-- The ten reasons, each another pointer. -/
structure Errs (w : World) (E : Nat → Addr) : Prop where
  g0 : w.cell? ⟨0, 0, none⟩ = some (.iface 224 (.pointer (some (E 0))))
  g1 : w.cell? ⟨1, 0, none⟩ = some (.iface 224 (.pointer (some (E 1))))
  g2 : w.cell? ⟨2, 0, none⟩ = some (.iface 224 (.pointer (some (E 2))))
  g3 : w.cell? ⟨3, 0, none⟩ = some (.iface 224 (.pointer (some (E 3))))
  g4 : w.cell? ⟨4, 0, none⟩ = some (.iface 224 (.pointer (some (E 4))))
  g5 : w.cell? ⟨5, 0, none⟩ = some (.iface 224 (.pointer (some (E 5))))
  g6 : w.cell? ⟨6, 0, none⟩ = some (.iface 224 (.pointer (some (E 6))))
  g7 : w.cell? ⟨7, 0, none⟩ = some (.iface 224 (.pointer (some (E 7))))
  g8 : w.cell? ⟨8, 0, none⟩ = some (.iface 224 (.pointer (some (E 8))))
  g9 : w.cell? ⟨9, 0, none⟩ = some (.iface 224 (.pointer (some (E 9))))
  row : ∀ k, k < 10 → ∃ c t, w.heap[(E k).block]? = some (.cells c t (0, 0))
  inj : ∀ j k, j < 10 → k < 10 → j ≠ k → E j ≠ E k
theorem lt_of_heap {w : World} {b : Nat} {o : Obj} (h : w.heap[b]? = some o) : b < w.heap.size := by
  rcases Nat.lt_or_ge b w.heap.size with h' | h'
  · exact h'
  · rw [Array.getElem?_eq_none h'] at h; cases h
theorem Errs.below {w w' : World} {E : Nat → Addr} (h : Errs w E) (hb : Below w.heap.size w w') : Errs w' E :=
  ⟨bkeep hb h.g0, bkeep hb h.g1, bkeep hb h.g2, bkeep hb h.g3, bkeep hb h.g4, bkeep hb h.g5, bkeep hb h.g6, bkeep hb h.g7, bkeep hb h.g8, bkeep hb h.g9, fun k hk => by obtain ⟨c, t, hc⟩ := h.row k hk; exact ⟨c, t, by rw [hb.block _ (lt_of_heap hc)]; exact hc⟩, h.inj⟩
theorem Errs.four {w : World} {E : Nat → Addr} (h : Errs w E) : Errs4 w E := ⟨h.g1, h.g7, h.g8, h.g9⟩
set_option maxRecDepth 100000 in
set_option maxHeartbeats 1600000 in
theorem number_0 (a0 : Addr) (w : World)
    (g0 : w.cell? ⟨0, 0, none⟩ = some (.iface 224 (.pointer (some a0))))
    (c0 : Array Value) (t0 : TypeId) (r0 : w.heap[a0.block]? = some (.cells c0 t0 (0, 0))) :
    Calls Tryd.prog 40 #[.iface 224 (.pointer (some a0))] w fun e w' => e = .returned (.int .i64 50) ∧ w' = w := by
  go_enter Tryd.func40, Tryd.ntmps40
  go_wp2_with fail
  refine (is_same a0 _).mono ?_
  rintro e w' ⟨rfl, rfl⟩
  go_wp2_with fail
  go_ret
  exact ⟨rfl, rfl⟩
set_option maxRecDepth 100000 in
set_option maxHeartbeats 1600000 in
theorem number_1 (a0 a1 : Addr) (w : World)
    (g0 : w.cell? ⟨0, 0, none⟩ = some (.iface 224 (.pointer (some a0))))
    (g1 : w.cell? ⟨1, 0, none⟩ = some (.iface 224 (.pointer (some a1))))
    (c0 : Array Value) (t0 : TypeId) (r0 : w.heap[a0.block]? = some (.cells c0 t0 (0, 0)))
    (c1 : Array Value) (t1 : TypeId) (r1 : w.heap[a1.block]? = some (.cells c1 t1 (0, 0)))
    (n0 : a1 ≠ a0) :
    Calls Tryd.prog 40 #[.iface 224 (.pointer (some a1))] w fun e w' => e = .returned (.int .i64 51) ∧ w' = w := by
  go_enter Tryd.func40, Tryd.ntmps40
  go_wp2_with fail
  refine (is_other a1 a0 c1 c0 t1 t0 _ n0 r1 r0).mono ?_
  rintro e w' ⟨rfl, rfl⟩
  go_wp2_with fail
  refine (is_same a1 _).mono ?_
  rintro e w' ⟨rfl, rfl⟩
  go_wp2_with fail
  go_ret
  exact ⟨rfl, rfl⟩
set_option maxRecDepth 100000 in
set_option maxHeartbeats 1600000 in
theorem number_2 (a0 a1 a2 : Addr) (w : World)
    (g0 : w.cell? ⟨0, 0, none⟩ = some (.iface 224 (.pointer (some a0))))
    (g1 : w.cell? ⟨1, 0, none⟩ = some (.iface 224 (.pointer (some a1))))
    (g2 : w.cell? ⟨2, 0, none⟩ = some (.iface 224 (.pointer (some a2))))
    (c0 : Array Value) (t0 : TypeId) (r0 : w.heap[a0.block]? = some (.cells c0 t0 (0, 0)))
    (c1 : Array Value) (t1 : TypeId) (r1 : w.heap[a1.block]? = some (.cells c1 t1 (0, 0)))
    (c2 : Array Value) (t2 : TypeId) (r2 : w.heap[a2.block]? = some (.cells c2 t2 (0, 0)))
    (n0 : a2 ≠ a0)
    (n1 : a2 ≠ a1) :
    Calls Tryd.prog 40 #[.iface 224 (.pointer (some a2))] w fun e w' => e = .returned (.int .i64 52) ∧ w' = w := by
  go_enter Tryd.func40, Tryd.ntmps40
  go_wp2_with fail
  refine (is_other a2 a0 c2 c0 t2 t0 _ n0 r2 r0).mono ?_
  rintro e w' ⟨rfl, rfl⟩
  go_wp2_with fail
  refine (is_other a2 a1 c2 c1 t2 t1 _ n1 r2 r1).mono ?_
  rintro e w' ⟨rfl, rfl⟩
  go_wp2_with fail
  refine (is_same a2 _).mono ?_
  rintro e w' ⟨rfl, rfl⟩
  go_wp2_with fail
  go_ret
  exact ⟨rfl, rfl⟩
set_option maxRecDepth 100000 in
set_option maxHeartbeats 1600000 in
theorem number_3 (a0 a1 a2 a3 : Addr) (w : World)
    (g0 : w.cell? ⟨0, 0, none⟩ = some (.iface 224 (.pointer (some a0))))
    (g1 : w.cell? ⟨1, 0, none⟩ = some (.iface 224 (.pointer (some a1))))
    (g2 : w.cell? ⟨2, 0, none⟩ = some (.iface 224 (.pointer (some a2))))
    (g3 : w.cell? ⟨3, 0, none⟩ = some (.iface 224 (.pointer (some a3))))
    (c0 : Array Value) (t0 : TypeId) (r0 : w.heap[a0.block]? = some (.cells c0 t0 (0, 0)))
    (c1 : Array Value) (t1 : TypeId) (r1 : w.heap[a1.block]? = some (.cells c1 t1 (0, 0)))
    (c2 : Array Value) (t2 : TypeId) (r2 : w.heap[a2.block]? = some (.cells c2 t2 (0, 0)))
    (c3 : Array Value) (t3 : TypeId) (r3 : w.heap[a3.block]? = some (.cells c3 t3 (0, 0)))
    (n0 : a3 ≠ a0)
    (n1 : a3 ≠ a1)
    (n2 : a3 ≠ a2) :
    Calls Tryd.prog 40 #[.iface 224 (.pointer (some a3))] w fun e w' => e = .returned (.int .i64 53) ∧ w' = w := by
  go_enter Tryd.func40, Tryd.ntmps40
  go_wp2_with fail
  refine (is_other a3 a0 c3 c0 t3 t0 _ n0 r3 r0).mono ?_
  rintro e w' ⟨rfl, rfl⟩
  go_wp2_with fail
  refine (is_other a3 a1 c3 c1 t3 t1 _ n1 r3 r1).mono ?_
  rintro e w' ⟨rfl, rfl⟩
  go_wp2_with fail
  refine (is_other a3 a2 c3 c2 t3 t2 _ n2 r3 r2).mono ?_
  rintro e w' ⟨rfl, rfl⟩
  go_wp2_with fail
  refine (is_same a3 _).mono ?_
  rintro e w' ⟨rfl, rfl⟩
  go_wp2_with fail
  go_ret
  exact ⟨rfl, rfl⟩
set_option maxRecDepth 100000 in
set_option maxHeartbeats 1600000 in
theorem number_4 (a0 a1 a2 a3 a4 : Addr) (w : World)
    (g0 : w.cell? ⟨0, 0, none⟩ = some (.iface 224 (.pointer (some a0))))
    (g1 : w.cell? ⟨1, 0, none⟩ = some (.iface 224 (.pointer (some a1))))
    (g2 : w.cell? ⟨2, 0, none⟩ = some (.iface 224 (.pointer (some a2))))
    (g3 : w.cell? ⟨3, 0, none⟩ = some (.iface 224 (.pointer (some a3))))
    (g4 : w.cell? ⟨4, 0, none⟩ = some (.iface 224 (.pointer (some a4))))
    (c0 : Array Value) (t0 : TypeId) (r0 : w.heap[a0.block]? = some (.cells c0 t0 (0, 0)))
    (c1 : Array Value) (t1 : TypeId) (r1 : w.heap[a1.block]? = some (.cells c1 t1 (0, 0)))
    (c2 : Array Value) (t2 : TypeId) (r2 : w.heap[a2.block]? = some (.cells c2 t2 (0, 0)))
    (c3 : Array Value) (t3 : TypeId) (r3 : w.heap[a3.block]? = some (.cells c3 t3 (0, 0)))
    (c4 : Array Value) (t4 : TypeId) (r4 : w.heap[a4.block]? = some (.cells c4 t4 (0, 0)))
    (n0 : a4 ≠ a0)
    (n1 : a4 ≠ a1)
    (n2 : a4 ≠ a2)
    (n3 : a4 ≠ a3) :
    Calls Tryd.prog 40 #[.iface 224 (.pointer (some a4))] w fun e w' => e = .returned (.int .i64 54) ∧ w' = w := by
  go_enter Tryd.func40, Tryd.ntmps40
  go_wp2_with fail
  refine (is_other a4 a0 c4 c0 t4 t0 _ n0 r4 r0).mono ?_
  rintro e w' ⟨rfl, rfl⟩
  go_wp2_with fail
  refine (is_other a4 a1 c4 c1 t4 t1 _ n1 r4 r1).mono ?_
  rintro e w' ⟨rfl, rfl⟩
  go_wp2_with fail
  refine (is_other a4 a2 c4 c2 t4 t2 _ n2 r4 r2).mono ?_
  rintro e w' ⟨rfl, rfl⟩
  go_wp2_with fail
  refine (is_other a4 a3 c4 c3 t4 t3 _ n3 r4 r3).mono ?_
  rintro e w' ⟨rfl, rfl⟩
  go_wp2_with fail
  refine (is_same a4 _).mono ?_
  rintro e w' ⟨rfl, rfl⟩
  go_wp2_with fail
  go_ret
  exact ⟨rfl, rfl⟩
set_option maxRecDepth 100000 in
set_option maxHeartbeats 1600000 in
theorem number_5 (a0 a1 a2 a3 a4 a5 : Addr) (w : World)
    (g0 : w.cell? ⟨0, 0, none⟩ = some (.iface 224 (.pointer (some a0))))
    (g1 : w.cell? ⟨1, 0, none⟩ = some (.iface 224 (.pointer (some a1))))
    (g2 : w.cell? ⟨2, 0, none⟩ = some (.iface 224 (.pointer (some a2))))
    (g3 : w.cell? ⟨3, 0, none⟩ = some (.iface 224 (.pointer (some a3))))
    (g4 : w.cell? ⟨4, 0, none⟩ = some (.iface 224 (.pointer (some a4))))
    (g5 : w.cell? ⟨5, 0, none⟩ = some (.iface 224 (.pointer (some a5))))
    (c0 : Array Value) (t0 : TypeId) (r0 : w.heap[a0.block]? = some (.cells c0 t0 (0, 0)))
    (c1 : Array Value) (t1 : TypeId) (r1 : w.heap[a1.block]? = some (.cells c1 t1 (0, 0)))
    (c2 : Array Value) (t2 : TypeId) (r2 : w.heap[a2.block]? = some (.cells c2 t2 (0, 0)))
    (c3 : Array Value) (t3 : TypeId) (r3 : w.heap[a3.block]? = some (.cells c3 t3 (0, 0)))
    (c4 : Array Value) (t4 : TypeId) (r4 : w.heap[a4.block]? = some (.cells c4 t4 (0, 0)))
    (c5 : Array Value) (t5 : TypeId) (r5 : w.heap[a5.block]? = some (.cells c5 t5 (0, 0)))
    (n0 : a5 ≠ a0)
    (n1 : a5 ≠ a1)
    (n2 : a5 ≠ a2)
    (n3 : a5 ≠ a3)
    (n4 : a5 ≠ a4) :
    Calls Tryd.prog 40 #[.iface 224 (.pointer (some a5))] w fun e w' => e = .returned (.int .i64 55) ∧ w' = w := by
  go_enter Tryd.func40, Tryd.ntmps40
  go_wp2_with fail
  refine (is_other a5 a0 c5 c0 t5 t0 _ n0 r5 r0).mono ?_
  rintro e w' ⟨rfl, rfl⟩
  go_wp2_with fail
  refine (is_other a5 a1 c5 c1 t5 t1 _ n1 r5 r1).mono ?_
  rintro e w' ⟨rfl, rfl⟩
  go_wp2_with fail
  refine (is_other a5 a2 c5 c2 t5 t2 _ n2 r5 r2).mono ?_
  rintro e w' ⟨rfl, rfl⟩
  go_wp2_with fail
  refine (is_other a5 a3 c5 c3 t5 t3 _ n3 r5 r3).mono ?_
  rintro e w' ⟨rfl, rfl⟩
  go_wp2_with fail
  refine (is_other a5 a4 c5 c4 t5 t4 _ n4 r5 r4).mono ?_
  rintro e w' ⟨rfl, rfl⟩
  go_wp2_with fail
  refine (is_same a5 _).mono ?_
  rintro e w' ⟨rfl, rfl⟩
  go_wp2_with fail
  go_ret
  exact ⟨rfl, rfl⟩
set_option maxRecDepth 100000 in
set_option maxHeartbeats 1600000 in
theorem number_6 (a0 a1 a2 a3 a4 a5 a6 : Addr) (w : World)
    (g0 : w.cell? ⟨0, 0, none⟩ = some (.iface 224 (.pointer (some a0))))
    (g1 : w.cell? ⟨1, 0, none⟩ = some (.iface 224 (.pointer (some a1))))
    (g2 : w.cell? ⟨2, 0, none⟩ = some (.iface 224 (.pointer (some a2))))
    (g3 : w.cell? ⟨3, 0, none⟩ = some (.iface 224 (.pointer (some a3))))
    (g4 : w.cell? ⟨4, 0, none⟩ = some (.iface 224 (.pointer (some a4))))
    (g5 : w.cell? ⟨5, 0, none⟩ = some (.iface 224 (.pointer (some a5))))
    (g6 : w.cell? ⟨6, 0, none⟩ = some (.iface 224 (.pointer (some a6))))
    (c0 : Array Value) (t0 : TypeId) (r0 : w.heap[a0.block]? = some (.cells c0 t0 (0, 0)))
    (c1 : Array Value) (t1 : TypeId) (r1 : w.heap[a1.block]? = some (.cells c1 t1 (0, 0)))
    (c2 : Array Value) (t2 : TypeId) (r2 : w.heap[a2.block]? = some (.cells c2 t2 (0, 0)))
    (c3 : Array Value) (t3 : TypeId) (r3 : w.heap[a3.block]? = some (.cells c3 t3 (0, 0)))
    (c4 : Array Value) (t4 : TypeId) (r4 : w.heap[a4.block]? = some (.cells c4 t4 (0, 0)))
    (c5 : Array Value) (t5 : TypeId) (r5 : w.heap[a5.block]? = some (.cells c5 t5 (0, 0)))
    (c6 : Array Value) (t6 : TypeId) (r6 : w.heap[a6.block]? = some (.cells c6 t6 (0, 0)))
    (n0 : a6 ≠ a0)
    (n1 : a6 ≠ a1)
    (n2 : a6 ≠ a2)
    (n3 : a6 ≠ a3)
    (n4 : a6 ≠ a4)
    (n5 : a6 ≠ a5) :
    Calls Tryd.prog 40 #[.iface 224 (.pointer (some a6))] w fun e w' => e = .returned (.int .i64 56) ∧ w' = w := by
  go_enter Tryd.func40, Tryd.ntmps40
  go_wp2_with fail
  refine (is_other a6 a0 c6 c0 t6 t0 _ n0 r6 r0).mono ?_
  rintro e w' ⟨rfl, rfl⟩
  go_wp2_with fail
  refine (is_other a6 a1 c6 c1 t6 t1 _ n1 r6 r1).mono ?_
  rintro e w' ⟨rfl, rfl⟩
  go_wp2_with fail
  refine (is_other a6 a2 c6 c2 t6 t2 _ n2 r6 r2).mono ?_
  rintro e w' ⟨rfl, rfl⟩
  go_wp2_with fail
  refine (is_other a6 a3 c6 c3 t6 t3 _ n3 r6 r3).mono ?_
  rintro e w' ⟨rfl, rfl⟩
  go_wp2_with fail
  refine (is_other a6 a4 c6 c4 t6 t4 _ n4 r6 r4).mono ?_
  rintro e w' ⟨rfl, rfl⟩
  go_wp2_with fail
  refine (is_other a6 a5 c6 c5 t6 t5 _ n5 r6 r5).mono ?_
  rintro e w' ⟨rfl, rfl⟩
  go_wp2_with fail
  refine (is_same a6 _).mono ?_
  rintro e w' ⟨rfl, rfl⟩
  go_wp2_with fail
  go_ret
  exact ⟨rfl, rfl⟩
set_option maxRecDepth 100000 in
set_option maxHeartbeats 1600000 in
theorem number_7 (a0 a1 a2 a3 a4 a5 a6 a7 : Addr) (w : World)
    (g0 : w.cell? ⟨0, 0, none⟩ = some (.iface 224 (.pointer (some a0))))
    (g1 : w.cell? ⟨1, 0, none⟩ = some (.iface 224 (.pointer (some a1))))
    (g2 : w.cell? ⟨2, 0, none⟩ = some (.iface 224 (.pointer (some a2))))
    (g3 : w.cell? ⟨3, 0, none⟩ = some (.iface 224 (.pointer (some a3))))
    (g4 : w.cell? ⟨4, 0, none⟩ = some (.iface 224 (.pointer (some a4))))
    (g5 : w.cell? ⟨5, 0, none⟩ = some (.iface 224 (.pointer (some a5))))
    (g6 : w.cell? ⟨6, 0, none⟩ = some (.iface 224 (.pointer (some a6))))
    (g7 : w.cell? ⟨7, 0, none⟩ = some (.iface 224 (.pointer (some a7))))
    (c0 : Array Value) (t0 : TypeId) (r0 : w.heap[a0.block]? = some (.cells c0 t0 (0, 0)))
    (c1 : Array Value) (t1 : TypeId) (r1 : w.heap[a1.block]? = some (.cells c1 t1 (0, 0)))
    (c2 : Array Value) (t2 : TypeId) (r2 : w.heap[a2.block]? = some (.cells c2 t2 (0, 0)))
    (c3 : Array Value) (t3 : TypeId) (r3 : w.heap[a3.block]? = some (.cells c3 t3 (0, 0)))
    (c4 : Array Value) (t4 : TypeId) (r4 : w.heap[a4.block]? = some (.cells c4 t4 (0, 0)))
    (c5 : Array Value) (t5 : TypeId) (r5 : w.heap[a5.block]? = some (.cells c5 t5 (0, 0)))
    (c6 : Array Value) (t6 : TypeId) (r6 : w.heap[a6.block]? = some (.cells c6 t6 (0, 0)))
    (c7 : Array Value) (t7 : TypeId) (r7 : w.heap[a7.block]? = some (.cells c7 t7 (0, 0)))
    (n0 : a7 ≠ a0)
    (n1 : a7 ≠ a1)
    (n2 : a7 ≠ a2)
    (n3 : a7 ≠ a3)
    (n4 : a7 ≠ a4)
    (n5 : a7 ≠ a5)
    (n6 : a7 ≠ a6) :
    Calls Tryd.prog 40 #[.iface 224 (.pointer (some a7))] w fun e w' => e = .returned (.int .i64 57) ∧ w' = w := by
  go_enter Tryd.func40, Tryd.ntmps40
  go_wp2_with fail
  refine (is_other a7 a0 c7 c0 t7 t0 _ n0 r7 r0).mono ?_
  rintro e w' ⟨rfl, rfl⟩
  go_wp2_with fail
  refine (is_other a7 a1 c7 c1 t7 t1 _ n1 r7 r1).mono ?_
  rintro e w' ⟨rfl, rfl⟩
  go_wp2_with fail
  refine (is_other a7 a2 c7 c2 t7 t2 _ n2 r7 r2).mono ?_
  rintro e w' ⟨rfl, rfl⟩
  go_wp2_with fail
  refine (is_other a7 a3 c7 c3 t7 t3 _ n3 r7 r3).mono ?_
  rintro e w' ⟨rfl, rfl⟩
  go_wp2_with fail
  refine (is_other a7 a4 c7 c4 t7 t4 _ n4 r7 r4).mono ?_
  rintro e w' ⟨rfl, rfl⟩
  go_wp2_with fail
  refine (is_other a7 a5 c7 c5 t7 t5 _ n5 r7 r5).mono ?_
  rintro e w' ⟨rfl, rfl⟩
  go_wp2_with fail
  refine (is_other a7 a6 c7 c6 t7 t6 _ n6 r7 r6).mono ?_
  rintro e w' ⟨rfl, rfl⟩
  go_wp2_with fail
  refine (is_same a7 _).mono ?_
  rintro e w' ⟨rfl, rfl⟩
  go_wp2_with fail
  go_ret
  exact ⟨rfl, rfl⟩
set_option maxRecDepth 100000 in
set_option maxHeartbeats 1600000 in
theorem number_8 (a0 a1 a2 a3 a4 a5 a6 a7 a8 : Addr) (w : World)
    (g0 : w.cell? ⟨0, 0, none⟩ = some (.iface 224 (.pointer (some a0))))
    (g1 : w.cell? ⟨1, 0, none⟩ = some (.iface 224 (.pointer (some a1))))
    (g2 : w.cell? ⟨2, 0, none⟩ = some (.iface 224 (.pointer (some a2))))
    (g3 : w.cell? ⟨3, 0, none⟩ = some (.iface 224 (.pointer (some a3))))
    (g4 : w.cell? ⟨4, 0, none⟩ = some (.iface 224 (.pointer (some a4))))
    (g5 : w.cell? ⟨5, 0, none⟩ = some (.iface 224 (.pointer (some a5))))
    (g6 : w.cell? ⟨6, 0, none⟩ = some (.iface 224 (.pointer (some a6))))
    (g7 : w.cell? ⟨7, 0, none⟩ = some (.iface 224 (.pointer (some a7))))
    (g8 : w.cell? ⟨8, 0, none⟩ = some (.iface 224 (.pointer (some a8))))
    (c0 : Array Value) (t0 : TypeId) (r0 : w.heap[a0.block]? = some (.cells c0 t0 (0, 0)))
    (c1 : Array Value) (t1 : TypeId) (r1 : w.heap[a1.block]? = some (.cells c1 t1 (0, 0)))
    (c2 : Array Value) (t2 : TypeId) (r2 : w.heap[a2.block]? = some (.cells c2 t2 (0, 0)))
    (c3 : Array Value) (t3 : TypeId) (r3 : w.heap[a3.block]? = some (.cells c3 t3 (0, 0)))
    (c4 : Array Value) (t4 : TypeId) (r4 : w.heap[a4.block]? = some (.cells c4 t4 (0, 0)))
    (c5 : Array Value) (t5 : TypeId) (r5 : w.heap[a5.block]? = some (.cells c5 t5 (0, 0)))
    (c6 : Array Value) (t6 : TypeId) (r6 : w.heap[a6.block]? = some (.cells c6 t6 (0, 0)))
    (c7 : Array Value) (t7 : TypeId) (r7 : w.heap[a7.block]? = some (.cells c7 t7 (0, 0)))
    (c8 : Array Value) (t8 : TypeId) (r8 : w.heap[a8.block]? = some (.cells c8 t8 (0, 0)))
    (n0 : a8 ≠ a0)
    (n1 : a8 ≠ a1)
    (n2 : a8 ≠ a2)
    (n3 : a8 ≠ a3)
    (n4 : a8 ≠ a4)
    (n5 : a8 ≠ a5)
    (n6 : a8 ≠ a6)
    (n7 : a8 ≠ a7) :
    Calls Tryd.prog 40 #[.iface 224 (.pointer (some a8))] w fun e w' => e = .returned (.int .i64 58) ∧ w' = w := by
  go_enter Tryd.func40, Tryd.ntmps40
  go_wp2_with fail
  refine (is_other a8 a0 c8 c0 t8 t0 _ n0 r8 r0).mono ?_
  rintro e w' ⟨rfl, rfl⟩
  go_wp2_with fail
  refine (is_other a8 a1 c8 c1 t8 t1 _ n1 r8 r1).mono ?_
  rintro e w' ⟨rfl, rfl⟩
  go_wp2_with fail
  refine (is_other a8 a2 c8 c2 t8 t2 _ n2 r8 r2).mono ?_
  rintro e w' ⟨rfl, rfl⟩
  go_wp2_with fail
  refine (is_other a8 a3 c8 c3 t8 t3 _ n3 r8 r3).mono ?_
  rintro e w' ⟨rfl, rfl⟩
  go_wp2_with fail
  refine (is_other a8 a4 c8 c4 t8 t4 _ n4 r8 r4).mono ?_
  rintro e w' ⟨rfl, rfl⟩
  go_wp2_with fail
  refine (is_other a8 a5 c8 c5 t8 t5 _ n5 r8 r5).mono ?_
  rintro e w' ⟨rfl, rfl⟩
  go_wp2_with fail
  refine (is_other a8 a6 c8 c6 t8 t6 _ n6 r8 r6).mono ?_
  rintro e w' ⟨rfl, rfl⟩
  go_wp2_with fail
  refine (is_other a8 a7 c8 c7 t8 t7 _ n7 r8 r7).mono ?_
  rintro e w' ⟨rfl, rfl⟩
  go_wp2_with fail
  refine (is_same a8 _).mono ?_
  rintro e w' ⟨rfl, rfl⟩
  go_wp2_with fail
  go_ret
  exact ⟨rfl, rfl⟩
set_option maxRecDepth 100000 in
set_option maxHeartbeats 1600000 in
theorem number_9 (a0 a1 a2 a3 a4 a5 a6 a7 a8 a9 : Addr) (w : World)
    (g0 : w.cell? ⟨0, 0, none⟩ = some (.iface 224 (.pointer (some a0))))
    (g1 : w.cell? ⟨1, 0, none⟩ = some (.iface 224 (.pointer (some a1))))
    (g2 : w.cell? ⟨2, 0, none⟩ = some (.iface 224 (.pointer (some a2))))
    (g3 : w.cell? ⟨3, 0, none⟩ = some (.iface 224 (.pointer (some a3))))
    (g4 : w.cell? ⟨4, 0, none⟩ = some (.iface 224 (.pointer (some a4))))
    (g5 : w.cell? ⟨5, 0, none⟩ = some (.iface 224 (.pointer (some a5))))
    (g6 : w.cell? ⟨6, 0, none⟩ = some (.iface 224 (.pointer (some a6))))
    (g7 : w.cell? ⟨7, 0, none⟩ = some (.iface 224 (.pointer (some a7))))
    (g8 : w.cell? ⟨8, 0, none⟩ = some (.iface 224 (.pointer (some a8))))
    (c0 : Array Value) (t0 : TypeId) (r0 : w.heap[a0.block]? = some (.cells c0 t0 (0, 0)))
    (c1 : Array Value) (t1 : TypeId) (r1 : w.heap[a1.block]? = some (.cells c1 t1 (0, 0)))
    (c2 : Array Value) (t2 : TypeId) (r2 : w.heap[a2.block]? = some (.cells c2 t2 (0, 0)))
    (c3 : Array Value) (t3 : TypeId) (r3 : w.heap[a3.block]? = some (.cells c3 t3 (0, 0)))
    (c4 : Array Value) (t4 : TypeId) (r4 : w.heap[a4.block]? = some (.cells c4 t4 (0, 0)))
    (c5 : Array Value) (t5 : TypeId) (r5 : w.heap[a5.block]? = some (.cells c5 t5 (0, 0)))
    (c6 : Array Value) (t6 : TypeId) (r6 : w.heap[a6.block]? = some (.cells c6 t6 (0, 0)))
    (c7 : Array Value) (t7 : TypeId) (r7 : w.heap[a7.block]? = some (.cells c7 t7 (0, 0)))
    (c8 : Array Value) (t8 : TypeId) (r8 : w.heap[a8.block]? = some (.cells c8 t8 (0, 0)))
    (c9 : Array Value) (t9 : TypeId) (r9 : w.heap[a9.block]? = some (.cells c9 t9 (0, 0)))
    (n0 : a9 ≠ a0)
    (n1 : a9 ≠ a1)
    (n2 : a9 ≠ a2)
    (n3 : a9 ≠ a3)
    (n4 : a9 ≠ a4)
    (n5 : a9 ≠ a5)
    (n6 : a9 ≠ a6)
    (n7 : a9 ≠ a7)
    (n8 : a9 ≠ a8) :
    Calls Tryd.prog 40 #[.iface 224 (.pointer (some a9))] w fun e w' => e = .returned (.int .i64 59) ∧ w' = w := by
  go_enter Tryd.func40, Tryd.ntmps40
  go_wp2_with fail
  refine (is_other a9 a0 c9 c0 t9 t0 _ n0 r9 r0).mono ?_
  rintro e w' ⟨rfl, rfl⟩
  go_wp2_with fail
  refine (is_other a9 a1 c9 c1 t9 t1 _ n1 r9 r1).mono ?_
  rintro e w' ⟨rfl, rfl⟩
  go_wp2_with fail
  refine (is_other a9 a2 c9 c2 t9 t2 _ n2 r9 r2).mono ?_
  rintro e w' ⟨rfl, rfl⟩
  go_wp2_with fail
  refine (is_other a9 a3 c9 c3 t9 t3 _ n3 r9 r3).mono ?_
  rintro e w' ⟨rfl, rfl⟩
  go_wp2_with fail
  refine (is_other a9 a4 c9 c4 t9 t4 _ n4 r9 r4).mono ?_
  rintro e w' ⟨rfl, rfl⟩
  go_wp2_with fail
  refine (is_other a9 a5 c9 c5 t9 t5 _ n5 r9 r5).mono ?_
  rintro e w' ⟨rfl, rfl⟩
  go_wp2_with fail
  refine (is_other a9 a6 c9 c6 t9 t6 _ n6 r9 r6).mono ?_
  rintro e w' ⟨rfl, rfl⟩
  go_wp2_with fail
  refine (is_other a9 a7 c9 c7 t9 t7 _ n7 r9 r7).mono ?_
  rintro e w' ⟨rfl, rfl⟩
  go_wp2_with fail
  refine (is_other a9 a8 c9 c8 t9 t8 _ n8 r9 r8).mono ?_
  rintro e w' ⟨rfl, rfl⟩
  go_wp2_with fail
  go_ret
  exact ⟨rfl, rfl⟩
theorem number_any (E : Nat → Addr) (k : Nat) (hk : k < 10) (w : World) (h : Errs w E) :
    Calls Tryd.prog 40 #[.iface 224 (.pointer (some (E k)))] w fun e w' => e = .returned (.int .i64 (50 + k)) ∧ w' = w := by
  have hR := h.row
  obtain ⟨c0, t0, r0⟩ := hR 0 (by decide)
  obtain ⟨c1, t1, r1⟩ := hR 1 (by decide)
  obtain ⟨c2, t2, r2⟩ := hR 2 (by decide)
  obtain ⟨c3, t3, r3⟩ := hR 3 (by decide)
  obtain ⟨c4, t4, r4⟩ := hR 4 (by decide)
  obtain ⟨c5, t5, r5⟩ := hR 5 (by decide)
  obtain ⟨c6, t6, r6⟩ := hR 6 (by decide)
  obtain ⟨c7, t7, r7⟩ := hR 7 (by decide)
  obtain ⟨c8, t8, r8⟩ := hR 8 (by decide)
  obtain ⟨c9, t9, r9⟩ := hR 9 (by decide)
  match k, hk with
  | 0, _ => exact number_0 (E 0) w h.g0 c0 t0 r0 
  | 1, _ => exact number_1 (E 0) (E 1) w h.g0 h.g1 c0 t0 r0 c1 t1 r1 (h.inj 1 0 (by decide) (by decide) (by decide))
  | 2, _ => exact number_2 (E 0) (E 1) (E 2) w h.g0 h.g1 h.g2 c0 t0 r0 c1 t1 r1 c2 t2 r2 (h.inj 2 0 (by decide) (by decide) (by decide)) (h.inj 2 1 (by decide) (by decide) (by decide))
  | 3, _ => exact number_3 (E 0) (E 1) (E 2) (E 3) w h.g0 h.g1 h.g2 h.g3 c0 t0 r0 c1 t1 r1 c2 t2 r2 c3 t3 r3 (h.inj 3 0 (by decide) (by decide) (by decide)) (h.inj 3 1 (by decide) (by decide) (by decide)) (h.inj 3 2 (by decide) (by decide) (by decide))
  | 4, _ => exact number_4 (E 0) (E 1) (E 2) (E 3) (E 4) w h.g0 h.g1 h.g2 h.g3 h.g4 c0 t0 r0 c1 t1 r1 c2 t2 r2 c3 t3 r3 c4 t4 r4 (h.inj 4 0 (by decide) (by decide) (by decide)) (h.inj 4 1 (by decide) (by decide) (by decide)) (h.inj 4 2 (by decide) (by decide) (by decide)) (h.inj 4 3 (by decide) (by decide) (by decide))
  | 5, _ => exact number_5 (E 0) (E 1) (E 2) (E 3) (E 4) (E 5) w h.g0 h.g1 h.g2 h.g3 h.g4 h.g5 c0 t0 r0 c1 t1 r1 c2 t2 r2 c3 t3 r3 c4 t4 r4 c5 t5 r5 (h.inj 5 0 (by decide) (by decide) (by decide)) (h.inj 5 1 (by decide) (by decide) (by decide)) (h.inj 5 2 (by decide) (by decide) (by decide)) (h.inj 5 3 (by decide) (by decide) (by decide)) (h.inj 5 4 (by decide) (by decide) (by decide))
  | 6, _ => exact number_6 (E 0) (E 1) (E 2) (E 3) (E 4) (E 5) (E 6) w h.g0 h.g1 h.g2 h.g3 h.g4 h.g5 h.g6 c0 t0 r0 c1 t1 r1 c2 t2 r2 c3 t3 r3 c4 t4 r4 c5 t5 r5 c6 t6 r6 (h.inj 6 0 (by decide) (by decide) (by decide)) (h.inj 6 1 (by decide) (by decide) (by decide)) (h.inj 6 2 (by decide) (by decide) (by decide)) (h.inj 6 3 (by decide) (by decide) (by decide)) (h.inj 6 4 (by decide) (by decide) (by decide)) (h.inj 6 5 (by decide) (by decide) (by decide))
  | 7, _ => exact number_7 (E 0) (E 1) (E 2) (E 3) (E 4) (E 5) (E 6) (E 7) w h.g0 h.g1 h.g2 h.g3 h.g4 h.g5 h.g6 h.g7 c0 t0 r0 c1 t1 r1 c2 t2 r2 c3 t3 r3 c4 t4 r4 c5 t5 r5 c6 t6 r6 c7 t7 r7 (h.inj 7 0 (by decide) (by decide) (by decide)) (h.inj 7 1 (by decide) (by decide) (by decide)) (h.inj 7 2 (by decide) (by decide) (by decide)) (h.inj 7 3 (by decide) (by decide) (by decide)) (h.inj 7 4 (by decide) (by decide) (by decide)) (h.inj 7 5 (by decide) (by decide) (by decide)) (h.inj 7 6 (by decide) (by decide) (by decide))
  | 8, _ => exact number_8 (E 0) (E 1) (E 2) (E 3) (E 4) (E 5) (E 6) (E 7) (E 8) w h.g0 h.g1 h.g2 h.g3 h.g4 h.g5 h.g6 h.g7 h.g8 c0 t0 r0 c1 t1 r1 c2 t2 r2 c3 t3 r3 c4 t4 r4 c5 t5 r5 c6 t6 r6 c7 t7 r7 c8 t8 r8 (h.inj 8 0 (by decide) (by decide) (by decide)) (h.inj 8 1 (by decide) (by decide) (by decide)) (h.inj 8 2 (by decide) (by decide) (by decide)) (h.inj 8 3 (by decide) (by decide) (by decide)) (h.inj 8 4 (by decide) (by decide) (by decide)) (h.inj 8 5 (by decide) (by decide) (by decide)) (h.inj 8 6 (by decide) (by decide) (by decide)) (h.inj 8 7 (by decide) (by decide) (by decide))
  | 9, _ => exact number_9 (E 0) (E 1) (E 2) (E 3) (E 4) (E 5) (E 6) (E 7) (E 8) (E 9) w h.g0 h.g1 h.g2 h.g3 h.g4 h.g5 h.g6 h.g7 h.g8 c0 t0 r0 c1 t1 r1 c2 t2 r2 c3 t3 r3 c4 t4 r4 c5 t5 r5 c6 t6 r6 c7 t7 r7 c8 t8 r8 c9 t9 r9 (h.inj 9 0 (by decide) (by decide) (by decide)) (h.inj 9 1 (by decide) (by decide) (by decide)) (h.inj 9 2 (by decide) (by decide) (by decide)) (h.inj 9 3 (by decide) (by decide) (by decide)) (h.inj 9 4 (by decide) (by decide) (by decide)) (h.inj 9 5 (by decide) (by decide) (by decide)) (h.inj 9 6 (by decide) (by decide) (by decide)) (h.inj 9 7 (by decide) (by decide) (by decide)) (h.inj 9 8 (by decide) (by decide) (by decide))
end Go.Proofs.YtdpknokginnmjaaDoor
