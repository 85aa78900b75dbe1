/- errors.Is at sentinels: turned from the worked proof SentryIs. -/
import Derived.Test.YtdpknokginnmjaaDoorB
import Derived.LaidEql
import Derived.Stop.Asserts
import Derived.RowKitTokens
set_option linter.unusedVariables false
set_option linter.unusedSimpArgs false
namespace Go.Proofs.YtdpknokginnmjaaDoor
open Go.RowKit Go.Extern.Stop Go.Stop Go.Extern
/-! ### CLOSED FACTS: what 'reflectlite.TypeOf(target).Comparable()' gives at such a target -/
theorem ei_isTypeOf (v : Value) (w : World) : (Extern.ReflectliteType.typeOf #[.iface 224 v]).run Tryd.prog w = .ok (.iface 143 (.agg #[.pointer (some ⟨13, 224, none⟩)])) w := by kernel_rfl
def ei_cmp : Array Value → Sem Value := Extern.ReflectliteType.method fun t => do Go.Extern.Rtype.noPackHeld "Comparable" t; pure (.bool (← typeInfo t).comparable)
theorem ei_isComparable (w : World) : (ei_cmp #[.agg #[.pointer (some ⟨13, 224, none⟩)]]).run Tryd.prog w = .ok (.bool true) w := by kernel_rfl
theorem ei_isMethodComparable (v : Value) (w : World) : (Go.method 355 143 v "Comparable").run Tryd.prog w = .ok (177, v) w := by kernel_rfl
theorem ei_isComp : (Tryd.prog.info? 224).map (·.comparable) = some true := by kernel_rfl
theorem ei_isSize : (Tryd.prog.info? 243).map (·.size) = some 1 := by kernel_rfl

/-! ### CLOSED FACTS ON THE METHOD SETS: what errors.is's assertions find -/
theorem ei_noIsE (v : Value) (xT : TypeId) (w : World) : (Instr.typeAssert (.iface 224 v) xT 176 true).run Tryd.prog w = .ok (.tuple #[.nilIface, .bool false]) w := run_typeAssert_lacksB Tryd.underlying176 (by kernel_rfl) (by kernel_rfl) v xT w
theorem ei_noUnwrapE (v : Value) (xT : TypeId) (w : World) : (Instr.typeAssert (.iface 224 v) xT 151 true).run Tryd.prog w = .ok (.tuple #[.nilIface, .bool false]) w := run_typeAssert_lacksB Tryd.underlying151 (by kernel_rfl) (by kernel_rfl) v xT w
theorem ei_noUnwrapsE (v : Value) (xT : TypeId) (w : World) : (Instr.typeAssert (.iface 224 v) xT 153 true).run Tryd.prog w = .ok (.tuple #[.nilIface, .bool false]) w := run_typeAssert_lacksB Tryd.underlying153 (by kernel_rfl) (by kernel_rfl) v xT w

/-- errors.Is(x, x), x a pointer to an errors.errorString. -/
theorem is_same (a : Addr) (w : World) :
    Calls Tryd.prog 65 #[.iface 224 (.pointer (some a)), .iface 224 (.pointer (some a))] w fun e w' => e = .returned (.bool true) ∧ w' = w := by
  obtain ⟨i, hi, hcmp⟩ := Option.map_eq_some_iff.1 ei_isComp
  obtain ⟨j, hj, hjs⟩ := Option.map_eq_some_iff.1 ei_isSize
  have h8 := @run_callFunc_extern Tryd.prog 89 _ Extern.ReflectliteType.typeOf Tryd.func89 (by kernel_rfl) (by kernel_rfl) (by kernel_rfl) (by kernel_rfl)
  have h32 := @run_callFunc_extern Tryd.prog 177 _ ei_cmp Tryd.func177 (by kernel_rfl) (by kernel_rfl) (by kernel_rfl) (by kernel_rfl)
  have tT := ei_isTypeOf
  have cT := ei_isComparable
  have mR := ei_isMethodComparable
  have heq := run_eql_iface_ptr_same (P := Tryd.prog) w a Tryd.underlying26 Tryd.underlying224 hi hcmp hj
  go_enter Tryd.func65, Tryd.ntmps65
  go_wp2
  refine wp_loop_rounds 1 ?_
  rw [rounds_succ]
  go_wp2
  go_ret
  exact ⟨rfl, rfl⟩

/-- errors.Is(nil, x). -/
theorem is_nil (b : Addr) (w : World) :
    Calls Tryd.prog 65 #[.nilIface, .iface 224 (.pointer (some b))] w fun e w' => e = .returned (.bool false) ∧ w' = w := by
  have hn := run_eql_iface_nil_left (P := Tryd.prog) w 224 (.pointer (some b)) Tryd.underlying26
  go_enter Tryd.func65, Tryd.ntmps65
  go_wp2
  go_ret
  exact ⟨rfl, rfl⟩

/-- errors.Is(x, y), two different pointers to errors.errorString: neither has Is nor Unwrap: false. -/
theorem is_other (a b : Addr) (ca cb : Array Value) (ta tb : TypeId) (w : World) (hne : a ≠ b) (ha : w.heap[a.block]? = some (.cells ca ta (0, 0))) (hb : w.heap[b.block]? = some (.cells cb tb (0, 0))) :
    Calls Tryd.prog 65 #[.iface 224 (.pointer (some a)), .iface 224 (.pointer (some b))] w fun e w' => e = .returned (.bool false) ∧ w' = w := by
  obtain ⟨i, hi, hcmp⟩ := Option.map_eq_some_iff.1 ei_isComp
  obtain ⟨j, hj, hjs⟩ := Option.map_eq_some_iff.1 ei_isSize
  have h8 := @run_callFunc_extern Tryd.prog 89 _ Extern.ReflectliteType.typeOf Tryd.func89 (by kernel_rfl) (by kernel_rfl) (by kernel_rfl) (by kernel_rfl)
  have h32 := @run_callFunc_extern Tryd.prog 177 _ ei_cmp Tryd.func177 (by kernel_rfl) (by kernel_rfl) (by kernel_rfl) (by kernel_rfl)
  have tT := ei_isTypeOf
  have cT := ei_isComparable
  have mR := ei_isMethodComparable
  have nE := ei_noIsE
  have uE := ei_noUnwrapE
  have vE := ei_noUnwrapsE
  have heq := run_eql_iface_ptr_other (P := Tryd.prog) w Tryd.underlying26 Tryd.underlying224 hi hcmp hj (by rw [hjs]; decide) hne ha hb
  go_enter Tryd.func65, Tryd.ntmps65
  go_wp2
  refine wp_loop_rounds 1 ?_
  rw [rounds_succ]
  go_wp2
  go_ret
  exact ⟨rfl, rfl⟩

end Go.Proofs.YtdpknokginnmjaaDoor
