/- attr.canonical and attr.ParseType by walks. -/
import Derived.Test.YtdpknokginnmjaaDoorAs
import Derived.Test.YtdpknokginnmjaaDoorTabS
import Derived.Test.YtdpknokginnmjaaDoorTabM
import Derived.Test.YtdpknokginnmjaaDoorTf
set_option linter.unusedVariables false
set_option linter.unusedSimpArgs false
namespace Go.Proofs.YtdpknokginnmjaaDoor
open Go.RowKit
/-- The canonical type of a type's text; whether a text is one. -/
def canonP (s : ByteArray) : ByteArray := match nameRow (ls (fold s)) with | some i => (attrRow i).1 | none => fold s
def typeOk (s : ByteArray) : Bool := (scanR true (ls s) 0 0 0).1
theorem names_lt : ∀ p ∈ firstNames ++ laterNames, p.2 < 62 := by decide +kernel
theorem nameRow_lt {l : List UInt8} {i : Nat} (h : nameRow l = some i) : i < 62 := by
  unfold nameRow findName at h
  cases hf : (firstNames ++ laterNames).find? (fun p => p.1 == l) with
  | none => rw [hf] at h; cases h
  | some p =>
    rw [hf] at h
    cases h
    exact names_lt p (List.mem_of_find?_eq_some hf)
theorem field_name (a o p : ByteArray) (A : Option Addr) (n c : Nat) (y u : Int) (w : World) : (Instr.field 85 (.agg #[.string a, .slice A n c, .string o, .string p, .int .i64 y, .int .i64 u]) 0).run Tryd.prog w = .ok (.string a) w := by kernel_rfl
set_option maxRecDepth 100000 in
set_option maxHeartbeats 1600000 in
theorem canonical_any (s : ByteArray) (w : World) (hs : s.size ≤ 140737488351232) :
    Calls Tryd.prog 70 #[.string s] w fun e w' => e = .returned (.string (canonP s)) ∧ Below w.heap.size w w' := by
  have hcp : canonP s = match nameRow (ls (fold s)) with | some i => (attrRow i).1 | none => fold s := rfl
  cases hn : nameRow (ls (fold s)) with
  | none =>
    rw [hn] at hcp
    have HN := Lib.hid hn; clear hn
    have HC := Lib.hid hcp; clear hcp
    go_enter Tryd.func70, Tryd.ntmps70
    go_wp2_with (first | (go_at_call 72; refine (tfold_any s _ hs).mono ?_; rintro e w1 ⟨rfl, hw1⟩) | (go_at_call 73; refine (byName_any _ _).mono ?_; rintro e w2 ⟨rfl, rfl⟩; rw [HN.out]; simp only [nameV]))
    go_ret
    exact ⟨ret_str HC.out.symm, hw1⟩
  | some i =>
    rw [hn] at hcp
    have hi := nameRow_lt hn
    have HN := Lib.hid hn; clear hn
    have HC := Lib.hid hcp; clear hcp
    have hfn := field_name
    go_enter Tryd.func70, Tryd.ntmps70
    go_wp2_with (first | (go_at_call 72; refine (tfold_any s _ hs).mono ?_; rintro e w1 ⟨rfl, hw1⟩) | (go_at_call 73; refine (byName_any _ _).mono ?_; rintro e w2 ⟨rfl, rfl⟩; rw [HN.out]; simp only [nameV]) | (go_at_call 75; refine (rows_any i hi _).mono ?_; rintro e w3 ⟨va, rfl, hva, hw3⟩; unfold rowV; obtain ⟨A, c, hve⟩ := OwnR.shape hva; subst hve))
    go_ret
    exact ⟨ret_str HC.out.symm, bthen hw1 hw1.size hw3⟩
theorem ret_sii {a b : ByteArray} {x y x' y' : Int} (h : a = b) (h1 : x = y) (h2 : x' = y') : Ending.returned (.tuple #[.string a, .int .i64 x, .int .i64 x']) = .returned (.tuple #[.string b, .int .i64 y, .int .i64 y']) := by rw [h, h1, h2]
set_option maxRecDepth 100000 in
set_option maxHeartbeats 1600000 in
theorem parseType_ok (s : ByteArray) (w : World) (hs : s.size ≤ 140737488351232) (ht : typeOk s = true) :
    Calls Tryd.prog 44 #[.string s] w fun e w' => e = .returned (.tuple #[.string (canonP s), .int .i64 0, .int .i64 s.size]) ∧ Below w.heap.size w w' := by
  have HT : Hid ((scanR true (ls s) 0 0 0).1 = true) := ht
  clear ht
  go_enter Tryd.func44, Tryd.ntmps44
  go_wp2_with (first | (go_at_call 69; refine (scan_any s true _ hs).mono ?_; rintro e w1 ⟨rfl, hw1⟩; rw [HT.out]) | (go_at_call 70; refine (canonical_any s _ hs).mono ?_; rintro e w2 ⟨rfl, hw2⟩))
  go_ret3
  exact ⟨rfl, bthen hw1 hw1.size hw2⟩
set_option maxRecDepth 100000 in
set_option maxHeartbeats 1600000 in
theorem parseType_no (s : ByteArray) (w : World) (hs : s.size ≤ 140737488351232) (ht : typeOk s = false) :
    Calls Tryd.prog 44 #[.string s] w fun e w' => e = .returned (.tuple #[.string ⟨#[]⟩, .int .i64 40, .int .i64 (scanR true (ls s) 0 0 0).2]) ∧ Below w.heap.size w w' := by
  have HT : Hid ((scanR true (ls s) 0 0 0).1 = false) := ht
  clear ht
  go_enter Tryd.func44, Tryd.ntmps44
  go_wp2_with (first | (go_at_call 69; refine (scan_any s true _ hs).mono ?_; rintro e w1 ⟨rfl, hw1⟩; rw [HT.out]))
  go_ret3
  exact ⟨rfl, hw1⟩
end Go.Proofs.YtdpknokginnmjaaDoor
