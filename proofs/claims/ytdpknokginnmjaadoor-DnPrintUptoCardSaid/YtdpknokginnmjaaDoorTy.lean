/- What text.Check answers, by a walk. -/
import Derived.Test.YtdpknokginnmjaaDoorTx
set_option linter.unusedVariables false
set_option linter.unusedSimpArgs false
namespace Go.Proofs.YtdpknokginnmjaaDoor
open Go.RowKit
theorem ret_ints {k k' : IntKind} {a b a' b' : Int} (h : a = b) (h' : a' = b') : Ending.returned (.tuple #[.int k a, .int k' a']) = .returned (.tuple #[.int k b, .int k' b']) := by rw [h, h']
theorem drop_size (s : ByteArray) (k : Nat) : (s.extract k s.size).size = s.size - k := by simp
set_option maxRecDepth 100000 in
set_option maxHeartbeats 1600000 in
theorem check_any (s : ByteArray) (w : World) (hs : s.size ≤ maxLen) :
    Calls Tryd.prog 36 #[.string s] w fun e w' => e = .returned (.tuple #[.int .i64 (chkE s), .int .i64 (chkP s)]) ∧ Below w.heap.size w w' := by
  unfold maxLen at hs
  go_enter Tryd.func36, Tryd.ntmps36
  go_wp2
  go_loopw [4] (fun i wr => ∃ k : Nat, k ≤ s.size ∧ i = .int .i64 k ∧ Hid (bad (ls s) = badFrom ((ls s).drop k) k) ∧ Below w.heap.size w wr) (fun i _ => s.size - (intOf i).toNat)
  case atStart => exact ⟨0, Nat.zero_le _, rfl, Lib.hid rfl, Below.refl _ _⟩
  case round =>
    obtain ⟨k, hk, rfl, hbad, hbw⟩ := hrel
    have hz := drop_size s k
    by_cases hlt : k < s.size
    · have hql : ((ls s).drop k).length = s.size - k := by simp [ls]
      have hq : 0 ≤ seqL ((ls s).drop k) ∧ seqL ((ls s).drop k) ≤ (s.size : Int) - k := by have := seqL_range ((ls s).drop k); omega
      have hst := badFrom_step ((ls s).drop k) k (by omega)
      have hno := badFrom_bad ((ls s).drop k) k (by omega)
      have Hql := Lib.hid hql; clear hql
      have HZ := Lib.hid hz; clear hz
      go_wp2_with (go_at_call 57; refine (sequence_any _ _ (by have := HZ.out; unfold maxLen; omega) (by have := HZ.out; omega)).mono ?_; rintro e w1 ⟨rfl, hw1⟩; rw [ls_from])
      · have h0 : seqL ((ls s).drop k) = 0 := ieq (by assumption)
        go_ret2
        have hb2 : bad (ls s) = some k := by rw [hbad.out, hno h0]
        exact ⟨ret_ints (by simp [chkE, hb2]) (by simp [chkP, hb2]), hbw.trans (hw1.mono hbw.size)⟩
      · have h0 : ¬ seqL ((ls s).drop k) = 0 := ine (by assumption)
        go_roundw
        case rel =>
          refine ⟨k + (seqL ((ls s).drop k)).toNat, by omega, by go_num, ?_, hbw.trans (hw1.mono hbw.size)⟩
          have := hst (by omega)
          rw [List.drop_drop] at this
          exact Lib.hid (hbad.out.trans this)
        case measure => simp [intOf]; omega
    · obtain rfl : k = s.size := by omega
      have hb2 : bad (ls s) = none := by rw [hbad.out, List.drop_of_length_le (by simp [ls]), badFrom_nil]
      have Hb2 := Lib.hid hb2; clear hb2
      go_wp2
      go_ret2
      exact ⟨ret_ints (by simp [chkE, Hb2.out]) (by simp [chkP, Hb2.out]), hbw⟩
end Go.Proofs.YtdpknokginnmjaaDoor
