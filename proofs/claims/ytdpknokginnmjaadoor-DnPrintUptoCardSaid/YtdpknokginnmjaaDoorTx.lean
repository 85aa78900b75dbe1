/- What the functions of package 'text' answer, by walks: sequences of UTF-8, Check. -/
import Derived.Test.YtdpknokginnmjaaDoorProg
import Derived.Test.YtdpknokginnmjaaDoorA
set_option linter.unusedVariables false
set_option linter.unusedSimpArgs false
namespace Go.Proofs.YtdpknokginnmjaaDoor
open Go.RowKit

set_option maxHeartbeats 400000 in
theorem goesOn_any (b : Int) (w : World) :
    Calls Tryd.prog 83 #[.int .u8 b] w fun e w' => e = .returned (.bool (cont b)) ∧ w = w' := by
  go_enter Tryd.func83, Tryd.ntmps83
  go_wp2
  all_goals go_ret
  all_goals (refine ⟨?_, rfl⟩; unfold cont; congr 2; simp; omega)

theorem miss_ret {n lo hi n' lo' hi' : Int} {o o' : Bool} (h1 : n = n') (h2 : lo = lo') (h3 : hi = hi') (h4 : o = o') : Ending.returned (.tuple #[.int .i64 n, .agg #[.int .u8 lo, .int .u8 hi], .bool o]) = .returned (.tuple #[.int .i64 n', .agg #[.int .u8 lo', .int .u8 hi'], .bool o']) := by
  rw [h1, h2, h3, h4]
set_option maxHeartbeats 800000 in
theorem missing_any (b : Int) (w : World) (h0 : 0 ≤ b) (h1 : b ≤ 255) :
    Calls Tryd.prog 82 #[.int .u8 b] w fun e w' => e = .returned (.tuple #[.int .i64 (mN b), .agg #[.int .u8 (mLo b), .int .u8 (mHi b)], .bool (mOk b)]) ∧ Below w.heap.size w w' := by
  go_enter Tryd.func82, Tryd.ntmps82
  go_wp2
  all_goals (try go_region)
  all_goals (try go_wp2)
  all_goals (refine bodyPost_ret (v := _) (by simp [results, Tryd.results82, go_sem]; rfl) rfl ⟨?_, ?_⟩)
  all_goals first
    | (go_light; (refine miss_ret ?_ ?_ ?_ ?_) <;> (try simp only [beq_iff_eq, beq_eq_false_iff_ne] at *) <;> simp only [mN, mLo, mHi, mOk] <;> (repeat' split) <;> first | rfl | omega | (simp; omega))
    | (repeat (first | exact Below.refl _ _ | assumption | apply Below.drew | refine Below.setCell ?_ (by simp) _ | refine Below.alloc ?_ (by simp; try omega) _))

theorem ret_int {k : IntKind} {a b : Int} (h : a = b) : Ending.returned (.int k a) = .returned (.int k b) := by rw [h]
theorem below_drewN {B : Nat} {w W : World} (h : Below B w W) (n : Nat) : Below B w (W.drewN n) := ⟨h.os, h.tape, h.output, h.size, h.block⟩
set_option maxRecDepth 100000 in
set_option maxHeartbeats 3200000 in
theorem sequence_any (s : ByteArray) (w : World) (hs : s.size ≤ maxLen) (h0 : 0 < s.size) :
    Calls Tryd.prog 57 #[.string s] w fun e w' => e = .returned (.int .i64 (seqL (ls s))) ∧ Below w.heap.size w w' := by
  unfold maxLen at hs
  have hb := bl_at s
  have hr0 := bl_range (ls s) 0
  have hr1 := bl_range (ls s) 1
  have hlo := mLo_range (bl (ls s) 0)
  have hhi := mHi_range (bl (ls s) 0)
  have hll := Lib.hid (ls_length s)
  have hm := mN_cases (bl (ls s) 0)
  by_cases hok : mOk (bl (ls s) 0) = true
  · rcases hm with hm | hm | hm | hm
    all_goals
      go_enter Tryd.func57, Tryd.ntmps57
      go_wp2_with fail
      refine (missing_any _ _ (by omega) (by omega)).mono ?_
      rintro e w1 ⟨rfl, hw1⟩
      obtain ⟨hc, hf⟩ := bcell hw1
      go_wp2_with (first | (go_at_call 83; refine (goesOn_any _ _).mono ?_; rintro e w' ⟨rfl, rfl⟩))
      all_goals (try
        (by_cases g1 : bl (ls s) 1 < mLo (bl (ls s) 0)
         all_goals first | (have g1' : decide (bl (ls s) 1 < mLo (bl (ls s) 0)) = true := decide_eq_true g1) | (have g1' : decide (bl (ls s) 1 < mLo (bl (ls s) 0)) = false := decide_eq_false g1)
         all_goals go_quiet (fail)
         all_goals go_wp2))
      all_goals go_ret
      all_goals (refine ⟨ret_int ?_, bthen hw1 hw1.size (by repeat (first | exact Below.refl _ _ | assumption | apply Below.drew | apply below_drewN | refine Below.setCell ?_ (by simp) _ | refine Below.alloc ?_ (by simp; try omega) _))⟩)
      all_goals
        go_light
        have hl := hll.out
        clear hc hf hb
        have hl0 : 0 < ((ls s).length : Int) := by omega
        symm
        first
          | exact seqL_one hok hm hl0
          | exact seqL_short hok (by omega)
          | exact seqL_c3 hok hm hl0 (not_tt (by assumption))
          | exact seqL_c2 hok (by omega) hl0 (not_tt (by assumption))
          | exact seqL_c1 hok (by omega) hl0 (second_no1 (by omega))
          | exact seqL_c1 hok (by omega) hl0 (second_no2 (by omega))
          | (rw [seqL_full hok (by omega) hl0 (fun _ => not_ff (by first | assumption | omega)) (fun _ => not_ff (by first | assumption | omega)) (second_yes (by omega) (by omega))]; omega)
  · simp only [Bool.not_eq_true] at hok
    go_enter Tryd.func57, Tryd.ntmps57
    go_wp2_with fail
    refine (missing_any _ _ (by omega) (by omega)).mono ?_
    rintro e w1 ⟨rfl, hw1⟩
    obtain ⟨hc, hf⟩ := bcell hw1
    go_wp2_with fail
    go_ret
    refine ⟨ret_int ?_, ?_⟩
    · exact (seqL_not hok).symm
    · exact bthen hw1 hw1.size (by repeat (first | exact Below.refl _ _ | assumption | apply Below.drew | apply below_drewN | refine Below.setCell ?_ (by simp) _ | refine Below.alloc ?_ (by simp; try omega) _))
end Go.Proofs.YtdpknokginnmjaaDoor
