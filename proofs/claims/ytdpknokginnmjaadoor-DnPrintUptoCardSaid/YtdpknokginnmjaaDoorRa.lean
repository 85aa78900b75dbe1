/- The reference of the layer 'text': Fold by a walk. -/
import Derived.Test.YtdpknokginnmjaaDoorB
import Derived.Test.YtdpknokginnmjaaDoorTy
set_option linter.unusedVariables false
set_option linter.unusedSimpArgs false
namespace Go.Proofs.YtdpknokginnmjaaDoor
open Go.RowKit
theorem ret_str {a b : ByteArray} (h : a = b) : Ending.returned (.string a) = .returned (.string b) := by rw [h]
theorem bl_take (l : List UInt8) (k : Nat) (hk : k < l.length) : l.take (k + 1) = l.take k ++ [l.getD k 0] := by
  rw [List.take_succ_eq_append_getElem hk]; simp [List.getD_eq_getElem?_getD, List.getElem?_eq_getElem hk]
theorem foldL_take (l : List UInt8) (k : Nat) (hk : k < l.length) : foldL (l.take (k + 1)) = foldL (l.take k) ++ [foldB (l.getD k 0)] := by
  rw [bl_take l k hk]; simp [foldL]
theorem bv_fold_no (c : UInt8) (h : ¬ (65 ≤ (c.toNat : Int) ∧ (c.toNat : Int) ≤ 90)) : bv (foldB c) = .int .u8 (c.toNat : Int) := by
  unfold foldB bv; rw [if_neg (by omega)]
theorem bv_fold_yes (c : UInt8) (h : 65 ≤ (c.toNat : Int) ∧ (c.toNat : Int) ≤ 90) : bv (foldB c) = .int .u8 ((c.toNat : Int) + 32) := by
  unfold foldB bv; rw [if_pos (by omega)]
  have : (c + 32).toNat = c.toNat + 32 := by rw [UInt8.toNat_add]; have := c.toNat_lt; simp; omega
  rw [this]; congr 1
theorem foldL_len (l : List UInt8) (k : Nat) (h : k ≤ l.length) : (foldL (l.take k)).length = k := by simp [foldL]; omega
set_option maxRecDepth 100000 in
set_option maxHeartbeats 1600000 in
theorem rfold_any (s : ByteArray) (w : World) (hs : s.size ≤ 140737488351232) :
    Calls Tryd.prog 132 #[.string s] w fun e w' => e = .returned (.string (fold s)) ∧ Below w.heap.size w w' := by
  have hb := bl_at s
  have hll := Lib.hid (ls_length s)
  go_enter Tryd.func132, Tryd.ntmps132
  go_wp2
  go_loopw [3, 4] (fun v i wr => ∃ k : Nat, k ≤ s.size ∧ i = .int .i64 k ∧ OwnB wr w.heap.size v (foldL ((ls s).take k)) ∧ Below w.heap.size w wr) (fun _ i _ => s.size - (intOf i).toNat)
  case atStart => exact ⟨0, Nat.zero_le _, rfl, OwnR.nil _ _, Below.refl _ _⟩
  case round =>
    obtain ⟨k, hk, rfl, hown, hbw⟩ := hrel
    by_cases hlt : k < s.size
    · have hr := bl_range (ls s) k
      have Hl := Lib.hid (foldL_len (ls s) k (by have := hll.out; omega))
      obtain ⟨c, hce⟩ : ∃ c, (ls s).getD k 0 = c := ⟨_, rfl⟩
      have Hb : Hid (bl (ls s) k = (c.toNat : Int)) := Lib.hid (by rw [← hce]; rfl)
      have Hc := Lib.hid hce; clear hce
      have Hst : Hid (foldL ((ls s).take (k + 1)) = foldL ((ls s).take k) ++ [foldB c]) := by
        have := foldL_take (ls s) k (by have := hll.out; omega)
        rw [Hc.out] at this; exact Lib.hid this
      by_cases hc : 65 ≤ bl (ls s) k ∧ bl (ls s) k ≤ 90
      all_goals
        have Hd := Lib.hid hc
        go_wp2_with (first
          | (at_builtin; refine app_byte rfl (.tmp 23) (.tmp 25) rfl rfl (hown.alloc _) (foldB c) wr.heap.size rfl ?_ (by have := Hl.out; omega) (by have := hbw.size; simp; omega) ?_; rotate_right; intro v' w1 hown1 hg1))
        all_goals first
          | (go_roundw
             case rel => exact ⟨k + 1, by omega, by go_num, by rw [Hst.out]; exact hown1, OwnR.rowA hbw hown hg1⟩
             case measure => simp [intOf]; omega)
          | (have h1 := Hd.out; rw [Hb.out] at h1; first | rw [bv_fold_yes c h1] | rw [bv_fold_no c h1]
             (try simp)
             rw [Hb.out])
    · obtain rfl : k = s.size := by omega
      have Hl : Hid ((ls s).take s.size = ls s) := Lib.hid (List.take_of_length_le (by simp [ls]))
      have hcv := own_string hown
      go_wp2
      go_ret
      exact ⟨ret_str (by rw [Hl.out]; rfl), hbw⟩
end Go.Proofs.YtdpknokginnmjaaDoor
