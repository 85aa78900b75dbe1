/- text.Fold by a walk: the bytes are turned in place. -/
import Derived.Test.YtdpknokginnmjaaDoorRa
import Derived.Laws.IdiomStrings
set_option linter.unusedVariables false
set_option linter.unusedSimpArgs false
namespace Go.Proofs.YtdpknokginnmjaaDoor
open Go.RowKit
set_option maxRecDepth 100000 in
set_option maxHeartbeats 1600000 in
theorem tfold_any (s : ByteArray) (w : World) (hs : s.size ≤ 140737488351232) :
    Calls Tryd.prog 72 #[.string s] w fun e w' => e = .returned (.string (fold s)) ∧ Below w.heap.size w w' := by
  have hb := bl_at s
  have hll := Lib.hid (ls_length s)
  obtain ⟨cap, wa, hcv, hcb, hbw0, hz0⟩ := bytes_of_string w s
  have Hz := Lib.hid hz0; clear hz0
  go_enter Tryd.func72, Tryd.ntmps72
  go_wp2
  go_loopw [10] (fun i wr => ∃ k : Nat, k ≤ s.size ∧ i = .int .i64 k ∧ CellsB wr w.heap.size (foldL ((ls s).take k) ++ (ls s).drop k) ∧ Below w.heap.size w wr) (fun i _ => s.size - (intOf i).toNat)
  case atStart => exact ⟨0, Nat.zero_le _, rfl, by simpa [foldL] using hcb, hbw0⟩
  case round =>
    obtain ⟨k, hk, rfl, hown, hbw⟩ := hrel
    by_cases hlt : k < s.size
    · have hr := bl_range (ls s) k
      have hlk : k < (ls s).length := by have := hll.out; omega
      have hz : (foldL ((ls s).take k)).length = k := foldL_len (ls s) k (by omega)
      have hz2 : (foldL ((ls s).take k) ++ (ls s).drop k).length = (ls s).length := by simp [foldL]; omega
      have hcell := hown.cellAt k (by omega)
      have hfr := (hown k (by omega)).2
      have hbk : bl (foldL ((ls s).take k) ++ (ls s).drop k) k = bl (ls s) k := by
        unfold bl; rw [List.getD_eq_getElem?_getD, List.getElem?_append_right (by omega), hz]; simp [List.getD_eq_getElem?_getD]
      rw [hbk] at hcell
      obtain ⟨c, hce⟩ : ∃ c, (ls s).getD k 0 = c := ⟨_, rfl⟩
      have Hb : Hid (bl (ls s) k = (c.toNat : Int)) := Lib.hid (by rw [← hce]; rfl)
      have Hst : Hid (foldL ((ls s).take (k + 1)) ++ (ls s).drop (k + 1) = (foldL ((ls s).take k) ++ (ls s).drop k).set k (foldB c)) := by
        have h1 := foldL_take (ls s) k hlk
        rw [hce] at h1
        rw [h1, List.set_append_right _ _ (by omega), hz, Nat.sub_self, List.drop_eq_getElem_cons hlk]
        exact Lib.hid (by simp)
      have Hid0 : Hid (¬ (65 ≤ bl (ls s) k ∧ bl (ls s) k ≤ 90) → (foldL ((ls s).take k) ++ (ls s).drop k).set k (foldB c) = foldL ((ls s).take k) ++ (ls s).drop k) := Lib.hid (fun hno => by
        have hf : foldB c = c := by unfold foldB; rw [Hb.out] at hno; rw [if_neg (by omega)]
        rw [hf, List.set_append_right _ _ (by omega), hz, Nat.sub_self, List.drop_eq_getElem_cons hlk]
        rw [List.getD_eq_getElem?_getD, List.getElem?_eq_getElem hlk] at hce
        simp at hce; simp [hce])
      have Hk2 := Lib.hid hz2
      have Hs := Lib.hid (hown.set k (by omega) (foldB c))
      clear hce hz hz2 hbk
      by_cases hc : 65 ≤ bl (ls s) k ∧ bl (ls s) k ≤ 90
      all_goals
        have Hd := Lib.hid hc
        go_wp2
        all_goals
          go_roundw
          case rel =>
            first
              | (refine ⟨k + 1, by omega, by go_num, ?_, hbw⟩
                 have := Hs.out
                 rw [Hst.out, Hid0.out Hd.out]; exact hown)
              | (have hv : Value.int .u8 (bl (ls s) k + 97 - 65) = bv (foldB c) := by
                   have h1 := Hd.out; rw [Hb.out] at h1 ⊢; rw [bv_fold_yes c h1]; congr 1; omega
                 rw [hv]
                 exact ⟨k + 1, by omega, by go_num, by rw [Hst.out]; exact Hs.out, hbw.setCell (by simp) _⟩)
          case measure => simp [intOf]; omega
    · obtain rfl : k = s.size := by omega
      have hsc := string_of_cells hown s.size cap (by simp [foldL, ls])
      have Hl : Hid (foldL ((ls s).take s.size) ++ (ls s).drop s.size = foldL (ls s)) := Lib.hid (by rw [List.take_of_length_le (by simp [ls]), List.drop_of_length_le (by simp [ls]), List.append_nil])
      go_wp2
      go_ret
      exact ⟨ret_str (by rw [Hl.out]; rfl), hbw⟩
end Go.Proofs.YtdpknokginnmjaaDoor
