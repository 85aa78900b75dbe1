/- The reference of the layer 'attr': keys, numbers, parts, by walks. -/
import Derived.Test.YtdpknokginnmjaaDoorRa
import Derived.Test.YtdpknokginnmjaaDoorAn
set_option linter.unusedVariables false
set_option linter.unusedSimpArgs false
namespace Go.Proofs.YtdpknokginnmjaaDoor
open Go.RowKit
def keysP (l : List UInt8) : Bool := l.all (fun c => keyB c.toNat) && !l.isEmpty
def numberP (l : List UInt8) : Bool := l.all (fun c => digitB c.toNat) && (l == [48] || (!l.isEmpty && !(bl l 0 == 48)))
/-- A text taken apart at each byte c. -/
def partsR (c : UInt8) : List UInt8 → List (List UInt8)
  | [] => [[]]
  | x :: t => if x = c then [] :: partsR c t else match partsR c t with
    | p :: ps => (x :: p) :: ps
    | [] => [[x]]
theorem partsR_ne (c : UInt8) (l : List UInt8) : partsR c l ≠ [] := by
  induction l with
  | nil => simp [partsR]
  | cons x t ih =>
    unfold partsR
    split
    · simp
    · cases h : partsR c t <;> simp
theorem partsR_len (c : UInt8) (l : List UInt8) : (partsR c l).length ≤ l.length + 1 := by
  induction l with
  | nil => simp [partsR]
  | cons x t ih =>
    unfold partsR
    split
    · simpa using ih
    · cases h : partsR c t with
      | nil => simp
      | cons p ps => rw [h] at ih; simp at ih ⊢; omega
theorem partsR_none (c : UInt8) (a : List UInt8) (h : ∀ x ∈ a, x ≠ c) : partsR c a = [a] := by
  induction a with
  | nil => rfl
  | cons x t ih =>
    unfold partsR
    rw [if_neg (h x (by simp)), ih (fun y hy => h y (by simp [hy]))]
theorem partsR_cut (c : UInt8) (a b : List UInt8) (h : ∀ x ∈ a, x ≠ c) : partsR c (a ++ c :: b) = a :: partsR c b := by
  induction a with
  | nil => simp [partsR]
  | cons x t ih =>
    have e := ih (fun y hy => h y (by simp [hy]))
    rw [List.cons_append]
    show (if x = c then _ else match partsR c (t ++ c :: b) with | p :: ps => (x :: p) :: ps | [] => [[x]]) = _
    rw [if_neg (h x (by simp)), e]
theorem all_take (f : UInt8 → Bool) (l : List UInt8) (k : Nat) (hk : k < l.length) : (l.take (k + 1)).all f = ((l.take k).all f && f (l.getD k 0)) := by
  rw [bl_take l k hk]; simp
theorem all_no (f : UInt8 → Bool) (l : List UInt8) (k : Nat) (hk : k < l.length) (h : f (l.getD k 0) = false) : l.all f = false := by
  rw [List.all_eq_false]
  refine ⟨l.getD k 0, ?_, by rw [h]; simp⟩
  rw [List.getD_eq_getElem?_getD, List.getElem?_eq_getElem hk]; simp
theorem isE (s : ByteArray) : s.toList.isEmpty = (ls s).isEmpty := by rw [toList_ls]
theorem isE_size (s : ByteArray) : (ls s).isEmpty = decide (s.size = 0) := by
  have := ls_length s
  cases h : ls s with
  | nil => rw [h] at this; exact (decide_eq_true this.symm).symm
  | cons a t => rw [h] at this; exact (decide_eq_false (by rw [← this]; simp)).symm
set_option maxHeartbeats 400000 in
theorem rkey_any (b : Int) (w : World) : Calls Tryd.prog 144 #[.int .u8 b] w fun e w' => e = .returned (.bool (keyB b)) ∧ w = w' := by
  go_enter Tryd.func144, Tryd.ntmps144
  go_wp2
  all_goals go_ret
  all_goals (refine ⟨ret_bool ?_, rfl⟩; go_light; (try simp only [beq_iff_eq, beq_eq_false_iff_ne] at *); rw [Bool.eq_iff_iff]; simp [keyB, letterB, digitB]; omega)
set_option maxRecDepth 100000 in
set_option maxHeartbeats 1600000 in
theorem rkeys_any (s : ByteArray) (w : World) (hs : s.size ≤ 140737488355328) : Calls Tryd.prog 127 #[.string s] w fun e w' => e = .returned (.bool (keysP (ls s))) ∧ w = w' := by
  have hb := bl_at s
  have hll := Lib.hid (ls_length s)
  have hE := isE s
  go_enter Tryd.func127, Tryd.ntmps127
  go_wp2
  go_loop [3] (fun i => ∃ k : Nat, k ≤ s.size ∧ i = .int .i64 k ∧ Hid (((ls s).take k).all (fun c => keyB c.toNat) = true)) (fun i => s.size - (intOf i).toNat)
  case atStart => exact ⟨0, Nat.zero_le _, rfl, Lib.hid rfl⟩
  case round =>
    obtain ⟨k, hk, rfl, hall⟩ := hrel
    by_cases hlt : k < s.size
    · have Hst := Lib.hid (all_take (fun c => keyB c.toNat) (ls s) k (by have := hll.out; omega))
      have Hno := Lib.hid (all_no (fun c => keyB c.toNat) (ls s) k (by have := hll.out; omega))
      cases hkb : keyB (bl (ls s) k)
      all_goals
        have Hk := Lib.hid hkb
        go_wp2_with (go_at_call 144; refine (rkey_any _ _).mono ?_; rintro e w' ⟨rfl, rfl⟩)
      · go_ret
        exact ⟨ret_bool (by unfold keysP; rw [Hno.out Hk.out, Bool.false_and]), rfl⟩
      · go_round
        case rel => exact ⟨k + 1, by omega, by go_num, Lib.hid (by rw [Hst.out, hall.out]; exact Hk.out)⟩
        case measure => simp [intOf]; omega
    · obtain rfl : k = s.size := by omega
      have h1 := hall.out
      rw [List.take_of_length_le (by simp [ls])] at h1
      have H1 := Lib.hid h1; clear h1
      go_wp2
      go_ret
      exact ⟨ret_bool (by unfold keysP; rw [H1.out, Bool.true_and]; simp [ls]), rfl⟩
set_option maxRecDepth 100000 in
set_option maxHeartbeats 1600000 in
theorem rnumber_any (s : ByteArray) (w : World) (hs : s.size ≤ 140737488355328) : Calls Tryd.prog 129 #[.string s] w fun e w' => e = .returned (.bool (numberP (ls s))) ∧ w = w' := by
  have hb := bl_at s
  have hll := Lib.hid (ls_length s)
  have hE := isE s
  have hE2 := isE_size s
  have hT := toList_ls s
  go_enter Tryd.func129, Tryd.ntmps129
  go_wp2
  go_loop [3] (fun i => ∃ k : Nat, k ≤ s.size ∧ i = .int .i64 k ∧ Hid (((ls s).take k).all (fun c => digitB c.toNat) = true)) (fun i => s.size - (intOf i).toNat)
  case atStart => exact ⟨0, Nat.zero_le _, rfl, Lib.hid rfl⟩
  case round =>
    obtain ⟨k, hk, rfl, hall⟩ := hrel
    by_cases hlt : k < s.size
    · have Hst := Lib.hid (all_take (fun c => digitB c.toNat) (ls s) k (by have := hll.out; omega))
      have Hno := Lib.hid (all_no (fun c => digitB c.toNat) (ls s) k (by have := hll.out; omega))
      have hr := bl_range (ls s) k
      by_cases hlo : bl (ls s) k < 48
      · go_wp2
        go_ret
        exact ⟨ret_bool (by unfold numberP; rw [Hno.out (decide_eq_false (by show ¬ (48 ≤ bl (ls s) k ∧ bl (ls s) k ≤ 57); omega)), Bool.false_and]), rfl⟩
      · by_cases hhi : 57 < bl (ls s) k
        · go_wp2
          go_ret
          exact ⟨ret_bool (by unfold numberP; rw [Hno.out (decide_eq_false (by show ¬ (48 ≤ bl (ls s) k ∧ bl (ls s) k ≤ 57); omega)), Bool.false_and]), rfl⟩
        · go_wp2
          go_round
          case rel => exact ⟨k + 1, by omega, by go_num, Lib.hid (by rw [Hst.out, hall.out]; exact decide_eq_true (show 48 ≤ bl (ls s) k ∧ bl (ls s) k ≤ 57 by omega))⟩
          case measure => simp [intOf]; omega
    · obtain rfl : k = s.size := by omega
      have h1 := hall.out
      rw [List.take_of_length_le (by simp [ls])] at h1
      have H1 := Lib.hid h1; clear h1
      cases e48 : (ls s == [48])
      · by_cases e0 : s.size = 0
        · have hd : decide (s.size = 0) = true := decide_eq_true e0
          have He : Hid ((ls s).isEmpty = true) := Lib.hid (by rw [hE2, hd])
          have H48 := Lib.hid e48
          go_wp2
          go_ret
          exact ⟨ret_bool (by unfold numberP; rw [H1.out, H48.out, He.out]; rfl), rfl⟩
        · have hd : decide (s.size = 0) = false := decide_eq_false e0
          have He : Hid ((ls s).isEmpty = false) := Lib.hid (by rw [hE2, hd])
          have H48 := Lib.hid e48
          have hp : 0 < s.size := by omega
          go_wp2
          go_ret
          exact ⟨ret_bool (by unfold numberP; rw [H1.out, H48.out, He.out]; rfl), rfl⟩
      · have H48 := Lib.hid e48
        go_wp2
        go_ret
        exact ⟨ret_bool (by unfold numberP; rw [H1.out, H48.out]; rfl), rfl⟩
end Go.Proofs.YtdpknokginnmjaaDoor
