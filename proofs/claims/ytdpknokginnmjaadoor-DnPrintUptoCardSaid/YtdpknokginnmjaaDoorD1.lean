/- The reference of the layer 'dn': among, escape by walks. -/
import Derived.Test.YtdpknokginnmjaaDoorD0
set_option linter.unusedVariables false
set_option linter.unusedSimpArgs false
namespace Go.Proofs.YtdpknokginnmjaaDoor
open Go.RowKit
def amongP (c : Int) (l : List UInt8) : Bool := l.any fun x => (x.toNat : Int) == c
theorem any_take (f : UInt8 → Bool) (l : List UInt8) (k : Nat) (hk : k < l.length) : (l.take (k + 1)).any f = ((l.take k).any f || f (l.getD k 0)) := by
  rw [bl_take l k hk]; simp
theorem any_yes (f : UInt8 → Bool) (l : List UInt8) (k : Nat) (hk : k < l.length) (h : f (l.getD k 0) = true) : l.any f = true := by
  rw [List.any_eq_true]
  refine ⟨l.getD k 0, ?_, h⟩
  rw [List.getD_eq_getElem?_getD, List.getElem?_eq_getElem hk]; simp
set_option maxRecDepth 100000 in
set_option maxHeartbeats 1600000 in
theorem among_any (c : Int) (s : ByteArray) (w : World) (hs : s.size ≤ 140737488355328) : Calls Tryd.prog 56 #[.int .u8 c, .string s] w fun e w' => e = .returned (.bool (amongP c (ls s))) ∧ w = w' := by
  have hb := bl_at s
  have hll := Lib.hid (ls_length s)
  go_enter Tryd.func56, Tryd.ntmps56
  go_wp2
  go_loop [5] (fun i => ∃ k : Nat, k ≤ s.size ∧ i = .int .i64 k ∧ Hid (((ls s).take k).any (fun x => (x.toNat : Int) == c) = false)) (fun i => s.size - (intOf i).toNat)
  case atStart => exact ⟨0, Nat.zero_le _, rfl, Lib.hid rfl⟩
  case round =>
    obtain ⟨k, hk, rfl, hno⟩ := hrel
    by_cases hlt : k < s.size
    · have Hst := Lib.hid (any_take (fun x => (x.toNat : Int) == c) (ls s) k (by have := hll.out; omega))
      have Hye := Lib.hid (any_yes (fun x => (x.toNat : Int) == c) (ls s) k (by have := hll.out; omega))
      cases hq : (bl (ls s) k == c)
      all_goals
        have HQ := Lib.hid hq
        go_wp2
      · go_round
        case rel => exact ⟨k + 1, by omega, by go_num, Lib.hid (by rw [Hst.out, hno.out]; exact HQ.out)⟩
        case measure => simp [intOf]; omega
      · go_ret
        exact ⟨ret_bool (by unfold amongP; rw [Hye.out HQ.out]), rfl⟩
    · obtain rfl : k = s.size := by omega
      have h1 := hno.out
      rw [List.take_of_length_le (by simp [ls])] at h1
      have H1 := Lib.hid h1; clear h1
      go_wp2
      go_ret
      exact ⟨ret_bool (by unfold amongP; rw [H1.out]), rfl⟩
theorem among_special (c : Int) : amongP c (ls ⟨#[92, 34, 43, 44, 59, 60, 62]⟩) = special c := by
  have f : ∀ a : Int, (a == c) = (c == a) := fun a => by rw [Bool.eq_iff_iff]; simp; exact eq_comm
  simp [amongP, special, ls, f, Bool.or_assoc]
theorem among_sp (c : Int) (w : World) : Calls Tryd.prog 56 #[.int .u8 c, .string ⟨#[92, 34, 43, 44, 59, 60, 62]⟩] w fun e w' => e = .returned (.bool (special c)) ∧ w = w' := by
  rw [← among_special]; exact among_any c _ w (by decide)
theorem escC_zero {n i : Nat} {c : UInt8} (h : ((c.toNat : Int) == 0) = true) : escC n i c = [92, 48, 48] := by unfold escC; rw [if_pos h]
theorem escC_two {n i : Nat} {c : UInt8} (h0 : ((c.toNat : Int) == 0) = false) (h : edgeP n i c.toNat = true ∨ special c.toNat = true) : escC n i c = [92, c] := by
  unfold escC; rw [if_neg (by rw [h0]; simp), if_pos (by rcases h with h | h <;> simp [h])]
theorem escC_one {n i : Nat} {c : UInt8} (h0 : ((c.toNat : Int) == 0) = false) (h : edgeP n i c.toNat = false) (h' : special c.toNat = false) : escC n i c = [c] := by
  unfold escC; rw [if_neg (by rw [h0]; simp), if_neg (by rw [h, h']; simp)]
theorem byte_class (c : Int) : ((c == 0) = true ∧ (c == 32) = false ∧ (c == 35) = false ∧ special c = false) ∨ ((c == 0) = false ∧ (c == 32) = true ∧ (c == 35) = false ∧ special c = false) ∨ ((c == 0) = false ∧ (c == 32) = false ∧ (c == 35) = true ∧ special c = false) ∨
    ((c == 0) = false ∧ (c == 32) = false ∧ (c == 35) = false ∧ special c = true) ∨ ((c == 0) = false ∧ (c == 32) = false ∧ (c == 35) = false ∧ special c = false) := by
  by_cases h0 : c = 0
  · subst h0; decide
  · by_cases h1 : c = 32
    · subst h1; decide
    · by_cases h2 : c = 35
      · subst h2; decide
      · cases hs : special c <;> simp [h0, h1, h2]
theorem bytes_cells (us : List UInt8) (w : World) (t : TypeId) (C : Array Value) (hC : C = (us.map bv).toArray) : ∀ j c, us[j]? = some c → (w.alloc (.cells C t)).cell? ⟨w.heap.size, 0 + j, none⟩ = some (bv c) := by
  intro j c hj
  subst hC
  rw [cell_of_row _ _ _ _ t (0, 0) (heap_alloc_new w _)]
  simp [hj]
set_option maxRecDepth 100000 in
set_option maxHeartbeats 3200000 in
theorem rescape_any (s : ByteArray) (w : World) (hs : s.size ≤ 1073741824) :
    Calls Tryd.prog 33 #[.string s] w fun e w' => e = .returned (.string (escP s)) ∧ Below w.heap.size w w' := by
  have hb := bl_at s
  have hll := Lib.hid (ls_length s)
  go_enter Tryd.func33, Tryd.ntmps33
  go_wp2
  go_loopw [3, 4] (fun v i wr => ∃ k : Nat, k ≤ s.size ∧ i = .int .i64 k ∧ OwnB wr w.heap.size v (escGo (ls s).length 0 ((ls s).take k)) ∧ Below w.heap.size w wr) (fun _ i _ => s.size - (intOf i).toNat)
  case atStart => exact ⟨0, Nat.zero_le _, rfl, OwnR.nil _ _, Below.refl _ _⟩
  case round =>
    obtain ⟨k, hk, rfl, hown, hbw⟩ := hrel
    by_cases hlt : k < s.size
    · have hkl : k < (ls s).length := by have := hll.out; omega
      have hgl := escGo_len (ls s).length 0 ((ls s).take k)
      have hgt : ((ls s).take k).length = k := by simp; omega
      have Hgl : Hid ((escGo (ls s).length 0 ((ls s).take k)).length ≤ 3 * k) := Lib.hid (by omega)
      have HG3 : Hid ((escGo (ls s).length 0 ((ls s).take k)).length + 3 ≤ 140737488355328) := Lib.hid (by omega)
      have HG2 : Hid ((escGo (ls s).length 0 ((ls s).take k)).length + 2 ≤ 140737488355328) := Lib.hid (by omega)
      have HG1 : Hid ((escGo (ls s).length 0 ((ls s).take k)).length + 1 ≤ 140737488355328) := Lib.hid (by omega)
      clear hgl hgt
      have hr := bl_range (ls s) k
      obtain ⟨c, hce⟩ : ∃ c, (ls s).getD k 0 = c := ⟨_, rfl⟩
      have Hb : Hid (bl (ls s) k = (c.toNat : Int)) := Lib.hid (by rw [← hce]; rfl)
      have Hst : Hid (escGo (ls s).length 0 ((ls s).take (k + 1)) = escGo (ls s).length 0 ((ls s).take k) ++ escC (ls s).length k c) := by
        have := escGo_take (ls s) k hkl
        rw [hce] at this; exact Lib.hid this
      have HE : Hid (edgeP (ls s).length k c.toNat = (((k : Int) == 0 && (bl (ls s) k == 32 || bl (ls s) k == 35)) || ((k : Int) == (s.size : Int) - 1 && bl (ls s) k == 32))) := Lib.hid (by rw [Hb.out, ← hll.out]; rfl)
      have HSp : Hid (special c.toNat = special (bl (ls s) k)) := Lib.hid (by rw [Hb.out])
      have HZ : Hid (((c.toNat : Int) == 0) = (bl (ls s) k == 0)) := Lib.hid (by rw [Hb.out])
      clear hce hkl
      have hn1 : (s.size : Int) - 1 = (s.size : Int) - 1 := rfl
      clear hn1
      have hcl := byte_class (bl (ls s) k)
      rcases hcl with ⟨h0, h32, h35, hsp⟩ | ⟨h0, h32, h35, hsp⟩ | ⟨h0, h32, h35, hsp⟩ | ⟨h0, h32, h35, hsp⟩ | ⟨h0, h32, h35, hsp⟩
      all_goals cases hk0 : ((k : Int) == 0) <;> cases hk1 : ((k : Int) == (s.size : Int) - 1)
      all_goals
        have he := HE.out
        rw [h32, h35, hk0, hk1] at he
        have HE' := Lib.hid he
        have H0 := Lib.hid h0
        have HS := Lib.hid hsp
        clear he
        go_wp2_with (first
          | (go_at_call 56; refine (among_sp _ _).mono ?_; rintro e w' ⟨rfl, rfl⟩; rw [HS.out])
          | (at_builtin; refine app_bytes rfl (.tmp 44) (.tmp 45) rfl rfl (hown.alloc _) [92, 48, 48] wr.heap.size 0 3 3 rfl rfl ?_ HG3.out (by have := hbw.size; simp; omega) ?_; rotate_right; intro v' w1 hown1 hg1)
          | (at_builtin; refine app_bytes rfl (.tmp 53) (.tmp 55) rfl rfl (hown.alloc _) [92, c] wr.heap.size 0 2 2 rfl rfl ?_ HG2.out (by have := hbw.size; simp; omega) ?_; rotate_right; intro v' w1 hown1 hg1)
          | (at_builtin; refine app_bytes rfl (.tmp 37) (.tmp 39) rfl rfl (hown.alloc _) [c] wr.heap.size 0 1 1 rfl rfl ?_ HG1.out (by have := hbw.size; simp; omega) ?_; rotate_right; intro v' w1 hown1 hg1))
        · go_roundw
          case rel =>
            refine ⟨k + 1, by omega, by go_num, ?_, OwnR.rowA hbw hown hg1⟩
            rw [Hst.out]
            first
              | (rw [escC_zero (by rw [HZ.out, H0.out])]; exact hown1)
              | (rw [escC_two (by rw [HZ.out, H0.out]) (by first | exact .inl HE'.out | exact .inr (HSp.out.trans HS.out))]; exact hown1)
              | (rw [escC_one (by rw [HZ.out, H0.out]) HE'.out (HSp.out.trans HS.out)]; exact hown1)
          case measure => simp [intOf]; omega
        · first
          | exact bytes_cells _ _ _ _ rfl
          | (rw [Hb.out]; exact bytes_cells _ _ _ _ rfl)
    · have hx : k = s.size := by omega
      subst hx
      have Hl : Hid ((ls s).take s.size = ls s) := Lib.hid (List.take_of_length_le (by simp [ls]))
      have hcv := own_string hown
      go_wp2
      go_ret
      exact ⟨ret_str (by rw [Hl.out]; rfl), hbw⟩
end Go.Proofs.YtdpknokginnmjaaDoor
