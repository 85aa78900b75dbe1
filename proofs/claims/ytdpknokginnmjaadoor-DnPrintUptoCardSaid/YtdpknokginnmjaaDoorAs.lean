/- attr.scan by a walk, out of what one byte does. -/
import Derived.Test.YtdpknokginnmjaaDoorAn
set_option linter.unusedVariables false
set_option linter.unusedSimpArgs false
namespace Go.Proofs.YtdpknokginnmjaaDoor
open Go.RowKit
theorem next_dead (st p c : Int) (h : st < 0 ∨ 6 < st) (h2 : (c == 59) = false) : nextP st p c = none := by
  unfold nextP
  rw [if_neg (by rw [h2]; simp), if_neg (by omega), if_neg (by omega), if_neg (by omega), if_neg (by omega), if_neg (by omega)]
theorem next_any (b : Nat) (st p c : Int) (w : World) (hp0 : 0 ≤ p) (hp1 : p ≤ 140737488355328) (hs0 : 0 ≤ st) (hs6 : st ≤ 6) (hc : Cells2 w b (.int .i64 st) (.int .i64 p)) :
    Calls Tryd.prog 96 #[.pointer (some ⟨b, 0, none⟩), .int .u8 c] w (NextR st p c b w) := by
  by_cases h59 : (c == 59) = true
  · by_cases hw : wholeP st p = true
    · exact next_semi_yes b st p c w hp0 hp1 hc h59 hw
    · exact next_semi_no b st p c w hp0 hp1 hc h59 (by simpa using hw)
  · have h59 : (c == 59) = false := by simpa using h59
    have h7 : st = 0 ∨ st = 1 ∨ st = 2 ∨ st = 3 ∨ st = 4 ∨ st = 5 ∨ st = 6 := by omega
    rcases h7 with rfl | rfl | rfl | rfl | rfl | rfl | rfl
    · cases hl : letterB c
      · cases hd : digitB c
        · exact next_3 b p c w hp0 hp1 hc h59 hl hd
        · cases h8 : (c == 48)
          · exact next_2 b p c w hp0 hp1 hc h59 hl hd h8
          · exact next_1 b p c w hp0 hp1 hc h59 hl hd h8
      · exact next_0 b p c w hp0 hp1 hc h59 hl
    · cases hk : keyB c
      · exact next_5 b p c w hp0 hp1 hc h59 hk
      · exact next_4 b p c w hp0 hp1 hc h59 hk
    · cases hk : (c == 46)
      · exact next_7 b p c w hp0 hp1 hc h59 hk
      · exact next_6 b p c w hp0 hp1 hc h59 hk
    · cases hd : digitB c
      · cases hk : (c == 46)
        · exact next_10 b p c w hp0 hp1 hc h59 hd hk
        · exact next_9 b p c w hp0 hp1 hc h59 hd hk
      · exact next_8 b p c w hp0 hp1 hc h59 hd
    · cases hd : digitB c
      · exact next_13 b p c w hp0 hp1 hc h59 hd
      · cases hk : (c == 48)
        · exact next_12 b p c w hp0 hp1 hc h59 hd hk
        · exact next_11 b p c w hp0 hp1 hc h59 hd hk
    · cases hk : keyB c
      · exact next_15 b p c w hp0 hp1 hc h59 hk
      · exact next_14 b p c w hp0 hp1 hc h59 hk
    · cases hk : keyB c
      · exact next_17 b p c w hp0 hp1 hc h59 hk
      · exact next_16 b p c w hp0 hp1 hc h59 hk
theorem nextP_range {st p c : Int} {q : Int × Int} (h : nextP st p c = some q) : 0 ≤ q.1 ∧ q.1 ≤ 6 ∧ p ≤ q.2 ∧ q.2 ≤ p + 1 := by
  unfold nextP at h
  (repeat' split at h) <;> first | (cases h; simp; done) | (cases h; simp; (try split) <;> omega) | cases h
/-- Whether l goes on to a whole text from the state, and where it stops. -/
def scanR (bare : Bool) : List UInt8 → Int → Int → Nat → Bool × Nat
  | [], st, p, i => (wholeP st p, i)
  | c :: t, st, p, i => if bare = true ∧ ((c.toNat : Int) == 59) = true then (false, i) else match nextP st p c.toNat with
    | none => (false, i)
    | some q => scanR bare t q.1 q.2 (i + 1)
theorem scanR_drop (bare : Bool) (l : List UInt8) (st p : Int) (k : Nat) (hk : k < l.length) : scanR bare (l.drop k) st p k = if bare = true ∧ (bl l k == 59) = true then (false, k) else match nextP st p (bl l k) with
    | none => (false, k)
    | some q => scanR bare (l.drop (k + 1)) q.1 q.2 (k + 1) := by
  rw [List.drop_eq_getElem_cons hk]
  have e : bl l k = (l[k].toNat : Int) := by simp [bl, List.getD_eq_getElem?_getD, List.getElem?_eq_getElem hk]
  rw [e]; rfl
theorem ret_bool_int {a b : Bool} {x y : Int} (h : a = b) (h' : x = y) : Ending.returned (.tuple #[.bool a, .int .i64 x]) = .returned (.tuple #[.bool b, .int .i64 y]) := by rw [h, h']
set_option maxRecDepth 100000 in
set_option maxHeartbeats 3200000 in
theorem scan_true (s : ByteArray) (w : World) (hs : s.size ≤ 140737488351232) :
    Calls Tryd.prog 69 #[.string s, .bool true] w fun e w' => e = .returned (.tuple #[.bool (scanR true (ls s) 0 0 0).1, .int .i64 (scanR true (ls s) 0 0 0).2]) ∧ Below w.heap.size w w' := by
  have hb := bl_at s
  have hll := Lib.hid (ls_length s)
  go_enter Tryd.func69, Tryd.ntmps69
  go_wp2
  go_loopw [11] (fun q wr => ∃ (k : Nat) (st p : Int), k ≤ s.size ∧ q = .int .i64 k ∧ 0 ≤ st ∧ st ≤ 6 ∧ 0 ≤ p ∧ p ≤ k ∧ Cells2 wr w.heap.size (.int .i64 st) (.int .i64 p) ∧ Hid (scanR true (ls s) 0 0 0 = scanR true ((ls s).drop k) st p k) ∧ Below w.heap.size w wr) (fun q _ => s.size - (intOf q).toNat)
  case atStart => exact ⟨0, 0, 0, Nat.zero_le _, rfl, by omega, by omega, by omega, by omega, ⟨by simp, by simp, by simp, by simp⟩, Lib.hid rfl, (Below.refl _ _).alloc (Nat.le_refl _) _⟩
  case round =>
    obtain ⟨k, st, p, hk, rfl, hs0, hs6, hp0, hpk, hC, hR, hbw⟩ := hrel
    by_cases hlt : k < s.size
    · have hr := bl_range (ls s) k
      have Hst := Lib.hid (scanR_drop true (ls s) st p k (by have := hll.out; omega))
      by_cases h59 : true = true ∧ (bl (ls s) k == 59) = true
      · have H59 := Lib.hid h59
        have h59b : (bl (ls s) k == 59) = true := h59.2
        have hbt := h59.1
        first
          | exact absurd hbt (by decide)
          | (clear h59 hbt
             go_wp2_with fail
             go_ret2
             exact ⟨ret_bool_int (by rw [hR.out, Hst.out, if_pos H59.out]) (by rw [hR.out, Hst.out, if_pos H59.out]), hbw⟩)
      · have H59 := Lib.hid h59
        have h59b : true = true → (bl (ls s) k == 59) = false := fun h => Bool.eq_false_iff.mpr (fun e => h59 ⟨h, e⟩)
        clear h59
        (try replace h59b := h59b rfl)
        have HC := Lib.hid hC
        cases hN : nextP st p (bl (ls s) k) with
        | none =>
          have HN := Lib.hid hN; clear hN
          go_wp2_with (go_at_call 96; refine (next_any w.heap.size st p _ _ hp0 (by omega) hs0 hs6 HC.out).mono ?_; rintro e w1 ⟨rfl, hg, hq⟩; rw [HN.out]; simp only [Option.isSome_none])
          go_ret2
          exact ⟨ret_bool_int (by rw [hR.out, Hst.out, if_neg H59.out, HN.out]) (by rw [hR.out, Hst.out, if_neg H59.out, HN.out]), hbw.grown hg hbw.size (fun j hj => by cases hj; exact Nat.le_refl _)⟩
        | some q =>
          have hqr := nextP_range hN
          have HN := Lib.hid hN; clear hN
          go_wp2_with (go_at_call 96; refine (next_any w.heap.size st p _ _ hp0 (by omega) hs0 hs6 HC.out).mono ?_; rintro e w1 ⟨rfl, hg, hq⟩; rw [HN.out]; simp only [Option.isSome_some])
          go_roundw
          case rel =>
            have h1 := hR.out
            rw [Hst.out, if_neg H59.out, HN.out] at h1
            exact ⟨k + 1, q.1, q.2, by omega, by go_num, by omega, by omega, by omega, by omega, hq q HN.out, Lib.hid h1, hbw.grown hg hbw.size (fun j hj => by cases hj; exact Nat.le_refl _)⟩
          case measure => simp [intOf]; omega
    · obtain rfl : k = s.size := by omega
      have h1 := hR.out
      rw [List.drop_of_length_le (by simp [ls])] at h1
      have H1 := Lib.hid h1; clear h1
      obtain ⟨c0, c1, f0, f1⟩ := hC
      go_wp2_with (go_at_call 97; refine (whole_any _ _ _).mono ?_; rintro e w1 ⟨rfl, rfl⟩)
      go_ret2
      exact ⟨ret_bool_int (by rw [H1.out]; rfl) (by rw [H1.out]; rfl), hbw.alloc hbw.size _⟩
set_option maxRecDepth 100000 in
set_option maxHeartbeats 3200000 in
theorem scan_false (s : ByteArray) (w : World) (hs : s.size ≤ 140737488351232) :
    Calls Tryd.prog 69 #[.string s, .bool false] w fun e w' => e = .returned (.tuple #[.bool (scanR false (ls s) 0 0 0).1, .int .i64 (scanR false (ls s) 0 0 0).2]) ∧ Below w.heap.size w w' := by
  have hb := bl_at s
  have hll := Lib.hid (ls_length s)
  go_enter Tryd.func69, Tryd.ntmps69
  go_wp2
  go_loopw [11] (fun q wr => ∃ (k : Nat) (st p : Int), k ≤ s.size ∧ q = .int .i64 k ∧ 0 ≤ st ∧ st ≤ 6 ∧ 0 ≤ p ∧ p ≤ k ∧ Cells2 wr w.heap.size (.int .i64 st) (.int .i64 p) ∧ Hid (scanR false (ls s) 0 0 0 = scanR false ((ls s).drop k) st p k) ∧ Below w.heap.size w wr) (fun q _ => s.size - (intOf q).toNat)
  case atStart => exact ⟨0, 0, 0, Nat.zero_le _, rfl, by omega, by omega, by omega, by omega, ⟨by simp, by simp, by simp, by simp⟩, Lib.hid rfl, (Below.refl _ _).alloc (Nat.le_refl _) _⟩
  case round =>
    obtain ⟨k, st, p, hk, rfl, hs0, hs6, hp0, hpk, hC, hR, hbw⟩ := hrel
    by_cases hlt : k < s.size
    · have hr := bl_range (ls s) k
      have Hst := Lib.hid (scanR_drop false (ls s) st p k (by have := hll.out; omega))
      by_cases h59 : false = true ∧ (bl (ls s) k == 59) = true
      · have H59 := Lib.hid h59
        have h59b : (bl (ls s) k == 59) = true := h59.2
        have hbt := h59.1
        first
          | exact absurd hbt (by decide)
          | (clear h59 hbt
             go_wp2_with fail
             go_ret2
             exact ⟨ret_bool_int (by rw [hR.out, Hst.out, if_pos H59.out]) (by rw [hR.out, Hst.out, if_pos H59.out]), hbw⟩)
      · have H59 := Lib.hid h59
        have h59b : false = true → (bl (ls s) k == 59) = false := fun h => Bool.eq_false_iff.mpr (fun e => h59 ⟨h, e⟩)
        clear h59
        (try replace h59b := h59b rfl)
        have HC := Lib.hid hC
        cases hN : nextP st p (bl (ls s) k) with
        | none =>
          have HN := Lib.hid hN; clear hN
          go_wp2_with (go_at_call 96; refine (next_any w.heap.size st p _ _ hp0 (by omega) hs0 hs6 HC.out).mono ?_; rintro e w1 ⟨rfl, hg, hq⟩; rw [HN.out]; simp only [Option.isSome_none])
          go_ret2
          exact ⟨ret_bool_int (by rw [hR.out, Hst.out, if_neg H59.out, HN.out]) (by rw [hR.out, Hst.out, if_neg H59.out, HN.out]), hbw.grown hg hbw.size (fun j hj => by cases hj; exact Nat.le_refl _)⟩
        | some q =>
          have hqr := nextP_range hN
          have HN := Lib.hid hN; clear hN
          go_wp2_with (go_at_call 96; refine (next_any w.heap.size st p _ _ hp0 (by omega) hs0 hs6 HC.out).mono ?_; rintro e w1 ⟨rfl, hg, hq⟩; rw [HN.out]; simp only [Option.isSome_some])
          go_roundw
          case rel =>
            have h1 := hR.out
            rw [Hst.out, if_neg H59.out, HN.out] at h1
            exact ⟨k + 1, q.1, q.2, by omega, by go_num, by omega, by omega, by omega, by omega, hq q HN.out, Lib.hid h1, hbw.grown hg hbw.size (fun j hj => by cases hj; exact Nat.le_refl _)⟩
          case measure => simp [intOf]; omega
    · obtain rfl : k = s.size := by omega
      have h1 := hR.out
      rw [List.drop_of_length_le (by simp [ls])] at h1
      have H1 := Lib.hid h1; clear h1
      obtain ⟨c0, c1, f0, f1⟩ := hC
      go_wp2_with (go_at_call 97; refine (whole_any _ _ _).mono ?_; rintro e w1 ⟨rfl, rfl⟩)
      go_ret2
      exact ⟨ret_bool_int (by rw [H1.out]; rfl) (by rw [H1.out]; rfl), hbw.alloc hbw.size _⟩
theorem scan_any (s : ByteArray) (bare : Bool) (w : World) (hs : s.size ≤ 140737488351232) :
    Calls Tryd.prog 69 #[.string s, .bool bare] w fun e w' => e = .returned (.tuple #[.bool (scanR bare (ls s) 0 0 0).1, .int .i64 (scanR bare (ls s) 0 0 0).2]) ∧ Below w.heap.size w w' := by
  cases bare
  · exact scan_false s w hs
  · exact scan_true s w hs
end Go.Proofs.YtdpknokginnmjaaDoor
