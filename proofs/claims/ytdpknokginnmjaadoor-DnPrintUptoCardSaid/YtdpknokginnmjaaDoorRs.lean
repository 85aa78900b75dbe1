/- The reference's UTF-8: the table's rows, one by one. -/
import Derived.Test.YtdpknokginnmjaaDoorTf
set_option linter.unusedVariables false
set_option linter.unusedSimpArgs false
namespace Go.Proofs.YtdpknokginnmjaaDoor
open Go.RowKit
def rowsP : Nat → List (Int × Int)
  | 0 => [(0, 127)]
  | 1 => [(194, 223), (128, 191)]
  | 2 => [(224, 224), (160, 191), (128, 191)]
  | 3 => [(225, 236), (128, 191), (128, 191)]
  | 4 => [(237, 237), (128, 159), (128, 191)]
  | 5 => [(238, 239), (128, 191), (128, 191)]
  | 6 => [(240, 240), (144, 191), (128, 191), (128, 191)]
  | 7 => [(241, 243), (128, 191), (128, 191), (128, 191)]
  | 8 => [(244, 244), (128, 143), (128, 191), (128, 191)]
  | _ => []
def fitsL : List (Int × Int) → List UInt8 → Nat → Bool
  | [], _, _ => true
  | (lo, hi) :: t, l, i => decide (i < l.length) && decide (lo ≤ bl l i ∧ bl l i ≤ hi) && fitsL t l (i + 1)
def rowCells (r : Nat) : List Int := ((rowsP r).length : Int) :: (rowsP r).flatMap fun p => [p.1, p.2]
/-- What the package-level table holds. -/
def Utf8Tab (w : World) : Prop := ∀ r, r < 9 → ∀ j, j < 9 → w.cell? ⟨12, r * 9 + j, none⟩ = some (.int .i64 ((rowCells r).getD j 0))
theorem rowsP_len (r : Nat) (h : r < 9) : 1 ≤ (rowsP r).length ∧ (rowsP r).length ≤ 4 := by
  have h9 : r = 0 ∨ r = 1 ∨ r = 2 ∨ r = 3 ∨ r = 4 ∨ r = 5 ∨ r = 6 ∨ r = 7 ∨ r = 8 := by omega
  rcases h9 with rfl | rfl | rfl | rfl | rfl | rfl | rfl | rfl | rfl <;> decide
def loP (r k : Nat) : Int := ((rowsP r).getD k (0, 0)).1
def hiP (r k : Nat) : Int := ((rowsP r).getD k (0, 0)).2
theorem rowCells_0 (r : Nat) : (rowCells r).getD 0 0 = ((rowsP r).length : Int) := by simp [rowCells]
theorem flat2 (l : List (Int × Int)) (k : Nat) (h : k < l.length) : (l.flatMap fun p => [p.1, p.2]).getD (2 * k) 0 = (l.getD k (0, 0)).1 ∧ (l.flatMap fun p => [p.1, p.2]).getD (2 * k + 1) 0 = (l.getD k (0, 0)).2 := by
  induction l generalizing k with
  | nil => simp at h
  | cons a t ih =>
    cases k with
    | zero => simp
    | succ k =>
      have := ih k (by simpa using h)
      simpa [Nat.mul_add] using this
theorem rowCells_lo (r k : Nat) (h : k < (rowsP r).length) : (rowCells r).getD (1 + 2 * k) 0 = loP r k := by
  rw [show 1 + 2 * k = 2 * k + 1 by omega]; simpa [rowCells, loP] using (flat2 (rowsP r) k h).1
theorem rowCells_hi (r k : Nat) (h : k < (rowsP r).length) : (rowCells r).getD (2 + 2 * k) 0 = hiP r k := by
  rw [show 2 + 2 * k = (2 * k + 1) + 1 by omega]; simpa [rowCells, hiP] using (flat2 (rowsP r) k h).2
theorem fitsL_step (r k : Nat) (l : List UInt8) (i : Nat) (h : k < (rowsP r).length) : fitsL ((rowsP r).drop k) l i = (decide (i < l.length) && decide (loP r k ≤ bl l i ∧ bl l i ≤ hiP r k) && fitsL ((rowsP r).drop (k + 1)) l (i + 1)) := by
  rw [List.drop_eq_getElem_cons h]
  simp [fitsL, loP, hiP, List.getD_eq_getElem?_getD, List.getElem?_eq_getElem h]
theorem fitsL_short (L : List (Int × Int)) (l : List UInt8) (i : Nat) (h0 : i ≤ l.length) (h : l.length < i + L.length) : fitsL L l i = false := by
  induction L generalizing i with
  | nil => simp at h; omega
  | cons a t ih =>
    by_cases hi : i < l.length
    · simp [fitsL, ih (i + 1) (by omega) (by simp at h; omega)]
    · simp [fitsL, hi]
set_option maxRecDepth 100000 in
set_option maxHeartbeats 1600000 in
theorem fits_any (s : ByteArray) (i r : Nat) (w : World) (hs : s.size ≤ 140737488351232) (hi : i ≤ s.size) (hr : r < 9) (hT : Utf8Tab w) :
    Calls Tryd.prog 134 #[.string s, .int .i64 i, .int .i64 r] w fun e w' => e = .returned (.bool (fitsL (rowsP r) (ls s) i)) ∧ Below w.heap.size w w' := by
  have hb := bl_at s
  have hll := Lib.hid (ls_length s)
  have hn := rowsP_len r hr
  have h0 := hT r hr 0 (by omega)
  rw [rowCells_0, Nat.add_zero] at h0
  have hlo : ∀ k, k < (rowsP r).length → w.cell? ⟨12, r * 9 + (1 + 2 * k), none⟩ = some (.int .i64 (loP r k)) := fun k hk => by
    rw [hT r hr _ (by omega), rowCells_lo r k hk]
  have hhi : ∀ k, k < (rowsP r).length → w.cell? ⟨12, r * 9 + (2 + 2 * k), none⟩ = some (.int .i64 (hiP r k)) := fun k hk => by
    rw [hT r hr _ (by omega), rowCells_hi r k hk]
  have Hlo := Lib.hid hlo
  have Hhi := Lib.hid hhi
  clear hlo hhi hT
  go_enter Tryd.func134, Tryd.ntmps134
  by_cases hlen : s.size < i + (rowsP r).length
  · go_wp2
    go_ret
    have := hll.out
    exact ⟨ret_bool (fitsL_short _ _ _ (by omega) (by omega)).symm, Below.refl _ _⟩
  · go_wp2
    go_loopw [8] (fun q wr => ∃ k : Nat, k ≤ (rowsP r).length ∧ q = .int .i64 k ∧ Hid (fitsL (rowsP r) (ls s) i = fitsL ((rowsP r).drop k) (ls s) (i + k)) ∧ Below w.heap.size w wr) (fun q _ => (rowsP r).length - (intOf q).toNat)
    case atStart => exact ⟨0, Nat.zero_le _, rfl, Lib.hid rfl, Below.refl _ _⟩
    case round =>
      obtain ⟨k, hk, rfl, hfit, hbw⟩ := hrel
      by_cases hlt : k < (rowsP r).length
      · have hr2 := bl_range (ls s) (i + k)
        have Hst := Lib.hid (fitsL_step r k (ls s) (i + k) hlt)
        have hc1 := bkeep hbw (Hlo.out k hlt)
        have hc2 := bkeep hbw (Hhi.out k hlt)
        by_cases g1 : bl (ls s) (i + k) < loP r k
        all_goals
          go_wp2
          all_goals first
            | (go_ret
               refine ⟨ret_bool ?_, hbw⟩
               rw [hfit.out, Hst.out]
               have hle : decide (loP r k ≤ bl (ls s) (i + k) ∧ bl (ls s) (i + k) ≤ hiP r k) = false := decide_eq_false (by omega)
               rw [hle, Bool.and_false, Bool.false_and])
            | (go_roundw
               case rel =>
                 refine ⟨k + 1, by omega, by go_num, ?_, hbw⟩
                 have hle : decide (loP r k ≤ bl (ls s) (i + k) ∧ bl (ls s) (i + k) ≤ hiP r k) = true := decide_eq_true (by omega)
                 have hli : decide (i + k < (ls s).length) = true := decide_eq_true (by have := hll.out; omega)
                 have h := hfit.out
                 rw [Hst.out, hle, hli, Bool.and_true, Bool.true_and] at h
                 exact Lib.hid h
               case measure => simp [intOf]; omega)
      · obtain rfl : k = (rowsP r).length := by omega
        have h := hfit.out
        rw [List.drop_of_length_le (Nat.le_refl _)] at h
        have H := Lib.hid h
        clear h
        go_wp2
        go_ret
        exact ⟨ret_bool (by rw [H.out]; rfl), hbw⟩

theorem fitsL_drop (L : List (Int × Int)) (l : List UInt8) (i : Nat) : fitsL L l i = fitsL L (l.drop i) 0 := by
  have key : ∀ (L : List (Int × Int)) (j : Nat), fitsL L l (i + j) = fitsL L (l.drop i) j := by
    intro L
    induction L with
    | nil => intro j; rfl
    | cons a t ih =>
      intro j
      obtain ⟨lo, hi⟩ := a
      simp only [fitsL, bl_drop, List.length_drop, ← ih (j + 1), Nat.add_assoc]
      congr 2
      by_cases h : i + j < l.length
      · rw [decide_eq_true h, decide_eq_true (by omega)]
      · rw [decide_eq_false h, decide_eq_false (by omega)]
  exact key L 0
theorem mN0 {b : Int} (h : b < 128) : mN b = 0 := by unfold mN; rw [if_pos h]
theorem mN1 {b : Int} (h : 194 ≤ b ∧ b ≤ 223) : mN b = 1 := by unfold mN; rw [if_neg (by omega), if_pos h]
theorem mN2 {b : Int} (h : 224 ≤ b ∧ b ≤ 239) : mN b = 2 := by unfold mN; rw [if_neg (by omega), if_neg (by omega), if_pos h]
theorem mN3 {b : Int} (h : 240 ≤ b ∧ b ≤ 244) : mN b = 3 := by unfold mN; rw [if_neg (by omega), if_neg (by omega), if_neg (by omega), if_pos h]
theorem mLo0 {b : Int} (h : b ≠ 224) (h' : b ≠ 240) : mLo b = 128 := by unfold mLo; rw [if_neg h, if_neg h']
theorem mHi0 {b : Int} (h : b ≠ 237) (h' : b ≠ 244) : mHi b = 191 := by unfold mHi; rw [if_neg h, if_neg h']
theorem mLo1 {b : Int} (h : b = 224) : mLo b = 160 := by unfold mLo; rw [if_pos h]
theorem mLo2 {b : Int} (h : b = 240) : mLo b = 144 := by unfold mLo; rw [if_neg (by omega), if_pos h]
theorem mHi1 {b : Int} (h : b = 237) : mHi b = 159 := by unfold mHi; rw [if_pos h]
theorem mHi2 {b : Int} (h : b = 244) : mHi b = 143 := by unfold mHi; rw [if_neg (by omega), if_pos h]
theorem seq_yes (l : List UInt8) (n lo hi : Int) (hok : mOk (bl l 0) = true) (hN : mN (bl l 0) = n) (hLo : mLo (bl l 0) = lo) (hHi : mHi (bl l 0) = hi) (hl : 0 < (l.length : Int)) (h1 : n + 1 ≤ l.length) (h2 : lo ≤ bl l 1 ∧ bl l 1 ≤ hi) (h3 : 2 ≤ n → 128 ≤ bl l 2 ∧ bl l 2 ≤ 191) (h4 : n = 3 → 128 ≤ bl l 3 ∧ bl l 3 ≤ 191) : seqL l = n + 1 := by
  rw [seqL_full hok (by omega) hl (fun h => decide_eq_true (h4 (by omega))) (fun h => decide_eq_true (h3 (by omega))) (second_yes (by omega) (by omega)), hN]
theorem seq_no (l : List UInt8) (n lo hi : Int) (hok : mOk (bl l 0) = true) (hN : mN (bl l 0) = n) (hLo : mLo (bl l 0) = lo) (hHi : mHi (bl l 0) = hi) (hl : 0 < (l.length : Int)) (hno : ¬ (n + 1 ≤ l.length ∧ (1 ≤ n → lo ≤ bl l 1 ∧ bl l 1 ≤ hi) ∧ (2 ≤ n → 128 ≤ bl l 2 ∧ bl l 2 ≤ 191) ∧ (n = 3 → 128 ≤ bl l 3 ∧ bl l 3 ≤ 191))) : seqL l = 0 := by
  rw [seqL_ok hl hok, hN]
  by_cases c1 : (l.length : Int) < n + 1
  · rw [if_pos c1]
  rw [if_neg c1]
  by_cases c2 : n = 3 ∧ cont (bl l 3) = false
  · rw [if_pos c2]
  rw [if_neg c2]
  by_cases c3 : 2 ≤ n ∧ cont (bl l 2) = false
  · rw [if_pos c3]
  rw [if_neg c3]
  by_cases c4 : 1 ≤ n ∧ second l = false
  · rw [if_pos c4]
  exfalso
  simp only [cont, second, decide_eq_false_iff_not, hLo, hHi] at c2 c3 c4
  apply hno
  refine ⟨by omega, fun h => ?_, fun h => ?_, fun h => ?_⟩
  · exact Decidable.byContradiction fun e => c4 ⟨h, e⟩
  · exact Decidable.byContradiction fun e => c3 ⟨h, e⟩
  · exact Decidable.byContradiction fun e => c2 ⟨h, e⟩
theorem fits_seq (l : List UInt8) (r : Nat) (hr : r < 9) (h : fitsL (rowsP r) l 0 = true) : seqL l = (rowsP r).length := by
  have h9 : r = 0 ∨ r = 1 ∨ r = 2 ∨ r = 3 ∨ r = 4 ∨ r = 5 ∨ r = 6 ∨ r = 7 ∨ r = 8 := by omega
  rcases h9 with rfl | rfl | rfl | rfl | rfl | rfl | rfl | rfl | rfl
  all_goals
    simp only [rowsP, fitsL, Nat.zero_add, Nat.reduceAdd, Bool.and_true, Bool.and_eq_true, decide_eq_true_eq] at h
    have hok : mOk (bl l 0) = true := decide_eq_true (by omega)
  · exact seqL_one hok (mN0 (by omega)) (by omega)
  · exact seq_yes l 1 128 191 hok (mN1 (by omega)) (mLo0 (by omega) (by omega)) (mHi0 (by omega) (by omega)) (by omega) (by omega) (by omega) (by omega) (by omega)
  · exact seq_yes l 2 160 191 hok (mN2 (by omega)) (mLo1 (by omega)) (mHi0 (by omega) (by omega)) (by omega) (by omega) (by omega) (by omega) (by omega)
  · exact seq_yes l 2 128 191 hok (mN2 (by omega)) (mLo0 (by omega) (by omega)) (mHi0 (by omega) (by omega)) (by omega) (by omega) (by omega) (by omega) (by omega)
  · exact seq_yes l 2 128 159 hok (mN2 (by omega)) (mLo0 (by omega) (by omega)) (mHi1 (by omega)) (by omega) (by omega) (by omega) (by omega) (by omega)
  · exact seq_yes l 2 128 191 hok (mN2 (by omega)) (mLo0 (by omega) (by omega)) (mHi0 (by omega) (by omega)) (by omega) (by omega) (by omega) (by omega) (by omega)
  · exact seq_yes l 3 144 191 hok (mN3 (by omega)) (mLo2 (by omega)) (mHi0 (by omega) (by omega)) (by omega) (by omega) (by omega) (by omega) (by omega)
  · exact seq_yes l 3 128 191 hok (mN3 (by omega)) (mLo0 (by omega) (by omega)) (mHi0 (by omega) (by omega)) (by omega) (by omega) (by omega) (by omega) (by omega)
  · exact seq_yes l 3 128 143 hok (mN3 (by omega)) (mLo0 (by omega) (by omega)) (mHi2 (by omega)) (by omega) (by omega) (by omega) (by omega) (by omega)
theorem no_row {l : List UInt8} (r : Nat) (h : fitsL (rowsP r) l 0 = false) : ¬ fitsL (rowsP r) l 0 = true := by rw [h]; simp
theorem seq_fits (l : List UInt8) (h : ∀ r, r < 9 → fitsL (rowsP r) l 0 = false) : seqL l = 0 := by
  have hr := bl_range l 0
  by_cases hok : mOk (bl l 0) = true
  · by_cases hl : 0 < (l.length : Int)
    · have hok' : bl l 0 < 128 ∨ (194 ≤ bl l 0 ∧ bl l 0 ≤ 244) := of_decide_eq_true hok
      have h9 : bl l 0 < 128 ∨ (194 ≤ bl l 0 ∧ bl l 0 ≤ 223) ∨ bl l 0 = 224 ∨ (225 ≤ bl l 0 ∧ bl l 0 ≤ 236) ∨ bl l 0 = 237 ∨ (238 ≤ bl l 0 ∧ bl l 0 ≤ 239) ∨ bl l 0 = 240 ∨ (241 ≤ bl l 0 ∧ bl l 0 ≤ 243) ∨ bl l 0 = 244 := by omega
      rcases h9 with c | c | c | c | c | c | c | c | c
      · have e := no_row 0 (h 0 (by omega))
        simp only [rowsP, fitsL, Nat.zero_add, Nat.reduceAdd, Bool.and_true, Bool.and_eq_true, decide_eq_true_eq] at e
        omega
      · have e := no_row 1 (h 1 (by omega))
        simp only [rowsP, fitsL, Nat.zero_add, Nat.reduceAdd, Bool.and_true, Bool.and_eq_true, decide_eq_true_eq] at e
        exact seq_no l 1 128 191 hok (mN1 (by omega)) (mLo0 (by omega) (by omega)) (mHi0 (by omega) (by omega)) hl (by omega)
      · have e := no_row 2 (h 2 (by omega))
        simp only [rowsP, fitsL, Nat.zero_add, Nat.reduceAdd, Bool.and_true, Bool.and_eq_true, decide_eq_true_eq] at e
        exact seq_no l 2 160 191 hok (mN2 (by omega)) (mLo1 (by omega)) (mHi0 (by omega) (by omega)) hl (by omega)
      · have e := no_row 3 (h 3 (by omega))
        simp only [rowsP, fitsL, Nat.zero_add, Nat.reduceAdd, Bool.and_true, Bool.and_eq_true, decide_eq_true_eq] at e
        exact seq_no l 2 128 191 hok (mN2 (by omega)) (mLo0 (by omega) (by omega)) (mHi0 (by omega) (by omega)) hl (by omega)
      · have e := no_row 4 (h 4 (by omega))
        simp only [rowsP, fitsL, Nat.zero_add, Nat.reduceAdd, Bool.and_true, Bool.and_eq_true, decide_eq_true_eq] at e
        exact seq_no l 2 128 159 hok (mN2 (by omega)) (mLo0 (by omega) (by omega)) (mHi1 (by omega)) hl (by omega)
      · have e := no_row 5 (h 5 (by omega))
        simp only [rowsP, fitsL, Nat.zero_add, Nat.reduceAdd, Bool.and_true, Bool.and_eq_true, decide_eq_true_eq] at e
        exact seq_no l 2 128 191 hok (mN2 (by omega)) (mLo0 (by omega) (by omega)) (mHi0 (by omega) (by omega)) hl (by omega)
      · have e := no_row 6 (h 6 (by omega))
        simp only [rowsP, fitsL, Nat.zero_add, Nat.reduceAdd, Bool.and_true, Bool.and_eq_true, decide_eq_true_eq] at e
        exact seq_no l 3 144 191 hok (mN3 (by omega)) (mLo2 (by omega)) (mHi0 (by omega) (by omega)) hl (by omega)
      · have e := no_row 7 (h 7 (by omega))
        simp only [rowsP, fitsL, Nat.zero_add, Nat.reduceAdd, Bool.and_true, Bool.and_eq_true, decide_eq_true_eq] at e
        exact seq_no l 3 128 191 hok (mN3 (by omega)) (mLo0 (by omega) (by omega)) (mHi0 (by omega) (by omega)) hl (by omega)
      · have e := no_row 8 (h 8 (by omega))
        simp only [rowsP, fitsL, Nat.zero_add, Nat.reduceAdd, Bool.and_true, Bool.and_eq_true, decide_eq_true_eq] at e
        exact seq_no l 3 128 143 hok (mN3 (by omega)) (mLo0 (by omega) (by omega)) (mHi2 (by omega)) hl (by omega)
    · unfold seqL; rw [if_pos (.inl (by omega))]
  · exact seqL_not (by simpa using hok)

set_option maxRecDepth 100000 in
set_option maxHeartbeats 1600000 in
theorem rsequence_any (s : ByteArray) (i : Nat) (w : World) (hs : s.size ≤ 140737488351232) (hi : i ≤ s.size) (hT : Utf8Tab w) :
    Calls Tryd.prog 108 #[.string s, .int .i64 i] w fun e w' => e = .returned (.int .i64 (seqL ((ls s).drop i))) ∧ Below w.heap.size w w' := by
  have HT := Lib.hid hT
  go_enter Tryd.func108, Tryd.ntmps108
  go_wp2
  go_loopw [5] (fun q wr => ∃ k : Nat, k ≤ 9 ∧ q = .int .i64 k ∧ Hid (∀ r, r < k → fitsL (rowsP r) (ls s) i = false) ∧ Below w.heap.size w wr) (fun q _ => 9 - (intOf q).toNat)
  case atStart => exact ⟨0, by omega, rfl, Lib.hid (fun r hr => by omega), Below.refl _ _⟩
  case round =>
    obtain ⟨k, hk, rfl, hno, hbw⟩ := hrel
    by_cases hlt : k < 9
    · have HT' : Hid (Utf8Tab wr) := Lib.hid (fun r hr j hj => bkeep hbw (HT.out r hr j hj))
      by_cases hf : fitsL (rowsP k) (ls s) i = true
      all_goals
        have Hf := Lib.hid hf
        go_wp2_with (go_at_call 134; refine (fits_any _ _ _ _ hs hi hlt HT'.out).mono ?_; rintro e w1 ⟨rfl, hw1⟩; have h0 := (HT'.out k hlt 0 (by omega)); rw [rowCells_0, Nat.add_zero] at h0; have h1 := bkeep hw1 h0; clear h0)
      · go_ret
        have h1 := Hf.out
        rw [fitsL_drop] at h1
        exact ⟨ret_int (fits_seq _ k hlt h1).symm, hbw.trans (hw1.mono hbw.size)⟩
      · go_roundw
        case rel =>
          refine ⟨k + 1, by omega, by go_num, Lib.hid (fun r hr => ?_), hbw.trans (hw1.mono hbw.size)⟩
          by_cases e : r = k
          · subst e; simpa using Hf.out
          · exact hno.out r (by omega)
        case measure => simp [intOf]; omega
    · obtain rfl : k = 9 := by omega
      have h0 := Lib.hid (seq_fits ((ls s).drop i) (fun r hr => by rw [← fitsL_drop]; exact hno.out r hr))
      go_wp2
      go_ret
      exact ⟨ret_int h0.out.symm, hbw⟩
set_option maxRecDepth 100000 in
set_option maxHeartbeats 1600000 in
theorem rcheck_any (s : ByteArray) (w : World) (hs : s.size ≤ 140737488351232) (hT : Utf8Tab w) :
    Calls Tryd.prog 81 #[.string s] w fun e w' => e = .returned (.tuple #[.int .i64 (chkE s), .int .i64 (chkP s)]) ∧ Below w.heap.size w w' := by
  have HT := Lib.hid hT
  go_enter Tryd.func81, Tryd.ntmps81
  go_wp2
  go_loopw [4] (fun i wr => ∃ k : Nat, k ≤ s.size ∧ i = .int .i64 k ∧ Hid (bad (ls s) = badFrom ((ls s).drop k) k) ∧ Below w.heap.size w wr) (fun i _ => s.size - (intOf i).toNat)
  case atStart => exact ⟨0, Nat.zero_le _, rfl, Lib.hid rfl, Below.refl _ _⟩
  case round =>
    obtain ⟨k, hk, rfl, hbad, hbw⟩ := hrel
    by_cases hlt : k < s.size
    · have HT' : Hid (Utf8Tab wr) := Lib.hid (fun r hr j hj => bkeep hbw (HT.out r hr j hj))
      have hql : ((ls s).drop k).length = s.size - k := by simp [ls]
      have hq : 0 ≤ seqL ((ls s).drop k) ∧ seqL ((ls s).drop k) ≤ (s.size : Int) - k := by have := seqL_range ((ls s).drop k); omega
      have hst := badFrom_step ((ls s).drop k) k (by omega)
      have hno := badFrom_bad ((ls s).drop k) k (by omega)
      have Hql := Lib.hid hql; clear hql
      go_wp2_with (go_at_call 108; refine (rsequence_any _ _ _ hs hk HT'.out).mono ?_; rintro e w1 ⟨rfl, hw1⟩)
      · have h0 : seqL ((ls s).drop k) = 0 := ieq (by assumption)
        go_ret2
        have hb2 : bad (ls s) = some k := by rw [hbad.out, hno h0]
        exact ⟨ret_ints (by simp [chkE, hb2]) (by simp [chkP, hb2]), hbw.trans (hw1.mono hbw.size)⟩
      · have h0 : ¬ seqL ((ls s).drop k) = 0 := ine (by assumption)
        go_roundw
        case rel =>
          refine ⟨k + (seqL ((ls s).drop k)).toNat, by omega, by go_num, ?_, hbw.trans (hw1.mono hbw.size)⟩
          have := hst (by omega)
          rw [List.drop_drop] at this
          exact Lib.hid (hbad.out.trans this)
        case measure => simp [intOf]; omega
    · obtain rfl : k = s.size := by omega
      have hb2 : bad (ls s) = none := by rw [hbad.out, List.drop_of_length_le (by simp [ls]), badFrom_nil]
      have Hb2 := Lib.hid hb2; clear hb2
      go_wp2
      go_ret2
      exact ⟨ret_ints (by simp [chkE, Hb2.out]) (by simp [chkP, Hb2.out]), hbw⟩
end Go.Proofs.YtdpknokginnmjaaDoor
