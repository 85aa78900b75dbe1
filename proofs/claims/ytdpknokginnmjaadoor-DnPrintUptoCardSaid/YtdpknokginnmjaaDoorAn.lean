/- attr.letter, digit, key, (reader).whole, (*reader).next by walks: one for each state and kind of byte. -/
import Derived.Test.YtdpknokginnmjaaDoorB
set_option linter.unusedVariables false
set_option linter.unusedSimpArgs false
namespace Go.Proofs.YtdpknokginnmjaaDoor
open Go.RowKit
def letterB (c : Int) : Bool := decide ((97 ≤ c ∧ c ≤ 122) ∨ (65 ≤ c ∧ c ≤ 90))
def digitB (c : Int) : Bool := decide (48 ≤ c ∧ c ≤ 57)
def keyB (c : Int) : Bool := letterB c || digitB c || decide (c = 45)
def wholeP (st p : Int) : Bool := decide (st = 1 ∨ st = 6 ∨ ((st = 2 ∨ st = 3) ∧ 0 < p))
def nextP (st p c : Int) : Option (Int × Int) :=
  if (c == 59) = true then (if wholeP st p = true then some (5, p) else none)
  else if (st = 0 ∧ letterB c = true) ∨ (st = 1 ∧ keyB c = true) then some (1, p)
  else if (st = 5 ∨ st = 6) ∧ keyB c = true then some (6, p)
  else if (st = 0 ∨ st = 4) ∧ digitB c = true then some (if (c == 48) = true then 2 else 3, p)
  else if st = 3 ∧ digitB c = true then some (3, p)
  else if (st = 2 ∨ st = 3) ∧ (c == 46) = true then some (4, p + 1)
  else none
set_option maxHeartbeats 400000 in
theorem letter_any (b : Int) (w : World) : Calls Tryd.prog 123 #[.int .u8 b] w fun e w' => e = .returned (.bool (letterB b)) ∧ w = w' := by
  go_enter Tryd.func123, Tryd.ntmps123
  go_wp2
  all_goals go_ret
  all_goals (refine ⟨ret_bool ?_, rfl⟩; go_light; rw [Bool.eq_iff_iff]; simp [letterB]; omega)
set_option maxHeartbeats 400000 in
theorem digit_any (b : Int) (w : World) : Calls Tryd.prog 125 #[.int .u8 b] w fun e w' => e = .returned (.bool (digitB b)) ∧ w = w' := by
  go_enter Tryd.func125, Tryd.ntmps125
  go_wp2
  all_goals go_ret
  all_goals (refine ⟨ret_bool ?_, rfl⟩; go_light; rw [Bool.eq_iff_iff]; simp [digitB]; omega)
set_option maxHeartbeats 400000 in
theorem key_any (b : Int) (w : World) : Calls Tryd.prog 124 #[.int .u8 b] w fun e w' => e = .returned (.bool (keyB b)) ∧ w = w' := by
  have hk : keyB b = (letterB b || digitB b || decide (b = 45)) := rfl
  have Hk := Lib.hid hk; clear hk
  cases h1 : letterB b <;> cases h2 : digitB b <;> by_cases h3 : b = 45
  all_goals
    rw [Hk.out, h1, h2]
    clear Hk
    first | (have h4 : decide (b = 45) = true := decide_eq_true h3; rw [h4]) | (have h4 : decide (b = 45) = false := decide_eq_false h3; rw [h4])
    have h5 := Lib.hid h4
    have h6 : (b == 45) = decide (b = 45) := by by_cases h : b = 45 <;> simp [h]
    rw [h4] at h6
    clear h3 h4
    go_enter Tryd.func124, Tryd.ntmps124
    go_wp2_with (first | (go_at_call 123; refine (letter_any _ _).mono ?_; rintro e w' ⟨rfl, rfl⟩) | (go_at_call 125; refine (digit_any _ _).mono ?_; rintro e w' ⟨rfl, rfl⟩))
    go_ret
    exact ⟨rfl, rfl⟩
set_option maxHeartbeats 400000 in
theorem whole_any (st p : Int) (w : World) : Calls Tryd.prog 97 #[.agg #[.int .i64 st, .int .i64 p]] w fun e w' => e = .returned (.bool (wholeP st p)) ∧ w' = w.alloc (.cells #[.int .i64 st, .int .i64 p] 162) := by
  go_enter Tryd.func97, Tryd.ntmps97
  go_wp2
  all_goals go_ret
  all_goals (refine ⟨ret_bool ?_, rfl⟩; go_light; (try simp only [beq_iff_eq, beq_eq_false_iff_ne] at *); rw [Bool.eq_iff_iff]; simp [wholeP]; omega)

theorem gby_alloc {w w1 : World} {r : Option Nat} (h : w.grownBy w1 r) (o : Obj) : w.grownBy (w1.alloc o) r :=
  ⟨h.os, h.tape, h.output, by have := h.size; simp; omega, fun k hk hne => (Below.heap_alloc _ _ _ (by have := h.size; omega)).trans (h.block k hk hne)⟩
theorem gby_setCell {w w1 : World} {b : Nat} (h : w.grownBy w1 (some b)) (o : Nat) (v : Value) : w.grownBy (w1.setCell ⟨b, o, none⟩ v) (some b) :=
  ⟨h.os, h.tape, h.output, by simpa [World.setCell] using h.size, fun k hk hne => (Below.heap_setCell _ _ _ _ (fun e => hne (by rw [e]))).trans (h.block k hk hne)⟩
theorem gby_drew {w w1 : World} {r : Option Nat} (h : w.grownBy w1 r) : w.grownBy w1.drew r := ⟨h.os, h.tape, h.output, h.size, h.block⟩
theorem gby_drewN {w w1 : World} {r : Option Nat} (h : w.grownBy w1 r) (n : Nat) : w.grownBy (w1.drewN n) r := ⟨h.os, h.tape, h.output, h.size, h.block⟩
/-- The two cells of a struct that may be written. -/
def Cells2 (w : World) (b : Nat) (x y : Value) : Prop := w.cell? ⟨b, 0, none⟩ = some x ∧ w.cell? ⟨b, 1, none⟩ = some y ∧ w.frozen? ⟨b, 0, none⟩ = false ∧ w.frozen? ⟨b, 1, none⟩ = false
theorem Cells2.lt {w : World} {b : Nat} {x y : Value} (h : Cells2 w b x y) : b < w.heap.size := World.block_lt_of_cell? w _ h.1
theorem Cells2.alloc {w : World} {b : Nat} {x y : Value} (h : Cells2 w b x y) (o : Obj) : Cells2 (w.alloc o) b x y := by
  have hl := h.lt
  refine ⟨?_, ?_, ?_, ?_⟩
  · rw [World.cell?_alloc_lt _ _ ⟨b, 0, none⟩ hl]; exact h.1
  · rw [World.cell?_alloc_lt _ _ ⟨b, 1, none⟩ hl]; exact h.2.1
  · rw [World.frozen?_alloc_old _ _ ⟨b, 0, none⟩ (Nat.ne_of_lt hl)]; exact h.2.2.1
  · rw [World.frozen?_alloc_old _ _ ⟨b, 1, none⟩ (Nat.ne_of_lt hl)]; exact h.2.2.2
theorem Cells2.set0 {w : World} {b : Nat} {x y : Value} (h : Cells2 w b x y) (z : Value) : Cells2 (w.setCell ⟨b, 0, none⟩ z) b z y := by
  refine ⟨World.cell?_setCell_same' _ _ _ (by rw [h.1]; rfl), ?_, ?_, ?_⟩
  · rw [World.cell?_setCell_other _ _ _ _ (by simp)]; exact h.2.1
  · rw [World.frozen?_setCell]; exact h.2.2.1
  · rw [World.frozen?_setCell]; exact h.2.2.2
theorem Cells2.set1 {w : World} {b : Nat} {x y : Value} (h : Cells2 w b x y) (z : Value) : Cells2 (w.setCell ⟨b, 1, none⟩ z) b x z := by
  refine ⟨?_, World.cell?_setCell_same' _ _ _ (by rw [h.2.1]; rfl), ?_, ?_⟩
  · rw [World.cell?_setCell_other _ _ _ _ (by simp)]; exact h.1
  · rw [World.frozen?_setCell]; exact h.2.2.1
  · rw [World.frozen?_setCell]; exact h.2.2.2
theorem Cells2.below {w w' : World} {b : Nat} {x y : Value} (h : Cells2 w b x y) (hb : Below w.heap.size w w') : Cells2 w' b x y :=
  ⟨bkeep hb h.1, bkeep hb h.2.1, (hb.frozen (p := ⟨b, 0, none⟩) h.lt).trans h.2.2.1, (hb.frozen (p := ⟨b, 1, none⟩) h.lt).trans h.2.2.2⟩
/-- What a byte does to the reader at block b. -/
def NextR (st p c : Int) (b : Nat) (w : World) (e : Ending) (w' : World) : Prop :=
  e = .returned (.bool (nextP st p c).isSome) ∧ w.grownBy w' (some b) ∧ ∀ q, nextP st p c = some q → Cells2 w' b (.int .i64 q.1) (.int .i64 q.2)
set_option maxRecDepth 100000 in
set_option maxHeartbeats 1600000 in
theorem next_semi_yes (b : Nat) (st p c : Int) (w : World) (hp0 : 0 ≤ p) (hp1 : p ≤ 140737488355328) (hc : Cells2 w b (.int .i64 st) (.int .i64 p)) (h0 : (c == 59) = true) (h1 : wholeP st p = true) : Calls Tryd.prog 96 #[.pointer (some ⟨b, 0, none⟩), .int .u8 c] w (NextR st p c b w) := by
  have hN : nextP st p c = some (5, p) := by
    simp only [nextP]
    simp [h0, h1]
  unfold NextR
  rw [hN]
  have HN := Lib.hid hN; clear hN
  obtain ⟨c0, c1, f0, f1⟩ := hc
  have HC : Cells2 w b (.int .i64 st) (.int .i64 p) := ⟨c0, c1, f0, f1⟩
  have hlt := World.block_lt_of_cell? w _ c0
  simp only at hlt
  have hne : b ≠ w.heap.size := by omega
  have hx0 : ∀ o, (w.alloc o).cell? ⟨b, 0, none⟩ = some (.int .i64 st) := fun o => (HC.alloc o).1
  have hx1 : ∀ o, (w.alloc o).frozen? ⟨b, 0, none⟩ = false := fun o => (HC.alloc o).2.2.1
  go_enter Tryd.func96, Tryd.ntmps96
  go_wp2_with (first | (go_at_call 123; refine (letter_any _ _).mono ?_; rintro e w' ⟨rfl, rfl⟩) | (go_at_call 125; refine (digit_any _ _).mono ?_; rintro e w' ⟨rfl, rfl⟩) | (go_at_call 124; refine (key_any _ _).mono ?_; rintro e w' ⟨rfl, rfl⟩) | (go_at_call 97; refine (whole_any _ _ _).mono ?_; rintro e w' ⟨rfl, rfl⟩))
  all_goals (try go_quiet (fail))
  go_ret
  refine ⟨rfl, ?_, ?_⟩
  · (repeat (first | exact World.grownBy.refl _ _ | refine gby_setCell ?_ _ _ | refine gby_alloc ?_ _ | refine gby_drew ?_ | refine gby_drewN ?_ _))
  · intro q hq; cases hq; first | exact (HC.alloc _).set0 _ | exact (HC.set0 _).alloc _
set_option maxRecDepth 100000 in
set_option maxHeartbeats 1600000 in
theorem next_semi_no (b : Nat) (st p c : Int) (w : World) (hp0 : 0 ≤ p) (hp1 : p ≤ 140737488355328) (hc : Cells2 w b (.int .i64 st) (.int .i64 p)) (h0 : (c == 59) = true) (h1 : wholeP st p = false) : Calls Tryd.prog 96 #[.pointer (some ⟨b, 0, none⟩), .int .u8 c] w (NextR st p c b w) := by
  have hN : nextP st p c = none := by
    simp only [nextP]
    simp [h0, h1]
  unfold NextR
  rw [hN]
  have HN := Lib.hid hN; clear hN
  obtain ⟨c0, c1, f0, f1⟩ := hc
  have HC : Cells2 w b (.int .i64 st) (.int .i64 p) := ⟨c0, c1, f0, f1⟩
  have hlt := World.block_lt_of_cell? w _ c0
  simp only at hlt
  have hne : b ≠ w.heap.size := by omega
  have hx0 : ∀ o, (w.alloc o).cell? ⟨b, 0, none⟩ = some (.int .i64 st) := fun o => (HC.alloc o).1
  have hx1 : ∀ o, (w.alloc o).frozen? ⟨b, 0, none⟩ = false := fun o => (HC.alloc o).2.2.1
  go_enter Tryd.func96, Tryd.ntmps96
  go_wp2_with (first | (go_at_call 123; refine (letter_any _ _).mono ?_; rintro e w' ⟨rfl, rfl⟩) | (go_at_call 125; refine (digit_any _ _).mono ?_; rintro e w' ⟨rfl, rfl⟩) | (go_at_call 124; refine (key_any _ _).mono ?_; rintro e w' ⟨rfl, rfl⟩) | (go_at_call 97; refine (whole_any _ _ _).mono ?_; rintro e w' ⟨rfl, rfl⟩))
  all_goals (try go_quiet (fail))
  go_ret
  refine ⟨rfl, ?_, ?_⟩
  · (repeat (first | exact World.grownBy.refl _ _ | refine gby_setCell ?_ _ _ | refine gby_alloc ?_ _ | refine gby_drew ?_ | refine gby_drewN ?_ _))
  · intro q hq; cases hq
set_option maxRecDepth 100000 in
set_option maxHeartbeats 1600000 in
theorem next_0 (b : Nat) (p c : Int) (w : World) (hp0 : 0 ≤ p) (hp1 : p ≤ 140737488355328) (hc : Cells2 w b (.int .i64 0) (.int .i64 p)) (h0 : (c == 59) = false) (h1 : letterB c = true) : Calls Tryd.prog 96 #[.pointer (some ⟨b, 0, none⟩), .int .u8 c] w (NextR 0 p c b w) := by
  have hN : nextP 0 p c = some (1, p) := by
    simp only [nextP]
    simp [h0, h1]
  unfold NextR
  rw [hN]
  have HN := Lib.hid hN; clear hN
  obtain ⟨c0, c1, f0, f1⟩ := hc
  have HC : Cells2 w b (.int .i64 0) (.int .i64 p) := ⟨c0, c1, f0, f1⟩
  have hlt := World.block_lt_of_cell? w _ c0
  simp only at hlt
  have hne : b ≠ w.heap.size := by omega
  have hx0 : ∀ o, (w.alloc o).cell? ⟨b, 0, none⟩ = some (.int .i64 0) := fun o => (HC.alloc o).1
  have hx1 : ∀ o, (w.alloc o).frozen? ⟨b, 0, none⟩ = false := fun o => (HC.alloc o).2.2.1
  go_enter Tryd.func96, Tryd.ntmps96
  go_wp2_with (first | (go_at_call 123; refine (letter_any _ _).mono ?_; rintro e w' ⟨rfl, rfl⟩) | (go_at_call 125; refine (digit_any _ _).mono ?_; rintro e w' ⟨rfl, rfl⟩) | (go_at_call 124; refine (key_any _ _).mono ?_; rintro e w' ⟨rfl, rfl⟩) | (go_at_call 97; refine (whole_any _ _ _).mono ?_; rintro e w' ⟨rfl, rfl⟩))
  all_goals (try go_quiet (fail))
  go_ret
  refine ⟨rfl, ?_, ?_⟩
  · (repeat (first | exact World.grownBy.refl _ _ | refine gby_setCell ?_ _ _ | refine gby_alloc ?_ _ | refine gby_drew ?_ | refine gby_drewN ?_ _))
  · intro q hq; cases hq; exact HC.set0 _
set_option maxRecDepth 100000 in
set_option maxHeartbeats 1600000 in
theorem next_1 (b : Nat) (p c : Int) (w : World) (hp0 : 0 ≤ p) (hp1 : p ≤ 140737488355328) (hc : Cells2 w b (.int .i64 0) (.int .i64 p)) (h0 : (c == 59) = false) (h1 : letterB c = false) (h2 : digitB c = true) (h3 : (c == 48) = true) : Calls Tryd.prog 96 #[.pointer (some ⟨b, 0, none⟩), .int .u8 c] w (NextR 0 p c b w) := by
  have hN : nextP 0 p c = some (2, p) := by
    simp only [nextP]
    simp [h0, h1, h2, h3]
  unfold NextR
  rw [hN]
  have HN := Lib.hid hN; clear hN
  obtain ⟨c0, c1, f0, f1⟩ := hc
  have HC : Cells2 w b (.int .i64 0) (.int .i64 p) := ⟨c0, c1, f0, f1⟩
  have hlt := World.block_lt_of_cell? w _ c0
  simp only at hlt
  have hne : b ≠ w.heap.size := by omega
  have hx0 : ∀ o, (w.alloc o).cell? ⟨b, 0, none⟩ = some (.int .i64 0) := fun o => (HC.alloc o).1
  have hx1 : ∀ o, (w.alloc o).frozen? ⟨b, 0, none⟩ = false := fun o => (HC.alloc o).2.2.1
  go_enter Tryd.func96, Tryd.ntmps96
  go_wp2_with (first | (go_at_call 123; refine (letter_any _ _).mono ?_; rintro e w' ⟨rfl, rfl⟩) | (go_at_call 125; refine (digit_any _ _).mono ?_; rintro e w' ⟨rfl, rfl⟩) | (go_at_call 124; refine (key_any _ _).mono ?_; rintro e w' ⟨rfl, rfl⟩) | (go_at_call 97; refine (whole_any _ _ _).mono ?_; rintro e w' ⟨rfl, rfl⟩))
  all_goals (try go_quiet (fail))
  go_ret
  refine ⟨rfl, ?_, ?_⟩
  · (repeat (first | exact World.grownBy.refl _ _ | refine gby_setCell ?_ _ _ | refine gby_alloc ?_ _ | refine gby_drew ?_ | refine gby_drewN ?_ _))
  · intro q hq; cases hq; exact (HC.set0 _).set0 _
set_option maxRecDepth 100000 in
set_option maxHeartbeats 1600000 in
theorem next_2 (b : Nat) (p c : Int) (w : World) (hp0 : 0 ≤ p) (hp1 : p ≤ 140737488355328) (hc : Cells2 w b (.int .i64 0) (.int .i64 p)) (h0 : (c == 59) = false) (h1 : letterB c = false) (h2 : digitB c = true) (h3 : (c == 48) = false) : Calls Tryd.prog 96 #[.pointer (some ⟨b, 0, none⟩), .int .u8 c] w (NextR 0 p c b w) := by
  have hN : nextP 0 p c = some (3, p) := by
    simp only [nextP]
    simp [h0, h1, h2, h3]
  unfold NextR
  rw [hN]
  have HN := Lib.hid hN; clear hN
  obtain ⟨c0, c1, f0, f1⟩ := hc
  have HC : Cells2 w b (.int .i64 0) (.int .i64 p) := ⟨c0, c1, f0, f1⟩
  have hlt := World.block_lt_of_cell? w _ c0
  simp only at hlt
  have hne : b ≠ w.heap.size := by omega
  have hx0 : ∀ o, (w.alloc o).cell? ⟨b, 0, none⟩ = some (.int .i64 0) := fun o => (HC.alloc o).1
  have hx1 : ∀ o, (w.alloc o).frozen? ⟨b, 0, none⟩ = false := fun o => (HC.alloc o).2.2.1
  go_enter Tryd.func96, Tryd.ntmps96
  go_wp2_with (first | (go_at_call 123; refine (letter_any _ _).mono ?_; rintro e w' ⟨rfl, rfl⟩) | (go_at_call 125; refine (digit_any _ _).mono ?_; rintro e w' ⟨rfl, rfl⟩) | (go_at_call 124; refine (key_any _ _).mono ?_; rintro e w' ⟨rfl, rfl⟩) | (go_at_call 97; refine (whole_any _ _ _).mono ?_; rintro e w' ⟨rfl, rfl⟩))
  all_goals (try go_quiet (fail))
  go_ret
  refine ⟨rfl, ?_, ?_⟩
  · (repeat (first | exact World.grownBy.refl _ _ | refine gby_setCell ?_ _ _ | refine gby_alloc ?_ _ | refine gby_drew ?_ | refine gby_drewN ?_ _))
  · intro q hq; cases hq; exact HC.set0 _
set_option maxRecDepth 100000 in
set_option maxHeartbeats 1600000 in
theorem next_3 (b : Nat) (p c : Int) (w : World) (hp0 : 0 ≤ p) (hp1 : p ≤ 140737488355328) (hc : Cells2 w b (.int .i64 0) (.int .i64 p)) (h0 : (c == 59) = false) (h1 : letterB c = false) (h2 : digitB c = false) : Calls Tryd.prog 96 #[.pointer (some ⟨b, 0, none⟩), .int .u8 c] w (NextR 0 p c b w) := by
  have hN : nextP 0 p c = none := by
    simp only [nextP]
    simp [h0, h1, h2]
  unfold NextR
  rw [hN]
  have HN := Lib.hid hN; clear hN
  obtain ⟨c0, c1, f0, f1⟩ := hc
  have HC : Cells2 w b (.int .i64 0) (.int .i64 p) := ⟨c0, c1, f0, f1⟩
  have hlt := World.block_lt_of_cell? w _ c0
  simp only at hlt
  have hne : b ≠ w.heap.size := by omega
  have hx0 : ∀ o, (w.alloc o).cell? ⟨b, 0, none⟩ = some (.int .i64 0) := fun o => (HC.alloc o).1
  have hx1 : ∀ o, (w.alloc o).frozen? ⟨b, 0, none⟩ = false := fun o => (HC.alloc o).2.2.1
  go_enter Tryd.func96, Tryd.ntmps96
  go_wp2_with (first | (go_at_call 123; refine (letter_any _ _).mono ?_; rintro e w' ⟨rfl, rfl⟩) | (go_at_call 125; refine (digit_any _ _).mono ?_; rintro e w' ⟨rfl, rfl⟩) | (go_at_call 124; refine (key_any _ _).mono ?_; rintro e w' ⟨rfl, rfl⟩) | (go_at_call 97; refine (whole_any _ _ _).mono ?_; rintro e w' ⟨rfl, rfl⟩))
  all_goals (try go_quiet (fail))
  go_ret
  refine ⟨rfl, ?_, ?_⟩
  · (repeat (first | exact World.grownBy.refl _ _ | refine gby_setCell ?_ _ _ | refine gby_alloc ?_ _ | refine gby_drew ?_ | refine gby_drewN ?_ _))
  · intro q hq; cases hq
set_option maxRecDepth 100000 in
set_option maxHeartbeats 1600000 in
theorem next_4 (b : Nat) (p c : Int) (w : World) (hp0 : 0 ≤ p) (hp1 : p ≤ 140737488355328) (hc : Cells2 w b (.int .i64 1) (.int .i64 p)) (h0 : (c == 59) = false) (h1 : keyB c = true) : Calls Tryd.prog 96 #[.pointer (some ⟨b, 0, none⟩), .int .u8 c] w (NextR 1 p c b w) := by
  have hN : nextP 1 p c = some (1, p) := by
    simp only [nextP]
    simp [h0, h1]
  unfold NextR
  rw [hN]
  have HN := Lib.hid hN; clear hN
  obtain ⟨c0, c1, f0, f1⟩ := hc
  have HC : Cells2 w b (.int .i64 1) (.int .i64 p) := ⟨c0, c1, f0, f1⟩
  have hlt := World.block_lt_of_cell? w _ c0
  simp only at hlt
  have hne : b ≠ w.heap.size := by omega
  have hx0 : ∀ o, (w.alloc o).cell? ⟨b, 0, none⟩ = some (.int .i64 1) := fun o => (HC.alloc o).1
  have hx1 : ∀ o, (w.alloc o).frozen? ⟨b, 0, none⟩ = false := fun o => (HC.alloc o).2.2.1
  go_enter Tryd.func96, Tryd.ntmps96
  go_wp2_with (first | (go_at_call 123; refine (letter_any _ _).mono ?_; rintro e w' ⟨rfl, rfl⟩) | (go_at_call 125; refine (digit_any _ _).mono ?_; rintro e w' ⟨rfl, rfl⟩) | (go_at_call 124; refine (key_any _ _).mono ?_; rintro e w' ⟨rfl, rfl⟩) | (go_at_call 97; refine (whole_any _ _ _).mono ?_; rintro e w' ⟨rfl, rfl⟩))
  all_goals (try go_quiet (fail))
  go_ret
  refine ⟨rfl, ?_, ?_⟩
  · (repeat (first | exact World.grownBy.refl _ _ | refine gby_setCell ?_ _ _ | refine gby_alloc ?_ _ | refine gby_drew ?_ | refine gby_drewN ?_ _))
  · intro q hq; cases hq; exact HC.set0 _
set_option maxRecDepth 100000 in
set_option maxHeartbeats 1600000 in
theorem next_5 (b : Nat) (p c : Int) (w : World) (hp0 : 0 ≤ p) (hp1 : p ≤ 140737488355328) (hc : Cells2 w b (.int .i64 1) (.int .i64 p)) (h0 : (c == 59) = false) (h1 : keyB c = false) : Calls Tryd.prog 96 #[.pointer (some ⟨b, 0, none⟩), .int .u8 c] w (NextR 1 p c b w) := by
  have hN : nextP 1 p c = none := by
    simp only [nextP]
    simp [h0, h1]
  unfold NextR
  rw [hN]
  have HN := Lib.hid hN; clear hN
  obtain ⟨c0, c1, f0, f1⟩ := hc
  have HC : Cells2 w b (.int .i64 1) (.int .i64 p) := ⟨c0, c1, f0, f1⟩
  have hlt := World.block_lt_of_cell? w _ c0
  simp only at hlt
  have hne : b ≠ w.heap.size := by omega
  have hx0 : ∀ o, (w.alloc o).cell? ⟨b, 0, none⟩ = some (.int .i64 1) := fun o => (HC.alloc o).1
  have hx1 : ∀ o, (w.alloc o).frozen? ⟨b, 0, none⟩ = false := fun o => (HC.alloc o).2.2.1
  go_enter Tryd.func96, Tryd.ntmps96
  go_wp2_with (first | (go_at_call 123; refine (letter_any _ _).mono ?_; rintro e w' ⟨rfl, rfl⟩) | (go_at_call 125; refine (digit_any _ _).mono ?_; rintro e w' ⟨rfl, rfl⟩) | (go_at_call 124; refine (key_any _ _).mono ?_; rintro e w' ⟨rfl, rfl⟩) | (go_at_call 97; refine (whole_any _ _ _).mono ?_; rintro e w' ⟨rfl, rfl⟩))
  all_goals (try go_quiet (fail))
  go_ret
  refine ⟨rfl, ?_, ?_⟩
  · (repeat (first | exact World.grownBy.refl _ _ | refine gby_setCell ?_ _ _ | refine gby_alloc ?_ _ | refine gby_drew ?_ | refine gby_drewN ?_ _))
  · intro q hq; cases hq
set_option maxRecDepth 100000 in
set_option maxHeartbeats 1600000 in
theorem next_6 (b : Nat) (p c : Int) (w : World) (hp0 : 0 ≤ p) (hp1 : p ≤ 140737488355328) (hc : Cells2 w b (.int .i64 2) (.int .i64 p)) (h0 : (c == 59) = false) (h1 : (c == 46) = true) : Calls Tryd.prog 96 #[.pointer (some ⟨b, 0, none⟩), .int .u8 c] w (NextR 2 p c b w) := by
  have hN : nextP 2 p c = some (4, p + 1) := by
    simp only [nextP]
    simp [h0, h1]
  unfold NextR
  rw [hN]
  have HN := Lib.hid hN; clear hN
  obtain ⟨c0, c1, f0, f1⟩ := hc
  have HC : Cells2 w b (.int .i64 2) (.int .i64 p) := ⟨c0, c1, f0, f1⟩
  have hlt := World.block_lt_of_cell? w _ c0
  simp only at hlt
  have hne : b ≠ w.heap.size := by omega
  have hx0 : ∀ o, (w.alloc o).cell? ⟨b, 0, none⟩ = some (.int .i64 2) := fun o => (HC.alloc o).1
  have hx1 : ∀ o, (w.alloc o).frozen? ⟨b, 0, none⟩ = false := fun o => (HC.alloc o).2.2.1
  go_enter Tryd.func96, Tryd.ntmps96
  go_wp2_with (first | (go_at_call 123; refine (letter_any _ _).mono ?_; rintro e w' ⟨rfl, rfl⟩) | (go_at_call 125; refine (digit_any _ _).mono ?_; rintro e w' ⟨rfl, rfl⟩) | (go_at_call 124; refine (key_any _ _).mono ?_; rintro e w' ⟨rfl, rfl⟩) | (go_at_call 97; refine (whole_any _ _ _).mono ?_; rintro e w' ⟨rfl, rfl⟩))
  all_goals (try go_quiet (fail))
  go_ret
  refine ⟨rfl, ?_, ?_⟩
  · (repeat (first | exact World.grownBy.refl _ _ | refine gby_setCell ?_ _ _ | refine gby_alloc ?_ _ | refine gby_drew ?_ | refine gby_drewN ?_ _))
  · intro q hq; cases hq; exact (HC.set0 _).set1 _
set_option maxRecDepth 100000 in
set_option maxHeartbeats 1600000 in
theorem next_7 (b : Nat) (p c : Int) (w : World) (hp0 : 0 ≤ p) (hp1 : p ≤ 140737488355328) (hc : Cells2 w b (.int .i64 2) (.int .i64 p)) (h0 : (c == 59) = false) (h1 : (c == 46) = false) : Calls Tryd.prog 96 #[.pointer (some ⟨b, 0, none⟩), .int .u8 c] w (NextR 2 p c b w) := by
  have hN : nextP 2 p c = none := by
    simp only [nextP]
    simp [h0, h1]
  unfold NextR
  rw [hN]
  have HN := Lib.hid hN; clear hN
  obtain ⟨c0, c1, f0, f1⟩ := hc
  have HC : Cells2 w b (.int .i64 2) (.int .i64 p) := ⟨c0, c1, f0, f1⟩
  have hlt := World.block_lt_of_cell? w _ c0
  simp only at hlt
  have hne : b ≠ w.heap.size := by omega
  have hx0 : ∀ o, (w.alloc o).cell? ⟨b, 0, none⟩ = some (.int .i64 2) := fun o => (HC.alloc o).1
  have hx1 : ∀ o, (w.alloc o).frozen? ⟨b, 0, none⟩ = false := fun o => (HC.alloc o).2.2.1
  go_enter Tryd.func96, Tryd.ntmps96
  go_wp2_with (first | (go_at_call 123; refine (letter_any _ _).mono ?_; rintro e w' ⟨rfl, rfl⟩) | (go_at_call 125; refine (digit_any _ _).mono ?_; rintro e w' ⟨rfl, rfl⟩) | (go_at_call 124; refine (key_any _ _).mono ?_; rintro e w' ⟨rfl, rfl⟩) | (go_at_call 97; refine (whole_any _ _ _).mono ?_; rintro e w' ⟨rfl, rfl⟩))
  all_goals (try go_quiet (fail))
  go_ret
  refine ⟨rfl, ?_, ?_⟩
  · (repeat (first | exact World.grownBy.refl _ _ | refine gby_setCell ?_ _ _ | refine gby_alloc ?_ _ | refine gby_drew ?_ | refine gby_drewN ?_ _))
  · intro q hq; cases hq
set_option maxRecDepth 100000 in
set_option maxHeartbeats 1600000 in
theorem next_8 (b : Nat) (p c : Int) (w : World) (hp0 : 0 ≤ p) (hp1 : p ≤ 140737488355328) (hc : Cells2 w b (.int .i64 3) (.int .i64 p)) (h0 : (c == 59) = false) (h1 : digitB c = true) : Calls Tryd.prog 96 #[.pointer (some ⟨b, 0, none⟩), .int .u8 c] w (NextR 3 p c b w) := by
  have hN : nextP 3 p c = some (3, p) := by
    simp only [nextP]
    simp [h0, h1]
  unfold NextR
  rw [hN]
  have HN := Lib.hid hN; clear hN
  obtain ⟨c0, c1, f0, f1⟩ := hc
  have HC : Cells2 w b (.int .i64 3) (.int .i64 p) := ⟨c0, c1, f0, f1⟩
  have hlt := World.block_lt_of_cell? w _ c0
  simp only at hlt
  have hne : b ≠ w.heap.size := by omega
  have hx0 : ∀ o, (w.alloc o).cell? ⟨b, 0, none⟩ = some (.int .i64 3) := fun o => (HC.alloc o).1
  have hx1 : ∀ o, (w.alloc o).frozen? ⟨b, 0, none⟩ = false := fun o => (HC.alloc o).2.2.1
  go_enter Tryd.func96, Tryd.ntmps96
  go_wp2_with (first | (go_at_call 123; refine (letter_any _ _).mono ?_; rintro e w' ⟨rfl, rfl⟩) | (go_at_call 125; refine (digit_any _ _).mono ?_; rintro e w' ⟨rfl, rfl⟩) | (go_at_call 124; refine (key_any _ _).mono ?_; rintro e w' ⟨rfl, rfl⟩) | (go_at_call 97; refine (whole_any _ _ _).mono ?_; rintro e w' ⟨rfl, rfl⟩))
  all_goals (try go_quiet (fail))
  go_ret
  refine ⟨rfl, ?_, ?_⟩
  · (repeat (first | exact World.grownBy.refl _ _ | refine gby_setCell ?_ _ _ | refine gby_alloc ?_ _ | refine gby_drew ?_ | refine gby_drewN ?_ _))
  · intro q hq; cases hq; exact HC
set_option maxRecDepth 100000 in
set_option maxHeartbeats 1600000 in
theorem next_9 (b : Nat) (p c : Int) (w : World) (hp0 : 0 ≤ p) (hp1 : p ≤ 140737488355328) (hc : Cells2 w b (.int .i64 3) (.int .i64 p)) (h0 : (c == 59) = false) (h1 : digitB c = false) (h2 : (c == 46) = true) : Calls Tryd.prog 96 #[.pointer (some ⟨b, 0, none⟩), .int .u8 c] w (NextR 3 p c b w) := by
  have hN : nextP 3 p c = some (4, p + 1) := by
    simp only [nextP]
    simp [h0, h1, h2]
  unfold NextR
  rw [hN]
  have HN := Lib.hid hN; clear hN
  obtain ⟨c0, c1, f0, f1⟩ := hc
  have HC : Cells2 w b (.int .i64 3) (.int .i64 p) := ⟨c0, c1, f0, f1⟩
  have hlt := World.block_lt_of_cell? w _ c0
  simp only at hlt
  have hne : b ≠ w.heap.size := by omega
  have hx0 : ∀ o, (w.alloc o).cell? ⟨b, 0, none⟩ = some (.int .i64 3) := fun o => (HC.alloc o).1
  have hx1 : ∀ o, (w.alloc o).frozen? ⟨b, 0, none⟩ = false := fun o => (HC.alloc o).2.2.1
  go_enter Tryd.func96, Tryd.ntmps96
  go_wp2_with (first | (go_at_call 123; refine (letter_any _ _).mono ?_; rintro e w' ⟨rfl, rfl⟩) | (go_at_call 125; refine (digit_any _ _).mono ?_; rintro e w' ⟨rfl, rfl⟩) | (go_at_call 124; refine (key_any _ _).mono ?_; rintro e w' ⟨rfl, rfl⟩) | (go_at_call 97; refine (whole_any _ _ _).mono ?_; rintro e w' ⟨rfl, rfl⟩))
  all_goals (try go_quiet (fail))
  go_ret
  refine ⟨rfl, ?_, ?_⟩
  · (repeat (first | exact World.grownBy.refl _ _ | refine gby_setCell ?_ _ _ | refine gby_alloc ?_ _ | refine gby_drew ?_ | refine gby_drewN ?_ _))
  · intro q hq; cases hq; exact (HC.set0 _).set1 _
set_option maxRecDepth 100000 in
set_option maxHeartbeats 1600000 in
theorem next_10 (b : Nat) (p c : Int) (w : World) (hp0 : 0 ≤ p) (hp1 : p ≤ 140737488355328) (hc : Cells2 w b (.int .i64 3) (.int .i64 p)) (h0 : (c == 59) = false) (h1 : digitB c = false) (h2 : (c == 46) = false) : Calls Tryd.prog 96 #[.pointer (some ⟨b, 0, none⟩), .int .u8 c] w (NextR 3 p c b w) := by
  have hN : nextP 3 p c = none := by
    simp only [nextP]
    simp [h0, h1, h2]
  unfold NextR
  rw [hN]
  have HN := Lib.hid hN; clear hN
  obtain ⟨c0, c1, f0, f1⟩ := hc
  have HC : Cells2 w b (.int .i64 3) (.int .i64 p) := ⟨c0, c1, f0, f1⟩
  have hlt := World.block_lt_of_cell? w _ c0
  simp only at hlt
  have hne : b ≠ w.heap.size := by omega
  have hx0 : ∀ o, (w.alloc o).cell? ⟨b, 0, none⟩ = some (.int .i64 3) := fun o => (HC.alloc o).1
  have hx1 : ∀ o, (w.alloc o).frozen? ⟨b, 0, none⟩ = false := fun o => (HC.alloc o).2.2.1
  go_enter Tryd.func96, Tryd.ntmps96
  go_wp2_with (first | (go_at_call 123; refine (letter_any _ _).mono ?_; rintro e w' ⟨rfl, rfl⟩) | (go_at_call 125; refine (digit_any _ _).mono ?_; rintro e w' ⟨rfl, rfl⟩) | (go_at_call 124; refine (key_any _ _).mono ?_; rintro e w' ⟨rfl, rfl⟩) | (go_at_call 97; refine (whole_any _ _ _).mono ?_; rintro e w' ⟨rfl, rfl⟩))
  all_goals (try go_quiet (fail))
  go_ret
  refine ⟨rfl, ?_, ?_⟩
  · (repeat (first | exact World.grownBy.refl _ _ | refine gby_setCell ?_ _ _ | refine gby_alloc ?_ _ | refine gby_drew ?_ | refine gby_drewN ?_ _))
  · intro q hq; cases hq
set_option maxRecDepth 100000 in
set_option maxHeartbeats 1600000 in
theorem next_11 (b : Nat) (p c : Int) (w : World) (hp0 : 0 ≤ p) (hp1 : p ≤ 140737488355328) (hc : Cells2 w b (.int .i64 4) (.int .i64 p)) (h0 : (c == 59) = false) (h1 : digitB c = true) (h2 : (c == 48) = true) : Calls Tryd.prog 96 #[.pointer (some ⟨b, 0, none⟩), .int .u8 c] w (NextR 4 p c b w) := by
  have hN : nextP 4 p c = some (2, p) := by
    simp only [nextP]
    simp [h0, h1, h2]
  unfold NextR
  rw [hN]
  have HN := Lib.hid hN; clear hN
  obtain ⟨c0, c1, f0, f1⟩ := hc
  have HC : Cells2 w b (.int .i64 4) (.int .i64 p) := ⟨c0, c1, f0, f1⟩
  have hlt := World.block_lt_of_cell? w _ c0
  simp only at hlt
  have hne : b ≠ w.heap.size := by omega
  have hx0 : ∀ o, (w.alloc o).cell? ⟨b, 0, none⟩ = some (.int .i64 4) := fun o => (HC.alloc o).1
  have hx1 : ∀ o, (w.alloc o).frozen? ⟨b, 0, none⟩ = false := fun o => (HC.alloc o).2.2.1
  go_enter Tryd.func96, Tryd.ntmps96
  go_wp2_with (first | (go_at_call 123; refine (letter_any _ _).mono ?_; rintro e w' ⟨rfl, rfl⟩) | (go_at_call 125; refine (digit_any _ _).mono ?_; rintro e w' ⟨rfl, rfl⟩) | (go_at_call 124; refine (key_any _ _).mono ?_; rintro e w' ⟨rfl, rfl⟩) | (go_at_call 97; refine (whole_any _ _ _).mono ?_; rintro e w' ⟨rfl, rfl⟩))
  all_goals (try go_quiet (fail))
  go_ret
  refine ⟨rfl, ?_, ?_⟩
  · (repeat (first | exact World.grownBy.refl _ _ | refine gby_setCell ?_ _ _ | refine gby_alloc ?_ _ | refine gby_drew ?_ | refine gby_drewN ?_ _))
  · intro q hq; cases hq; exact (HC.set0 _).set0 _
set_option maxRecDepth 100000 in
set_option maxHeartbeats 1600000 in
theorem next_12 (b : Nat) (p c : Int) (w : World) (hp0 : 0 ≤ p) (hp1 : p ≤ 140737488355328) (hc : Cells2 w b (.int .i64 4) (.int .i64 p)) (h0 : (c == 59) = false) (h1 : digitB c = true) (h2 : (c == 48) = false) : Calls Tryd.prog 96 #[.pointer (some ⟨b, 0, none⟩), .int .u8 c] w (NextR 4 p c b w) := by
  have hN : nextP 4 p c = some (3, p) := by
    simp only [nextP]
    simp [h0, h1, h2]
  unfold NextR
  rw [hN]
  have HN := Lib.hid hN; clear hN
  obtain ⟨c0, c1, f0, f1⟩ := hc
  have HC : Cells2 w b (.int .i64 4) (.int .i64 p) := ⟨c0, c1, f0, f1⟩
  have hlt := World.block_lt_of_cell? w _ c0
  simp only at hlt
  have hne : b ≠ w.heap.size := by omega
  have hx0 : ∀ o, (w.alloc o).cell? ⟨b, 0, none⟩ = some (.int .i64 4) := fun o => (HC.alloc o).1
  have hx1 : ∀ o, (w.alloc o).frozen? ⟨b, 0, none⟩ = false := fun o => (HC.alloc o).2.2.1
  go_enter Tryd.func96, Tryd.ntmps96
  go_wp2_with (first | (go_at_call 123; refine (letter_any _ _).mono ?_; rintro e w' ⟨rfl, rfl⟩) | (go_at_call 125; refine (digit_any _ _).mono ?_; rintro e w' ⟨rfl, rfl⟩) | (go_at_call 124; refine (key_any _ _).mono ?_; rintro e w' ⟨rfl, rfl⟩) | (go_at_call 97; refine (whole_any _ _ _).mono ?_; rintro e w' ⟨rfl, rfl⟩))
  all_goals (try go_quiet (fail))
  go_ret
  refine ⟨rfl, ?_, ?_⟩
  · (repeat (first | exact World.grownBy.refl _ _ | refine gby_setCell ?_ _ _ | refine gby_alloc ?_ _ | refine gby_drew ?_ | refine gby_drewN ?_ _))
  · intro q hq; cases hq; exact HC.set0 _
set_option maxRecDepth 100000 in
set_option maxHeartbeats 1600000 in
theorem next_13 (b : Nat) (p c : Int) (w : World) (hp0 : 0 ≤ p) (hp1 : p ≤ 140737488355328) (hc : Cells2 w b (.int .i64 4) (.int .i64 p)) (h0 : (c == 59) = false) (h1 : digitB c = false) : Calls Tryd.prog 96 #[.pointer (some ⟨b, 0, none⟩), .int .u8 c] w (NextR 4 p c b w) := by
  have hN : nextP 4 p c = none := by
    simp only [nextP]
    simp [h0, h1]
  unfold NextR
  rw [hN]
  have HN := Lib.hid hN; clear hN
  obtain ⟨c0, c1, f0, f1⟩ := hc
  have HC : Cells2 w b (.int .i64 4) (.int .i64 p) := ⟨c0, c1, f0, f1⟩
  have hlt := World.block_lt_of_cell? w _ c0
  simp only at hlt
  have hne : b ≠ w.heap.size := by omega
  have hx0 : ∀ o, (w.alloc o).cell? ⟨b, 0, none⟩ = some (.int .i64 4) := fun o => (HC.alloc o).1
  have hx1 : ∀ o, (w.alloc o).frozen? ⟨b, 0, none⟩ = false := fun o => (HC.alloc o).2.2.1
  go_enter Tryd.func96, Tryd.ntmps96
  go_wp2_with (first | (go_at_call 123; refine (letter_any _ _).mono ?_; rintro e w' ⟨rfl, rfl⟩) | (go_at_call 125; refine (digit_any _ _).mono ?_; rintro e w' ⟨rfl, rfl⟩) | (go_at_call 124; refine (key_any _ _).mono ?_; rintro e w' ⟨rfl, rfl⟩) | (go_at_call 97; refine (whole_any _ _ _).mono ?_; rintro e w' ⟨rfl, rfl⟩))
  all_goals (try go_quiet (fail))
  go_ret
  refine ⟨rfl, ?_, ?_⟩
  · (repeat (first | exact World.grownBy.refl _ _ | refine gby_setCell ?_ _ _ | refine gby_alloc ?_ _ | refine gby_drew ?_ | refine gby_drewN ?_ _))
  · intro q hq; cases hq
set_option maxRecDepth 100000 in
set_option maxHeartbeats 1600000 in
theorem next_14 (b : Nat) (p c : Int) (w : World) (hp0 : 0 ≤ p) (hp1 : p ≤ 140737488355328) (hc : Cells2 w b (.int .i64 5) (.int .i64 p)) (h0 : (c == 59) = false) (h1 : keyB c = true) : Calls Tryd.prog 96 #[.pointer (some ⟨b, 0, none⟩), .int .u8 c] w (NextR 5 p c b w) := by
  have hN : nextP 5 p c = some (6, p) := by
    simp only [nextP]
    simp [h0, h1]
  unfold NextR
  rw [hN]
  have HN := Lib.hid hN; clear hN
  obtain ⟨c0, c1, f0, f1⟩ := hc
  have HC : Cells2 w b (.int .i64 5) (.int .i64 p) := ⟨c0, c1, f0, f1⟩
  have hlt := World.block_lt_of_cell? w _ c0
  simp only at hlt
  have hne : b ≠ w.heap.size := by omega
  have hx0 : ∀ o, (w.alloc o).cell? ⟨b, 0, none⟩ = some (.int .i64 5) := fun o => (HC.alloc o).1
  have hx1 : ∀ o, (w.alloc o).frozen? ⟨b, 0, none⟩ = false := fun o => (HC.alloc o).2.2.1
  go_enter Tryd.func96, Tryd.ntmps96
  go_wp2_with (first | (go_at_call 123; refine (letter_any _ _).mono ?_; rintro e w' ⟨rfl, rfl⟩) | (go_at_call 125; refine (digit_any _ _).mono ?_; rintro e w' ⟨rfl, rfl⟩) | (go_at_call 124; refine (key_any _ _).mono ?_; rintro e w' ⟨rfl, rfl⟩) | (go_at_call 97; refine (whole_any _ _ _).mono ?_; rintro e w' ⟨rfl, rfl⟩))
  all_goals (try go_quiet (fail))
  go_ret
  refine ⟨rfl, ?_, ?_⟩
  · (repeat (first | exact World.grownBy.refl _ _ | refine gby_setCell ?_ _ _ | refine gby_alloc ?_ _ | refine gby_drew ?_ | refine gby_drewN ?_ _))
  · intro q hq; cases hq; exact HC.set0 _
set_option maxRecDepth 100000 in
set_option maxHeartbeats 1600000 in
theorem next_15 (b : Nat) (p c : Int) (w : World) (hp0 : 0 ≤ p) (hp1 : p ≤ 140737488355328) (hc : Cells2 w b (.int .i64 5) (.int .i64 p)) (h0 : (c == 59) = false) (h1 : keyB c = false) : Calls Tryd.prog 96 #[.pointer (some ⟨b, 0, none⟩), .int .u8 c] w (NextR 5 p c b w) := by
  have hN : nextP 5 p c = none := by
    simp only [nextP]
    simp [h0, h1]
  unfold NextR
  rw [hN]
  have HN := Lib.hid hN; clear hN
  obtain ⟨c0, c1, f0, f1⟩ := hc
  have HC : Cells2 w b (.int .i64 5) (.int .i64 p) := ⟨c0, c1, f0, f1⟩
  have hlt := World.block_lt_of_cell? w _ c0
  simp only at hlt
  have hne : b ≠ w.heap.size := by omega
  have hx0 : ∀ o, (w.alloc o).cell? ⟨b, 0, none⟩ = some (.int .i64 5) := fun o => (HC.alloc o).1
  have hx1 : ∀ o, (w.alloc o).frozen? ⟨b, 0, none⟩ = false := fun o => (HC.alloc o).2.2.1
  go_enter Tryd.func96, Tryd.ntmps96
  go_wp2_with (first | (go_at_call 123; refine (letter_any _ _).mono ?_; rintro e w' ⟨rfl, rfl⟩) | (go_at_call 125; refine (digit_any _ _).mono ?_; rintro e w' ⟨rfl, rfl⟩) | (go_at_call 124; refine (key_any _ _).mono ?_; rintro e w' ⟨rfl, rfl⟩) | (go_at_call 97; refine (whole_any _ _ _).mono ?_; rintro e w' ⟨rfl, rfl⟩))
  all_goals (try go_quiet (fail))
  go_ret
  refine ⟨rfl, ?_, ?_⟩
  · (repeat (first | exact World.grownBy.refl _ _ | refine gby_setCell ?_ _ _ | refine gby_alloc ?_ _ | refine gby_drew ?_ | refine gby_drewN ?_ _))
  · intro q hq; cases hq
set_option maxRecDepth 100000 in
set_option maxHeartbeats 1600000 in
theorem next_16 (b : Nat) (p c : Int) (w : World) (hp0 : 0 ≤ p) (hp1 : p ≤ 140737488355328) (hc : Cells2 w b (.int .i64 6) (.int .i64 p)) (h0 : (c == 59) = false) (h1 : keyB c = true) : Calls Tryd.prog 96 #[.pointer (some ⟨b, 0, none⟩), .int .u8 c] w (NextR 6 p c b w) := by
  have hN : nextP 6 p c = some (6, p) := by
    simp only [nextP]
    simp [h0, h1]
  unfold NextR
  rw [hN]
  have HN := Lib.hid hN; clear hN
  obtain ⟨c0, c1, f0, f1⟩ := hc
  have HC : Cells2 w b (.int .i64 6) (.int .i64 p) := ⟨c0, c1, f0, f1⟩
  have hlt := World.block_lt_of_cell? w _ c0
  simp only at hlt
  have hne : b ≠ w.heap.size := by omega
  have hx0 : ∀ o, (w.alloc o).cell? ⟨b, 0, none⟩ = some (.int .i64 6) := fun o => (HC.alloc o).1
  have hx1 : ∀ o, (w.alloc o).frozen? ⟨b, 0, none⟩ = false := fun o => (HC.alloc o).2.2.1
  go_enter Tryd.func96, Tryd.ntmps96
  go_wp2_with (first | (go_at_call 123; refine (letter_any _ _).mono ?_; rintro e w' ⟨rfl, rfl⟩) | (go_at_call 125; refine (digit_any _ _).mono ?_; rintro e w' ⟨rfl, rfl⟩) | (go_at_call 124; refine (key_any _ _).mono ?_; rintro e w' ⟨rfl, rfl⟩) | (go_at_call 97; refine (whole_any _ _ _).mono ?_; rintro e w' ⟨rfl, rfl⟩))
  all_goals (try go_quiet (fail))
  go_ret
  refine ⟨rfl, ?_, ?_⟩
  · (repeat (first | exact World.grownBy.refl _ _ | refine gby_setCell ?_ _ _ | refine gby_alloc ?_ _ | refine gby_drew ?_ | refine gby_drewN ?_ _))
  · intro q hq; cases hq; exact HC.set0 _
set_option maxRecDepth 100000 in
set_option maxHeartbeats 1600000 in
theorem next_17 (b : Nat) (p c : Int) (w : World) (hp0 : 0 ≤ p) (hp1 : p ≤ 140737488355328) (hc : Cells2 w b (.int .i64 6) (.int .i64 p)) (h0 : (c == 59) = false) (h1 : keyB c = false) : Calls Tryd.prog 96 #[.pointer (some ⟨b, 0, none⟩), .int .u8 c] w (NextR 6 p c b w) := by
  have hN : nextP 6 p c = none := by
    simp only [nextP]
    simp [h0, h1]
  unfold NextR
  rw [hN]
  have HN := Lib.hid hN; clear hN
  obtain ⟨c0, c1, f0, f1⟩ := hc
  have HC : Cells2 w b (.int .i64 6) (.int .i64 p) := ⟨c0, c1, f0, f1⟩
  have hlt := World.block_lt_of_cell? w _ c0
  simp only at hlt
  have hne : b ≠ w.heap.size := by omega
  have hx0 : ∀ o, (w.alloc o).cell? ⟨b, 0, none⟩ = some (.int .i64 6) := fun o => (HC.alloc o).1
  have hx1 : ∀ o, (w.alloc o).frozen? ⟨b, 0, none⟩ = false := fun o => (HC.alloc o).2.2.1
  go_enter Tryd.func96, Tryd.ntmps96
  go_wp2_with (first | (go_at_call 123; refine (letter_any _ _).mono ?_; rintro e w' ⟨rfl, rfl⟩) | (go_at_call 125; refine (digit_any _ _).mono ?_; rintro e w' ⟨rfl, rfl⟩) | (go_at_call 124; refine (key_any _ _).mono ?_; rintro e w' ⟨rfl, rfl⟩) | (go_at_call 97; refine (whole_any _ _ _).mono ?_; rintro e w' ⟨rfl, rfl⟩))
  all_goals (try go_quiet (fail))
  go_ret
  refine ⟨rfl, ?_, ?_⟩
  · (repeat (first | exact World.grownBy.refl _ _ | refine gby_setCell ?_ _ _ | refine gby_alloc ?_ _ | refine gby_drew ?_ | refine gby_drewN ?_ _))
  · intro q hq; cases hq
end Go.Proofs.YtdpknokginnmjaaDoor
