/- Plain law: what the reference takes for a type is what the program's reader takes. -/
import Derived.Test.YtdpknokginnmjaaDoorR5
import Derived.Test.YtdpknokginnmjaaDoorAs
set_option linter.unusedVariables false
set_option linter.unusedSimpArgs false
namespace Go.Proofs.YtdpknokginnmjaaDoor
open Go.RowKit
theorem scan_nil (st p : Int) (i : Nat) : (scanR true [] st p i).1 = wholeP st p := rfl
theorem scan_cons (c : UInt8) (t : List UInt8) (st p : Int) (i : Nat) : (scanR true (c :: t) st p i).1 = if ((c.toNat : Int) == 59) = true then false else match nextP st p c.toNat with | none => false | some q => (scanR true t q.1 q.2 (i + 1)).1 := by
  show (if true = true ∧ ((c.toNat : Int) == 59) = true then (false, i) else _).1 = _
  by_cases h : ((c.toNat : Int) == 59) = true
  · rw [if_pos ⟨rfl, h⟩, if_pos h]
  · rw [if_neg (fun e => h e.2), if_neg h]
    cases nextP st p c.toNat <;> rfl
theorem n59 {c : Int} (h : ¬ (c == 59) = true) : (c == 59) = false := by simpa using h
theorem key59 {c : Int} (h : (c == 59) = true) : keyB c = false ∧ digitB c = false ∧ letterB c = false := by
  have := ieq h; subst this; decide
theorem dig46 {c : Int} (h : (c == 46) = true) : digitB c = false ∧ letterB c = false ∧ keyB c = false := by
  have := ieq h; subst this; decide
theorem next1 (p c : Int) (h : ¬ (c == 59) = true) : nextP 1 p c = if keyB c = true then some (1, p) else none := by
  unfold nextP; rw [if_neg h]
  cases hk : keyB c <;> simp
theorem next2 (p c : Int) (h : ¬ (c == 59) = true) : nextP 2 p c = if (c == 46) = true then some (4, p + 1) else none := by
  unfold nextP; rw [if_neg h]
  cases hk : (c == 46) <;> simp
theorem next3 (p c : Int) (h : ¬ (c == 59) = true) : nextP 3 p c = if digitB c = true then some (3, p) else if (c == 46) = true then some (4, p + 1) else none := by
  unfold nextP; rw [if_neg h]
  cases hk : (c == 46) <;> cases hd : digitB c <;> simp
theorem next4 (p c : Int) (h : ¬ (c == 59) = true) : nextP 4 p c = if digitB c = true then some (if (c == 48) = true then 2 else 3, p) else none := by
  unfold nextP; rw [if_neg h]
  cases hd : digitB c <;> simp
theorem next0 (p c : Int) (h : ¬ (c == 59) = true) : nextP 0 p c = if letterB c = true then some (1, p) else if digitB c = true then some (if (c == 48) = true then 2 else 3, p) else none := by
  unfold nextP; rw [if_neg h]
  cases hl : letterB c <;> cases hd : digitB c <;> simp
theorem scan1 (t : List UInt8) (p : Int) (i : Nat) : (scanR true t 1 p i).1 = t.all (fun c => keyB c.toNat) := by
  induction t generalizing i with
  | nil => rfl
  | cons c t ih =>
    rw [scan_cons, List.all_cons]
    by_cases h : ((c.toNat : Int) == 59) = true
    · rw [if_pos h, (key59 h).1]; rfl
    · rw [if_neg h, next1 _ _ h]
      cases hk : keyB (c.toNat : Int)
      · rfl
      · exact ih _
def headAll (f : List UInt8 → Bool) (ps : List (List UInt8)) (p : Int) : Bool := match ps with
  | h :: t => f h && t.all numberP && decide (0 < p ∨ 0 < t.length)
  | [] => false
theorem parts_dot (t : List UInt8) : partsR 46 (46 :: t) = [] :: partsR 46 t := by simp [partsR]
theorem parts_other (c : UInt8) (t : List UInt8) (h : ¬ ((c.toNat : Int) == 46) = true) : ∃ a ps, partsR 46 t = a :: ps ∧ partsR 46 (c :: t) = (c :: a) :: ps := by
  have hc : c ≠ 46 := fun e => h (by rw [e]; rfl)
  cases hp : partsR 46 t with
  | nil => exact absurd hp (partsR_ne 46 t)
  | cons a ps => exact ⟨a, ps, rfl, by simp [partsR, hc, hp]⟩
theorem parts_46 (c : UInt8) (t : List UInt8) (h : ((c.toNat : Int) == 46) = true) : c = 46 := by
  have := ieq h; exact UInt8.toNat_inj.1 (by simp; omega)
theorem num_cons (c : UInt8) (a : List UInt8) : numberP (c :: a) = (digitB c.toNat && (if ((c.toNat : Int) == 48) = true then a.isEmpty else a.all (fun x => digitB x.toNat))) := by
  unfold numberP
  have e : bl (c :: a) 0 = c.toNat := by simp [bl]
  rw [List.all_cons, e]
  cases h48 : ((c.toNat : Int) == 48)
  · have : (c :: a == [48]) = false := by
      rw [beq_eq_false_iff_ne]; intro e; injection e with e1 _; rw [e1] at h48; simp at h48
    rw [this]; simp
  · have hc : c = 48 := by have := ieq h48; exact UInt8.toNat_inj.1 (by simp; omega)
    subst hc
    cases a with
    | nil => rfl
    | cons b t => simp
theorem scanN (l : List UInt8) : ∀ (p : Int) (i : Nat), 0 ≤ p → (scanR true l 3 p i).1 = headAll (fun h => h.all (fun x => digitB x.toNat)) (partsR 46 l) p ∧ (scanR true l 2 p i).1 = headAll (fun h => h.isEmpty) (partsR 46 l) p ∧ (0 < p → (scanR true l 4 p i).1 = (partsR 46 l).all numberP) := by
  induction l with
  | nil =>
    intro p i hp
    refine ⟨?_, ?_, fun h => ?_⟩
    · rw [scan_nil]; simp [headAll, partsR, wholeP]
    · rw [scan_nil]; simp [headAll, partsR, wholeP]
    · rw [scan_nil]; simp [partsR, wholeP, numberP]
  | cons c t ih =>
    intro p i hp
    by_cases h59 : ((c.toNat : Int) == 59) = true
    · have h46 : ¬ ((c.toNat : Int) == 46) = true := by have := ieq h59; rw [this]; decide
      obtain ⟨a, ps, e1, e2⟩ := parts_other c t h46
      simp only [scan_cons, if_pos h59, e2, headAll, List.all_cons, num_cons, (key59 h59).2.1, Bool.false_and, List.isEmpty_cons]
      simp
    · have i3 := fun q hq => (ih q (i + 1) hq).1
      have i2 := fun q hq => (ih q (i + 1) hq).2.1
      have i4 := fun q hq => (ih q (i + 1) (Int.le_of_lt hq)).2.2 hq
      by_cases h46 : ((c.toNat : Int) == 46) = true
      · obtain rfl := parts_46 c t h46
        have hne : 0 < (partsR 46 t).length := List.length_pos_iff.2 (partsR_ne 46 t)
        rw [parts_dot]
        refine ⟨?_, ?_, fun h => ?_⟩
        · rw [scan_cons, if_neg h59, next3 _ _ h59, if_neg (by decide), if_pos h46]
          simp only [headAll, i4 (p + 1) (by omega), List.all_nil, Bool.true_and]
          simp [hne]
        · rw [scan_cons, if_neg h59, next2 _ _ h59, if_pos h46]
          simp only [headAll, i4 (p + 1) (by omega), List.isEmpty_nil, Bool.true_and]
          simp [hne]
        · rw [scan_cons, if_neg h59, next4 _ _ h59, if_neg (by decide)]
          simp [numberP]
      · obtain ⟨a, ps, e1, e2⟩ := parts_other c t h46
        rw [e1] at i3 i2 i4
        rw [e2]
        refine ⟨?_, ?_, fun h => ?_⟩
        · rw [scan_cons, if_neg h59, next3 _ _ h59]
          cases hd : digitB (c.toNat : Int)
          · simp [headAll, hd, h46]
          · simp only [if_true, i3 p hp, headAll, List.all_cons, hd, Bool.true_and]
        · rw [scan_cons, if_neg h59, next2 _ _ h59, if_neg h46]
          simp [headAll]
        · rw [scan_cons, if_neg h59, next4 _ _ h59, List.all_cons, num_cons]
          cases hd : digitB (c.toNat : Int)
          · simp
          · cases h48 : ((c.toNat : Int) == 48)
            · simp only [if_true, Bool.true_and, Bool.false_eq_true, if_false, i3 p hp, headAll]
              simp [h]
            · simp only [if_true, Bool.true_and, i2 p hp, headAll]
              simp [h]
theorem rtype_eq (l : List UInt8) : rtypeOk l = (scanR true l 0 0 0).1 := by
  unfold rtypeOk
  cases l with
  | nil => rfl
  | cons c t =>
    have e : bl (c :: t) 0 = c.toNat := by simp [bl]
    rw [e, scan_cons, List.isEmpty_cons, if_neg (by simp)]
    by_cases h59 : ((c.toNat : Int) == 59) = true
    · have h46 : ¬ ((c.toNat : Int) == 46) = true := by have := ieq h59; rw [this]; decide
      obtain ⟨a, ps, e1, e2⟩ := parts_other c t h46
      rw [if_pos h59, (key59 h59).2.2, e2, List.all_cons, num_cons, (key59 h59).2.1]
      simp
    · rw [if_neg h59, next0 _ _ h59]
      cases hl : letterB (c.toNat : Int)
      · by_cases h46 : ((c.toNat : Int) == 46) = true
        · obtain rfl := parts_46 c t h46
          rw [parts_dot, (dig46 h46).1]
          simp [numberP]
        · obtain ⟨a, ps, e1, e2⟩ := parts_other c t h46
          have i3 := (scanN t 0 (0 + 1) (by omega)).1
          have i2 := (scanN t 0 (0 + 1) (by omega)).2.1
          rw [e1] at i3 i2
          rw [e2, List.all_cons, num_cons]
          cases hd : digitB (c.toNat : Int)
          · simp
          · cases h48 : ((c.toNat : Int) == 48)
            · simp only [if_true, Bool.true_and, Bool.false_eq_true, if_false, i3, headAll]
              simp
            · simp only [if_true, Bool.true_and, Bool.false_eq_true, if_false, i2, headAll]
              simp
      · simp only [if_true, scan1]
        unfold keysP
        rw [List.all_cons]
        have hk : keyB (c.toNat : Int) = true := by unfold keyB; rw [hl]; rfl
        rw [hk]; simp
end Go.Proofs.YtdpknokginnmjaaDoor
