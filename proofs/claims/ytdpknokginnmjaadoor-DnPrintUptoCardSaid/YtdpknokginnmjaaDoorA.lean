/- Plain functions on bytes that the contracts of the layers 'text' and 'attr' are stated by: no program stands here. -/
import Derived.WalkKit
import Derived.WalkSpells
import Derived.WalkLawsBesides
import Derived.Lib.Hide
import Derived.Deep.Light
import Derived.Deep.QuietTactic
import Derived.BigQuiet
import Derived.ChangeAlike
set_option linter.unusedVariables false
set_option linter.unusedSimpArgs false
namespace Go.Proofs.YtdpknokginnmjaaDoor
open Go.RowKit

/-! ### Worlds -/
theorem bcell {W w1 : World} (hb : Below W.heap.size W w1) : (∀ b o, b < W.heap.size → w1.cell? ⟨b, o, none⟩ = W.cell? ⟨b, o, none⟩) ∧ (∀ b o, b < W.heap.size → w1.frozen? ⟨b, o, none⟩ = W.frozen? ⟨b, o, none⟩) :=
  ⟨fun b o h => hb.cell (p := ⟨b, o, none⟩) h, fun b o h => hb.frozen (p := ⟨b, o, none⟩) h⟩
theorem bthen {B : Nat} {w w1 w2 : World} (h : Below B w w1) (hB : B ≤ w1.heap.size) (k : Below w1.heap.size w1 w2) : Below B w w2 := h.trans (k.mono hB)
theorem bkeep {w w1 : World} (h : Below w.heap.size w w1) {a : Addr} {v : Value} (hc : w.cell? a = some v) : w1.cell? a = some v := (h.cell (World.block_lt_of_cell? w a hc)).trans hc

theorem ieq {a b : Int} (h : (a == b) = true) : a = b := by simpa using h
theorem ine {a b : Int} (h : (a == b) = false) : ¬ a = b := by simpa using h

/-! ### Bytes -/
def bl (l : List UInt8) (j : Nat) : Int := ((l.getD j 0).toNat : Int)
theorem bl_range (l : List UInt8) (j : Nat) : 0 ≤ bl l j ∧ bl l j ≤ 255 := by
  have := (l.getD j 0).toNat_lt
  unfold bl; omega
abbrev ls (s : ByteArray) : List UInt8 := s.data.toList
theorem toList_ls (s : ByteArray) : s.toList = ls s := ByteArray.toList_eq s
theorem ls_length (s : ByteArray) : (ls s).length = s.size := by simp [ls]
theorem bl_at (s : ByteArray) (j : Nat) (h : j < s.size) : ((s[j]'h).toNat : Int) = bl (ls s) j := by
  have h1 : j < s.data.toList.length := by simpa using h
  have h2 : s[j]'h = s.data.toList[j]'h1 := by simp; rfl
  rw [h2]; simp [bl, ls, List.getD_eq_getElem?_getD, List.getElem?_eq_getElem h1]
theorem bl_drop (l : List UInt8) (i j : Nat) : bl (l.drop i) j = bl l (i + j) := by
  simp [bl, List.getD_eq_getElem?_getD]
theorem ls_extract (s : ByteArray) (a b : Nat) : ls (s.extract a b) = ((ls s).take b).drop a := by
  simp [ls, List.drop_take]
theorem ls_from (s : ByteArray) (a : Nat) : ls (s.extract a s.size) = (ls s).drop a := by
  rw [ls_extract, List.take_of_length_le (by simp [ls])]
def mk (l : List UInt8) : ByteArray := ⟨l.toArray⟩
theorem ls_mk (l : List UInt8) : ls (mk l) = l := by simp [ls, mk]
theorem mk_ls (s : ByteArray) : mk (ls s) = s := by simp [ls, mk]
theorem mk_size (l : List UInt8) : (mk l).size = l.length := by simp [mk, ByteArray.size]

/-! ### UTF-8 -/
def mN (b : Int) : Int := if b < 128 then 0 else if 194 ≤ b ∧ b ≤ 223 then 1 else if 224 ≤ b ∧ b ≤ 239 then 2 else if 240 ≤ b ∧ b ≤ 244 then 3 else 0
def mLo (b : Int) : Int := if b = 224 then 160 else if b = 240 then 144 else 128
def mHi (b : Int) : Int := if b = 237 then 159 else if b = 244 then 143 else 191
def mOk (b : Int) : Bool := decide (b < 128 ∨ (194 ≤ b ∧ b ≤ 244))
theorem mN_cases (b : Int) : mN b = 0 ∨ mN b = 1 ∨ mN b = 2 ∨ mN b = 3 := by unfold mN; (repeat' split) <;> simp
theorem mLo_range (b : Int) : 0 ≤ mLo b ∧ mLo b ≤ 255 := by unfold mLo; (repeat' split) <;> omega
theorem mHi_range (b : Int) : 0 ≤ mHi b ∧ mHi b ≤ 255 := by unfold mHi; (repeat' split) <;> omega
def second (l : List UInt8) : Bool := decide (mLo (bl l 0) ≤ bl l 1 ∧ bl l 1 ≤ mHi (bl l 0))
def cont (b : Int) : Bool := decide (128 ≤ b ∧ b ≤ 191)
/-- How many bytes the sequence has with which l begins; 0: none does. -/
def seqL (l : List UInt8) : Int :=
  if l.length = 0 ∨ mOk (bl l 0) = false ∨ (l.length : Int) < mN (bl l 0) + 1 then 0
  else if mN (bl l 0) = 3 ∧ cont (bl l 3) = false then 0
  else if 2 ≤ mN (bl l 0) ∧ cont (bl l 2) = false then 0
  else if 1 ≤ mN (bl l 0) ∧ second l = false then 0
  else mN (bl l 0) + 1
theorem seqL_range (l : List UInt8) : 0 ≤ seqL l ∧ seqL l ≤ l.length := by
  have := mN_cases (bl l 0)
  unfold seqL; (repeat' split) <;> omega
theorem seqL_ok {l : List UInt8} (h0 : 0 < (l.length : Int)) (hok : mOk (bl l 0) = true) : seqL l = if (l.length : Int) < mN (bl l 0) + 1 then 0
    else if mN (bl l 0) = 3 ∧ cont (bl l 3) = false then 0 else if 2 ≤ mN (bl l 0) ∧ cont (bl l 2) = false then 0 else if 1 ≤ mN (bl l 0) ∧ second l = false then 0 else mN (bl l 0) + 1 := by
  unfold seqL
  by_cases h : (l.length : Int) < mN (bl l 0) + 1
  · rw [if_pos (.inr (.inr h)), if_pos h]
  · rw [if_neg (fun hh => by rcases hh with hh | hh | hh <;> first | omega | (rw [hok] at hh; cases hh)), if_neg h]
theorem seqL_not {l : List UInt8} (hok : mOk (bl l 0) = false) : seqL l = 0 := by unfold seqL; rw [if_pos (.inr (.inl hok))]
theorem seqL_short {l : List UInt8} (hok : mOk (bl l 0) = true) (h : (l.length : Int) < mN (bl l 0) + 1) : seqL l = 0 := by unfold seqL; rw [if_pos (.inr (.inr h))]
theorem seqL_one {l : List UInt8} (hok : mOk (bl l 0) = true) (hm : mN (bl l 0) = 0) (h0 : 0 < (l.length : Int)) : seqL l = 1 := by rw [seqL_ok h0 hok]; simp [hm]; omega
theorem seqL_c3 {l : List UInt8} (hok : mOk (bl l 0) = true) (hm : mN (bl l 0) = 3) (h0 : 0 < (l.length : Int)) (h3 : cont (bl l 3) = false) : seqL l = 0 := by rw [seqL_ok h0 hok]; simp [hm, h3]
theorem seqL_c2 {l : List UInt8} (hok : mOk (bl l 0) = true) (hm : 2 ≤ mN (bl l 0)) (h0 : 0 < (l.length : Int)) (h3 : cont (bl l 2) = false) : seqL l = 0 := by rw [seqL_ok h0 hok]; simp [hm, h3]
theorem seqL_c1 {l : List UInt8} (hok : mOk (bl l 0) = true) (hm : 1 ≤ mN (bl l 0)) (h0 : 0 < (l.length : Int)) (h3 : second l = false) : seqL l = 0 := by rw [seqL_ok h0 hok]; simp [hm, h3]
theorem seqL_full {l : List UInt8} (hok : mOk (bl l 0) = true) (hl : mN (bl l 0) + 1 ≤ (l.length : Int)) (h0 : 0 < (l.length : Int)) (h3 : mN (bl l 0) = 3 → cont (bl l 3) = true) (h2 : 2 ≤ mN (bl l 0) → cont (bl l 2) = true) (h1 : second l = true) : seqL l = mN (bl l 0) + 1 := by
  rw [seqL_ok h0 hok, if_neg (by omega), if_neg (fun h => by simp [h3 h.1] at h), if_neg (fun h => by simp [h2 h.1] at h), if_neg (fun h => by simp [h1] at h)]
theorem second_no1 {l : List UInt8} (h : bl l 1 < mLo (bl l 0)) : second l = false := by simp [second]; omega
theorem second_no2 {l : List UInt8} (h : mHi (bl l 0) < bl l 1) : second l = false := by simp [second]; omega
theorem second_yes {l : List UInt8} (h : mLo (bl l 0) ≤ bl l 1) (h' : bl l 1 ≤ mHi (bl l 0)) : second l = true := by simp [second]; omega
theorem not_tt {b : Bool} (h : (!b) = true) : b = false := by simpa using h
theorem not_ff {b : Bool} (h : (!b) = false) : b = true := by simpa using h
/-- Where the first sequence that is none begins. -/
def badFrom (l : List UInt8) (i : Nat) : Option Nat :=
  if h : l.length = 0 then none else if hn : seqL l = 0 then some i else badFrom (l.drop (seqL l).toNat) (i + (seqL l).toNat)
termination_by l.length
decreasing_by have := seqL_range l; simp only [List.length_drop]; omega
def bad (l : List UInt8) : Option Nat := badFrom l 0
theorem badFrom_nil (i : Nat) : badFrom [] i = none := by rw [badFrom]; simp
theorem badFrom_bad (l : List UInt8) (i : Nat) (h : 0 < l.length) (h0 : seqL l = 0) : badFrom l i = some i := by rw [badFrom, dif_neg (by omega), dif_pos h0]
theorem badFrom_step (l : List UInt8) (i : Nat) (h : 0 < l.length) (h0 : 0 < seqL l) : badFrom l i = badFrom (l.drop (seqL l).toNat) (i + (seqL l).toNat) := by
  rw [badFrom, dif_neg (by omega), dif_neg (by omega)]
theorem badFrom_le (l : List UInt8) (i j : Nat) (h : badFrom l i = some j) : i ≤ j ∧ j < i + l.length := by
  induction hn : l.length using Nat.strongRecOn generalizing l i with
  | _ n ih =>
    rw [badFrom] at h
    split at h
    · cases h
    · split at h
      · cases h; omega
      · have hr := seqL_range l
        have := ih (l.drop (seqL l).toNat).length (by simp only [List.length_drop]; omega) _ _ h rfl
        simp only [List.length_drop] at this
        omega
def utf8 (s : ByteArray) : Bool := (bad (ls s)).isNone
def chkE (s : ByteArray) : Int := match bad (ls s) with | none => 0 | some _ => 10
def chkP (s : ByteArray) : Int := match bad (ls s) with | none => (s.size : Int) | some i => (i : Int)
theorem chkE_ok {s : ByteArray} (h : utf8 s = true) : chkE s = 0 := by unfold utf8 at h; unfold chkE; split <;> simp_all
theorem chkE_bad {s : ByteArray} (h : utf8 s = false) : chkE s = 10 := by unfold utf8 at h; unfold chkE; split <;> simp_all

/-! ### Letters folded -/
def foldB (c : UInt8) : UInt8 := if 65 ≤ c.toNat ∧ c.toNat ≤ 90 then c + 32 else c
def foldL (l : List UInt8) : List UInt8 := l.map foldB
def fold (s : ByteArray) : ByteArray := mk (foldL (ls s))
theorem fold_size (s : ByteArray) : (fold s).size = s.size := by simp [fold, mk_size, foldL]
end Go.Proofs.YtdpknokginnmjaaDoor
