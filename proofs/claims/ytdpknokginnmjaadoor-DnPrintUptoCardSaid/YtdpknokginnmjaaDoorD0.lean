/- Names as data; how they lie in memory; the escape, the check and the print of a name as plain functions. -/
import Derived.Test.YtdpknokginnmjaaDoorR7
import Derived.Test.YtdpknokginnmjaaDoorRs
import Derived.Test.YtdpknokginnmjaaDoorTy
set_option linter.unusedVariables false
set_option linter.unusedSimpArgs false
namespace Go.Proofs.YtdpknokginnmjaaDoor
open Go.RowKit
abbrev AvaP := ByteArray × ByteArray
abbrev RdnP := List AvaP
abbrev DnP := List RdnP
def ava0 : AvaP := (⟨#[]⟩, ⟨#[]⟩)
/-- v is a part that reads as r. -/
def IsRdn (w : World) (v : Value) (r : RdnP) : Prop := ∃ A c, v = .slice A r.length c ∧ (0 < r.length → ∃ b off, A = some ⟨b, off, none⟩ ∧ ∀ j, j < r.length → w.cell? ⟨b, off + j * 2, none⟩ = some (.string (r.getD j ava0).1) ∧ w.cell? ⟨b, off + j * 2 + 1, none⟩ = some (.string (r.getD j ava0).2))
/-- v is a name that reads as d. -/
def IsDn (w : World) (v : Value) (d : DnP) : Prop := ∃ A c, v = .slice A d.length c ∧ (0 < d.length → ∃ b off, A = some ⟨b, off, none⟩ ∧ ∀ j, j < d.length → ∃ u, w.cell? ⟨b, off + j, none⟩ = some u ∧ IsRdn w u (d.getD j []))
theorem IsRdn.below {w w' : World} {v : Value} {r : RdnP} (h : IsRdn w v r) (hb : Below w.heap.size w w') : IsRdn w' v r := by
  obtain ⟨A, c, h1, h2⟩ := h
  refine ⟨A, c, h1, fun hp => ?_⟩
  obtain ⟨b, off, e, hc⟩ := h2 hp
  exact ⟨b, off, e, fun j hj => ⟨bkeep hb (hc j hj).1, bkeep hb (hc j hj).2⟩⟩
theorem IsDn.below {w w' : World} {v : Value} {d : DnP} (h : IsDn w v d) (hb : Below w.heap.size w w') : IsDn w' v d := by
  obtain ⟨A, c, h1, h2⟩ := h
  refine ⟨A, c, h1, fun hp => ?_⟩
  obtain ⟨b, off, e, hc⟩ := h2 hp
  refine ⟨b, off, e, fun j hj => ?_⟩
  obtain ⟨u, hu, hr⟩ := hc j hj
  exact ⟨u, bkeep hb hu, hr.below hb⟩
theorem IsRdn.cellAt {w : World} {v : Value} {r : RdnP} (h : IsRdn w v r) : ∃ A c, v = .slice A r.length c ∧ ∀ k, k < r.length → ∃ b off, A = some ⟨b, off, none⟩ ∧ w.cell? ⟨b, off + k * 2, none⟩ = some (.string (r.getD k ava0).1) ∧ w.cell? ⟨b, off + k * 2 + 1, none⟩ = some (.string (r.getD k ava0).2) := by
  obtain ⟨A, c, h1, h2⟩ := h
  refine ⟨A, c, h1, fun k hk => ?_⟩
  obtain ⟨b, off, e, hc⟩ := h2 (by omega)
  exact ⟨b, off, e, hc k hk⟩
theorem IsDn.cellAt {w : World} {v : Value} {d : DnP} (h : IsDn w v d) : ∃ A c, v = .slice A d.length c ∧ ∀ k, k < d.length → ∃ b off u, A = some ⟨b, off, none⟩ ∧ w.cell? ⟨b, off + k, none⟩ = some u ∧ IsRdn w u (d.getD k []) := by
  obtain ⟨A, c, h1, h2⟩ := h
  refine ⟨A, c, h1, fun k hk => ?_⟩
  obtain ⟨b, off, e, hc⟩ := h2 (by omega)
  obtain ⟨u, hu, hr⟩ := hc k hk
  exact ⟨b, off, u, e, hu, hr⟩

/-! ### How much a name holds -/
def bulkR (r : RdnP) : Nat := r.foldr (fun x n => x.1.size + x.2.size + 2 + n) 0
def bulkD (d : DnP) : Nat := d.foldr (fun r n => bulkR r + 1 + n) 0
theorem bulkR_cons (x : AvaP) (r : RdnP) : bulkR (x :: r) = x.1.size + x.2.size + 2 + bulkR r := rfl
theorem bulkD_cons (r : RdnP) (d : DnP) : bulkD (r :: d) = bulkR r + 1 + bulkD d := rfl
theorem bulkR_at (r : RdnP) (k : Nat) (hk : k < r.length) : (r.getD k ava0).1.size + (r.getD k ava0).2.size + 2 ≤ bulkR r := by
  induction r generalizing k with
  | nil => simp at hk
  | cons x t ih =>
    rw [bulkR_cons]
    cases k with
    | zero => simp
    | succ k => have := ih k (by simpa using hk); simp at this ⊢; omega
theorem bulkD_at (d : DnP) (k : Nat) (hk : k < d.length) : bulkR (d.getD k []) + 1 ≤ bulkD d := by
  induction d generalizing k with
  | nil => simp at hk
  | cons x t ih =>
    rw [bulkD_cons]
    cases k with
    | zero => simp
    | succ k => have := ih k (by simpa using hk); simp at this ⊢; omega
theorem bulkR_len (r : RdnP) : 2 * r.length ≤ bulkR r := by
  induction r with
  | nil => simp
  | cons x t ih => rw [bulkR_cons]; simp; omega
theorem bulkD_len (d : DnP) : d.length ≤ bulkD d := by
  induction d with
  | nil => simp
  | cons x t ih => rw [bulkD_cons]; simp; omega

/-! ### The escape -/
def special (c : Int) : Bool := c == 92 || c == 34 || c == 43 || c == 44 || c == 59 || c == 60 || c == 62
def edgeP (n i : Nat) (c : Int) : Bool := ((i : Int) == 0 && (c == 32 || c == 35)) || ((i : Int) == (n : Int) - 1 && c == 32)
def escC (n i : Nat) (c : UInt8) : List UInt8 := if (c.toNat : Int) == 0 then [92, 48, 48] else if edgeP n i c.toNat || special c.toNat then [92, c] else [c]
def escGo (n : Nat) : Nat → List UInt8 → List UInt8
  | _, [] => []
  | i, c :: t => escC n i c ++ escGo n (i + 1) t
def escL (l : List UInt8) : List UInt8 := escGo l.length 0 l
def escP (s : ByteArray) : ByteArray := mk (escL (ls s))
theorem escC_len (n i : Nat) (c : UInt8) : (escC n i c).length ≤ 3 := by unfold escC; (repeat' split) <;> simp
theorem escGo_len (n i : Nat) (l : List UInt8) : (escGo n i l).length ≤ 3 * l.length := by
  induction l generalizing i with
  | nil => simp [escGo]
  | cons c t ih => have := escC_len n i c; have := ih (i + 1); simp [escGo]; omega
theorem escP_size (s : ByteArray) : (escP s).size ≤ 3 * s.size := by
  have := escGo_len (ls s).length 0 (ls s); unfold escP escL; rw [mk_size]; rw [ls_length] at this ⊢; exact this
theorem escGo_snoc (n i : Nat) (l : List UInt8) (c : UInt8) : escGo n i (l ++ [c]) = escGo n i l ++ escC n (i + l.length) c := by
  induction l generalizing i with
  | nil => simp [escGo]
  | cons x t ih => simp [escGo, ih, Nat.add_assoc, Nat.add_comm 1]
theorem escGo_take (l : List UInt8) (k : Nat) (hk : k < l.length) : escGo l.length 0 (l.take (k + 1)) = escGo l.length 0 (l.take k) ++ escC l.length k (l.getD k 0) := by
  rw [bl_take l k hk, escGo_snoc]; simp [Nat.min_eq_left (Nat.le_of_lt hk)]

/-! ### Why a part, a name is none -/
def wrongGo (seen : List ByteArray) : RdnP → Int
  | [] => 0
  | x :: t => if typeOk x.1 = false then 59 else if seen.any (fun c => ls c == ls (canonP x.1)) then 57 else if utf8 x.2 = false then 51 else wrongGo (seen ++ [canonP x.1]) t
def wrongP (r : RdnP) : Int := if r.length = 0 then 59 else if 8 < r.length then 58 else wrongGo [] r
def nameGo : Nat → DnP → Int × Int
  | _, [] => (0, 0)
  | i, r :: t => if i = 64 then (58, 64) else if wrongP r = 0 then nameGo (i + 1) t else (wrongP r, i)
def nameP (d : DnP) : Int × Int := nameGo 0 d

/-! ### The print -/
def pairT (x : AvaP) : List UInt8 := ls x.1 ++ [61] ++ escL (ls x.2)
def joinT (c : UInt8) : List (List UInt8) → List UInt8
  | [] => []
  | [x] => x
  | x :: y :: t => x ++ c :: joinT c (y :: t)
def rdnT (r : RdnP) : List UInt8 := joinT 43 (r.map pairT)
def dnT (d : DnP) : List UInt8 := joinT 44 (d.map rdnT)
/-- The text, the number and the place that Print answers. -/
def printS (d : DnP) : ByteArray := if (nameP d).1 = 0 ∧ (dnT d).length ≤ 4096 then mk (dnT d) else ⟨#[]⟩
def printE (d : DnP) : Int := if (nameP d).1 = 0 then (if (dnT d).length ≤ 4096 then 0 else 50) else (nameP d).1
def printA (d : DnP) : Int := if (nameP d).1 = 0 then (if (dnT d).length ≤ 4096 then 0 else d.length) else (nameP d).2
theorem joinT_snoc (c : UInt8) (l : List (List UInt8)) (x : List UInt8) (h : l ≠ []) : joinT c (l ++ [x]) = joinT c l ++ c :: x := by
  induction l with
  | nil => exact absurd rfl h
  | cons a t ih =>
    cases t with
    | nil => rfl
    | cons b t => have := ih (by simp); simp only [List.cons_append, joinT] at this ⊢; rw [this]; simp
theorem pairT_len (x : AvaP) : (pairT x).length ≤ 3 * (x.1.size + x.2.size) + 1 := by
  have := escP_size x.2; unfold escP at this; rw [mk_size] at this
  unfold pairT; simp [ls_length] at this ⊢; omega
theorem joinT_len (c : UInt8) (l : List (List UInt8)) : (joinT c l).length ≤ (l.map fun x => x.length + 1).sum := by
  induction l with
  | nil => simp [joinT]
  | cons a t ih =>
    cases t with
    | nil => simp [joinT]
    | cons b t => simp only [joinT, List.length_append, List.length_cons, List.map_cons, List.sum_cons] at ih ⊢; omega
theorem rdnT_len (r : RdnP) : (rdnT r).length ≤ 3 * bulkR r := by
  have h := joinT_len 43 (r.map pairT)
  have : ∀ r : RdnP, ((r.map pairT).map fun x => x.length + 1).sum ≤ 3 * bulkR r := by
    intro r
    induction r with
    | nil => simp
    | cons x t ih => have := pairT_len x; rw [bulkR_cons]; simp only [List.map_cons, List.sum_cons] at ih ⊢; omega
  exact Nat.le_trans h (this r)
theorem dnT_len (d : DnP) : (dnT d).length ≤ 3 * bulkD d := by
  have h := joinT_len 44 (d.map rdnT)
  have : ∀ d : DnP, ((d.map rdnT).map fun x => x.length + 1).sum ≤ 3 * bulkD d := by
    intro d
    induction d with
    | nil => simp
    | cons x t ih => have := rdnT_len x; rw [bulkD_cons]; simp only [List.map_cons, List.sum_cons] at ih ⊢; omega
  exact Nat.le_trans h (this d)
end Go.Proofs.YtdpknokginnmjaaDoor
