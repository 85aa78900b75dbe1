/- Rows that a call makes for itself: what an append of one element does to them, stated once for whatever element; bytes and strings. -/
import Derived.Test.YtdpknokginnmjaaDoorProg
import Derived.Test.YtdpknokginnmjaaDoorA
import Derived.OwnWalk
import Derived.Laws.BytesArg
import Derived.Laws.IdiomStrings
import Derived.Lib.AppendStr
import Derived.Deep.AppendLies
import Derived.Maps.AppendAt
set_option linter.unusedVariables false
set_option linter.unusedSimpArgs false
namespace Go.Proofs.YtdpknokginnmjaaDoor
open Go.RowKit

/-- v is a slice of the call's own (block from B on) that holds just the elements xs. -/
def OwnR {α : Type} (enc : α → List Value) (e : TypeId) (size : Nat) (w : World) (B : Nat) (v : Value) (xs : List α) : Prop := w.ownsRow B e size v xs.length (xs.flatMap enc)
theorem OwnR.nil {α : Type} {enc : α → List Value} {e : TypeId} {size : Nat} (w : World) (B : Nat) : OwnR enc e size w B (.slice none 0 0) [] := World.ownsRow_nil w B e size
section
variable {α : Type} {enc : α → List Value} {e : TypeId} {size : Nat} {w : World} {B : Nat} {v : Value} {xs : List α}
theorem OwnR.alloc (h : OwnR enc e size w B v xs) (o : Obj) : OwnR enc e size (w.alloc o) B v xs := World.ownsRow.alloc h o
theorem OwnR.drew (h : OwnR enc e size w B v xs) : OwnR enc e size w.drew B v xs := h
theorem OwnR.drewN (h : OwnR enc e size w B v xs) (n : Nat) : OwnR enc e size (w.drewN n) B v xs := h
theorem OwnR.kept {w' : World} {row : Option Nat} (h : OwnR enc e size w B v xs) (hg : w.grownBy w' row) (hne : v.ownBlock = none ∨ v.ownBlock ≠ row) : OwnR enc e size w' B v xs := World.ownsRow.kept h hg hne
theorem OwnR.below {w' : World} (h : OwnR enc e size w B v xs) (hb : Below w.heap.size w w') : OwnR enc e size w' B v xs :=
  World.ownsRow.kept h ⟨hb.os, hb.tape, hb.output, hb.size, fun k hk _ => hb.block k hk⟩ (by cases v.ownBlock <;> simp : v.ownBlock = none ∨ v.ownBlock ≠ none)
theorem OwnR.setCell (h : OwnR enc e size w B v xs) {p : Addr} (hp : v.ownBlock = none ∨ v.ownBlock ≠ some p.block) (u : Value) : OwnR enc e size (w.setCell p u) B v xs :=
  World.ownsRow.kept (row := some p.block) h ⟨rfl, rfl, rfl, by simp [World.setCell], fun k hk hne => Below.heap_setCell _ _ _ _ (fun e => hne (by rw [e]))⟩ hp
theorem OwnR.setCellLt (h : OwnR enc e size w B v xs) {p : Addr} (hp : p.block < B) (u : Value) : OwnR enc e size (w.setCell p u) B v xs := by
  refine h.setCell ?_ u
  cases hk : v.ownBlock with
  | none => exact .inl rfl
  | some k => exact .inr (fun e => by have := (World.ownsRow.lt h k hk).1; cases e; omega)
theorem OwnR.shape (h : OwnR enc e size w B v xs) : ∃ A c, v = .slice A xs.length c := by
  rcases h.2 with ⟨rfl, h0⟩ | ⟨g, cap, cur, rfl, _⟩
  · exact ⟨none, 0, by rw [h0]⟩
  · exact ⟨_, cap, rfl⟩
theorem OwnR.len_le (h : OwnR enc e size w B v xs) : xs.length ≤ maxLen := by
  rcases h.2 with ⟨rfl, h0⟩ | ⟨g, cap, cur, rfl, _, _, h1, h2, _⟩
  · rw [h0]; exact Nat.zero_le _
  · exact Nat.le_trans h1 h2
theorem OwnR.mono {B' : Nat} (h : OwnR enc e size w B v xs) (hB : B' ≤ B) : OwnR enc e size w B' v xs := by
  refine ⟨h.1, ?_⟩
  rcases h.2 with h0 | ⟨g, cap, cur, h1, h2, h3⟩
  · exact .inl h0
  · exact .inr ⟨g, cap, cur, h1, Nat.le_trans hB h2, h3⟩
theorem OwnR.row {w' : World} (hb : Below B w w') {w1 : World} (h : OwnR enc e size w' B v xs) (hB : B ≤ w'.heap.size) (hg : w'.grownBy w1 v.ownBlock) : Below B w w1 :=
  hb.grown hg hB (fun k hk => (World.ownsRow.lt h k hk).1)
theorem OwnR.rowA {w0 w1 : World} (hb : Below w0.heap.size w0 w) (h : OwnR enc e size w w0.heap.size v xs) {o : Obj} (hg : (w.alloc o).grownBy w1 v.ownBlock) : Below w0.heap.size w0 w1 :=
  OwnR.row (hb.alloc hb.size o) (h.alloc o) (by have := hb.size; simp; omega) hg
/-- One element more. -/
theorem app1 {P : Program} {ops : Array Oper} {rest : List Oper} {o : Oper} {a : Act} {Q : Exit → Act → World → Prop} (hgd : o.guard = none) (s x : Operand) (t : TypeId)
    (ho : o.op = .call { callee := .builtin .append, args := #[s, x], argTypes := #[t, t] })
    {z : Value} {bytes : Nat} (hinfo : (P.info? e).map (fun i => (i.zero, i.size, i.bytes)) = some (some z, size, bytes)) (ht : P.underlying t = some (.slice e)) (hzs : z.cells.size = size) (hsz : 0 < size) (hby : 0 < bytes)
    (hs : a.eval s = v) (hown : OwnR enc e size w B v xs) (u : α) (hlen : (enc u).length = size) (h1 : ∀ c ∈ enc u, c.oneCell' = true) (g : Nat) (hx : a.eval x = .slice (some ⟨g, 0, none⟩) 1 1)
    (hg : ∀ j c, (enc u)[j]? = some c → w.cell? ⟨g, j, none⟩ = some c) (hn : (xs.length + 1) * bytes ≤ 140737488355328) (hB : B ≤ w.heap.size)
    (h : ∀ v' w', OwnR enc e size w' B v' (xs ++ [u]) → w.grownBy w' v.ownBlock → wpList P ops Q rest (a.put o.dst v') w') : wpList P ops Q (o :: rest) a w := by
  obtain ⟨i, hi, hz0, hz1, hz2⟩ := info_parts hinfo
  have hm : xs.length + 1 ≤ 140737488355328 := Nat.le_trans (Nat.le_mul_of_pos_right _ hby) hn
  refine wpList_append_own w hgd s x t ho B e i z size bytes ht hi hz0 hz1 hz2 hzs hsz v xs.length (xs.flatMap enc) hs hown ⟨g, 0, none⟩ 1 1 (enc u) hx (by omega) ?_ h1 (by unfold maxLen; omega) hn hB ?_
  · intro j c hj
    have ha : (⟨g, 0, none⟩ : Addr).add j = ⟨g, j, none⟩ := by unfold Addr.add; split <;> simp_all
    rw [ha]; exact hg j c hj
  · intro v' w' ho' hg' _
    refine h v' w' ?_ hg'
    simpa [OwnR, List.flatMap_append] using ho'
/-- Several elements more. -/
theorem appN {P : Program} {ops : Array Oper} {rest : List Oper} {o : Oper} {a : Act} {Q : Exit → Act → World → Prop} (hgd : o.guard = none) (s x : Operand) (t : TypeId)
    (ho : o.op = .call { callee := .builtin .append, args := #[s, x], argTypes := #[t, t] })
    {z : Value} {bytes : Nat} (hinfo : (P.info? e).map (fun i => (i.zero, i.size, i.bytes)) = some (some z, size, bytes)) (ht : P.underlying t = some (.slice e)) (hzs : z.cells.size = size) (hsz : 0 < size) (hby : 0 < bytes)
    (hs : a.eval s = v) (hown : OwnR enc e size w B v xs) (us : List α) (hlen : (us.flatMap enc).length = us.length * size) (h1 : ∀ c ∈ us.flatMap enc, c.oneCell' = true) (g off m cp : Nat) (hx : a.eval x = .slice (some ⟨g, off, none⟩) m cp) (hm : m = us.length)
    (hg : ∀ j c, (us.flatMap enc)[j]? = some c → w.cell? ⟨g, off + j, none⟩ = some c) (hn : (xs.length + us.length) * bytes ≤ 140737488355328) (hB : B ≤ w.heap.size)
    (h : ∀ v' w', OwnR enc e size w' B v' (xs ++ us) → w.grownBy w' v.ownBlock → wpList P ops Q rest (a.put o.dst v') w') : wpList P ops Q (o :: rest) a w := by
  subst hm
  obtain ⟨i, hi, hz0, hz1, hz2⟩ := info_parts hinfo
  have hm : xs.length + us.length ≤ 140737488355328 := Nat.le_trans (Nat.le_mul_of_pos_right _ hby) hn
  refine wpList_append_own w hgd s x t ho B e i z size bytes ht hi hz0 hz1 hz2 hzs hsz v xs.length (xs.flatMap enc) hs hown ⟨g, off, none⟩ us.length cp (us.flatMap enc) hx hlen ?_ h1 (by unfold maxLen; omega) hn hB ?_
  · intro j c hj
    have ha : (⟨g, off, none⟩ : Addr).add j = ⟨g, off + j, none⟩ := by unfold Addr.add; split <;> simp_all
    rw [ha]; exact hg j c hj
  · intro v' w' ho' hg' _
    refine h v' w' ?_ hg'
    simpa [OwnR, List.flatMap_append] using ho'
end

theorem flat1 {α β : Type} (f : α → β) (l : List α) : l.flatMap (fun b => [f b]) = l.map f := by induction l <;> simp_all
theorem ret_bool {a b : Bool} (h : a = b) : Ending.returned (.bool a) = .returned (.bool b) := by rw [h]
/-! ### Bytes -/
def bv (b : UInt8) : Value := .int .u8 (b.toNat : Int)
abbrev OwnB (w : World) (B : Nat) (v : Value) (l : List UInt8) : Prop := OwnR (fun b => [bv b]) 5 1 w B v l
theorem info_u8 : (Tryd.prog.info? 5).map (fun i => (i.zero, i.size, i.bytes)) = some (some (.int .u8 0), 1, 1) := by kernel_rfl
theorem und_bytes : Tryd.prog.underlying 68 = some (.slice 5) := by kernel_rfl
theorem und_u8 : Tryd.prog.underlying 5 = some (.int .u8) := by kernel_rfl
theorem und_string : Tryd.prog.underlying 9 = some .string := by kernel_rfl
theorem cell1 {w : World} {g : Nat} {c : Value} (hc : w.cell? ⟨g, 0, none⟩ = some c) : ∀ j d, [c][j]? = some d → w.cell? ⟨g, j, none⟩ = some d := by
  intro j d hj
  match j, hj with
  | 0, hj => simp at hj; subst hj; exact hc
theorem app_byte {w : World} {B : Nat} {v : Value} {l : List UInt8} {ops : Array Oper} {rest : List Oper} {o : Oper} {a : Act} {Q : Exit → Act → World → Prop} (hgd : o.guard = none) (s x : Operand)
    (ho : o.op = .call { callee := .builtin .append, args := #[s, x], argTypes := #[68, 68] })
    (hs : a.eval s = v) (hown : OwnB w B v l) (c : UInt8) (g : Nat) (hx : a.eval x = .slice (some ⟨g, 0, none⟩) 1 1)
    (hg : w.cell? ⟨g, 0, none⟩ = some (bv c)) (hn : l.length + 1 ≤ 140737488355328) (hB : B ≤ w.heap.size)
    (h : ∀ v' w', OwnB w' B v' (l ++ [c]) → w.grownBy w' v.ownBlock → wpList Tryd.prog ops Q rest (a.put o.dst v') w') : wpList Tryd.prog ops Q (o :: rest) a w :=
  app1 hgd s x 68 ho info_u8 und_bytes rfl (by decide) (by decide) hs hown c rfl (by simp [bv, Value.oneCell']) g hx (cell1 hg) (by omega) hB h
/-- 'append(b, x, y, ..)' and 'append(b, s...)' onto a row of bytes. -/
theorem app_bytes {w : World} {B : Nat} {v : Value} {l : List UInt8} {ops : Array Oper} {rest : List Oper} {o : Oper} {a : Act} {Q : Exit → Act → World → Prop} (hgd : o.guard = none) (s x : Operand)
    (ho : o.op = .call { callee := .builtin .append, args := #[s, x], argTypes := #[68, 68] })
    (hs : a.eval s = v) (hown : OwnB w B v l) (us : List UInt8) (g off m cp : Nat) (hx : a.eval x = .slice (some ⟨g, off, none⟩) m cp) (hm : m = us.length)
    (hg : ∀ j c, us[j]? = some c → w.cell? ⟨g, off + j, none⟩ = some (bv c)) (hn : l.length + us.length ≤ 140737488355328) (hB : B ≤ w.heap.size)
    (h : ∀ v' w', OwnB w' B v' (l ++ us) → w.grownBy w' v.ownBlock → wpList Tryd.prog ops Q rest (a.put o.dst v') w') : wpList Tryd.prog ops Q (o :: rest) a w :=
  appN hgd s x 68 ho info_u8 und_bytes rfl (by decide) (by decide) hs hown us (by rw [flat1]; simp) (by rw [flat1]; intro c hc; obtain ⟨b, _, rfl⟩ := List.mem_map.1 hc; rfl) g off m cp hx hm (by rw [flat1]; intro j c hj; simp only [List.getElem?_map, Option.map_eq_some_iff] at hj; obtain ⟨b, hb, rfl⟩ := hj; exact hg j b hb) (by omega) hB h
theorem strCells_ls (s : ByteArray) : Lib.strCells s = (ls s).flatMap fun b => [bv b] := by
  rw [flat1]; simp [Lib.strCells, ls, bv]
theorem app_bstr {w : World} {B : Nat} {v : Value} {l : List UInt8} {ops : Array Oper} {rest : List Oper} {o : Oper} {a : Act} {Q : Exit → Act → World → Prop} (hgd : o.guard = none) (s x : Operand)
    (ho : o.op = .call { callee := .builtin .append, args := #[s, x], argTypes := #[68, 9] })
    (hs : a.eval s = v) (hown : OwnB w B v l) (u : ByteArray) (hx : a.eval x = .string u) (hn : l.length + u.size ≤ 140737488355328) (hB : B ≤ w.heap.size)
    (h : ∀ v' w', OwnB w' B v' (l ++ ls u) → w.grownBy w' v.ownBlock → wpList Tryd.prog ops Q rest (a.put o.dst v') w') : wpList Tryd.prog ops Q (o :: rest) a w := by
  obtain ⟨i, hi, hz0, hz1, hz2⟩ := info_parts info_u8
  refine Lib.wpList_append_own_string w hgd s x 68 9 ho B 5 i und_bytes und_string hi hz0 hz1 hz2 v l.length _ hs hown u hx (by unfold maxLen; omega) hn hB ?_
  intro v' w' ho' hg' _
  refine h v' w' ?_ hg'
  rw [strCells_ls] at ho'
  simpa [OwnR, List.flatMap_append, ls_length] using ho'
theorem own_string {w : World} {B : Nat} {v : Value} {l : List UInt8} (h : OwnB w B v l) : (convert 68 9 v).run Tryd.prog w = .ok (.string (mk l)) w := by
  rcases h.2 with ⟨rfl, h0⟩ | ⟨g, cap, cur, rfl, _⟩
  · obtain rfl : l = [] := List.eq_nil_of_length_eq_zero h0
    exact run_convert_bytes_nil w 68 5 und_bytes und_u8 0 0 9 und_string
  · have hc : ∀ i, i < l.length → w.cell? ⟨g, 0 + i, none⟩ = some (.int .u8 ((l.map fun b => (b.toNat : Int)).getD i 0)) := by
      intro i hi
      have := World.ownsRow.cells h (g := g) rfl i (.int .u8 ((l.map fun b => (b.toNat : Int)).getD i 0)) (by rw [flat1]; simp [List.getElem?_eq_getElem hi, bv, List.getD_eq_getElem?_getD])
      have ha : (⟨g, 0, none⟩ : Addr).add i = ⟨g, 0 + i, none⟩ := by unfold Addr.add; split <;> simp_all
      rw [← ha]; exact this
    rw [run_convert_bytes_arg w 68 5 und_bytes und_u8 g 0 l.length cap (l.map fun b => (b.toNat : Int)) (by simp) hc 9 und_string]
    have e : strOfNums (l.map fun b => (b.toNat : Int)) = mk l := by
      unfold strOfNums mk
      congr 2
      rw [List.map_map]
      conv => rhs; rw [← List.map_id l]
      apply List.map_congr_left
      intro b _
      simp
    rw [e]

/-- The cells of block b, from its head on, are the bytes l and may be written. -/
def CellsB (w : World) (b : Nat) (l : List UInt8) : Prop := ∀ j, j < l.length → w.cell? ⟨b, j, none⟩ = some (bv (l.getD j 0)) ∧ w.frozen? ⟨b, j, none⟩ = false
theorem CellsB.set {w : World} {b : Nat} {l : List UInt8} (h : CellsB w b l) (k : Nat) (hk : k < l.length) (c : UInt8) : CellsB (w.setCell ⟨b, k, none⟩ (bv c)) b (l.set k c) := by
  intro j hj
  simp only [List.length_set] at hj
  obtain ⟨h1, h2⟩ := h j hj
  refine ⟨?_, by rw [World.frozen?_setCell]; exact h2⟩
  by_cases e : j = k
  · subst e
    rw [World.cell?_setCell_same' _ _ _ (by rw [h1]; rfl)]
    simp [List.getD_eq_getElem?_getD, hj]
  · rw [World.cell?_setCell_other _ _ _ _ (by simp; try omega), h1]
    rw [List.getD_eq_getElem?_getD, List.getD_eq_getElem?_getD, List.getElem?_set_ne (fun h => e h.symm)]
theorem CellsB.below {w w' : World} {b : Nat} {l : List UInt8} (h : CellsB w b l) (hb : Below w.heap.size w w') (hl : b < w.heap.size) : CellsB w' b l := fun j hj =>
  ⟨(hb.cell (p := ⟨b, j, none⟩) hl).trans (h j hj).1, (hb.frozen (p := ⟨b, j, none⟩) hl).trans (h j hj).2⟩
theorem CellsB.cellAt {w : World} {b : Nat} {l : List UInt8} (h : CellsB w b l) (k : Nat) (hk : k < l.length) : w.cell? ⟨b, k, none⟩ = some (.int .u8 (bl l k)) := (h k hk).1
/-- '[]byte(s)': a new row that holds the string's bytes. -/
theorem bytes_of_string (w : World) (s : ByteArray) : ∃ cap w1, (convert 9 68 (.string s)).run Tryd.prog w = .ok (.slice (some ⟨w.heap.size, 0, none⟩) s.size cap) w1 ∧ CellsB w1 w.heap.size (ls s) ∧ Below w.heap.size w w1 ∧ w1.heap.size = w.heap.size + 1 := by
  refine ⟨_, _, run_bytes_of_string w 9 68 5 s und_string und_bytes und_u8, ?_, ((Below.refl _ w).drew).alloc (Nat.le_refl _) _, by simp⟩
  intro j hj
  have hj' : j < s.data.size := by simpa [ls] using hj
  constructor
  · have := World.cell?_alloc_mark w.drew (bytesRow s (grownCap w s.size 0 5)) 5 ((bytesRow s (grownCap w s.size 0 5)).size, (bytesRow s (grownCap w s.size 0 5)).size + 1) j
    refine this.trans ?_
    rw [bytesRow_at s _ j hj']
    simp only [bv, ls, List.getD_eq_getElem?_getD, Array.getElem?_toList, Array.getElem?_eq_getElem hj', Option.getD_some]
  · have hs : s.size = s.data.size := rfl
    have hz : j < (bytesRow s (grownCap w s.size 0 5)).size := by simp [bytesRow]; omega
    have hh : (w.drew.alloc (.cells (bytesRow s (grownCap w s.size 0 5)) 5 ((bytesRow s (grownCap w s.size 0 5)).size, (bytesRow s (grownCap w s.size 0 5)).size + 1))).heap[w.heap.size]? = some (.cells (bytesRow s (grownCap w s.size 0 5)) 5 ((bytesRow s (grownCap w s.size 0 5)).size, (bytesRow s (grownCap w s.size 0 5)).size + 1)) := by
      show (w.heap.push _)[_]? = _
      simp
    unfold World.frozen?
    rw [hh]
    simp only [Bool.and_eq_false_imp, decide_eq_true_eq, decide_eq_false_iff_not]
    omega
/-- 'string(b)' of such a row. -/
theorem string_of_cells {w : World} {b : Nat} {l : List UInt8} (h : CellsB w b l) (n cap : Nat) (hn : n = l.length) : (convert 68 9 (.slice (some ⟨b, 0, none⟩) n cap)).run Tryd.prog w = .ok (.string (mk l)) w := by
  subst hn
  refine run_convert_bytes_back w 68 9 5 ⟨b, 0, none⟩ cap l und_bytes und_u8 und_string (fun j hj => ?_)
  have ha : (⟨b, 0, none⟩ : Addr).add j = ⟨b, j, none⟩ := by unfold Addr.add; split <;> simp_all
  rw [ha, (h j hj).1]; simp [bv, List.getD_eq_getElem?_getD, hj]

/-! ### Strings -/
abbrev OwnS (w : World) (B : Nat) (v : Value) (l : List ByteArray) : Prop := OwnR (fun b => [Value.string b]) 9 1 w B v l
theorem info_str : (Tryd.prog.info? 9).map (fun i => (i.zero, i.size, i.bytes)) = some (some (.string ⟨#[]⟩), 1, 16) := by kernel_rfl
theorem und_strs : Tryd.prog.underlying 42 = some (.slice 9) := by kernel_rfl
theorem OwnS.one {w : World} {B g : Nat} {s : ByteArray} (h : w.heap[g]? = some (.cells #[.string s] 9 (0, 0))) (hB : B ≤ g) : OwnS w B (.slice (some ⟨g, 0, none⟩) 1 1) [s] :=
  ⟨rfl, .inr ⟨g, 1, #[.string s], rfl, hB, h, Nat.le_refl _, by unfold maxLen; decide, rfl, rfl⟩⟩
/-- v is a slice that reads as the texts l. -/
def ReadsS (w : World) (v : Value) (l : List ByteArray) : Prop := ∃ A c, v = .slice A l.length c ∧ l.length ≤ 9223372036854775807 ∧ (0 < l.length → ∃ b off, A = some ⟨b, off, none⟩ ∧ ∀ j, j < l.length → w.cell? ⟨b, off + j, none⟩ = some (.string (l.getD j ⟨#[]⟩)))
theorem ReadsS.nil (w : World) : ReadsS w (.slice none 0 0) [] := ⟨none, 0, rfl, by simp, fun h => absurd h (by simp)⟩
theorem ReadsS.below {w w' : World} {v : Value} {l : List ByteArray} (h : ReadsS w v l) (hb : Below w.heap.size w w') : ReadsS w' v l := by
  obtain ⟨A, c, h1, h2, h3⟩ := h
  refine ⟨A, c, h1, h2, fun hp => ?_⟩
  obtain ⟨b, off, e, hc⟩ := h3 hp
  exact ⟨b, off, e, fun j hj => bkeep hb (hc j hj)⟩
theorem OwnS.reads {w : World} {B : Nat} {v : Value} {l : List ByteArray} (h : OwnS w B v l) : ReadsS w v l := by
  have hl := OwnR.len_le h
  unfold maxLen at hl
  rcases h.2 with ⟨rfl, h0⟩ | ⟨g, cap, cur, rfl, _⟩
  · obtain rfl : l = [] := List.eq_nil_of_length_eq_zero h0
    exact ReadsS.nil w
  · refine ⟨_, cap, rfl, by omega, fun hp => ⟨g, 0, rfl, fun j hj => ?_⟩⟩
    have := World.ownsRow.cells h (g := g) rfl j (.string (l.getD j ⟨#[]⟩)) (by rw [flat1]; simp [List.getElem?_eq_getElem hj, List.getD_eq_getElem?_getD])
    have ha : (⟨g, 0, none⟩ : Addr).add j = ⟨g, 0 + j, none⟩ := by unfold Addr.add; split <;> simp_all
    rw [← ha]; exact this
theorem app_str {w : World} {B : Nat} {v : Value} {l : List ByteArray} {ops : Array Oper} {rest : List Oper} {o : Oper} {a : Act} {Q : Exit → Act → World → Prop} (hgd : o.guard = none) (s x : Operand)
    (ho : o.op = .call { callee := .builtin .append, args := #[s, x], argTypes := #[42, 42] })
    (hs : a.eval s = v) (hown : OwnS w B v l) (c : ByteArray) (g : Nat) (hx : a.eval x = .slice (some ⟨g, 0, none⟩) 1 1)
    (hg : w.cell? ⟨g, 0, none⟩ = some (.string c)) (hn : l.length + 1 ≤ 8796093022208) (hB : B ≤ w.heap.size)
    (h : ∀ v' w', OwnS w' B v' (l ++ [c]) → w.grownBy w' v.ownBlock → wpList Tryd.prog ops Q rest (a.put o.dst v') w') : wpList Tryd.prog ops Q (o :: rest) a w :=
  app1 hgd s x 42 ho info_str und_strs rfl (by decide) (by decide) hs hown c rfl (by simp [Value.oneCell']) g hx (cell1 hg) (by omega) hB h
end Go.Proofs.YtdpknokginnmjaaDoor
