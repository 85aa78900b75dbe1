/- The reference of the layer 'attr': place, row, canon, ParseType by walks. -/
import Derived.Test.YtdpknokginnmjaaDoorR5
import Derived.Test.YtdpknokginnmjaaDoorRt
import Derived.Test.YtdpknokginnmjaaDoorP4
import Derived.Test.YtdpknokginnmjaaDoorAp
set_option linter.unusedVariables false
set_option linter.unusedSimpArgs false
namespace Go.Proofs.YtdpknokginnmjaaDoor
open Go.RowKit
def endsP : Nat → ByteArray
  | 0 => ⟨#[]⟩
  | 1 => ⟨#[97]⟩
  | 2 => ⟨#[49]⟩
  | _ => ⟨#[46, 49]⟩
theorem ends_size (k : Nat) : (endsP k).size ≤ 2 := by
  unfold endsP; split <;> decide
/-- It answers some bool. -/
def SomeBool (w : World) (e : Ending) (w' : World) : Prop := ∃ b, e = .returned (.bool b) ∧ Below w.heap.size w w'
set_option maxRecDepth 100000 in
set_option maxHeartbeats 1600000 in
theorem goes_any (s : ByteArray) (w : World) (hs : s.size ≤ 1073741000) :
    Calls Tryd.prog 130 #[.string s, .bool true] w (SomeBool w) := by
  go_enter Tryd.func130, Tryd.ntmps130
  go_wp2
  go_loopw [6] (fun i wr => ∃ k : Nat, k ≤ 4 ∧ i = .int .i64 k ∧ Hid (∀ j, j < 4 → wr.cell? ⟨w.heap.size, j, none⟩ = some (.string (endsP j))) ∧ Below w.heap.size w wr ∧ w.heap.size < wr.heap.size) (fun i _ => 4 - (intOf i).toNat)
  case atStart =>
    refine ⟨0, by omega, rfl, Lib.hid ?_, (Below.refl _ _).alloc (Nat.le_refl _) _, by simp⟩
    intro j hj
    have h4 : j = 0 ∨ j = 1 ∨ j = 2 ∨ j = 3 := by omega
    rcases h4 with rfl | rfl | rfl | rfl <;> simp [endsP]
  case round =>
    obtain ⟨k, hk, rfl, hC, hbw, hz⟩ := hrel
    by_cases hlt : k < 4
    · have hc := hC.out k hlt
      have hes := ends_size k
      have Hsz : Hid ((s ++ endsP k).size = s.size + (endsP k).size) := Lib.hid (by simp)
      cases ho : rtypeOk (ls (s ++ endsP k))
      all_goals
        have HO := Lib.hid ho
        go_wp2_with (go_at_call 105; refine (isType_any (s ++ endsP k) _ (by have := Hsz.out; omega)).mono ?_; rintro e w1 ⟨rfl, hw1⟩; rw [HO.out])
      · go_roundw
        case rel => exact ⟨k + 1, by omega, by go_num, Lib.hid (fun j hj => bkeep hw1 (hC.out j hj)), hbw.trans (hw1.mono hbw.size), by have := hw1.size; omega⟩
        case measure => simp [intOf]; omega
      · go_ret
        exact ⟨_, rfl, hbw.trans (hw1.mono hbw.size)⟩
    · obtain rfl : k = 4 := by omega
      go_wp2
      go_ret
      exact ⟨_, rfl, hbw⟩
def SomeInt (w : World) (e : Ending) (w' : World) : Prop := ∃ n : Int, e = .returned (.int .i64 n) ∧ Below w.heap.size w w'
theorem to_size (s : ByteArray) (m : Nat) (h : m ≤ s.size) : (s.extract 0 m).size = m := by simp; omega
set_option maxRecDepth 100000 in
set_option maxHeartbeats 1600000 in
theorem place_any (s : ByteArray) (w : World) (hs : s.size ≤ 1073741000) :
    Calls Tryd.prog 106 #[.string s, .bool true] w (SomeInt w) := by
  go_enter Tryd.func106, Tryd.ntmps106
  go_wp2
  go_loopw [5, 6] (fun a b wr => ∃ lo hi : Nat, lo ≤ hi ∧ hi ≤ s.size ∧ a = .int .i64 lo ∧ b = .int .i64 hi ∧ Below w.heap.size w wr) (fun a b _ => (intOf b).toNat - (intOf a).toNat)
  case atStart => exact ⟨0, s.size, Nat.zero_le _, Nat.le_refl _, rfl, rfl, Below.refl _ _⟩
  case round =>
    obtain ⟨lo, hi, h1, h2, rfl, rfl, hbw⟩ := hrel
    by_cases hlt : lo < hi
    · have Hm := Lib.hid (to_size s ((lo + hi + 1) / 2) (by omega))
      go_wp2_with fail
      refine (goes_any _ _ (by have := Hm.out; omega)).mono ?_
      rintro e w1 ⟨b, rfl, hw1⟩
      cases b
      all_goals
        go_wp2_with fail
        go_roundw
        case rel => first | exact ⟨(lo + hi + 1) / 2, hi, by omega, h2, by go_num, rfl, hbw.trans (hw1.mono hbw.size)⟩ | exact ⟨lo, (lo + hi + 1) / 2 - 1, by omega, by omega, rfl, by go_num, hbw.trans (hw1.mono hbw.size)⟩
        case measure => simp [intOf]; omega
    · obtain rfl : lo = hi := by omega
      go_wp2
      go_ret
      exact ⟨_, rfl, hbw⟩
/-- The row that a folded text names. -/
def hitP (l : List UInt8) (t : ByteArray × ByteArray × ByteArray) : Bool := ls t.1 == l || (ls t.2.1 == l && !l.isEmpty) || ls t.2.2 == l
def rrowP (l : List UInt8) : Option Nat := refNames.findIdx? (hitP l)
def rcanonP (s : ByteArray) : ByteArray := match rrowP (ls (fold s)) with | some i => (refNames.getD i (⟨#[]⟩, ⟨#[]⟩, ⟨#[]⟩)).1 | none => fold s
theorem refNames_len : refNames.length = 62 := by decide +kernel
theorem refCells_at : ∀ k, k < 62 → refCells[k * 3]? = some (.string (refNames.getD k (⟨#[]⟩, ⟨#[]⟩, ⟨#[]⟩)).1) ∧ refCells[k * 3 + 1]? = some (.string (refNames.getD k (⟨#[]⟩, ⟨#[]⟩, ⟨#[]⟩)).2.1) ∧ refCells[k * 3 + 2]? = some (.string (refNames.getD k (⟨#[]⟩, ⟨#[]⟩, ⟨#[]⟩)).2.2) := by
  have e : refCells = (refNames.flatMap fun t => [Value.string t.1, Value.string t.2.1, Value.string t.2.2]).toArray := by kernel_rfl
  have key : ∀ (l : List (ByteArray × ByteArray × ByteArray)) (k : Nat), k < l.length → (l.flatMap fun t => [Value.string t.1, Value.string t.2.1, Value.string t.2.2])[k * 3]? = some (.string (l.getD k (⟨#[]⟩, ⟨#[]⟩, ⟨#[]⟩)).1) ∧ (l.flatMap fun t => [Value.string t.1, Value.string t.2.1, Value.string t.2.2])[k * 3 + 1]? = some (.string (l.getD k (⟨#[]⟩, ⟨#[]⟩, ⟨#[]⟩)).2.1) ∧ (l.flatMap fun t => [Value.string t.1, Value.string t.2.1, Value.string t.2.2])[k * 3 + 2]? = some (.string (l.getD k (⟨#[]⟩, ⟨#[]⟩, ⟨#[]⟩)).2.2) := by
    intro l
    induction l with
    | nil => intro k hk; simp at hk
    | cons a t ih =>
      intro k hk
      cases k with
      | zero => simp
      | succ k =>
        have := ih k (by simpa using hk)
        have e1 : (k + 1) * 3 = k * 3 + 3 := by omega
        have e2 : (k + 1) * 3 + 1 = k * 3 + 1 + 3 := by omega
        have e3 : (k + 1) * 3 + 2 = k * 3 + 2 + 3 := by omega
        rw [e1, show k * 3 + 3 + 1 = k * 3 + 1 + 3 by omega, show k * 3 + 3 + 2 = k * 3 + 2 + 3 by omega]
        simpa using this
  intro k hk
  rw [e]
  simpa using key refNames k (by rw [refNames_len]; exact hk)
theorem findIdx_none {α : Type} (p : α → Bool) (d : α) (l : List α) (h : ∀ j, j < l.length → p (l.getD j d) = false) : l.findIdx? p = none := by
  rw [List.findIdx?_eq_none_iff]
  intro x hx
  obtain ⟨j, hj, rfl⟩ := List.mem_iff_getElem.1 hx
  have := h j hj
  simpa [List.getD_eq_getElem?_getD, List.getElem?_eq_getElem hj] using this
theorem findIdx_some {α : Type} (p : α → Bool) (d : α) (l : List α) (k : Nat) (hk : k < l.length) (h : ∀ j, j < k → p (l.getD j d) = false) (hp : p (l.getD k d) = true) : l.findIdx? p = some k := by
  rw [List.findIdx?_eq_some_iff_getElem]
  refine ⟨hk, by simpa [List.getD_eq_getElem?_getD, List.getElem?_eq_getElem hk] using hp, fun j hj => ?_⟩
  have := h j hj
  have hl : j < l.length := by omega
  simpa [List.getD_eq_getElem?_getD, List.getElem?_eq_getElem hl] using this
theorem cells_refs {w : World} {b : Nat} {t : TypeId} {fr : Nat × Nat} (h : w.heap[b]? = some (.cells refCells t fr)) (k : Nat) (hk : k < 62) :
    w.cell? ⟨b, k * 3, none⟩ = some (.string (refNames.getD k (⟨#[]⟩, ⟨#[]⟩, ⟨#[]⟩)).1) ∧ w.cell? ⟨b, k * 3 + 1, none⟩ = some (.string (refNames.getD k (⟨#[]⟩, ⟨#[]⟩, ⟨#[]⟩)).2.1) ∧ w.cell? ⟨b, k * 3 + 2, none⟩ = some (.string (refNames.getD k (⟨#[]⟩, ⟨#[]⟩, ⟨#[]⟩)).2.2) := by
  obtain ⟨h1, h2, h3⟩ := refCells_at k hk
  exact ⟨(cell_of_row w b _ _ t fr h).trans h1, (cell_of_row w b _ _ t fr h).trans h2, (cell_of_row w b _ _ t fr h).trans h3⟩
def rowInt (o : Option Nat) : Int := match o with | some i => (i : Int) | none => -1
theorem names_store (w2 : World) : ∀ c : Array Value, c.size = 186 → (storeCells ⟨w2.heap.size, 0, none⟩ refCells.toList 0).run Tryd.prog (w2.alloc (.cells c 194)) = .ok () (w2.alloc (.cells refCells 194)) := fun c hc => run_storeCells_new (P := Tryd.prog) w2 194 c refCells names_size (hc.trans (show refCells.size = 186 by kernel_rfl).symm) names_one
theorem names_186 : refCells.size = 186 := by kernel_rfl
theorem beq_comm_l (a b : List UInt8) : (a == b) = (b == a) := by
  rw [Bool.eq_iff_iff]; simp; exact eq_comm
set_option maxRecDepth 100000 in
set_option maxHeartbeats 3200000 in
theorem rrow_any (s : ByteArray) (w : World) (hs : s.size ≤ 1073741824) :
    Calls Tryd.prog 131 #[.string s] w fun e w' => e = .returned (.int .i64 (rowInt (rrowP (ls (fold s))))) ∧ Below w.heap.size w w' := by
  obtain ⟨f, hf⟩ : ∃ f, fold s = f := ⟨_, rfl⟩
  have HF := Lib.hid hf
  have hz := names_186
  go_enter Tryd.func131, Tryd.ntmps131
  go_wp2_with (first | (go_at_call 132; refine (rfold_any s _ (by omega)).mono ?_; rintro e w1 ⟨rfl, hw1⟩; rw [HF.out]) | (go_at_call 133; refine (names_any _).mono ?_; rintro e w2 ⟨rfl, hw2⟩; have hsc := names_store w2))
  clear hsc hf
  have hT := toList_ls f
  have hE := isE f
  have Hlen := Lib.hid refNames_len
  have hB : Below w.heap.size w w2 := bthen hw1 hw1.size hw2
  have hBs := hB.size
  go_loopw [5] (fun i wr => ∃ k : Nat, k ≤ 62 ∧ i = .int .i64 k ∧ Hid (∀ j, j < k → (hitP (ls f)) (refNames.getD j (⟨#[]⟩, ⟨#[]⟩, ⟨#[]⟩)) = false) ∧ wr.heap[w2.heap.size]? = some (.cells refCells 194 (0, 0)) ∧ Below w.heap.size w wr) (fun i _ => 62 - (intOf i).toNat)
  case atStart => exact ⟨0, by omega, rfl, Lib.hid (fun j hj => by omega), heap_alloc_new w2 _, hB.alloc hB.size _⟩
  case round =>
    obtain ⟨k, hk, rfl, hno, hrow, hbw⟩ := hrel
    have Hrow := Lib.hid hrow; clear hrow
    by_cases hlt : k < 62
    · obtain ⟨c1, c2, c3⟩ := cells_refs Hrow.out k hlt
      obtain ⟨n1, n2, n3, hn⟩ : ∃ n1 n2 n3, refNames.getD k (⟨#[]⟩, ⟨#[]⟩, ⟨#[]⟩) = (n1, n2, n3) := ⟨_, _, _, rfl⟩
      rw [hn] at c1 c2 c3
      have HN := Lib.hid hn; clear hn
      have t1 := toList_ls n1
      have t2 := toList_ls n2
      have t3 := toList_ls n3
      have q1 := beq_comm_l (ls n1) (ls f)
      have q2 := beq_comm_l (ls n2) (ls f)
      have q3 := beq_comm_l (ls n3) (ls f)
      have Q1 := Lib.hid q1; have Q2 := Lib.hid q2; have Q3 := Lib.hid q3
      clear q1 q2 q3
      cases e1 : (ls f == ls n1) <;> cases e2 : (ls f == ls n2) <;> cases e3 : (ls f == ls n3) <;> cases e4 : (ls f).isEmpty
      all_goals
        have E1 := Lib.hid e1; have E2 := Lib.hid e2; have E3 := Lib.hid e3; have E4 := Lib.hid e4
        go_wp2_with fail
      all_goals first
        | (go_ret
           refine ⟨ret_int ?_, hbw⟩
           have h := findIdx_some (hitP (ls f)) (⟨#[]⟩, ⟨#[]⟩, ⟨#[]⟩) refNames k (by rw [Hlen.out]; exact hlt) hno.out (by rw [HN.out]; show (ls n1 == ls f || (ls n2 == ls f && !(ls f).isEmpty) || ls n3 == ls f) = true; rw [Q1.out, Q2.out, Q3.out, E1.out, E2.out, E3.out, E4.out]; rfl)
           unfold rrowP
           rw [HF.out, h]; rfl)
        | (go_roundw
           case rel =>
             refine ⟨k + 1, by omega, by go_num, Lib.hid (fun j hj => ?_), Hrow.out, hbw⟩
             by_cases e : j = k
             · subst e
               rw [HN.out]; show (ls n1 == ls f || (ls n2 == ls f && !(ls f).isEmpty) || ls n3 == ls f) = false; rw [Q1.out, Q2.out, Q3.out, E1.out, E2.out, E3.out, E4.out]; rfl
             · exact hno.out j (by omega)
           case measure => simp [intOf]; omega)
    · obtain rfl : k = 62 := by omega
      have h := findIdx_none (hitP (ls f)) (⟨#[]⟩, ⟨#[]⟩, ⟨#[]⟩) refNames (fun j hj => hno.out j (by rw [← Hlen.out]; exact hj))
      have Hno := Lib.hid h
      clear h
      go_wp2
      go_ret
      refine ⟨ret_int ?_, hbw⟩
      unfold rrowP
      rw [HF.out, Hno.out]; rfl
end Go.Proofs.YtdpknokginnmjaaDoor
