/- The reference of the layer 'attr': canon, ParseType by walks; its canonical type is the program's. -/
import Derived.Test.YtdpknokginnmjaaDoorR6
set_option linter.unusedVariables false
set_option linter.unusedSimpArgs false
namespace Go.Proofs.YtdpknokginnmjaaDoor
open Go.RowKit
theorem rrowP_lt {l : List UInt8} {i : Nat} (h : rrowP l = some i) : i < 62 := by
  unfold rrowP at h
  rw [List.findIdx?_eq_some_iff_getElem] at h
  obtain ⟨hi, _⟩ := h
  rw [refNames_len] at hi; exact hi
set_option maxRecDepth 100000 in
set_option maxHeartbeats 1600000 in
theorem rcanon_any (s : ByteArray) (w : World) (hs : s.size ≤ 1073741824) :
    Calls Tryd.prog 107 #[.string s] w fun e w' => e = .returned (.string (rcanonP s)) ∧ Below w.heap.size w w' := by
  have hcp : rcanonP s = match rrowP (ls (fold s)) with | some i => (refNames.getD i (⟨#[]⟩, ⟨#[]⟩, ⟨#[]⟩)).1 | none => fold s := rfl
  have hz := names_186
  cases hn : rrowP (ls (fold s)) with
  | none =>
    rw [hn] at hcp
    have HN := Lib.hid hn; clear hn
    have HC := Lib.hid hcp; clear hcp
    go_enter Tryd.func107, Tryd.ntmps107
    go_wp2_with (first | (go_at_call 131; refine (rrow_any s _ hs).mono ?_; rintro e w1 ⟨rfl, hw1⟩; rw [HN.out]; simp only [rowInt]) | (go_at_call 132; refine (rfold_any s _ (by omega)).mono ?_; rintro e w2 ⟨rfl, hw2⟩))
    go_ret
    exact ⟨ret_str HC.out.symm, bthen hw1 hw1.size hw2⟩
  | some i =>
    rw [hn] at hcp
    have hi := rrowP_lt hn
    have HN := Lib.hid hn; clear hn
    have HC := Lib.hid hcp; clear hcp
    go_enter Tryd.func107, Tryd.ntmps107
    go_wp2_with (first | (go_at_call 131; refine (rrow_any s _ hs).mono ?_; rintro e w1 ⟨rfl, hw1⟩; rw [HN.out]; simp only [rowInt]) | (go_at_call 133; refine (names_any _).mono ?_; rintro e w2 ⟨rfl, hw2⟩; have hsc := names_store w2; have hci := (cells_refs (heap_alloc_new w2 (.cells refCells 194)) i hi).1))
    go_ret
    exact ⟨ret_str HC.out.symm, (bthen hw1 hw1.size hw2).alloc (bthen hw1 hw1.size hw2).size _⟩
set_option maxRecDepth 100000 in
set_option maxHeartbeats 1600000 in
theorem rparse_no (s : ByteArray) (w : World) (hs : s.size ≤ 1073741000) (ht : typeOk s = false) :
    Calls Tryd.prog 80 #[.string s] w fun e w' => ∃ n : Int, e = .returned (.tuple #[.string ⟨#[]⟩, .int .i64 40, .int .i64 n]) ∧ Below w.heap.size w w' := by
  have HT : Hid (rtypeOk (ls s) = false) := Lib.hid ((rtype_eq (ls s)).trans ht)
  clear ht
  go_enter Tryd.func80, Tryd.ntmps80
  go_wp2_with (first | (go_at_call 105; refine (isType_any s _ (by omega)).mono ?_; rintro e w1 ⟨rfl, hw1⟩; rw [HT.out]) | (go_at_call 106; refine (place_any s _ hs).mono ?_; rintro e w2 ⟨n, rfl, hw2⟩))
  go_ret3
  exact ⟨_, rfl, bthen hw1 hw1.size hw2⟩
theorem fold_names : ∀ p ∈ firstNames ++ laterNames, rrowP p.1 = some p.2 := by decide +kernel
theorem names_all : ∀ t ∈ refNames, (firstNames ++ laterNames).any (fun p => p.1 == ls t.1) = true ∧ ((ls t.2.1).isEmpty = true ∨ (firstNames ++ laterNames).any (fun p => p.1 == ls t.2.1) = true) ∧ (firstNames ++ laterNames).any (fun p => p.1 == ls t.2.2) = true := by decide +kernel
theorem same_names : ∀ i, i < 62 → (attrRow i).1 = (refNames.getD i (⟨#[]⟩, ⟨#[]⟩, ⟨#[]⟩)).1 := by decide +kernel
theorem row_eq (l : List UInt8) : rrowP l = nameRow l := by
  cases h : nameRow l with
  | some i =>
    unfold nameRow findName at h
    cases hf : (firstNames ++ laterNames).find? (fun p => p.1 == l) with
    | none => rw [hf] at h; cases h
    | some p =>
      rw [hf] at h
      cases h
      have h1 := fold_names p (List.mem_of_find?_eq_some hf)
      have h2 : p.1 = l := by simpa using List.find?_some hf
      rw [← h2]; exact h1
  | none =>
    unfold nameRow findName at h
    have hno : ∀ q : List UInt8, (firstNames ++ laterNames).any (fun p => p.1 == q) = true → (q == l) = false := by
      intro q hq
      cases hf : (firstNames ++ laterNames).find? (fun p => p.1 == l) with
      | some p => rw [hf] at h; cases h
      | none =>
        rw [beq_eq_false_iff_ne]
        intro e; subst e
        obtain ⟨p, hp, hpq⟩ := List.any_eq_true.1 hq
        exact List.find?_eq_none.1 hf p hp hpq
    unfold rrowP
    rw [List.findIdx?_eq_none_iff]
    intro t ht
    obtain ⟨h1, h2, h3⟩ := names_all t ht
    unfold hitP
    rw [hno _ h1, hno _ h3]
    rcases h2 with h2 | h2
    · cases hl : l.isEmpty
      · have : (ls t.2.1 == l) = false := by
          rw [beq_eq_false_iff_ne]; intro e; rw [e] at h2; rw [h2] at hl; cases hl
        rw [this]; rfl
      · simp
    · rw [hno _ h2]; rfl
theorem canon_eq (s : ByteArray) : rcanonP s = canonP s := by
  unfold rcanonP canonP
  rw [row_eq]
  cases h : nameRow (ls (fold s)) with
  | none => rfl
  | some i => exact (same_names i (nameRow_lt h)).symm
set_option maxRecDepth 100000 in
set_option maxHeartbeats 1600000 in
theorem rparse_ok (s : ByteArray) (w : World) (hs : s.size ≤ 1073741000) (ht : typeOk s = true) :
    Calls Tryd.prog 80 #[.string s] w fun e w' => e = .returned (.tuple #[.string (canonP s), .int .i64 0, .int .i64 s.size]) ∧ Below w.heap.size w w' := by
  have HT : Hid (rtypeOk (ls s) = true) := Lib.hid ((rtype_eq (ls s)).trans ht)
  have HC := Lib.hid (canon_eq s)
  clear ht
  go_enter Tryd.func80, Tryd.ntmps80
  go_wp2_with (first | (go_at_call 105; refine (isType_any s _ (by omega)).mono ?_; rintro e w1 ⟨rfl, hw1⟩; rw [HT.out]) | (go_at_call 107; refine (rcanon_any s _ (by omega)).mono ?_; rintro e w2 ⟨rfl, hw2⟩; rw [HC.out]))
  go_ret3
  exact ⟨rfl, bthen hw1 hw1.size hw2⟩
end Go.Proofs.YtdpknokginnmjaaDoor
