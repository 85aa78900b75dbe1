/- dn.sound by a walk: a part's types, or the reason why it is none. -/
import Derived.Test.YtdpknokginnmjaaDoorD2
import Derived.Test.YtdpknokginnmjaaDoorShelf
set_option linter.unusedVariables false
set_option linter.unusedSimpArgs false
namespace Go.Proofs.YtdpknokginnmjaaDoor
open Go.RowKit
/-- The four reasons that a part meets: UTF8 (51), Twice (57), Wide (58), Made (59). -/
structure Errs4 (w : World) (E : Nat → Addr) : Prop where
  c1 : w.cell? ⟨1, 0, none⟩ = some (.iface 224 (.pointer (some (E 1))))
  c7 : w.cell? ⟨7, 0, none⟩ = some (.iface 224 (.pointer (some (E 7))))
  c8 : w.cell? ⟨8, 0, none⟩ = some (.iface 224 (.pointer (some (E 8))))
  c9 : w.cell? ⟨9, 0, none⟩ = some (.iface 224 (.pointer (some (E 9))))
theorem Errs4.below {w w' : World} {E : Nat → Addr} (h : Errs4 w E) (hb : Below w.heap.size w w') : Errs4 w' E := ⟨bkeep hb h.c1, bkeep hb h.c7, bkeep hb h.c8, bkeep hb h.c9⟩
/-- v is a refusal of the call's own: its reason, its place. -/
def IsRef (w : World) (B : Nat) (v : Value) (e : Addr) (k : Int) : Prop := ∃ g, v = .iface 64 (.pointer (some ⟨g, 0, none⟩)) ∧ B ≤ g ∧ w.heap[g]? = some (.cells #[.iface 224 (.pointer (some e)), .int .i64 k] 66 (0, 0))
theorem contains_any (l : List ByteArray) (x : ByteArray) (v : Value) (w : World) (h : ReadsS w v l) :
    Calls Tryd.prog 76 #[v, .string x] w fun e w' => e = .returned (.bool (l.any fun c => ls c == ls x)) ∧ w' = w := by
  obtain ⟨A, c, rfl, h2, h3⟩ := h
  by_cases h0 : l.length = 0
  · obtain rfl : l = [] := List.eq_nil_of_length_eq_zero h0
    exact Tryd.slices_Contains_string_empty A c x w
  · obtain ⟨b, off, rfl, hc⟩ := h3 (by omega)
    have e : Lib.containsS (l.take l.length) x = l.any fun c => ls c == ls x := by
      rw [List.take_of_length_le (Nat.le_refl _), Bool.eq_iff_iff, Lib.containsS_iff, List.any_eq_true]
      constructor
      · exact fun h => ⟨x, h, by simp⟩
      · rintro ⟨y, hy, he⟩
        have := ls_inj (by simpa using he)
        rw [← this]; exact hy
    rw [← e]
    exact Tryd.slices_Contains_string b off l.length c l x w (Nat.le_refl _) h2 hc
set_option maxRecDepth 100000 in
set_option maxHeartbeats 3200000 in
theorem sound_any (r : RdnP) (k : Nat) (v : Value) (w : World) (E : Nat → Addr) (hr : IsRdn w v r) (hs : bulkR r ≤ 1048576) (hE : Errs4 w E) :
    Calls Tryd.prog 49 #[v, .int .i64 k] w fun e w' => ∃ a b, e = .returned (.tuple #[a, b]) ∧ Below w.heap.size w w' ∧
      (wrongP r = 0 → b = .nilIface ∧ OwnS w' w.heap.size a (r.map fun x => canonP x.1)) ∧ (wrongP r ≠ 0 → a = .slice none 0 0 ∧ IsRef w' w.heap.size b (E ((wrongP r).toNat - 50)) k) := by
  have hbl := bulkR_len r
  have HE := Lib.hid hE
  obtain ⟨A, cp, rfl, hcell⟩ := hr.cellAt
  have Hcell := Lib.hid hcell; clear hcell hr
  have hc1 := hE.c1; have hc7 := hE.c7; have hc8 := hE.c8; have hc9 := hE.c9
  clear hE
  by_cases h0 : r.length = 0
  · have hW : wrongP r = 59 := by unfold wrongP; rw [if_pos h0]
    have HW := Lib.hid hW; clear hW
    go_enter Tryd.func49, Tryd.ntmps49
    go_wp2
    go_region
    all_goals go_wp2
    all_goals
          (go_ret2; exact ⟨_, _, rfl, by first | exact ((Below.refl w.heap.size w)).alloc ((Below.refl w.heap.size w)).size _ | exact (((Below.refl w.heap.size w)).drew).alloc ((Below.refl w.heap.size w)).size _ | (repeat (first | exact Below.refl _ _ | assumption | apply Below.drew | refine Below.setCell ?_ (by simp) _ | refine Below.alloc ?_ (by simp; try omega) _)), fun h => absurd (HW.out.symm.trans h) (by decide), fun _ => ⟨rfl, _, rfl, by first | exact Nat.le_refl _ | (have := (Below.refl w.heap.size w).size; simp; omega), by rw [HW.out]; exact heap_alloc_new _ _⟩⟩)
  · have H0 := Lib.hid h0
    have hb0 : ((r.length : Int) == 0) = false := by rw [beq_eq_false_iff_ne]; omega
    clear h0
    by_cases h8 : 8 < r.length
    · have hW : wrongP r = 58 := by unfold wrongP; rw [if_neg H0.out, if_pos h8]
      have HW := Lib.hid hW; clear hW
      go_enter Tryd.func49, Tryd.ntmps49
      go_wp2
      go_region
      all_goals go_wp2
      all_goals
          (go_ret2; exact ⟨_, _, rfl, by first | exact ((Below.refl w.heap.size w)).alloc ((Below.refl w.heap.size w)).size _ | exact (((Below.refl w.heap.size w)).drew).alloc ((Below.refl w.heap.size w)).size _ | (repeat (first | exact Below.refl _ _ | assumption | apply Below.drew | refine Below.setCell ?_ (by simp) _ | refine Below.alloc ?_ (by simp; try omega) _)), fun h => absurd (HW.out.symm.trans h) (by decide), fun _ => ⟨rfl, _, rfl, by first | exact Nat.le_refl _ | (have := (Below.refl w.heap.size w).size; simp; omega), by rw [HW.out]; exact heap_alloc_new _ _⟩⟩)
    · have hW : wrongP r = wrongGo [] r := by unfold wrongP; rw [if_neg H0.out, if_neg h8]
      have HW := Lib.hid hW; clear hW
      go_enter Tryd.func49, Tryd.ntmps49
      go_wp2
      go_loopw [6, 32] (fun q i wr => ∃ (j : Nat), j ≤ r.length ∧ i = .int .i64 j ∧ Hid (OwnS wr w.heap.size q ((r.take j).map fun x => canonP x.1)) ∧ Hid (wrongGo [] r = wrongGo ((r.take j).map fun x => canonP x.1) (r.drop j)) ∧ Below w.heap.size w wr) (fun _ i _ => r.length - (intOf i).toNat)
      case atStart => exact ⟨0, Nat.zero_le _, rfl, Lib.hid (OwnR.nil _ _), Lib.hid rfl, Below.refl _ _⟩
      case round =>
        obtain ⟨j, hj, rfl, hown, hgo, hbw⟩ := hrel
        by_cases hlt : j < r.length
        · have Hat := Lib.hid (wrongGo_at ((r.take j).map fun x => canonP x.1) r j hlt)
          have Hnx : Hid ((r.take (j + 1)).map (fun x => canonP x.1) = (r.take j).map (fun x => canonP x.1) ++ [canonP (r.getD j ava0).1]) := Lib.hid (by
            rw [List.take_succ_eq_append_getElem hlt, List.map_append]; simp [List.getD_eq_getElem?_getD, List.getElem?_eq_getElem hlt])
          have hbk := bulkR_at r j hlt
          obtain ⟨b, off, rfl, h1, h2⟩ := Hcell.out j hlt
          obtain ⟨t, u, htu⟩ : ∃ t u, r.getD j ava0 = (t, u) := ⟨_, _, rfl⟩
          obtain ⟨S, hS⟩ : ∃ S, (r.take j).map (fun x => canonP x.1) = S := ⟨_, rfl⟩
          have hSl : S.length = j := by rw [← hS]; simp; omega
          rw [hS] at Hat Hnx hown hgo
          rw [htu] at h1 h2 hbk Hnx Hat
          simp only at h1 h2 hbk
          have hd1 := bkeep hbw h1
          have hd2 := bkeep hbw h2
          have he1 := bkeep hbw hc1
          have he7 := bkeep hbw hc7
          have he8 := bkeep hbw hc8
          have he9 := bkeep hbw hc9
          have HSl := Lib.hid hSl
          clear htu hS hSl h1 h2
          cases hty : typeOk t
          · have hW2 : wrongP r = 59 := by rw [HW.out, hgo.out, Hat.out, if_pos hty]
            have HW2 := Lib.hid hW2
            have HTY := Lib.hid hty
            clear hW2 hty
            go_wp2_with (go_at_call 44; refine (parseType_no t _ (by omega) HTY.out).mono ?_; rintro e w1 ⟨rfl, hw1⟩)
            have hbw1 := (hbw.alloc hbw.size _).trans (hw1.mono (by have := hbw.size; simp; omega))
            have hf9 := bkeep hbw1 hc9
            go_region
            all_goals go_wp2
            all_goals
              (go_ret2; exact ⟨_, _, rfl, by first | exact (hbw1).alloc (hbw1).size _ | exact ((hbw1).drew).alloc (hbw1).size _ | (repeat (first | exact Below.refl _ _ | assumption | apply Below.drew | refine Below.setCell ?_ (by simp) _ | refine Below.alloc ?_ (by simp; try omega) _)), fun h => absurd (HW2.out.symm.trans h) (by decide), fun _ => ⟨rfl, _, rfl, by first | exact Nat.le_refl _ | (have := hbw1.size; simp; omega), by rw [HW2.out]; exact heap_alloc_new _ _⟩⟩)
          · have HTY := Lib.hid hty
            clear hty
            cases htw : S.any (fun c => ls c == ls (canonP t))
            · have HTW := Lib.hid htw
              clear htw
              cases hu : utf8 u
              · have hW2 : wrongP r = 51 := by rw [HW.out, hgo.out, Hat.out, if_neg (by simp only; rw [HTY.out]; simp), if_neg (by simp only; rw [HTW.out]; simp), if_pos hu]
                have HW2 := Lib.hid hW2
                have HU := Lib.hid hu
                have HCE := Lib.hid (chkE_bad hu)
                clear hW2 hu
                go_wp2_with (first
                  | (go_at_call 44; refine (parseType_ok t _ (by omega) HTY.out).mono ?_; rintro e w1 ⟨rfl, hw1⟩; have hbw1 := (hbw.alloc hbw.size _).trans (hw1.mono (by have := hbw.size; simp; omega)); have hown1 := (hown.out.alloc _).below hw1; have hu1 := bkeep hw1 (cell_of_row _ _ 1 _ _ (0, 0) (heap_alloc_new wr (.cells #[.string t, .string u] 55))); have hg7 := bkeep hbw1 hc7)
                  | (go_at_call 76; refine (contains_any S (canonP t) _ _ (OwnS.reads hown1)).mono ?_; rintro e w2 ⟨rfl, rfl⟩; rw [HTW.out])
                  | (go_at_call 36; refine (check_any u _ (by unfold maxLen; omega)).mono ?_; rintro e w3 ⟨rfl, hw3⟩; rw [HCE.out]; have hown3 := hown1.below hw3; have hbw3 := hbw1.trans (hw3.mono hbw1.size); have hg1 := bkeep hbw3 hc1)
                  | (at_builtin; refine app_str rfl (.tmp 71) (.tmp 73) rfl rfl (hown3.alloc _) (canonP t) w3.heap.size rfl ?_ (by have := HSl.out; omega) (by have := hbw3.size; simp; omega) ?_; rotate_right; intro v' w4 hown4 hg4; have hbw4 := OwnR.rowA hbw3 hown3 hg4))
                go_region
                all_goals go_wp2
                all_goals
                  (go_ret2; exact ⟨_, _, rfl, by first | exact (hbw3).alloc (hbw3).size _ | exact ((hbw3).drew).alloc (hbw3).size _ | (repeat (first | exact Below.refl _ _ | assumption | apply Below.drew | refine Below.setCell ?_ (by simp) _ | refine Below.alloc ?_ (by simp; try omega) _)), fun h => absurd (HW2.out.symm.trans h) (by decide), fun _ => ⟨rfl, _, rfl, by first | exact Nat.le_refl _ | (have := hbw3.size; simp; omega), by rw [HW2.out]; exact heap_alloc_new _ _⟩⟩)
              · have HU := Lib.hid hu
                have HCE := Lib.hid (chkE_ok hu)
                clear hu
                go_wp2_with (first
                  | (go_at_call 44; refine (parseType_ok t _ (by omega) HTY.out).mono ?_; rintro e w1 ⟨rfl, hw1⟩; have hbw1 := (hbw.alloc hbw.size _).trans (hw1.mono (by have := hbw.size; simp; omega)); have hown1 := (hown.out.alloc _).below hw1; have hu1 := bkeep hw1 (cell_of_row _ _ 1 _ _ (0, 0) (heap_alloc_new wr (.cells #[.string t, .string u] 55))); have hg7 := bkeep hbw1 hc7)
                  | (go_at_call 76; refine (contains_any S (canonP t) _ _ (OwnS.reads hown1)).mono ?_; rintro e w2 ⟨rfl, rfl⟩; rw [HTW.out])
                  | (go_at_call 36; refine (check_any u _ (by unfold maxLen; omega)).mono ?_; rintro e w3 ⟨rfl, hw3⟩; rw [HCE.out]; have hown3 := hown1.below hw3; have hbw3 := hbw1.trans (hw3.mono hbw1.size); have hg1 := bkeep hbw3 hc1)
                  | (at_builtin; refine app_str rfl (.tmp 71) (.tmp 73) rfl rfl (hown3.alloc _) (canonP t) w3.heap.size rfl ?_ (by have := HSl.out; omega) (by have := hbw3.size; simp; omega) ?_; rotate_right; intro v' w4 hown4 hg4; have hbw4 := OwnR.rowA hbw3 hown3 hg4))
                case refine_1 => simp
                go_roundw
                case rel =>
                  have h1 := hgo.out
                  rw [Hat.out, if_neg (by rw [HTY.out]; simp), if_neg (by rw [HTW.out]; simp), if_neg (by rw [HU.out]; simp)] at h1
                  exact ⟨j + 1, by omega, by go_num, Lib.hid (by rw [Hnx.out]; exact hown4), Lib.hid (by rw [Hnx.out]; exact h1), hbw4⟩
                case measure => simp [intOf]; omega
            · have hW2 : wrongP r = 57 := by rw [HW.out, hgo.out, Hat.out, if_neg (by simp only; rw [HTY.out]; simp), if_pos htw]
              have HW2 := Lib.hid hW2
              have HTW := Lib.hid htw
              have HCE : Hid True := Lib.hid trivial
              clear hW2 htw
              go_wp2_with (first
                  | (go_at_call 44; refine (parseType_ok t _ (by omega) HTY.out).mono ?_; rintro e w1 ⟨rfl, hw1⟩; have hbw1 := (hbw.alloc hbw.size _).trans (hw1.mono (by have := hbw.size; simp; omega)); have hown1 := (hown.out.alloc _).below hw1; have hu1 := bkeep hw1 (cell_of_row _ _ 1 _ _ (0, 0) (heap_alloc_new wr (.cells #[.string t, .string u] 55))); have hg7 := bkeep hbw1 hc7)
                  | (go_at_call 76; refine (contains_any S (canonP t) _ _ (OwnS.reads hown1)).mono ?_; rintro e w2 ⟨rfl, rfl⟩; rw [HTW.out])
                  | (go_at_call 36; refine (check_any u _ (by unfold maxLen; omega)).mono ?_; rintro e w3 ⟨rfl, hw3⟩; rw [HCE.out]; have hown3 := hown1.below hw3; have hbw3 := hbw1.trans (hw3.mono hbw1.size); have hg1 := bkeep hbw3 hc1)
                  | (at_builtin; refine app_str rfl (.tmp 71) (.tmp 73) rfl rfl (hown3.alloc _) (canonP t) w3.heap.size rfl ?_ (by have := HSl.out; omega) (by have := hbw3.size; simp; omega) ?_; rotate_right; intro v' w4 hown4 hg4; have hbw4 := OwnR.rowA hbw3 hown3 hg4))
              go_region
              all_goals go_wp2
              all_goals
                  (go_ret2; exact ⟨_, _, rfl, by first | exact (hbw1).alloc (hbw1).size _ | exact ((hbw1).drew).alloc (hbw1).size _ | (repeat (first | exact Below.refl _ _ | assumption | apply Below.drew | refine Below.setCell ?_ (by simp) _ | refine Below.alloc ?_ (by simp; try omega) _)), fun h => absurd (HW2.out.symm.trans h) (by decide), fun _ => ⟨rfl, _, rfl, by first | exact Nat.le_refl _ | (have := hbw1.size; simp; omega), by rw [HW2.out]; exact heap_alloc_new _ _⟩⟩)
        · obtain rfl : j = r.length := by omega
          have h1 := hgo.out
          rw [List.drop_of_length_le (Nat.le_refl _)] at h1
          have hW2 : wrongP r = 0 := by rw [HW.out, h1]; rfl
          have HW2 := Lib.hid hW2
          have Ht : Hid ((r.take r.length) = r) := Lib.hid (List.take_of_length_le (Nat.le_refl _))
          clear h1 hW2
          go_wp2
          go_ret2
          exact ⟨_, _, rfl, hbw, fun _ => ⟨rfl, by have := hown.out; rw [Ht.out] at this; exact this⟩, fun h => absurd HW2.out h⟩
end Go.Proofs.YtdpknokginnmjaaDoor
