/- The reference of the layer 'attr': parts and IsType by walks. -/
import Derived.Test.YtdpknokginnmjaaDoorR4
set_option linter.unusedVariables false
set_option linter.unusedSimpArgs false
namespace Go.Proofs.YtdpknokginnmjaaDoor
open Go.RowKit
theorem no_step (l : List UInt8) (c : UInt8) (lo k : Nat) (hk : k < l.length) (hlo : lo ≤ k) (h : ∀ x ∈ (l.take k).drop lo, x ≠ c) (hx : l.getD k 0 ≠ c) : ∀ x ∈ (l.take (k + 1)).drop lo, x ≠ c := by
  rw [bl_take l k hk, List.drop_append_of_le_length (by simp; omega)]
  intro x hx'
  rcases List.mem_append.1 hx' with h1 | h1
  · exact h x h1
  · simp at h1; subst h1; simpa using hx
theorem cut_step (l : List UInt8) (c : UInt8) (lo k : Nat) (hk : k < l.length) (hlo : lo ≤ k) (h : ∀ x ∈ (l.take k).drop lo, x ≠ c) (hx : l.getD k 0 = c) : partsR c (l.drop lo) = ((l.take k).drop lo) :: partsR c (l.drop (k + 1)) := by
  have e : l.drop lo = (l.take k).drop lo ++ c :: l.drop (k + 1) := by
    have h1 : l = l.take k ++ l.drop k := (List.take_append_drop k l).symm
    have h2 : l.drop k = c :: l.drop (k + 1) := by
      rw [List.drop_eq_getElem_cons hk]
      congr 1
      rw [← hx]; simp [List.getD_eq_getElem?_getD, List.getElem?_eq_getElem hk]
    conv => lhs; rw [h1]
    rw [List.drop_append_of_le_length (by simp; omega), h2]
  rw [e, partsR_cut c _ _ h]
theorem bl_ne {l : List UInt8} {k : Nat} {c : UInt8} (h : (bl l k == (c.toNat : Int)) = false) : l.getD k 0 ≠ c := by
  intro e; unfold bl at h; rw [e] at h; simp at h
theorem bl_eq {l : List UInt8} {k : Nat} {c : UInt8} (h : (bl l k == (c.toNat : Int)) = true) : l.getD k 0 = c := by
  have := ieq h; unfold bl at this; exact UInt8.toNat_inj.1 (by omega)
theorem map_len {l : List (List UInt8)} : (l.map mk).length = l.length := by simp
set_option maxRecDepth 100000 in
set_option maxHeartbeats 1600000 in
theorem rparts_any (s : ByteArray) (c : UInt8) (w : World) (hs : s.size ≤ 1073741824) :
    Calls Tryd.prog 128 #[.string s, .int .u8 (c.toNat : Int)] w fun e w' => ∃ v, e = .returned v ∧ OwnS w' w.heap.size v ((partsR c (ls s)).map mk) ∧ Below w.heap.size w w' := by
  have hb := bl_at s
  have hll := Lib.hid (ls_length s)
  have hpl := partsR_len c (ls s)
  obtain ⟨cc, hcc⟩ : ∃ cc : Int, cc = (c.toNat : Int) := ⟨_, rfl⟩
  rw [← hcc]
  have Hcc := Lib.hid hcc; clear hcc
  go_enter Tryd.func128, Tryd.ntmps128
  go_wp2
  go_loopw [5, 6, 7] (fun v q i wr => ∃ (k lo : Nat) (acc : List (List UInt8)), k ≤ s.size ∧ lo ≤ k ∧ i = .int .i64 k ∧ q = .int .i64 lo ∧ OwnS wr w.heap.size v (acc.map mk) ∧ Hid (acc ++ partsR c ((ls s).drop lo) = partsR c (ls s)) ∧ acc.length ≤ k ∧ Hid (∀ x ∈ ((ls s).take k).drop lo, x ≠ c) ∧ Below w.heap.size w wr) (fun _ _ i _ => s.size - (intOf i).toNat)
  case atStart => exact ⟨0, 0, [], Nat.zero_le _, Nat.le_refl _, rfl, rfl, OwnR.nil _ _, Lib.hid rfl, Nat.le_refl _, Lib.hid (by simp), Below.refl _ _⟩
  case round =>
    obtain ⟨k, lo, acc, hk, hlo, rfl, rfl, hown, hacc, hal, hno, hbw⟩ := hrel
    have Hml := Lib.hid (map_len (l := acc))
    by_cases hlt : k < s.size
    · have hkl : k < (ls s).length := by have := hll.out; omega
      cases hq : (bl (ls s) k == cc)
      · have hne := bl_ne (by rw [← Hcc.out]; exact hq)
        have Hno := Lib.hid (no_step (ls s) c lo k hkl hlo hno.out hne)
        clear hne
        go_wp2_with fail
        go_roundw
        case rel => exact ⟨k + 1, lo, acc, by omega, by omega, by go_num, rfl, hown, hacc, by omega, Hno, hbw⟩
        case measure => simp [intOf]; omega
      · have heq := bl_eq (by rw [← Hcc.out]; exact hq)
        have Hc := Lib.hid (cut_step (ls s) c lo k hkl hlo hno.out heq)
        have Hx := Lib.hid (ls_extract s lo k)
        clear heq
        go_wp2_with (at_builtin; refine app_str rfl (.tmp 19) (.tmp 24) rfl rfl (hown.alloc _) (s.extract lo k) wr.heap.size rfl ?_ (by have := Hml.out; omega) (by have := hbw.size; simp; omega) ?_; rotate_right; intro v' w1 hown1 hg1)
        · go_roundw
          case rel =>
            refine ⟨k + 1, k + 1, acc ++ [((ls s).take k).drop lo], by omega, by omega, by go_num, by go_num, ?_, Lib.hid ?_, by simp; omega, Lib.hid ?_, OwnR.rowA hbw hown hg1⟩
            · have e : s.extract lo k = mk (((ls s).take k).drop lo) := by rw [← Hx.out, mk_ls]
              rw [e] at hown1
              simpa using hown1
            · have h1 := hacc.out
              rw [Hc.out] at h1
              rw [← h1]; simp
            · intro x hx
              rw [List.drop_of_length_le (by simp; omega)] at hx
              simp at hx
          case measure => simp [intOf]; omega
        · simp
    · obtain rfl : k = s.size := by omega
      have h1 := hno.out
      rw [List.take_of_length_le (by simp [ls])] at h1
      have h2 := hacc.out
      rw [partsR_none c _ h1] at h2
      have H2 := Lib.hid h2
      have Hx := Lib.hid (ls_from s lo)
      clear h1 h2
      go_wp2_with (at_builtin; refine app_str rfl (.tmp 28) (.tmp 32) rfl rfl (hown.alloc _) (s.extract lo s.size) wr.heap.size rfl ?_ (by have := Hml.out; omega) (by have := hbw.size; simp; omega) ?_; rotate_right; intro v' w1 hown1 hg1)
      · go_ret
        refine ⟨_, rfl, ?_, OwnR.rowA hbw hown hg1⟩
        have e : s.extract lo s.size = mk ((ls s).drop lo) := by rw [← Hx.out, mk_ls]
        rw [e] at hown1
        rw [← H2.out]
        simpa using hown1
      · simp
/-- What the reference takes for a type. -/
def rtypeOk (l : List UInt8) : Bool := if l.isEmpty then false else if letterB (bl l 0) then keysP l else (partsR 46 l).all numberP && decide (1 < (partsR 46 l).length)
theorem ReadsS.cellAt {w : World} {v : Value} {l : List ByteArray} (h : ReadsS w v l) : ∃ A c, v = .slice A l.length c ∧ ∀ k, k < l.length → ∃ b off, A = some ⟨b, off, none⟩ ∧ w.cell? ⟨b, off + k, none⟩ = some (.string (l.getD k ⟨#[]⟩)) := by
  obtain ⟨A, c, h1, h2, h3⟩ := h
  refine ⟨A, c, h1, fun k hk => ?_⟩
  obtain ⟨b, off, e, hc⟩ := h3 (by omega)
  exact ⟨b, off, e, hc k hk⟩
theorem rparts_dot (s : ByteArray) (w : World) (hs : s.size ≤ 1073741824) :
    Calls Tryd.prog 128 #[.string s, .int .u8 46] w fun e w' => ∃ v, e = .returned v ∧ OwnS w' w.heap.size v ((partsR 46 (ls s)).map mk) ∧ Below w.heap.size w w' := rparts_any s 46 w hs
theorem allL_take {α : Type} (f : α → Bool) (d : α) (l : List α) (k : Nat) (hk : k < l.length) : (l.take (k + 1)).all f = ((l.take k).all f && f (l.getD k d)) := by
  rw [List.take_succ_eq_append_getElem hk, List.all_append]; simp [List.getD_eq_getElem?_getD, List.getElem?_eq_getElem hk]
theorem allL_no {α : Type} (f : α → Bool) (d : α) (l : List α) (k : Nat) (hk : k < l.length) (h : f (l.getD k d) = false) : l.all f = false := by
  rw [List.all_eq_false]
  refine ⟨l.getD k d, ?_, by rw [h]; simp⟩
  rw [List.getD_eq_getElem?_getD, List.getElem?_eq_getElem hk]; simp
theorem getD_map_mk (l : List (List UInt8)) (k : Nat) (hk : k < l.length) : (l.map mk).getD k ⟨#[]⟩ = mk (l.getD k []) := by
  simp [List.getD_eq_getElem?_getD, List.getElem?_eq_getElem hk]
theorem part_len (c : UInt8) (l : List UInt8) : ∀ p ∈ partsR c l, p.length ≤ l.length := by
  induction l with
  | nil => simp [partsR]
  | cons x t ih =>
    intro p hp
    unfold partsR at hp
    split at hp
    · rcases List.mem_cons.1 hp with rfl | h
      · simp
      · have := ih p h; simp; omega
    · cases h : partsR c t with
      | nil => rw [h] at hp; simp at hp; subst hp; simp
      | cons q qs =>
        rw [h] at hp ih
        rcases List.mem_cons.1 hp with rfl | h2
        · have := ih q (by simp); simp; omega
        · have := ih p (by simp [h2]); simp; omega
set_option maxRecDepth 100000 in
set_option maxHeartbeats 3200000 in
theorem isType_any (s : ByteArray) (w : World) (hs : s.size ≤ 1073741824) : Calls Tryd.prog 105 #[.string s] w fun e w' => e = .returned (.bool (rtypeOk (ls s))) ∧ Below w.heap.size w w' := by
  have hb := bl_at s
  have hll := Lib.hid (ls_length s)
  have hE2 := isE_size s
  have hT := toList_ls s
  have hpl := partsR_len 46 (ls s)
  have hpn := partsR_ne 46 (ls s)
  by_cases e0 : s.size = 0
  · have He : Hid ((ls s).isEmpty = true) := Lib.hid (by rw [hE2]; exact decide_eq_true e0)
    have hls : ls s = [] := List.eq_nil_of_length_eq_zero (by have := hll.out; omega)
    clear hpl hpn
    go_enter Tryd.func105, Tryd.ntmps105
    go_wp2
    go_ret
    exact ⟨ret_bool (by unfold rtypeOk; rw [He.out]; rfl), Below.refl _ _⟩
  · have he : (ls s).isEmpty = false := by rw [hE2]; exact decide_eq_false e0
    have He := Lib.hid he
    have hne : (s.toList == []) = false := by
      rw [hT]
      cases h : ls s with
      | nil => rw [h] at he; cases he
      | cons a t => rfl
    have hp : 0 < s.size := by omega
    have hr := bl_range (ls s) 0
    have H1 := Lib.hid hpl
    have H2 := Lib.hid hpn
    clear hpl hpn he
    cases hL : letterB (bl (ls s) 0)
    · have HL := Lib.hid hL
      have hL' : ¬ ((97 ≤ bl (ls s) 0 ∧ bl (ls s) 0 ≤ 122) ∨ (65 ≤ bl (ls s) 0 ∧ bl (ls s) 0 ≤ 90)) := of_decide_eq_false hL
      clear hL
      go_enter Tryd.func105, Tryd.ntmps105
      go_wp2_with fail
      all_goals
        refine (rparts_dot s _ hs).mono ?_
        rintro e w1 ⟨v, rfl, hown, hw1⟩
        have hln := Lib.hid (map_len (l := partsR 46 (ls s)))
        obtain ⟨A, cp, hv, hcell⟩ := (OwnS.reads hown).cellAt
        rw [hln.out] at hv hcell
        subst hv
        have Hcell := Lib.hid hcell; clear hcell
        have hpn : (partsR 46 (ls s)).length ≤ s.size + 1 := by have := H1.out; have := hll.out; omega
        go_wp2_with fail
        go_loop [4] (fun i => ∃ k : Nat, k ≤ (partsR 46 (ls s)).length ∧ i = .int .i64 k ∧ Hid (((partsR 46 (ls s)).take k).all numberP = true)) (fun i => (partsR 46 (ls s)).length - (intOf i).toNat)
        case atStart => exact ⟨0, Nat.zero_le _, rfl, Lib.hid rfl⟩
        case round =>
          obtain ⟨k, hk, rfl, hall⟩ := hrel
          by_cases hlt : k < (partsR 46 (ls s)).length
          · obtain ⟨b, off, rfl, hc⟩ := Hcell.out k hlt
            rw [getD_map_mk _ _ hlt] at hc
            have Hst := Lib.hid (allL_take numberP [] (partsR 46 (ls s)) k hlt)
            have Hno := Lib.hid (allL_no numberP [] (partsR 46 (ls s)) k hlt)
            obtain ⟨p, hp⟩ : ∃ p, (partsR 46 (ls s)).getD k [] = p := ⟨_, rfl⟩
            rw [hp] at hc
            have Hp := Lib.hid hp
            have hpl : p.length ≤ s.size := by
              have h1 := part_len 46 (ls s) p (by rw [← hp, List.getD_eq_getElem?_getD, List.getElem?_eq_getElem hlt]; simp)
              have := hll.out; omega
            clear hp
            cases hn : numberP p
            all_goals
              have HN := Lib.hid hn
              go_wp2_with (go_at_call 129; refine (rnumber_any (mk p) _ (by rw [mk_size]; omega)).mono ?_; rintro e w' ⟨rfl, rfl⟩; rw [ls_mk, HN.out])
            · go_ret
              exact ⟨ret_bool (by unfold rtypeOk; rw [He.out, HL.out, Hno.out (by rw [Hp.out]; exact HN.out)]; rfl), hw1⟩
            · go_round
              case rel => exact ⟨k + 1, by omega, by go_num, Lib.hid (by rw [Hst.out, hall.out, Hp.out, HN.out]; rfl)⟩
              case measure => simp [intOf]; omega
          · obtain rfl : k = (partsR 46 (ls s)).length := by omega
            have h1 := hall.out
            rw [List.take_of_length_le (Nat.le_refl _)] at h1
            have HA := Lib.hid h1; clear h1
            go_wp2
            go_ret
            refine ⟨ret_bool ?_, hw1⟩
            unfold rtypeOk
            rw [He.out, HL.out, HA.out]
            simp
            omega
    · have HL := Lib.hid hL
      have hL' : ((97 ≤ bl (ls s) 0 ∧ bl (ls s) 0 ≤ 122) ∨ (65 ≤ bl (ls s) 0 ∧ bl (ls s) 0 ≤ 90)) := of_decide_eq_true hL
      clear hL
      rcases hL' with hL' | hL'
      all_goals
        go_enter Tryd.func105, Tryd.ntmps105
        go_wp2_with (go_at_call 127; refine (rkeys_any s _ (by omega)).mono ?_; rintro e w' ⟨rfl, rfl⟩)
        go_ret
        exact ⟨ret_bool (by unfold rtypeOk; rw [He.out, HL.out]; rfl), Below.refl _ _⟩
end Go.Proofs.YtdpknokginnmjaaDoor
