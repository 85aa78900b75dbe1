/- The reference of the layer 'dn': wrong and name by walks. -/
import Derived.Test.YtdpknokginnmjaaDoorD1
set_option linter.unusedVariables false
set_option linter.unusedSimpArgs false
namespace Go.Proofs.YtdpknokginnmjaaDoor
open Go.RowKit
theorem ls_inj {a b : ByteArray} (h : ls a = ls b) : a = b := by rw [← mk_ls a, ← mk_ls b, h]
theorem beq_ls (a b : ByteArray) : (a.toList == b.toList) = (ls a == ls b) := by rw [toList_ls, toList_ls]
theorem anyL_take {α : Type} (f : α → Bool) (d : α) (l : List α) (k : Nat) (hk : k < l.length) : (l.take (k + 1)).any f = ((l.take k).any f || f (l.getD k d)) := by
  rw [List.take_succ_eq_append_getElem hk, List.any_append]; simp [List.getD_eq_getElem?_getD, List.getElem?_eq_getElem hk]
theorem anyL_yes {α : Type} (f : α → Bool) (d : α) (l : List α) (k : Nat) (hk : k < l.length) (h : f (l.getD k d) = true) : l.any f = true := by
  rw [List.any_eq_true]
  refine ⟨l.getD k d, ?_, h⟩
  rw [List.getD_eq_getElem?_getD, List.getElem?_eq_getElem hk]; simp
theorem wrongGo_at (seen : List ByteArray) (r : RdnP) (k : Nat) (hk : k < r.length) : wrongGo seen (r.drop k) = if typeOk (r.getD k ava0).1 = false then 59 else if seen.any (fun c => ls c == ls (canonP (r.getD k ava0).1)) then 57 else if utf8 (r.getD k ava0).2 = false then 51 else wrongGo (seen ++ [canonP (r.getD k ava0).1]) (r.drop (k + 1)) := by
  rw [List.drop_eq_getElem_cons hk]
  have e : r.getD k ava0 = r[k] := by simp [List.getD_eq_getElem?_getD, List.getElem?_eq_getElem hk]
  rw [e]; rfl
set_option maxRecDepth 100000 in
set_option maxHeartbeats 3200000 in
theorem wrong_any (r : RdnP) (v : Value) (w : World) (hr : IsRdn w v r) (hs : bulkR r ≤ 1048576) (hT : Utf8Tab w) :
    Calls Tryd.prog 55 #[v] w fun e w' => e = .returned (.int .i64 (wrongP r)) ∧ Below w.heap.size w w' := by
  have hbl := bulkR_len r
  have HT := Lib.hid hT
  have HR := Lib.hid hr
  obtain ⟨A, cp, rfl, hcell⟩ := hr.cellAt
  have Hcell := Lib.hid hcell; clear hcell hr
  by_cases h0 : r.length = 0
  · have H0 := Lib.hid h0
    go_enter Tryd.func55, Tryd.ntmps55
    go_wp2
    go_ret
    exact ⟨ret_int (by unfold wrongP; rw [if_pos H0.out]), Below.refl _ _⟩
  · have H0 := Lib.hid h0
    have hp : 0 < r.length := by omega
    have hb0 : ((r.length : Int) == 0) = false := by rw [beq_eq_false_iff_ne]; omega
    clear h0
    by_cases h8 : 8 < r.length
    · go_enter Tryd.func55, Tryd.ntmps55
      go_wp2
      go_ret
      exact ⟨ret_int (by unfold wrongP; rw [if_neg H0.out, if_pos h8]), Below.refl _ _⟩
    · have hW : wrongP r = wrongGo [] r := by unfold wrongP; rw [if_neg H0.out, if_neg h8]
      have HW := Lib.hid hW; clear hW
      go_enter Tryd.func55, Tryd.ntmps55
      go_wp2
      go_loopw [3, 4] (fun q i wr => ∃ (k : Nat) (seen : List ByteArray), k ≤ r.length ∧ i = .int .i64 k ∧ seen.length = k ∧ OwnS wr w.heap.size q seen ∧ Hid (wrongGo [] r = wrongGo seen (r.drop k)) ∧ Below w.heap.size w wr) (fun _ i _ => r.length - (intOf i).toNat)
      case atStart => exact ⟨0, [], Nat.zero_le _, rfl, rfl, OwnR.nil _ _, Lib.hid rfl, Below.refl _ _⟩
      case round =>
        obtain ⟨k, seen, hk, rfl, hsl, hown, hgo, hbw⟩ := hrel
        by_cases hlt : k < r.length
        · have Hat := Lib.hid (wrongGo_at seen r k hlt)
          have hbk := bulkR_at r k hlt
          obtain ⟨b, off, rfl, hc1, hc2⟩ := Hcell.out k hlt
          obtain ⟨t, u, htu⟩ : ∃ t u, r.getD k ava0 = (t, u) := ⟨_, _, rfl⟩
          rw [htu] at hc1 hc2 hbk
          have Htu := Lib.hid htu; clear htu
          simp only at hc1 hc2 hbk
          have hd1 := bkeep hbw hc1
          have HC2 := Lib.hid hc2
          clear hc1 hc2
          have Hsl := Lib.hid hsl; clear hsl
          cases hty : typeOk t
          · have HTY := Lib.hid hty; clear hty
            go_wp2_with (go_at_call 80; refine (rparse_no t _ (by omega) HTY.out).mono ?_; rintro e w1 ⟨n, rfl, hw1⟩)
            go_ret
            exact ⟨ret_int (by rw [HW.out, hgo.out, Hat.out, Htu.out, if_pos HTY.out]), hbw.trans (hw1.mono hbw.size)⟩
          · have HTY := Lib.hid hty; clear hty
            go_wp2_with (go_at_call 80; refine (rparse_ok t _ (by omega) HTY.out).mono ?_; rintro e w1 ⟨rfl, hw1⟩)
            have hown1 := hown.below hw1
            have hbw1 := hbw.trans (hw1.mono hbw.size)
            obtain ⟨A2, c2, hq, hcell2⟩ := (OwnS.reads hown1).cellAt
            rw [Hsl.out] at hq
            subst hq
            have Hcell2 := Lib.hid hcell2; clear hcell2
            go_loop [8] (fun j => ∃ i : Nat, i ≤ k ∧ j = .int .i64 i ∧ Hid ((seen.take i).any (fun c => ls c == ls (canonP t)) = false)) (fun j => k - (intOf j).toNat)
            case atStart => exact ⟨0, Nat.zero_le _, rfl, Lib.hid rfl⟩
            case round =>
              obtain ⟨i, hik, rfl, hno⟩ := hrel
              by_cases hil : i < k
              · obtain ⟨b2, off2, rfl, hc⟩ := Hcell2.out i (by have := Hsl.out; omega)
                obtain ⟨x, hx⟩ : ∃ x, seen.getD i ⟨#[]⟩ = x := ⟨_, rfl⟩
                rw [hx] at hc
                have Hx := Lib.hid hx; clear hx
                have hqe := beq_ls x (canonP t)
                have Hst := Lib.hid (anyL_take (fun c => ls c == ls (canonP t)) ⟨#[]⟩ seen i (by have := Hsl.out; omega))
                have Hye := Lib.hid (anyL_yes (fun c => ls c == ls (canonP t)) ⟨#[]⟩ seen i (by have := Hsl.out; omega))
                cases he : (ls x == ls (canonP t))
                all_goals
                  have HE := Lib.hid he
                  go_wp2_with fail
                · go_round
                  case rel => exact ⟨i + 1, by omega, by go_num, Lib.hid (by rw [Hst.out, hno.out, Hx.out]; exact HE.out)⟩
                  case measure => simp [intOf]; omega
                · go_ret
                  exact ⟨ret_int (by rw [HW.out, hgo.out, Hat.out, Htu.out]; rw [if_neg (by simp only; rw [HTY.out]; simp), if_pos (Hye.out (by rw [Hx.out]; exact HE.out))]), hbw1⟩
              · obtain rfl : i = k := by omega
                have h1 := hno.out
                rw [List.take_of_length_le (by have := Hsl.out; omega)] at h1
                have HN := Lib.hid h1; clear h1
                have HT1 : Hid (Utf8Tab w1) := Lib.hid (fun r hr j hj => bkeep hbw1 (HT.out r hr j hj))
                have hd2 := bkeep hbw1 HC2.out
                have hB1 := hbw1.size
                cases hu : utf8 u
                all_goals
                  have HU := Lib.hid hu; clear hu
                  have hce : chkE u = _ := (by first | exact chkE_ok HU.out | exact chkE_bad HU.out)
                  have HCE := Lib.hid hce; clear hce
                  go_wp2_with (first
                    | (at_builtin; refine app_str rfl (.tmp 45) (.tmp 47) rfl rfl (hown1.alloc _) (canonP t) w1.heap.size rfl ?_ (by have := Hsl.out; omega) (by simp; omega) ?_; rotate_right; intro v' w2 hown2 hg2; have hbw2 := OwnR.rowA hbw1 hown1 hg2; have hd3 := bkeep hbw2 HC2.out)
                    | (go_at_call 81; refine (rcheck_any u _ (by omega) (fun r hr j hj => bkeep hbw2 (HT.out r hr j hj))).mono ?_; rintro e w3 ⟨rfl, hw3⟩; rw [HCE.out]))
                · go_ret
                  exact ⟨ret_int (by rw [HW.out, hgo.out, Hat.out, Htu.out]; rw [if_neg (by simp only; rw [HTY.out]; simp), if_neg (by simp only; rw [HN.out]; simp), if_pos (by simp only; exact HU.out)]), hbw2.trans (hw3.mono hbw2.size)⟩
                · go_roundw
                  case rel =>
                    have h1 := hgo.out
                    rw [Hat.out, Htu.out, if_neg (by simp only; rw [HTY.out]; simp), if_neg (by simp only; rw [HN.out]; simp), if_neg (by simp only; rw [HU.out]; simp)] at h1
                    exact ⟨i + 1, seen ++ [canonP t], by omega, by go_num, by simp; exact Hsl.out, hown2.below hw3, Lib.hid h1, hbw2.trans (hw3.mono hbw2.size)⟩
                  case measure => simp [intOf]; omega
        · obtain rfl : k = r.length := by omega
          have h1 := hgo.out
          rw [List.drop_of_length_le (Nat.le_refl _)] at h1
          have H1 := Lib.hid h1; clear h1
          go_wp2
          go_ret
          exact ⟨ret_int (by rw [HW.out, H1.out]; rfl), hbw⟩
end Go.Proofs.YtdpknokginnmjaaDoor
