/- The law's sameRDN, sameDN, spared, at equal names. -/
import Derived.Test.YtdpknokginnmjaaDoorCp
set_option linter.unusedVariables false
set_option linter.unusedSimpArgs false
namespace Go.Proofs.YtdpknokginnmjaaDoor
open Go.RowKit
set_option maxRecDepth 100000 in
set_option maxHeartbeats 3200000 in
theorem samerdn_any (r : RdnP) (a b : Value) (w : World) (ha : IsRdn w a r) (hb : IsRdn w b r) (hs : r.length ≤ 1048576) :
    Calls Tryd.prog 38 #[a, b] w fun e w' => e = .returned (.bool true) ∧ ∃ m, w' = w.drewN m := by
  obtain ⟨A, cp, rfl, hcell⟩ := ha.cellAt
  obtain ⟨A2, cp2, rfl, hcell2⟩ := hb.cellAt
  have Hcell := Lib.hid hcell
  have Hcell2 := Lib.hid hcell2
  clear hcell hcell2 ha hb
  go_enter Tryd.func38, Tryd.ntmps38
  go_wp2
  go_loopw [5] (fun i wr => ∃ (k : Nat), k ≤ r.length ∧ i = .int .i64 k ∧ Hid (∃ m, wr = w.drewN m)) (fun i _ => r.length - (intOf i).toNat)
  case atStart => exact ⟨0, Nat.zero_le _, rfl, Lib.hid ⟨0, rfl⟩⟩
  case round =>
    obtain ⟨k, hk, rfl, hw⟩ := hrel
    by_cases hlt : k < r.length
    · obtain ⟨b, off, rfl, h1, h2⟩ := Hcell.out k hlt
      obtain ⟨b2, off2, rfl, h3, h4⟩ := Hcell2.out k hlt
      obtain ⟨t, u, htu⟩ : ∃ t u, r.getD k ava0 = (t, u) := ⟨_, _, rfl⟩
      rw [htu] at h1 h2 h3 h4
      simp only at h1 h2 h3 h4
      obtain ⟨m, hm⟩ := hw.out
      have hbw : Below w.heap.size w wr := by rw [hm]; exact below_drewN (Below.refl _ _) _
      have e1 := bkeep hbw h1
      have e2 := bkeep hbw h2
      have e3 := bkeep hbw h3
      have e4 := bkeep hbw h4
      have HM := Lib.hid hm
      clear hm h1 h2 h3 h4 hbw htu
      go_wp2_with fail
      go_quiet (fail)
      go_wp2
      go_roundw
      case rel => exact ⟨k + 1, by omega, by go_num, Lib.hid (by rw [HM.out]; exact ⟨_, World.drewN_drewN _ _ _⟩)⟩
      case measure => simp [intOf]; omega
    · go_wp2
      go_ret
      exact ⟨rfl, hw.out⟩
theorem samerdn_quiet (r : RdnP) (a b : Value) (w : World) (n : Nat) (ha : IsRdn w a r) (hb : IsRdn w b r) (hs : r.length ≤ 1048576) :
    Calls Tryd.prog 38 #[a, b] (w.drewN n) fun e w' => e = .returned (.bool true) ∧ ∃ m, w' = w.drewN m := by
  refine (samerdn_any r a b (w.drewN n) (ha.below (below_drewN (Below.refl _ _) _)) (hb.below (below_drewN (Below.refl _ _) _)) hs).mono ?_
  rintro e w' ⟨rfl, m, rfl⟩
  exact ⟨rfl, _, World.drewN_drewN _ _ _⟩
set_option maxRecDepth 100000 in
set_option maxHeartbeats 3200000 in
theorem samedn_any (d : DnP) (a b : Value) (w : World) (ha : IsDn w a d) (hb : IsDn w b d) (hs : bulkD d ≤ 1048576) :
    Calls Tryd.prog 17 #[a, b] w fun e w' => e = .returned (.bool true) ∧ ∃ m, w' = w.drewN m := by
  have hbl := bulkD_len d
  obtain ⟨A, cp, rfl, hcell⟩ := ha.cellAt
  obtain ⟨A2, cp2, rfl, hcell2⟩ := hb.cellAt
  have Hcell := Lib.hid hcell
  have Hcell2 := Lib.hid hcell2
  clear hcell hcell2 ha hb
  go_enter Tryd.func17, Tryd.ntmps17
  go_wp2
  go_loopw [5] (fun i wr => ∃ (k : Nat), k ≤ d.length ∧ i = .int .i64 k ∧ Hid (∃ m, wr = w.drewN m)) (fun i _ => d.length - (intOf i).toNat)
  case atStart => exact ⟨0, Nat.zero_le _, rfl, Lib.hid ⟨0, rfl⟩⟩
  case round =>
    obtain ⟨k, hk, rfl, hw⟩ := hrel
    by_cases hlt : k < d.length
    · have hbk := bulkD_at d k hlt
      have hrl := bulkR_len (d.getD k [])
      obtain ⟨b, off, u, rfl, h1, h2⟩ := Hcell.out k hlt
      obtain ⟨b2, off2, u2, rfl, h3, h4⟩ := Hcell2.out k hlt
      obtain ⟨r, hr⟩ : ∃ r, d.getD k [] = r := ⟨_, rfl⟩
      rw [hr] at h2 h4 hbk hrl
      obtain ⟨m, hm⟩ := hw.out
      have hbw : Below w.heap.size w wr := by rw [hm]; exact below_drewN (Below.refl _ _) _
      have e1 := bkeep hbw h1
      have e3 := bkeep hbw h3
      have HR := Lib.hid (h2.below hbw)
      have HR2 := Lib.hid (h4.below hbw)
      have HM := Lib.hid hm
      obtain ⟨A3, c3, rfl, _⟩ := h2.cellAt
      obtain ⟨A4, c4, rfl, _⟩ := h4.cellAt
      clear hm h1 h2 h3 h4 hbw hr
      go_wp2_with fail
      go_quiet ((go_at_call 38; exact samerdn_quiet r _ _ _ _ HR.out HR2.out (by omega)))
      go_wp2
      go_roundw
      case rel => exact ⟨k + 1, by omega, by go_num, Lib.hid (by rw [HM.out]; exact ⟨_, World.drewN_drewN _ _ _⟩)⟩
      case measure => simp [intOf]; omega
    · go_wp2
      go_ret
      exact ⟨rfl, hw.out⟩
end Go.Proofs.YtdpknokginnmjaaDoor
