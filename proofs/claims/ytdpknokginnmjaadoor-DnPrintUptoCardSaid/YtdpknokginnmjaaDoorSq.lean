/- The law's spared, at its own copy. -/
import Derived.Test.YtdpknokginnmjaaDoorSp
set_option linter.unusedVariables false
set_option linter.unusedSimpArgs false
namespace Go.Proofs.YtdpknokginnmjaaDoor
open Go.RowKit
theorem own_cell {α : Type} {enc : α → List Value} {e : TypeId} {size : Nat} {w : World} {B g n cap : Nat} {xs : List α} (h : OwnR enc e size w B (.slice (some ⟨g, 0, none⟩) n cap) xs) (j : Nat) (c : Value) (hj : (xs.flatMap enc)[j]? = some c) : w.cell? ⟨g, j, none⟩ = some c := by
  have := World.ownsRow.cells h (g := g) rfl j c hj
  have ha : (⟨g, 0, none⟩ : Addr).add j = ⟨g, j, none⟩ := by unfold Addr.add; split <;> simp_all
  rw [← ha]; exact this
theorem MkRdn.isRdn {w : World} {B : Nat} {u : Value} {r : RdnP} (h : MkRdn w B u r) : IsRdn w u r := by
  obtain ⟨g, cap, rfl, ho⟩ := h
  refine ⟨_, _, rfl, fun _ => ⟨g, 0, rfl, fun j hj => ?_⟩⟩
  obtain ⟨a1, a2⟩ := ava_at (r ++ [mark]) j (by simp; omega)
  have e : (r ++ [mark]).getD j ava0 = r.getD j ava0 := by rw [List.getD_eq_getElem?_getD, List.getElem?_append_left hj, ← List.getD_eq_getElem?_getD]
  rw [e] at a1 a2
  exact ⟨by rw [Nat.zero_add]; exact own_cell ho _ _ a1, by rw [Nat.zero_add]; exact own_cell ho _ _ a2⟩
theorem MkRdn.form {w : World} {B : Nat} {u : Value} {r : RdnP} (h : MkRdn w B u r) : ∃ g cap, u = .slice (some ⟨g, 0, none⟩) r.length cap ∧ r.length + 1 ≤ cap ∧ cap ≤ 9223372036854775807 ∧ w.cell? ⟨g, r.length * 2, none⟩ = some (.string spareS) := by
  obtain ⟨g, cap, rfl, ho⟩ := h
  obtain ⟨g', cap', cur', he', _, _, h1, h2⟩ := OwnA.form ho (by simp)
  simp only [Value.slice.injEq] at he'
  obtain ⟨_, _, rfl⟩ := he'
  refine ⟨g, cap, rfl, by simpa using h1, by unfold maxLen at h2; exact h2, ?_⟩
  obtain ⟨a1, _⟩ := ava_at (r ++ [mark]) r.length (by simp)
  have e : (r ++ [mark]).getD r.length ava0 = mark := by rw [List.getD_eq_getElem?_getD, List.getElem?_append_right (Nat.le_refl _)]; simp
  rw [e] at a1
  exact own_cell ho _ _ a1
theorem MkDn.form {w : World} {B : Nat} {v : Value} {d : DnP} (h : MkDn w B v d) : ∃ g cap gs, v = .slice (some ⟨g, 0, none⟩) d.length cap ∧ d.length + 1 ≤ cap ∧ cap ≤ 9223372036854775807 ∧ (∀ j, j < d.length → ∃ u, w.cell? ⟨g, j, none⟩ = some u ∧ MkRdn w B u (d.getD j [])) ∧ w.cell? ⟨g, d.length, none⟩ = some (.slice (some ⟨gs, 0, none⟩) 1 1) ∧ w.cell? ⟨gs, 0, none⟩ = some (.string spareS) := by
  obtain ⟨g, cap, us, gs, h1, h2, h3, h4, h5, h6, _, h8⟩ := h
  refine ⟨g, cap, gs, h1, h2, by unfold maxLen at h3; exact h3, fun j hj => ⟨us.getD j .nilIface, own_cell h5 j _ ?_, h6 j hj⟩, own_cell h5 _ _ ?_, by rw [Lib.cell_of_heap h8]; rfl⟩
  · rw [flat1]; simp only [List.map_append, List.map_cons, List.map_nil]
    rw [List.getElem?_append_left (by simp; omega)]
    simp [List.getD_eq_getElem?_getD, List.getElem?_eq_getElem (show j < us.length by omega)]
  · rw [flat1, ← h4]; simp
theorem MkDn.isDn {w : World} {B : Nat} {v : Value} {d : DnP} (h : MkDn w B v d) : IsDn w v d := by
  obtain ⟨g, cap, gs, h1, _, _, h4, _⟩ := h.form
  refine ⟨_, _, h1, fun _ => ⟨g, 0, rfl, fun j hj => ?_⟩⟩
  obtain ⟨u, hu, hm⟩ := h4 j hj
  exact ⟨u, by rw [Nat.zero_add]; exact hu, hm.isRdn⟩
set_option maxRecDepth 100000 in
set_option maxHeartbeats 3200000 in
theorem spared_any (d : DnP) (m v : Value) (w : World) (B : Nat) (hm : MkDn w B m d) (hd : IsDn w v d) (hs : bulkD d ≤ 1048576) :
    Calls Tryd.prog 13 #[m, v] w fun e w' => e = .returned (.bool true) ∧ ∃ n, w' = w.drewN n := by
  have hbl := bulkD_len d
  have HI := Lib.hid hm.isDn
  have HD := Lib.hid hd
  obtain ⟨g, cap, gs, rfl, hcap, hcap2, hpart, hlast, hmark⟩ := hm.form
  have HP := Lib.hid hpart
  obtain ⟨A, cp, rfl, _⟩ := hd.cellAt
  have HL := Lib.hid hlast
  have HK := Lib.hid hmark
  clear hpart hlast hmark hm hd
  go_enter Tryd.func13, Tryd.ntmps13
  go_wp2_with (go_at_call 17; refine (samedn_any d _ _ _ HI.out HD.out hs).mono ?_; rintro e w1 ⟨rfl, hw1⟩)
  go_loopw [5] (fun i wr => ∃ (k : Nat), k ≤ d.length ∧ i = .int .i64 k ∧ Hid (∃ n, wr = w.drewN n)) (fun i _ => d.length - (intOf i).toNat)
  case atStart => exact ⟨0, Nat.zero_le _, rfl, Lib.hid hw1⟩
  case round =>
    obtain ⟨k, hk, rfl, hw⟩ := hrel
    obtain ⟨n, hn⟩ := hw.out
    have hbw : Below w.heap.size w wr := by rw [hn]; exact below_drewN (Below.refl _ _) _
    by_cases hlt : k < d.length
    · have hbk := bulkD_at d k hlt
      have hrl := bulkR_len (d.getD k [])
      obtain ⟨u, hu, hmr⟩ := HP.out k hlt
      obtain ⟨r, hr⟩ : ∃ r, d.getD k [] = r := ⟨_, rfl⟩
      rw [hr] at hmr hbk hrl
      obtain ⟨g2, cap3, rfl, hcap3, hcap4, hc⟩ := hmr.form
      have e1 := bkeep hbw hu
      have e2 := bkeep hbw hc
      have HM := Lib.hid hn
      unfold spareS at e2
      clear hn hu hc hmr hr
      go_wp2_with fail
      go_quiet (fail)
      go_wp2
      go_roundw
      case rel => exact ⟨k + 1, by omega, by go_num, Lib.hid (by rw [HM.out]; exact ⟨_, World.drewN_drewN _ _ _⟩)⟩
      case measure => simp [intOf]; omega
    · obtain rfl : k = d.length := by omega
      have e1 := bkeep hbw HL.out
      have e2 := bkeep hbw HK.out
      unfold spareS at e2
      clear hn
      go_wp2
      go_ret
      exact ⟨rfl, hw.out⟩
end Go.Proofs.YtdpknokginnmjaaDoor
