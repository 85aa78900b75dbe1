/- dn.each with dn.Print's closure; dn.Print. -/
import Derived.Test.YtdpknokginnmjaaDoorPl
import Derived.Test.YtdpknokginnmjaaDoorD3
set_option linter.unusedVariables false
set_option linter.unusedSimpArgs false
namespace Go.Proofs.YtdpknokginnmjaaDoor
open Go.RowKit
theorem HasParts.below {w w' : World} {B b : Nat} {L : List ByteArray} (h : HasParts w B b L) (hb : Below w.heap.size w w') : HasParts w' B b L := by
  obtain ⟨h1, h2, v, h3, h4⟩ := h
  exact ⟨h1, Nat.le_trans h2 hb.size, v, by rw [hb.block b (by omega)]; exact h3, OwnR.below h4 hb⟩
set_option maxRecDepth 100000 in
set_option maxHeartbeats 3200000 in
theorem each_print (d : DnP) (v : Value) (w0 w : World) (E : Nat → Addr) (hd : IsDn w0 v d) (hs : bulkD d ≤ 1048576) (hE : Errs4 w0 E) (h0 : Below w0.heap.size w0 w) (hp : HasParts w (w0.heap.size + 1) w0.heap.size []) :
    Calls Tryd.prog 28 #[v, .func (.func 29) #[] #[.pointer (some ⟨w0.heap.size, 0, none⟩)]] w fun e w' => ∃ ev, e = .returned ev ∧ Below w0.heap.size w0 w' ∧ w.heap.size ≤ w'.heap.size ∧
      ((nameP d).1 = 0 → ev = .nilIface ∧ HasParts w' (w0.heap.size + 1) w0.heap.size (d.map rdnB)) ∧ ((nameP d).1 ≠ 0 → IsRef w' w0.heap.size ev (E ((nameP d).1.toNat - 50)) (nameP d).2) := by
  have hbl := bulkD_len d
  have HE := Lib.hid hE
  obtain ⟨A, cp, rfl, hcell⟩ := hd.cellAt
  have Hcell := Lib.hid hcell; clear hcell hd
  have hc8 := hE.c8
  clear hE
  have HB0 := Lib.hid h0
  have HP0 := Lib.hid hp
  clear h0 hp
  go_enter Tryd.func28, Tryd.ntmps28
  go_wp2
  go_loopw [11] (fun i wr => ∃ (k : Nat), k ≤ d.length ∧ k ≤ 64 ∧ i = .int .i64 k ∧ Hid (nameP d = nameGo k (d.drop k)) ∧ Hid (HasParts wr (w0.heap.size + 1) w0.heap.size ((d.take k).map rdnB)) ∧ BB (w0.heap.size + 1) w0.heap.size w wr) (fun i _ => d.length - (intOf i).toNat)
  case atStart => exact ⟨0, Nat.zero_le _, by omega, rfl, Lib.hid rfl, HP0, BB.refl _ _ _⟩
  case round =>
    obtain ⟨k, hk, hk64, rfl, hgo, hpa, hbb⟩ := hrel
    have hbw := HB0.out.trans (hbb.below (Nat.lt_succ_self _))
    by_cases hlt : k < d.length
    · have Hat := Lib.hid (nameGo_at d k hlt)
      have hbk := bulkD_at d k hlt
      have Hnx : Hid ((d.take (k + 1)).map rdnB = (d.take k).map rdnB ++ [rdnB (d.getD k [])]) := Lib.hid (by
        rw [List.take_succ_eq_append_getElem hlt, List.map_append]; simp [List.getD_eq_getElem?_getD, List.getElem?_eq_getElem hlt])
      obtain ⟨b, off, u, rfl, hc, hru⟩ := Hcell.out k hlt
      have HR := Lib.hid hru
      have hd1 := bkeep hbw hc
      have hw8 := bkeep hbw hc8
      clear hc hru
      obtain ⟨q, hq⟩ : ∃ q, d.getD k [] = q := ⟨_, rfl⟩
      rw [hq] at Hat hbk Hnx HR
      clear hq
      obtain ⟨S, hS⟩ : ∃ S, (d.take k).map rdnB = S := ⟨_, rfl⟩
      have hSl : S.length = k := by rw [← hS]; simp; omega
      rw [hS] at Hnx hpa
      have HSl := Lib.hid hSl
      clear hS hSl
      have hzz := hbb.size
      by_cases h64 : 64 ≤ k
      · obtain rfl : k = 64 := by omega
        have hN : nameP d = (58, 64) := by rw [hgo.out, Hat.out, if_pos rfl]
        have HN := Lib.hid hN
        clear hN
        go_wp2_with fail
        go_ret
        refine ⟨_, rfl, hbw.alloc hbw.size _, by simp; omega, fun h => absurd h (by rw [HN.out]; decide), fun _ => ⟨_, rfl, hbw.size, ?_⟩⟩
        rw [HN.out]
        exact heap_alloc_new _ _
      · by_cases hq0 : wrongP q = 0
        · have HQ := Lib.hid hq0
          clear hq0
          go_wp2_with (first
            | (go_at_call 49; refine (sound_any q k u _ E (HR.out.below hbw) (by omega) (HE.out.below hbw)).mono ?_; rintro e w1 ⟨a, eb, rfl, hw1, hz, _⟩; obtain ⟨rfl, _⟩ := hz HQ.out; have hbw1 := hbw.trans (hw1.mono hbw.size); have hpa1 := hpa.out.below hw1; have hbb1 := hbb.trans (BB.of_below hw1 (by have := hpa.out.2.1; omega)))
            | (go_at_call 29; refine (clo_any q u a _ _ _ _ (HR.out.below hbw1) (by omega) hpa1 (by have := HSl.out; omega)).mono ?_; rintro e w2 ⟨rfl, hpa2, hbb2⟩))
          go_roundw
          case rel =>
            have h1 := hgo.out
            rw [Hat.out, if_neg (by omega), if_pos HQ.out] at h1
            exact ⟨k + 1, by omega, by omega, by go_num, Lib.hid h1, Lib.hid (by rw [Hnx.out]; exact hpa2), hbb1.trans hbb2⟩
          case measure => simp [intOf]; omega
        · have HQ := Lib.hid hq0
          clear hq0
          have hN : nameP d = (wrongP q, (k : Int)) := by rw [hgo.out, Hat.out, if_neg (by omega), if_neg HQ.out]
          have HN := Lib.hid hN
          clear hN
          go_wp2_with (go_at_call 49; refine (sound_any q k u _ E (HR.out.below hbw) (by omega) (HE.out.below hbw)).mono ?_; rintro e w1 ⟨a, eb, rfl, hw1, _, hz⟩; obtain ⟨rfl, g, rfl, hg1, hg2⟩ := hz HQ.out; have hzw := hw1.size)
          go_ret
          refine ⟨_, rfl, hbw.trans (hw1.mono hbw.size), by omega, fun h => absurd h (by rw [HN.out]; exact HQ.out), fun _ => ⟨g, rfl, Nat.le_trans hbw.size hg1, ?_⟩⟩
          rw [HN.out]
          exact hg2
    · obtain rfl : k = d.length := by omega
      have hzz := hbb.size
      have h1 := hgo.out
      rw [List.drop_of_length_le (Nat.le_refl _)] at h1
      have H1 := Lib.hid h1
      clear h1
      have Ht : Hid ((d.take d.length) = d) := Lib.hid (List.take_of_length_le (Nat.le_refl _))
      go_wp2
      go_ret
      exact ⟨_, rfl, hbw, hzz, fun _ => ⟨rfl, by have := hpa.out; rw [Ht.out] at this; exact this⟩, fun h => absurd (by rw [H1.out]; rfl) h⟩
theorem rdns_text (d : DnP) : (d.map rdnB).map ls = d.map rdnT := by rw [List.map_map]; apply List.map_congr_left; intro x _; unfold Function.comp rdnB; rw [ls_mk]
set_option maxRecDepth 100000 in
set_option maxHeartbeats 3200000 in
theorem print_any (d : DnP) (v : Value) (w : World) (E : Nat → Addr) (hd : IsDn w v d) (hs : bulkD d ≤ 1048576) (hE : Errs4 w E) (hE0 : w.cell? ⟨0, 0, none⟩ = some (.iface 224 (.pointer (some (E 0))))) :
    Calls Tryd.prog 10 #[v] w fun e w' => ∃ ev, e = .returned (.tuple #[.string (printS d), ev]) ∧ Below w.heap.size w w' ∧
      (printE d = 0 → ev = .nilIface) ∧ (printE d ≠ 0 → IsRef w' w.heap.size ev (E ((printE d).toNat - 50)) (printA d)) := by
  have hbl := bulkD_len d
  have HE := Lib.hid hE
  have HD := Lib.hid hd
  obtain ⟨A, cp, rfl, hcell⟩ := hd.cellAt
  clear hcell hd hE
  have hpl := dnT_len d
  have HPL : Hid ((dnT d).length ≤ 140737488355328) := Lib.hid (by omega)
  clear hpl
  obtain ⟨n, hn⟩ : ∃ n, nameP d = n := ⟨_, rfl⟩
  have HN := Lib.hid hn; clear hn
  obtain ⟨T, hT⟩ : ∃ T, dnT d = T := ⟨_, rfl⟩
  have HT := Lib.hid hT; clear hT
  have hpt : HasParts (w.alloc (.cells #[.slice none 0 0] 42)) (w.heap.size + 1) w.heap.size [] := ⟨by omega, by simp, _, heap_alloc_new w _, OwnR.nil _ _⟩
  have HPT := Lib.hid hpt
  clear hpt
  by_cases h0 : n.1 = 0
  all_goals have H0 := Lib.hid h0
  · clear h0
    obtain ⟨X, hX⟩ : ∃ X, mk T = X := ⟨_, rfl⟩
    have hXs : X.size = T.length := by rw [← hX]; exact mk_size T
    have HX := Lib.hid hX
    have HXs := Lib.hid hXs
    clear hX hXs
    have HRT : Hid (mk (joinT 44 ((d.map rdnB).map ls)) = X) := Lib.hid (by rw [rdns_text, ← HX.out, ← HT.out]; rfl)
    have HJl : Hid ((joinT 44 ((d.map rdnB).map ls)).length ≤ 140737488355328) := Lib.hid (by rw [rdns_text]; exact HPL.out)
    by_cases h4 : X.size ≤ 4096
    all_goals
      have H4 := Lib.hid h4
      go_enter Tryd.func10, Tryd.ntmps10
      go_wp2_with (first
        | (go_at_call 28; refine (each_print d _ w _ E HD.out hs HE.out ((Below.refl _ w).alloc (Nat.le_refl _) _) HPT.out).mono ?_; rintro e w1 ⟨ev, rfl, hw1, hz1, hz, _⟩; obtain ⟨rfl, hpa⟩ := hz (by rw [HN.out]; exact H0.out); obtain ⟨_, hpz, pv, hpv, hpo⟩ := hpa; have HPO := Lib.hid hpo; clear hpo; have hpc := (Lib.cell_of_heap hpv 0).trans (rfl : _ = some pv))
        | (go_at_call 31; refine (join_any 44 _ _ _ _ HPO.out HJl.out (by simp; omega)).mono ?_; rw [HRT.out]; rintro e w2 ⟨rfl, hw2⟩; have hbw2 := hw1.trans (hw2.mono hw1.size); have hl0 := bkeep hbw2 hE0))
    · go_ret2
      have e1 : printE d = 0 := by unfold printE; rw [HN.out, if_pos H0.out, HT.out, if_pos (by have := H4.out; have := HXs.out; omega)]
      exact ⟨_, by rw [show printS d = X by unfold printS; rw [HN.out, HT.out, if_pos ⟨H0.out, by have := H4.out; have := HXs.out; omega⟩, HX.out]]; rfl, hbw2, fun _ => rfl, fun h => absurd e1 h⟩
    · go_region
      all_goals go_wp2
      all_goals
        go_ret2
        have e1 : printE d = 50 := by unfold printE; rw [HN.out, if_pos H0.out, HT.out, if_neg (by have := H4.out; have := HXs.out; omega)]
        have e2 : printA d = d.length := by unfold printA; rw [HN.out, if_pos H0.out, HT.out, if_neg (by have := H4.out; have := HXs.out; omega)]
        refine ⟨_, by rw [show printS d = ⟨#[]⟩ by unfold printS; rw [HN.out, HT.out, if_neg (fun h => by have := h.2; have := H4.out; have := HXs.out; omega)]]; rfl, by first | exact hbw2.alloc hbw2.size _ | exact (hbw2.drew).alloc hbw2.size _, fun h => absurd (e1.symm.trans h) (by decide), fun _ => ⟨_, rfl, hbw2.size, ?_⟩⟩
        rw [e1, e2]
        exact heap_alloc_new _ _
  · have hb0 : (n.1 == 0) = false := by rw [beq_eq_false_iff_ne]; exact h0
    clear h0
    go_enter Tryd.func10, Tryd.ntmps10
    go_wp2_with (go_at_call 28; refine (each_print d _ w _ E HD.out hs HE.out ((Below.refl _ w).alloc (Nat.le_refl _) _) HPT.out).mono ?_; rintro e w1 ⟨ev, rfl, hw1, hz1, _, hz⟩; obtain ⟨g, rfl, hg1, hg2⟩ := hz (by rw [HN.out]; exact H0.out))
    go_ret2
    have e1 : printE d = n.1 := by unfold printE; rw [HN.out, if_neg H0.out]
    have e2 : printA d = n.2 := by unfold printA; rw [HN.out, if_neg H0.out]
    refine ⟨_, by rw [show printS d = ⟨#[]⟩ by unfold printS; rw [HN.out, if_neg (fun h => H0.out h.1)]]; rfl, hw1, fun h => absurd (e1.symm.trans h) H0.out, fun _ => ⟨g, rfl, hg1, ?_⟩⟩
    rw [e1, e2, ← HN.out]
    exact hg2
end Go.Proofs.YtdpknokginnmjaaDoor
