/- The law DnPrint by a walk. -/
import Derived.Test.YtdpknokginnmjaaDoorSq
import Derived.Test.YtdpknokginnmjaaDoorPe
import Derived.Test.YtdpknokginnmjaaDoorFa
set_option linter.unusedVariables false
set_option linter.unusedSimpArgs false
namespace Go.Proofs.YtdpknokginnmjaaDoor
open Go.RowKit
theorem wrongGo_code (seen : List ByteArray) (r : RdnP) : wrongGo seen r = 0 ∨ wrongGo seen r = 51 ∨ wrongGo seen r = 57 ∨ wrongGo seen r = 59 := by
  induction r generalizing seen with
  | nil => exact .inl rfl
  | cons x t ih =>
    unfold wrongGo
    by_cases h1 : typeOk x.1 = false
    · rw [if_pos h1]; simp
    · rw [if_neg h1]
      by_cases h2 : seen.any (fun c => ls c == ls (canonP x.1)) = true
      · rw [if_pos h2]; simp
      · rw [if_neg h2]
        by_cases h3 : utf8 x.2 = false
        · rw [if_pos h3]; simp
        · rw [if_neg h3]; exact ih _
theorem wrongP_code (r : RdnP) : wrongP r = 0 ∨ wrongP r = 51 ∨ wrongP r = 57 ∨ wrongP r = 58 ∨ wrongP r = 59 := by
  unfold wrongP
  by_cases h0 : r.length = 0
  · rw [if_pos h0]; simp
  · rw [if_neg h0]
    by_cases h8 : 8 < r.length
    · rw [if_pos h8]; simp
    · rw [if_neg h8]; have := wrongGo_code [] r; omega
theorem nameGo_code (k : Nat) (d : DnP) : (nameGo k d).1 = 0 ∨ (nameGo k d).1 = 51 ∨ (nameGo k d).1 = 57 ∨ (nameGo k d).1 = 58 ∨ (nameGo k d).1 = 59 := by
  induction d generalizing k with
  | nil => exact .inl rfl
  | cons r t ih =>
    unfold nameGo
    by_cases h1 : k = 64
    · rw [if_pos h1]; simp
    · rw [if_neg h1]
      by_cases h2 : wrongP r = 0
      · rw [if_pos h2]; exact ih _
      · rw [if_neg h2]; exact wrongP_code r
theorem printE_code (d : DnP) : printE d = 0 ∨ ∃ k : Nat, k < 10 ∧ printE d = 50 + k := by
  have h := nameGo_code 0 d
  unfold printE
  show _ ∨ _
  by_cases h0 : (nameP d).1 = 0
  · rw [if_pos h0]
    by_cases h1 : (dnT d).length ≤ 4096
    · rw [if_pos h1]; exact .inl rfl
    · rw [if_neg h1]; exact .inr ⟨0, by omega, rfl⟩
  · rw [if_neg h0]
    unfold nameP at h0 ⊢
    rcases h with h | h | h | h | h
    · exact absurd h h0
    · exact .inr ⟨1, by omega, by rw [h]; rfl⟩
    · exact .inr ⟨7, by omega, by rw [h]; rfl⟩
    · exact .inr ⟨8, by omega, by rw [h]; rfl⟩
    · exact .inr ⟨9, by omega, by rw [h]; rfl⟩
set_option maxRecDepth 100000 in
set_option maxHeartbeats 3200000 in
theorem dnprint_any (d : DnP) (v : Value) (w : World) (E : Nat → Addr) (hd : IsDn w v d) (hs : bulkD d ≤ 1048576) (hE : Errs w E) (hT : HasType w) (hU : Utf8Tab w) :
    Calls Tryd.prog 3 #[v] w fun e w' => e = .returned (.bool true) ∧ Below w.heap.size w w' := by
  have HE := Lib.hid hE
  have HT := Lib.hid hT
  have HU := Lib.hid hU
  have HD := Lib.hid hd
  obtain ⟨A, cp, rfl, _⟩ := hd.cellAt
  clear hE hT hU hd
  have hcode := printE_code d
  obtain ⟨n, hn⟩ : ∃ n, printE d = n := ⟨_, rfl⟩
  rw [hn] at hcode
  have HN := Lib.hid hn
  obtain ⟨p, hp⟩ : ∃ p, printA d = p := ⟨_, rfl⟩
  have HPA := Lib.hid hp
  obtain ⟨X, hX⟩ : ∃ X, printS d = X := ⟨_, rfl⟩
  have HX := Lib.hid hX
  clear hn hp hX
  rcases hcode with rfl | ⟨k, hk, rfl⟩
  · go_enter Tryd.func3, Tryd.ntmps3
    go_wp2_with (first
      | (go_at_call 9; refine (copy_any d _ _ HD.out hs).mono ?_; rintro e w1 ⟨m, rfl, hmk, hw1⟩)
      | (go_at_call 10; refine (print_any d m _ E hmk.isDn hs (HE.out.below hw1).four (HE.out.below hw1).g0).mono ?_; rw [HN.out, HX.out]; rintro e w2 ⟨ev, rfl, hw2, hz, _⟩; obtain rfl := hz rfl; have hb2 := hw1.trans (hw2.mono hw1.size); have hmk2 := hmk.below hw2)
      | (go_at_call 11; refine (rprint_any d _ _ (HD.out.below hb2) hs (fun r hr j hj => bkeep hb2 (HU.out r hr j hj))).mono ?_; rw [HN.out, HPA.out, HX.out]; rintro e w3 ⟨rfl, hw3⟩; have hb3 := hb2.trans (hw3.mono hb2.size); have hmk3 := hmk2.below hw3)
      | (go_at_call 12; refine (lawfault_ok p _).mono ?_; rintro e w4 ⟨rfl, hw4⟩; have hb4 := hb3.trans (hw4.mono hb3.size); have hmk4 := hmk3.below hw4)
      | (go_at_call 13; refine (spared_any d m _ _ _ hmk4 (HD.out.below hb4) hs).mono ?_; rintro e w5 ⟨rfl, n5, rfl⟩))
    go_ret
    exact ⟨rfl, below_drewN hb4 _⟩
  · have hb0 : ((50 + (k : Int)) == 0) = false := by rw [beq_eq_false_iff_ne]; omega
    go_enter Tryd.func3, Tryd.ntmps3
    go_wp2_with (first
      | (go_at_call 9; refine (copy_any d _ _ HD.out hs).mono ?_; rintro e w1 ⟨m, rfl, hmk, hw1⟩)
      | (go_at_call 10; refine (print_any d m _ E hmk.isDn hs (HE.out.below hw1).four (HE.out.below hw1).g0).mono ?_; rw [HN.out, HX.out, HPA.out]; rintro e w2 ⟨ev, rfl, hw2, _, hz⟩; obtain ⟨g, rfl, hg1, hg2⟩ := hz (by omega); have hb2 := hw1.trans (hw2.mono hw1.size); have hmk2 := hmk.below hw2; rw [show ((50 + (k : Int)).toNat - 50) = k by omega] at hg2)
      | (go_at_call 11; refine (rprint_any d _ _ (HD.out.below hb2) hs (fun r hr j hj => bkeep hb2 (HU.out r hr j hj))).mono ?_; rw [HN.out, HPA.out, HX.out]; rintro e w3 ⟨rfl, hw3⟩; have hb3 := hb2.trans (hw3.mono hb2.size); have hmk3 := hmk2.below hw3; have hg3 := (hw3.block g (lt_of_heap hg2)).trans hg2)
      | (go_at_call 12; refine (lawfault_bad E k hk p g _ (HE.out.below hb3) (HT.out.below hb3) hg3).mono ?_; rintro e w4 ⟨rfl, hw4⟩; have hb4 := hb3.trans (hw4.mono hb3.size); have hmk4 := hmk3.below hw4)
      | (go_at_call 13; refine (spared_any d m _ _ _ hmk4 (HD.out.below hb4) hs).mono ?_; rintro e w5 ⟨rfl, n5, rfl⟩))
    go_ret
    exact ⟨rfl, below_drewN hb4 _⟩
end Go.Proofs.YtdpknokginnmjaaDoor
