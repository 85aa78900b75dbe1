/- The reference of the layer 'dn': name and Print by walks. -/
import Derived.Test.YtdpknokginnmjaaDoorD1
import Derived.Test.YtdpknokginnmjaaDoorD2
set_option linter.unusedVariables false
set_option linter.unusedSimpArgs false
namespace Go.Proofs.YtdpknokginnmjaaDoor
open Go.RowKit
theorem nameGo_at (d : DnP) (k : Nat) (hk : k < d.length) : nameGo k (d.drop k) = if k = 64 then (58, 64) else if wrongP (d.getD k []) = 0 then nameGo (k + 1) (d.drop (k + 1)) else (wrongP (d.getD k []), (k : Int)) := by
  rw [List.drop_eq_getElem_cons hk]
  have e : d.getD k [] = d[k] := by simp [List.getD_eq_getElem?_getD, List.getElem?_eq_getElem hk]
  rw [e]; rfl
set_option maxRecDepth 100000 in
set_option maxHeartbeats 3200000 in
theorem name_any (d : DnP) (v : Value) (w : World) (hd : IsDn w v d) (hs : bulkD d ≤ 1048576) (hT : Utf8Tab w) :
    Calls Tryd.prog 32 #[v] w fun e w' => e = .returned (.tuple #[.int .i64 (nameP d).1, .int .i64 (nameP d).2]) ∧ Below w.heap.size w w' := by
  have hbl := bulkD_len d
  have HT := Lib.hid hT
  obtain ⟨A, cp, rfl, hcell⟩ := hd.cellAt
  have Hcell := Lib.hid hcell; clear hcell hd
  go_enter Tryd.func32, Tryd.ntmps32
  go_wp2
  go_loopw [4] (fun i wr => ∃ (k : Nat), k ≤ d.length ∧ i = .int .i64 k ∧ Hid (nameP d = nameGo k (d.drop k)) ∧ Below w.heap.size w wr) (fun i _ => d.length - (intOf i).toNat)
  case atStart => exact ⟨0, Nat.zero_le _, rfl, Lib.hid rfl, Below.refl _ _⟩
  case round =>
    obtain ⟨k, hk, rfl, hgo, hbw⟩ := hrel
    by_cases hlt : k < d.length
    · have Hat := Lib.hid (nameGo_at d k hlt)
      have hbk := bulkD_at d k hlt
      obtain ⟨b, off, u, rfl, hc, hru⟩ := Hcell.out k hlt
      have HR := Lib.hid hru
      have hd1 := bkeep hbw hc
      clear hc hru
      obtain ⟨q, hq⟩ : ∃ q, wrongP (d.getD k []) = q := ⟨_, rfl⟩
      have HQ := Lib.hid hq
      rw [hq] at Hat
      clear hq
      by_cases h64 : k = 64
      · have H64 := Lib.hid h64
        have hb64 : ((k : Int) == 64) = true := by rw [beq_iff_eq]; omega
        clear h64
        go_wp2_with fail
        go_ret2
        exact ⟨ret_ints (by rw [hgo.out, Hat.out, if_pos H64.out]) (by rw [hgo.out, Hat.out, if_pos H64.out]; have := H64.out; simp; omega), hbw⟩
      · have H64 := Lib.hid h64
        have hb64 : ((k : Int) == 64) = false := by rw [beq_eq_false_iff_ne]; omega
        clear h64
        by_cases h0 : q = 0
        all_goals
          have H0 := Lib.hid h0
        · clear h0
          go_wp2_with (go_at_call 55; refine (wrong_any (d.getD k []) u _ (HR.out.below hbw) (by omega) (fun r hr j hj => bkeep hbw (HT.out r hr j hj))).mono ?_; rintro e w1 ⟨rfl, hw1⟩; rw [HQ.out, H0.out])
          go_roundw
          case rel =>
            have h1 := hgo.out
            rw [Hat.out, if_neg H64.out, if_pos H0.out] at h1
            exact ⟨k + 1, by omega, by go_num, Lib.hid h1, hbw.trans (hw1.mono hbw.size)⟩
          case measure => simp [intOf]; omega
        · have hb0 : (q == 0) = false := by rw [beq_eq_false_iff_ne]; exact h0
          clear h0
          go_wp2_with (go_at_call 55; refine (wrong_any (d.getD k []) u _ (HR.out.below hbw) (by omega) (fun r hr j hj => bkeep hbw (HT.out r hr j hj))).mono ?_; rintro e w1 ⟨rfl, hw1⟩; rw [HQ.out])
          go_ret2
          exact ⟨ret_ints (by rw [hgo.out, Hat.out, if_neg H64.out, if_neg H0.out]) (by rw [hgo.out, Hat.out, if_neg H64.out, if_neg H0.out]), hbw.trans (hw1.mono hbw.size)⟩
    · obtain rfl : k = d.length := by omega
      have h1 := hgo.out
      rw [List.drop_of_length_le (Nat.le_refl _)] at h1
      have H1 := Lib.hid h1; clear h1
      go_wp2
      go_ret2
      exact ⟨ret_ints (by rw [H1.out]; rfl) (by rw [H1.out]; rfl), hbw⟩
def sepC (c : UInt8) (k : Nat) : List UInt8 := if k = 0 then [] else [c]
theorem dnT_step (d : DnP) (k : Nat) (hk : k < d.length) : dnT (d.take (k + 1)) = dnT (d.take k) ++ sepC 44 k ++ rdnT (d.getD k []) := by
  have e : d.getD k [] = d[k] := by simp [List.getD_eq_getElem?_getD, List.getElem?_eq_getElem hk]
  rw [List.take_succ_eq_append_getElem hk, e]
  unfold dnT sepC
  rw [List.map_append]
  cases k with
  | zero => simp [joinT]
  | succ k =>
    rw [List.map_cons, List.map_nil, joinT_snoc]
    · simp
    · intro h; have := congrArg List.length h; rw [List.length_map, List.length_take] at this; change min (k + 1) _ = 0 at this; omega
theorem rdnT_step (d : RdnP) (k : Nat) (hk : k < d.length) : rdnT (d.take (k + 1)) = rdnT (d.take k) ++ sepC 43 k ++ pairT (d.getD k ava0) := by
  have e : d.getD k ava0 = d[k] := by simp [List.getD_eq_getElem?_getD, List.getElem?_eq_getElem hk]
  rw [List.take_succ_eq_append_getElem hk, e]
  unfold rdnT sepC
  rw [List.map_append]
  cases k with
  | zero => simp [joinT]
  | succ k =>
    rw [List.map_cons, List.map_nil, joinT_snoc]
    · simp
    · intro h; have := congrArg List.length h; rw [List.length_map, List.length_take] at this; change min (k + 1) _ = 0 at this; omega
theorem bulkD_take (d : DnP) (k : Nat) : bulkD (d.take k) ≤ bulkD d := by
  induction d generalizing k with
  | nil => simp
  | cons x t ih =>
    cases k with
    | zero => simp [bulkD]
    | succ k => have := ih k; rw [List.take_succ_cons, bulkD_cons, bulkD_cons]; omega
theorem bulkR_take (d : RdnP) (k : Nat) : bulkR (d.take k) ≤ bulkR d := by
  induction d generalizing k with
  | nil => simp
  | cons x t ih =>
    cases k with
    | zero => simp [bulkR]
    | succ k => have := ih k; rw [List.take_succ_cons, bulkR_cons, bulkR_cons]; omega
set_option maxRecDepth 100000 in
set_option maxHeartbeats 6400000 in
theorem rprint_any (d : DnP) (v : Value) (w : World) (hd : IsDn w v d) (hs : bulkD d ≤ 1048576) (hT : Utf8Tab w) :
    Calls Tryd.prog 11 #[v] w fun e w' => e = .returned (.tuple #[.string (printS d), .int .i64 (printE d), .int .i64 (printA d)]) ∧ Below w.heap.size w w' := by
  have hbl := bulkD_len d
  have HT := Lib.hid hT
  have HD := Lib.hid hd
  obtain ⟨A, cp, rfl, hcell⟩ := hd.cellAt
  have Hcell := Lib.hid hcell; clear hcell hd
  obtain ⟨n, hn⟩ : ∃ n, nameP d = n := ⟨_, rfl⟩
  have HN := Lib.hid hn; clear hn
  by_cases h0 : n.1 = 0
  all_goals have H0 := Lib.hid h0
  · clear h0
    go_enter Tryd.func11, Tryd.ntmps11
    go_wp2_with (go_at_call 32; refine (name_any d _ _ HD.out (by omega) HT.out).mono ?_; rintro e w1 ⟨rfl, hw1⟩; rw [HN.out, H0.out])
    go_loopw [7, 8] (fun q i wr => ∃ (k : Nat) (L : List UInt8), k ≤ d.length ∧ i = .int .i64 k ∧ OwnB wr w.heap.size q L ∧ Hid (L = dnT (d.take k)) ∧ Below w.heap.size w wr) (fun _ i _ => d.length - (intOf i).toNat)
    case atStart => exact ⟨0, [], Nat.zero_le _, rfl, OwnR.nil _ _, Lib.hid rfl, hw1⟩
    case round =>
      obtain ⟨k, L, hk, rfl, hown, hL, hbw⟩ := hrel
      by_cases hlt : k < d.length
      · have Hst := Lib.hid (dnT_step d k hlt)
        have hbk := bulkD_at d k hlt
        have HLl : Hid (L.length ≤ 3145728) := Lib.hid (by have := dnT_len (d.take k); have := bulkD_take d k; rw [hL.out]; omega)
        obtain ⟨b, off, u, rfl, hc, hru⟩ := Hcell.out k hlt
        obtain ⟨r, hr⟩ : ∃ r, d.getD k [] = r := ⟨_, rfl⟩
        rw [hr] at hbk hru Hst
        clear hr
        obtain ⟨A2, c2, rfl, hrc⟩ := hru.cellAt
        have Hrc := Lib.hid hrc
        have hd1 := bkeep hbw hc
        have HC := Lib.hid hc
        have hrl := bulkR_len r
        clear hc hru hrc
        by_cases h00 : k = 0
        all_goals have H00 := Lib.hid h00
        · have hk0 : ¬ 0 < k := by omega
          clear h00
          obtain ⟨L1, hL1⟩ : ∃ L1, L1 = L := ⟨_, rfl⟩
          have HL1 : Hid (L1 = dnT (d.take k) ++ sepC 44 k) := Lib.hid (by unfold sepC; rw [if_pos H00.out, List.append_nil, hL1, hL.out])
          have HLL : Hid (L1.length ≤ 3145729) := Lib.hid (by have := HLl.out; rw [hL1]; omega)
          rw [← hL1] at hown
          clear hL1
          go_wp2_with fail
          have hown1 := hown
          have hbw1 := hbw
          go_loopw [7, 9] (fun q j wr2 => ∃ (i : Nat) (M : List UInt8), i ≤ r.length ∧ j = .int .i64 i ∧ OwnB wr2 w.heap.size q (L1 ++ M) ∧ Hid (M = rdnT (r.take i)) ∧ Below w.heap.size w wr2) (fun _ j _ => r.length - (intOf j).toNat)
          case atStart => exact ⟨0, [], Nat.zero_le _, rfl, by rw [List.append_nil]; exact hown1, Lib.hid rfl, hbw1⟩
          case round =>
           obtain ⟨i, M, hi, rfl, hown2, hM, hbw2⟩ := hrel
           have hc0 := bkeep hbw2 HC.out
           by_cases hil : i < r.length
           · have Hst2 := Lib.hid (rdnT_step r i hil)
             have hbk2 := bulkR_at r i hil
             have HMl : Hid (M.length ≤ 3145728) := Lib.hid (by have := rdnT_len (r.take i); have := bulkR_take r i; rw [hM.out]; omega)
             obtain ⟨b2, off2, rfl, h1, h2⟩ := Hrc.out i hil
             obtain ⟨t, u, htu⟩ : ∃ t u, r.getD i ava0 = (t, u) := ⟨_, _, rfl⟩
             rw [htu] at h1 h2 hbk2 Hst2
             simp only at h1 h2 hbk2
             have K1 := Lib.hid h1
             have K2 := Lib.hid h2
             clear htu h1 h2
             have hc2 := bkeep hbw2 K2.out
             have hes := escP_size u
             have HPT : Hid (pairT (t, u) = ls t ++ [61] ++ ls (escP u)) := Lib.hid (by unfold pairT escP; rw [ls_mk])
             by_cases hi0 : i = 0
             · have HI : Hid (sepC 43 i = []) := Lib.hid (by unfold sepC; rw [if_pos hi0])
               have hpos : ¬ 0 < i := by omega
               clear hi0
               go_wp2_with (first
             | (at_builtin; refine app_byte rfl (.tmp 42) (.tmp 43) rfl rfl (hown2.alloc _) 43 _ rfl ?_ (by have := HLL.out; have := HMl.out; simp; omega) (by have := hbw2.size; simp; omega) ?_; rotate_right; intro v' w3 hown3 hg3; have hbw3 := OwnR.rowA hbw2 hown2 hg3; have hc3 := bkeep hbw3 HC.out; have hc4 := bkeep hbw3 K2.out)
             | (go_at_call 33; refine (rescape_any u _ (by omega)).mono ?_; rintro e w4 ⟨rfl, hw4⟩; have hown4 := hown2.below hw4; have hbw4 := hbw2.trans (hw4.mono (hbw2).size); have hc5 := bkeep hbw4 HC.out; have hc6 := bkeep hbw4 K1.out)
             | (at_builtin; refine app_bstr rfl (.tmp 54) (.tmp 62) rfl rfl hown4 t rfl (by have := HLL.out; have := HMl.out; simp; omega) hbw4.size ?_; intro v5 w5 hown5 hg5; have hbw5 := OwnR.row hbw4 hown4 hbw4.size hg5)
             | (at_builtin; refine app_byte rfl (.tmp 64) (.tmp 65) rfl rfl (hown5.alloc _) 61 w5.heap.size rfl ?_ (by have := HLL.out; have := HMl.out; simp [ls_length]; omega) (by have := hbw5.size; simp; omega) ?_; rotate_right; intro v6 w6 hown6 hg6; have hbw6 := OwnR.rowA hbw5 hown5 hg6)
             | (at_builtin; refine app_bstr rfl (.tmp 67) (.tmp 68) rfl rfl hown6 (escP u) rfl (by have := HLL.out; have := HMl.out; simp [ls_length]; omega) hbw6.size ?_; intro v7 w7 hown7 hg7; have hbw7 := OwnR.row hbw6 hown6 hbw6.size hg7))
               · go_roundw
                 case rel =>
                   refine ⟨i + 1, M ++ (ls t ++ [61] ++ ls (escP u)), by omega, by go_num, ?_, Lib.hid (by rw [Hst2.out, HI.out, HPT.out, hM.out]; simp), hbw7⟩
                   simpa using hown7
                 case measure => simp [intOf]; omega
               · simp [bv]
             · have HI : Hid (sepC 43 i = [43]) := Lib.hid (by unfold sepC; rw [if_neg hi0])
               have hpos : 0 < i := by omega
               clear hi0
               go_wp2_with (first
             | (at_builtin; refine app_byte rfl (.tmp 42) (.tmp 43) rfl rfl (hown2.alloc _) 43 _ rfl ?_ (by have := HLL.out; have := HMl.out; simp; omega) (by have := hbw2.size; simp; omega) ?_; rotate_right; intro v' w3 hown3 hg3; have hbw3 := OwnR.rowA hbw2 hown2 hg3; have hc3 := bkeep hbw3 HC.out; have hc4 := bkeep hbw3 K2.out)
             | (go_at_call 33; refine (rescape_any u _ (by omega)).mono ?_; rintro e w4 ⟨rfl, hw4⟩; have hown4 := hown3.below hw4; have hbw4 := hbw3.trans (hw4.mono (hbw3).size); have hc5 := bkeep hbw4 HC.out; have hc6 := bkeep hbw4 K1.out)
             | (at_builtin; refine app_bstr rfl (.tmp 54) (.tmp 62) rfl rfl hown4 t rfl (by have := HLL.out; have := HMl.out; simp; omega) hbw4.size ?_; intro v5 w5 hown5 hg5; have hbw5 := OwnR.row hbw4 hown4 hbw4.size hg5)
             | (at_builtin; refine app_byte rfl (.tmp 64) (.tmp 65) rfl rfl (hown5.alloc _) 61 w5.heap.size rfl ?_ (by have := HLL.out; have := HMl.out; simp [ls_length]; omega) (by have := hbw5.size; simp; omega) ?_; rotate_right; intro v6 w6 hown6 hg6; have hbw6 := OwnR.rowA hbw5 hown5 hg6)
             | (at_builtin; refine app_bstr rfl (.tmp 67) (.tmp 68) rfl rfl hown6 (escP u) rfl (by have := HLL.out; have := HMl.out; simp [ls_length]; omega) hbw6.size ?_; intro v7 w7 hown7 hg7; have hbw7 := OwnR.row hbw6 hown6 hbw6.size hg7))
               · go_roundw
                 case rel =>
                   refine ⟨i + 1, M ++ [43] ++ (ls t ++ [61] ++ ls (escP u)), by omega, by go_num, ?_, Lib.hid (by rw [Hst2.out, HI.out, HPT.out, hM.out]), hbw7⟩
                   simpa using hown7
                 case measure => simp [intOf]; omega
               · simp [bv]
               · simp [bv]
           · obtain rfl : i = r.length := by omega
             go_wp2
             go_roundw
             case rel =>
               refine ⟨k + 1, L1 ++ M, by omega, by go_num, hown2, Lib.hid ?_, hbw2⟩
               have h1 := hM.out
               rw [List.take_of_length_le (Nat.le_refl _)] at h1
               rw [Hst.out, ← HL1.out, h1]
             case measure => simp [intOf]; omega
        · have hk0 : 0 < k := by omega
          clear h00
          obtain ⟨L1, hL1⟩ : ∃ L1, L1 = L ++ [44] := ⟨_, rfl⟩
          have HL1 : Hid (L1 = dnT (d.take k) ++ sepC 44 k) := Lib.hid (by unfold sepC; rw [if_neg H00.out, hL1, hL.out])
          have HLL : Hid (L1.length ≤ 3145729) := Lib.hid (by have := HLl.out; rw [hL1]; simp; omega)
          have HE1 := Lib.hid hL1
          clear hL1
          go_wp2_with (at_builtin; refine app_byte rfl (.tmp 28) (.tmp 29) rfl rfl (hown.alloc _) 44 wr.heap.size rfl ?_ (by have := HLl.out; omega) (by have := hbw.size; simp; omega) ?_; rotate_right; intro v' w2 hown1 hg1; have hbw1 := OwnR.rowA hbw hown hg1; rw [← HE1.out] at hown1)
          case refine_1 => simp [bv]
          go_loopw [7, 9] (fun q j wr2 => ∃ (i : Nat) (M : List UInt8), i ≤ r.length ∧ j = .int .i64 i ∧ OwnB wr2 w.heap.size q (L1 ++ M) ∧ Hid (M = rdnT (r.take i)) ∧ Below w.heap.size w wr2) (fun _ j _ => r.length - (intOf j).toNat)
          case atStart => exact ⟨0, [], Nat.zero_le _, rfl, by rw [List.append_nil]; exact hown1, Lib.hid rfl, hbw1⟩
          case round =>
           obtain ⟨i, M, hi, rfl, hown2, hM, hbw2⟩ := hrel
           have hc0 := bkeep hbw2 HC.out
           by_cases hil : i < r.length
           · have Hst2 := Lib.hid (rdnT_step r i hil)
             have hbk2 := bulkR_at r i hil
             have HMl : Hid (M.length ≤ 3145728) := Lib.hid (by have := rdnT_len (r.take i); have := bulkR_take r i; rw [hM.out]; omega)
             obtain ⟨b2, off2, rfl, h1, h2⟩ := Hrc.out i hil
             obtain ⟨t, u, htu⟩ : ∃ t u, r.getD i ava0 = (t, u) := ⟨_, _, rfl⟩
             rw [htu] at h1 h2 hbk2 Hst2
             simp only at h1 h2 hbk2
             have K1 := Lib.hid h1
             have K2 := Lib.hid h2
             clear htu h1 h2
             have hc2 := bkeep hbw2 K2.out
             have hes := escP_size u
             have HPT : Hid (pairT (t, u) = ls t ++ [61] ++ ls (escP u)) := Lib.hid (by unfold pairT escP; rw [ls_mk])
             by_cases hi0 : i = 0
             · have HI : Hid (sepC 43 i = []) := Lib.hid (by unfold sepC; rw [if_pos hi0])
               have hpos : ¬ 0 < i := by omega
               clear hi0
               go_wp2_with (first
             | (at_builtin; refine app_byte rfl (.tmp 42) (.tmp 43) rfl rfl (hown2.alloc _) 43 _ rfl ?_ (by have := HLL.out; have := HMl.out; simp; omega) (by have := hbw2.size; simp; omega) ?_; rotate_right; intro v' w3 hown3 hg3; have hbw3 := OwnR.rowA hbw2 hown2 hg3; have hc3 := bkeep hbw3 HC.out; have hc4 := bkeep hbw3 K2.out)
             | (go_at_call 33; refine (rescape_any u _ (by omega)).mono ?_; rintro e w4 ⟨rfl, hw4⟩; have hown4 := hown2.below hw4; have hbw4 := hbw2.trans (hw4.mono (hbw2).size); have hc5 := bkeep hbw4 HC.out; have hc6 := bkeep hbw4 K1.out)
             | (at_builtin; refine app_bstr rfl (.tmp 54) (.tmp 62) rfl rfl hown4 t rfl (by have := HLL.out; have := HMl.out; simp; omega) hbw4.size ?_; intro v5 w5 hown5 hg5; have hbw5 := OwnR.row hbw4 hown4 hbw4.size hg5)
             | (at_builtin; refine app_byte rfl (.tmp 64) (.tmp 65) rfl rfl (hown5.alloc _) 61 w5.heap.size rfl ?_ (by have := HLL.out; have := HMl.out; simp [ls_length]; omega) (by have := hbw5.size; simp; omega) ?_; rotate_right; intro v6 w6 hown6 hg6; have hbw6 := OwnR.rowA hbw5 hown5 hg6)
             | (at_builtin; refine app_bstr rfl (.tmp 67) (.tmp 68) rfl rfl hown6 (escP u) rfl (by have := HLL.out; have := HMl.out; simp [ls_length]; omega) hbw6.size ?_; intro v7 w7 hown7 hg7; have hbw7 := OwnR.row hbw6 hown6 hbw6.size hg7))
               · go_roundw
                 case rel =>
                   refine ⟨i + 1, M ++ (ls t ++ [61] ++ ls (escP u)), by omega, by go_num, ?_, Lib.hid (by rw [Hst2.out, HI.out, HPT.out, hM.out]; simp), hbw7⟩
                   simpa using hown7
                 case measure => simp [intOf]; omega
               · simp [bv]
             · have HI : Hid (sepC 43 i = [43]) := Lib.hid (by unfold sepC; rw [if_neg hi0])
               have hpos : 0 < i := by omega
               clear hi0
               go_wp2_with (first
             | (at_builtin; refine app_byte rfl (.tmp 42) (.tmp 43) rfl rfl (hown2.alloc _) 43 _ rfl ?_ (by have := HLL.out; have := HMl.out; simp; omega) (by have := hbw2.size; simp; omega) ?_; rotate_right; intro v' w3 hown3 hg3; have hbw3 := OwnR.rowA hbw2 hown2 hg3; have hc3 := bkeep hbw3 HC.out; have hc4 := bkeep hbw3 K2.out)
             | (go_at_call 33; refine (rescape_any u _ (by omega)).mono ?_; rintro e w4 ⟨rfl, hw4⟩; have hown4 := hown3.below hw4; have hbw4 := hbw3.trans (hw4.mono (hbw3).size); have hc5 := bkeep hbw4 HC.out; have hc6 := bkeep hbw4 K1.out)
             | (at_builtin; refine app_bstr rfl (.tmp 54) (.tmp 62) rfl rfl hown4 t rfl (by have := HLL.out; have := HMl.out; simp; omega) hbw4.size ?_; intro v5 w5 hown5 hg5; have hbw5 := OwnR.row hbw4 hown4 hbw4.size hg5)
             | (at_builtin; refine app_byte rfl (.tmp 64) (.tmp 65) rfl rfl (hown5.alloc _) 61 w5.heap.size rfl ?_ (by have := HLL.out; have := HMl.out; simp [ls_length]; omega) (by have := hbw5.size; simp; omega) ?_; rotate_right; intro v6 w6 hown6 hg6; have hbw6 := OwnR.rowA hbw5 hown5 hg6)
             | (at_builtin; refine app_bstr rfl (.tmp 67) (.tmp 68) rfl rfl hown6 (escP u) rfl (by have := HLL.out; have := HMl.out; simp [ls_length]; omega) hbw6.size ?_; intro v7 w7 hown7 hg7; have hbw7 := OwnR.row hbw6 hown6 hbw6.size hg7))
               · go_roundw
                 case rel =>
                   refine ⟨i + 1, M ++ [43] ++ (ls t ++ [61] ++ ls (escP u)), by omega, by go_num, ?_, Lib.hid (by rw [Hst2.out, HI.out, HPT.out, hM.out]), hbw7⟩
                   simpa using hown7
                 case measure => simp [intOf]; omega
               · simp [bv]
               · simp [bv]
           · obtain rfl : i = r.length := by omega
             go_wp2
             go_roundw
             case rel =>
               refine ⟨k + 1, L1 ++ M, by omega, by go_num, hown2, Lib.hid ?_, hbw2⟩
               have h1 := hM.out
               rw [List.take_of_length_le (Nat.le_refl _)] at h1
               rw [Hst.out, ← HL1.out, h1]
             case measure => simp [intOf]; omega
      · obtain rfl : k = d.length := by omega
        have hLe : Hid (L = dnT d) := Lib.hid (by rw [hL.out, List.take_of_length_le (Nat.le_refl _)])
        have hPl := dnT_len d
        have hLl : L.length ≤ 3145728 := by rw [hLe.out]; omega
        obtain ⟨A3, c3, hq3⟩ := OwnR.shape hown
        subst hq3
        clear hPl
        by_cases h4 : L.length ≤ 4096
        all_goals have H4 := Lib.hid h4
        · have hcv := own_string hown
          go_wp2
          go_ret3
          exact ⟨ret_sii (by unfold printS; rw [HN.out, ← hLe.out, if_pos ⟨H0.out, H4.out⟩]) (by unfold printE; rw [HN.out, ← hLe.out, if_pos H0.out, if_pos H4.out]) (by unfold printA; rw [HN.out, ← hLe.out, if_pos H0.out, if_pos H4.out]), hbw⟩
        · go_wp2
          go_ret3
          exact ⟨ret_sii (by unfold printS; rw [HN.out, ← hLe.out, if_neg (fun h => H4.out h.2)]) (by unfold printE; rw [HN.out, ← hLe.out, if_pos H0.out, if_neg H4.out]) (by unfold printA; rw [HN.out, ← hLe.out, if_pos H0.out, if_neg H4.out]), hbw⟩
  · have hb0 : (n.1 == 0) = false := by rw [beq_eq_false_iff_ne]; exact h0
    clear h0
    go_enter Tryd.func11, Tryd.ntmps11
    go_wp2_with (go_at_call 32; refine (name_any d _ _ HD.out (by omega) HT.out).mono ?_; rintro e w1 ⟨rfl, hw1⟩; rw [HN.out])
    go_ret3
    exact ⟨ret_sii (by unfold printS; rw [HN.out, if_neg (fun h => H0.out h.1)]) (by unfold printE; rw [HN.out, if_neg H0.out]) (by unfold printA; rw [HN.out, if_neg H0.out]), hw1⟩
end Go.Proofs.YtdpknokginnmjaaDoor
