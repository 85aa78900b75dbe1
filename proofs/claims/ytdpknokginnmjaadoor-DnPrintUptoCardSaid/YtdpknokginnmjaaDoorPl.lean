/- What dn.Print's closure does: append as a step of a region; Join over a row of the call's own. -/
import Derived.Test.YtdpknokginnmjaaDoorDe
import Derived.Test.YtdpknokginnmjaaDoorSo
import Derived.Deep.RegionLawGrows
import Derived.Deep.AppendLies
set_option linter.unusedVariables false
set_option linter.unusedSimpArgs false
namespace Go.Proofs.YtdpknokginnmjaaDoor
open Go.RowKit
theorem step_app1 {P : Program} {α : Type} {enc : α → List Value} {e : TypeId} {size : Nat} {w : World} {B : Nat} {v : Value} {xs : List α} {ops : Array Oper} {o : Oper} {a : Act} {K : Act → World → Prop} {Q : Exit → Act → World → Prop} {E : Prop} (hgd : o.guard = none) (s x : Operand) (t : TypeId)
    (ho : o.op = .call { callee := .builtin .append, args := #[s, x], argTypes := #[t, t] })
    {z : Value} {bytes : Nat} (hinfo : (P.info? e).map (fun i => (i.zero, i.size, i.bytes)) = some (some z, size, bytes)) (ht : P.underlying t = some (.slice e)) (hzs : z.cells.size = size) (hsz : 0 < size) (hby : 0 < bytes)
    (hs : a.eval s = v) (hown : OwnR enc e size w B v xs) (u : α) (hlen : (enc u).length = size) (h1 : ∀ c ∈ enc u, c.oneCell' = true) (g : Nat) (hx : a.eval x = .slice (some ⟨g, 0, none⟩) 1 1)
    (hg : ∀ j c, (enc u)[j]? = some c → w.cell? ⟨g, j, none⟩ = some c) (hn : (xs.length + 1) * bytes ≤ 140737488355328) (hB : B ≤ w.heap.size)
    (hK : ∀ v' w', OwnR enc e size w' B v' (xs ++ [u]) → w.grownBy w' v.ownBlock → K (a.put o.dst v') w') : if Region.wanted o (yielded ops a.tmps) = true then Oper.wp P o a w K Q else E := by
  have hw : Region.wanted o (yielded ops a.tmps) = true := by simp [Region.wanted, hgd]
  rw [if_pos hw]
  obtain ⟨i, hi, hz0, hz1, hz2⟩ := info_parts hinfo
  have hmul : xs.length + 1 ≤ maxLen := by
    have : (xs.length + 1) * 1 ≤ (xs.length + 1) * bytes := Nat.mul_le_mul_left _ hby
    unfold maxLen; omega
  obtain ⟨v', w', hrun, r1, r2, _⟩ := run_append_own (P := P) w B t o.type e i z size bytes ht hi hz0 hz1 hz2 hzs hsz v xs.length (xs.flatMap enc) hown ⟨g, 0, none⟩ 1 1 (enc u) (by omega) (by
    intro j c hj
    have ha : (⟨g, 0, none⟩ : Addr).add j = ⟨g, j, none⟩ := by unfold Addr.add; split <;> simp_all
    rw [ha]; exact hg j c hj) h1 hmul hn hB
  unfold Oper.wp
  simp [execOp, ho, resolve, invoke, builtin, hs, hx, hrun, Result.andThen]
  refine hK v' w' ?_ r2
  simpa [OwnR, List.flatMap_append] using r1
theorem step_app_str {w : World} {B : Nat} {v : Value} {l : List ByteArray} {ops : Array Oper} {o : Oper} {a : Act} {K : Act → World → Prop} {Q : Exit → Act → World → Prop} {E : Prop} (hgd : o.guard = none) (s x : Operand)
    (ho : o.op = .call { callee := .builtin .append, args := #[s, x], argTypes := #[42, 42] })
    (hs : a.eval s = v) (hown : OwnS w B v l) (c : ByteArray) (g : Nat) (hx : a.eval x = .slice (some ⟨g, 0, none⟩) 1 1)
    (hg : w.cell? ⟨g, 0, none⟩ = some (.string c)) (hn : l.length + 1 ≤ 8796093022208) (hB : B ≤ w.heap.size)
    (hK : ∀ v' w', OwnS w' B v' (l ++ [c]) → w.grownBy w' v.ownBlock → K (a.put o.dst v') w') : if Region.wanted o (yielded ops a.tmps) = true then Oper.wp Tryd.prog o a w K Q else E :=
  step_app1 hgd s x 42 ho info_str und_strs rfl (by decide) (by decide) hs hown c rfl (by simp [Value.oneCell']) g hx (cell1 hg) (by omega) hB hK
theorem join_eq (c : UInt8) (l : List (List UInt8)) : Lib.join l [c] = joinT c l := by
  unfold Lib.join
  induction l with
  | nil => rfl
  | cons a t ih =>
    cases t with
    | nil => simp [joinT, List.intercalate]
    | cons b t => simp only [joinT]; rw [← ih]; simp [List.intercalate]
theorem joinT_bound (c : UInt8) (l : List (List UInt8)) : (joinT c l).length ≤ (l.map fun x => x.length + 1).sum := joinT_len c l
theorem join_any (c : UInt8) (l : List ByteArray) (v : Value) (w : World) (B : Nat) (h : OwnS w B v l) (hl : (joinT c (l.map ls)).length ≤ 140737488355328) (hn : l.length ≤ 140737488355328) :
    Calls Tryd.prog 31 #[v, .string ⟨#[c]⟩] w fun e w' => e = .returned (.string (mk (joinT c (l.map ls)))) ∧ Below w.heap.size w w' := by
  rcases h.2 with ⟨rfl, h0⟩ | ⟨g, cap, cur, rfl, hg, hc, h1, h2, _⟩
  · obtain rfl : l = [] := List.eq_nil_of_length_eq_zero h0
    refine (Tryd.strings_Join_none none 0 ⟨#[c]⟩ w).mono ?_
    rintro e w' ⟨rfl, rfl⟩
    exact ⟨rfl, Below.refl _ _⟩
  · have hx : (l.map fun x => x.data.toList) = l.map ls := rfl
    have hlt : g < w.heap.size := by
      rcases Nat.lt_or_ge g w.heap.size with h' | h'
      · exact h'
      · simp [Array.getElem?_eq_none h'] at hc
    refine (Tryd.strings_Join g 0 cap l ⟨#[c]⟩ w ?_ hlt hn h1 ?_).mono ?_
    · intro j x hj
      have := World.ownsRow.cells h (g := g) rfl j (.string x) (by rw [flat1]; simp [hj])
      have ha : (⟨g, 0, none⟩ : Addr).add j = ⟨g, 0 + j, none⟩ := by unfold Addr.add; split <;> simp_all
      rw [← ha]; exact this
    · rw [hx]; show (Lib.join (l.map ls) [c]).length ≤ _; rw [join_eq]; exact hl
    · rintro e w' ⟨rfl, hb⟩
      refine ⟨?_, hb⟩
      rw [hx]; show Ending.returned (.string ⟨(Lib.join (l.map ls) [c]).toArray⟩) = _; rw [join_eq]; rfl
/-- The closure's variable: a slice of texts of the call's own. -/
def HasParts (w : World) (B b : Nat) (L : List ByteArray) : Prop := b < B ∧ B ≤ w.heap.size ∧ ∃ v, w.heap[b]? = some (.cells #[v] 42 (0, 0)) ∧ OwnS w B v L
theorem BB.grownS {B b : Nat} {w w' : World} {v : Value} {l : List ByteArray} (h : OwnS w B v l) (hB : B ≤ w.heap.size) (hg : w.grownBy w' v.ownBlock) : BB B b w w' :=
  ⟨hg.os, hg.tape, hg.output, hg.size, fun k hk hne => hg.block k (by omega) (fun e => by have := (World.ownsRow.lt h k e.symm).1; omega)⟩
theorem parts_grown {w w' : World} {B b : Nat} {v v' : Value} {l l' : List ByteArray} (h1 : b < B) (h2 : B ≤ w.heap.size) (h3 : w.heap[b]? = some (.cells #[v] 42 (0, 0))) (h4 : OwnS w B v l) (hg : w.grownBy w' v.ownBlock) (h5 : OwnS w' B v' l') :
    BB B b w w' ∧ w'.heap[b]? = some (.cells #[v] 42 (0, 0)) ∧ w'.cell? ⟨b, 0, none⟩ = some v ∧ w'.frozen? ⟨b, 0, none⟩ = false := by
  have hb : w'.heap[b]? = some (.cells #[v] 42 (0, 0)) := by
    rw [hg.block b (by omega) (fun e => by have := (World.ownsRow.lt h4 b e.symm).1; omega)]; exact h3
  exact ⟨BB.grownS h4 h2 hg, hb, by rw [Lib.cell_of_heap hb]; rfl, Lib.frozen_of_heap hb 0⟩
theorem BB.of_below {B b : Nat} {w w' : World} (h : Below w.heap.size w w') (hB : B ≤ w.heap.size) : BB B b w w' := ⟨h.os, h.tape, h.output, h.size, fun k hk _ => h.block k (by omega)⟩
theorem BB.drew {B b : Nat} {w w' : World} (h : BB B b w w') : BB B b w w'.drew := ⟨h.os, h.tape, h.output, h.size, h.block⟩
def pairB (x : AvaP) : ByteArray := mk (pairT x)
theorem pairs_text (r : RdnP) : (r.map pairB).map ls = r.map pairT := by rw [List.map_map]; apply List.map_congr_left; intro x _; unfold Function.comp pairB; rw [ls_mk]
def rdnB (r : RdnP) : ByteArray := mk (rdnT r)
set_option maxRecDepth 100000 in
set_option maxHeartbeats 3200000 in
theorem clo_any (r : RdnP) (v tv : Value) (w : World) (B b : Nat) (L : List ByteArray) (hr : IsRdn w v r) (hs : bulkR r ≤ 1048576) (hp : HasParts w B b L) (hL : L.length ≤ 1048576) :
    Calls Tryd.prog 29 #[v, tv, .pointer (some ⟨b, 0, none⟩)] w fun e w' => e = .returned (.tuple #[]) ∧ HasParts w' B b (L ++ [rdnB r]) ∧ BB B b w w' := by
  have hbl := bulkR_len r
  obtain ⟨A, cp, rfl, hcell⟩ := hr.cellAt
  have Hcell := Lib.hid hcell; clear hcell hr
  have HP := Lib.hid hp; clear hp
  go_enter Tryd.func29, Tryd.ntmps29
  go_wp2
  go_loopw [5, 10] (fun q i wr => ∃ (k : Nat), k ≤ r.length ∧ i = .int .i64 k ∧ Hid (OwnS wr w.heap.size q ((r.take k).map pairB)) ∧ Below w.heap.size w wr) (fun _ i _ => r.length - (intOf i).toNat)
  case atStart => exact ⟨0, Nat.zero_le _, rfl, Lib.hid (OwnR.nil _ _), Below.refl _ _⟩
  case round =>
    obtain ⟨k, hk, rfl, hown, hbw⟩ := hrel
    by_cases hlt : k < r.length
    · have Hnx : Hid ((r.take (k + 1)).map pairB = (r.take k).map pairB ++ [pairB (r.getD k ava0)]) := Lib.hid (by
        rw [List.take_succ_eq_append_getElem hlt, List.map_append]; simp [List.getD_eq_getElem?_getD, List.getElem?_eq_getElem hlt])
      have hbk := bulkR_at r k hlt
      obtain ⟨b2, off, rfl, h1, h2⟩ := Hcell.out k hlt
      obtain ⟨t, u, htu⟩ : ∃ t u, r.getD k ava0 = (t, u) := ⟨_, _, rfl⟩
      obtain ⟨S, hS⟩ : ∃ S, (r.take k).map pairB = S := ⟨_, rfl⟩
      have hSl : S.length = k := by rw [← hS]; simp; omega
      rw [hS] at Hnx hown
      rw [htu] at h1 h2 hbk Hnx
      simp only at h1 h2 hbk
      have hd1 := bkeep hbw h1
      have hd2 := bkeep hbw h2
      have hes := escP_size u
      have HSl := Lib.hid hSl
      have HPB : Hid (t ++ ⟨#[61]⟩ ++ escP u = pairB (t, u)) := Lib.hid (by unfold pairB pairT escP mk ls; apply ByteArray.ext; simp)
      clear htu hS hSl h1 h2
      go_wp2_with fail
      have hzb := hbw.size
      have hs1 : ¬ 9223372036854775807 < t.size + 1 := by omega
      have hs2 : ¬ 9223372036854775807 < t.size + 1 + (escP u).size := by omega
      go_region_law (first
        | (go_simp; go_at_call 30; refine (escape_any u _ (by omega)).mono ?_; rintro e w1 ⟨rfl, hw1⟩; have hown1 := OwnR.below (OwnR.drew (hown.out.alloc _)) hw1; have hu1 := bkeep hw1 (cell_of_row ((wr.alloc (.cells #[.string t, .string u] 55)).drew) _ 0 _ _ (0, 0) (heap_alloc_new wr (.cells #[.string t, .string u] 55))); have hbw1 := ((hbw.alloc hbw.size _).drew).trans (hw1.mono (by have := hbw.size; simp; omega)))
        | (refine step_app_str rfl (.tmp 14) (.tmp 22) rfl rfl (hown1.alloc (.cells #[.string (t ++ ⟨#[61]⟩ ++ escP u)] 9)) (t ++ ⟨#[61]⟩ ++ escP u) w1.heap.size rfl (by simp) (by have := HSl.out; omega) (by have := hbw1.size; simp; omega) ?_; intro v' w2 hown2 hg2; have hbw2 := OwnR.rowA hbw1 hown1 hg2))
      all_goals
        go_wp2
        go_roundw
        case rel =>
          exact ⟨k + 1, by omega, by go_num, Lib.hid (by rw [Hnx.out, ← HPB.out]; exact hown2), hbw2⟩
        case measure => simp [intOf]; omega
    · obtain rfl : k = r.length := by omega
      have Ht : Hid ((r.take r.length) = r) := Lib.hid (List.take_of_length_le (Nat.le_refl _))
      obtain ⟨S, hS⟩ : ∃ S, r.map pairB = S := ⟨_, rfl⟩
      have HJ : Hid (mk (joinT 43 (S.map ls)) = rdnB r) := Lib.hid (by rw [← hS, pairs_text]; rfl)
      have HJl : Hid ((joinT 43 (S.map ls)).length ≤ 140737488355328) := Lib.hid (by rw [← hS, pairs_text]; have := rdnT_len r; unfold rdnT at this; omega)
      have HSl : Hid (S.length ≤ 140737488355328) := Lib.hid (by rw [← hS]; simp; omega)
      rw [Ht.out, hS] at hown
      clear hS
      obtain ⟨hbB, hBw, pv, hpv, hpo⟩ := HP.out
      have hzb := hbw.size
      have hpv1 : wr.heap[b]? = some (.cells #[pv] 42 (0, 0)) := by rw [hbw.block b (by omega)]; exact hpv
      have hpo1 : OwnS wr B pv L := OwnR.below hpo hbw
      have hpc : wr.cell? ⟨b, 0, none⟩ = some pv := by rw [Lib.cell_of_heap hpv1]; rfl
      have HPV := Lib.hid hpv1
      have HPO := Lib.hid hpo1
      have HBW := Lib.hid hBw
      obtain ⟨A3, c3, hpq⟩ := OwnR.shape hpo
      subst hpq
      clear hpv hpv1 hpo hpo1
      go_wp2
      go_region_law (first
        | (go_simp; go_at_call 31; refine (join_any 43 S _ _ w.heap.size (OwnR.drew hown.out) HJl.out HSl.out).mono ?_; rintro e w1 ⟨rfl, hw1⟩; have hpo2 := OwnR.below (OwnR.drew HPO.out) hw1; have hpv2 := (hw1.block b (by show b < wr.heap.size; omega)).trans HPV.out; have hpc2 := bkeep hw1 hpc; have hz1 := hw1.size; have hpv3 := (Lib.alloc_old w1 (.cells #[.string (mk (joinT 43 (S.map ls)))] 9) b (by simp at hz1; omega)).trans hpv2; have hpc3 := (Lib.cell_of_heap hpv3 0).trans (rfl : _ = some (Value.slice A3 L.length c3)))
        | (refine step_app_str rfl (.tmp 25) (.tmp 28) rfl rfl (hpo2.alloc (.cells #[.string (mk (joinT 43 (S.map ls)))] 9)) (mk (joinT 43 (S.map ls))) w1.heap.size rfl (by simp) (by omega) (by simp at hz1 ⊢; omega) ?_; intro v' w2 hown2 hg2; obtain ⟨hbb2, hb2, d1, f1⟩ := parts_grown hbB (by simp at hz1 ⊢; omega) (by rw [Lib.alloc_old w1 _ b (by simp at hz1; omega)]; exact hpv2) (hpo2.alloc _) hg2 hown2; obtain ⟨A2, cp2, rfl⟩ := OwnR.shape hown2))
      all_goals
        go_wp2
        go_end0
        refine ⟨rfl, ⟨hbB, ?_, .slice A2 (L ++ [mk (joinT 43 (S.map ls))]).length cp2, ?_, ?_⟩, ?_⟩
        · have := hbb2.size; simp [World.setCell] at this hz1 ⊢; omega
        · rw [setCell_heap hb2]; simp
        · have h9 := OwnR.setCellLt hown2 hbB (p := ⟨b, 0, none⟩) (.slice A2 (L ++ [mk (joinT 43 (S.map ls))]).length cp2)
          simp only [List.length_append, List.length_cons, List.length_nil] at h9 ⊢
          rw [← HJ.out]
          exact h9
        · exact (((BB.of_below hbw hBw).trans ((BB.refl B b wr).drew.trans (BB.of_below hw1 (by simp; omega)))).trans ((BB.alloc _ (by simp at hz1; omega)).trans hbb2)).trans (BB.setCell _ _ _ _ _)
end Go.Proofs.YtdpknokginnmjaaDoor
