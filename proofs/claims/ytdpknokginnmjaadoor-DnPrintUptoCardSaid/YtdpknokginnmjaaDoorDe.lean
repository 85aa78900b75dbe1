/- dn.escape by a walk. -/
import Derived.Test.YtdpknokginnmjaaDoorBd
import Derived.Test.YtdpknokginnmjaaDoorD1
import Derived.Test.YtdpknokginnmjaaDoorShelf
set_option linter.unusedVariables false
set_option linter.unusedSimpArgs false
namespace Go.Proofs.YtdpknokginnmjaaDoor
open Go.RowKit
theorem byteCells_eq (l : List UInt8) : Lib.byteCells l = l.flatMap fun b => [bv b] := by rw [flat1]; rfl
theorem BldOk.shelf {w : World} {B b : Nat} {l : List UInt8} (h : BldOk w B b l) (hB : b ≤ B) : Lib.IsBuilderF 92 5 b b (Lib.byteCells l) w := by
  have aux : ∀ p, Bld w B b p l → Lib.BuilderAtF 92 5 b b p (Lib.byteCells l) w := by
    rintro p ⟨h1, h2, v, h3, h4⟩
    refine ⟨Nat.le_refl _, v, h3, ?_, fun e => ?_⟩
    · have h5 : OwnB w b v l := h4.mono hB
      rw [byteCells_eq]
      have h6 := World.ownsRowF_of h5
      simpa [flat1] using h6
    · have := (World.ownsRow.lt h4 b e).1; omega
  rcases h with h | h
  · exact .inl (aux _ h)
  · exact .inr (aux _ h)
set_option maxRecDepth 100000 in
theorem idx_fin : ∀ n : Fin 256, decide (0 ≤ Lib.indexByte [92, 34, 43, 44, 59, 60, 62] (UInt8.ofNat n.val)) = special (n.val : Int) := by decide
theorem idx_special (c : UInt8) : decide (0 ≤ Lib.indexByte (⟨#[92, 34, 43, 44, 59, 60, 62]⟩ : ByteArray).data.toList ((c.toNat : Int).toNat.toUInt8)) = special c.toNat := by
  have h := idx_fin ⟨c.toNat, c.toNat_lt⟩
  have e : ((c.toNat : Int).toNat.toUInt8) = c := by simp
  rw [e]
  simpa using h
theorem wbyte_q {w : World} {B b : Nat} {l : List UInt8} (q : Int) (c : UInt8) (hq : (c.toNat : Int) = q) (h : BldOk w B b l) (hl : l.length + 1 ≤ 140737488355328) :
    Calls Tryd.prog 52 #[.pointer (some ⟨b, 0, none⟩), .int .u8 q] w fun e w' => e = .returned .nilIface ∧ BldOk w' B b (l ++ [c]) ∧ BB B b w w' := by
  subst hq; exact wbyte_any c h hl
theorem wbyte_92 {w : World} {B b : Nat} {l : List UInt8} (h : BldOk w B b l) (hl : l.length + 1 ≤ 140737488355328) :
    Calls Tryd.prog 52 #[.pointer (some ⟨b, 0, none⟩), .int .u8 92] w fun e w' => e = .returned .nilIface ∧ BldOk w' B b (l ++ [92]) ∧ BB B b w w' := wbyte_any 92 h hl
theorem wstr_003 {w : World} {B b : Nat} {l : List UInt8} (h : BldOk w B b l) (hl : l.length + 3 ≤ 140737488355328) :
    Calls Tryd.prog 50 #[.pointer (some ⟨b, 0, none⟩), .string ⟨#[92, 48, 48]⟩] w fun e w' => e = .returned (.tuple #[.int .i64 3, .nilIface]) ∧ BldOk w' B b (l ++ [92, 48, 48]) ∧ BB B b w w' := wstring_any ⟨#[92, 48, 48]⟩ h hl
set_option maxRecDepth 100000 in
set_option maxHeartbeats 1600000 in
theorem escape_any (s : ByteArray) (w : World) (hs : s.size ≤ 1073741824) :
    Calls Tryd.prog 30 #[.string s] w fun e w' => e = .returned (.string (escP s)) ∧ Below w.heap.size w w' := by
  have hb := bl_at s
  have hll := Lib.hid (ls_length s)
  obtain ⟨cap, wa, hcv, hcb, hbw0, hz0⟩ := bytes_of_string (w.alloc (.cells #[.pointer none, .slice none 0 0] 92)) s
  have hz1 : wa.heap.size = w.heap.size + 2 := by rw [hz0]; simp
  have hb0 : wa.heap[w.heap.size]? = some (.cells #[.pointer none, .slice none 0 0] 92 (0, 0)) := by
    rw [hbw0.block _ (by simp)]; exact heap_alloc_new w _
  have HB0 : Hid (BldOk wa (w.heap.size + 2) w.heap.size []) := Lib.hid (.inl ⟨by omega, by omega, _, hb0, OwnR.nil _ _⟩)
  have HCB := Lib.hid hcb
  have HBW : Hid (Below w.heap.size w wa) := Lib.hid (((Below.refl _ w).alloc (Nat.le_refl _) _).trans (hbw0.mono (by simp)))
  clear hcb hbw0 hb0
  go_enter Tryd.func30, Tryd.ntmps30
  go_wp2
  go_loopw [10] (fun i wr => ∃ k : Nat, k ≤ s.size ∧ i = .int .i64 k ∧ Hid (BldOk wr (w.heap.size + 2) w.heap.size (escGo (ls s).length 0 ((ls s).take k))) ∧ BB (w.heap.size + 2) w.heap.size wa wr) (fun i _ => s.size - (intOf i).toNat)
  case atStart => exact ⟨0, Nat.zero_le _, rfl, HB0, BB.refl _ _ _⟩
  case round =>
    obtain ⟨k, hk, rfl, hbo, hbb⟩ := hrel
    by_cases hlt : k < s.size
    · have hkl : k < (ls s).length := by have := hll.out; omega
      have hgl := escGo_len (ls s).length 0 ((ls s).take k)
      have hgt : ((ls s).take k).length = k := by simp; omega
      have HG3 : Hid ((escGo (ls s).length 0 ((ls s).take k)).length + 3 ≤ 140737488355328) := Lib.hid (by omega)
      have HG1 : Hid ((escGo (ls s).length 0 ((ls s).take k)).length + 1 ≤ 140737488355328) := Lib.hid (by omega)
      clear hgl hgt
      have hcell := BB.cell hbb (by omega) (by omega) (HCB.out k hkl).1
      have Hst := Lib.hid (escGo_take (ls s) k hkl)
      obtain ⟨c, hce⟩ : ∃ c, (ls s).getD k 0 = c := ⟨_, rfl⟩
      obtain ⟨L, hL⟩ : ∃ L, escGo (ls s).length 0 ((ls s).take k) = L := ⟨_, rfl⟩
      rw [hL] at HG3 HG1 hbo Hst
      rw [hce] at hcell Hst
      unfold bv at hcell
      try simp at hcell
      clear hce hL
      have HE : Hid (edgeP (ls s).length k c.toNat = (((k : Int) == 0 && ((c.toNat : Int) == 32 || (c.toNat : Int) == 35)) || ((k : Int) == (s.size : Int) - 1 && (c.toNat : Int) == 32))) := Lib.hid (by rw [← hll.out]; rfl)
      have hix := idx_special c
      obtain ⟨ix, hixe⟩ : ∃ ix, Lib.indexByte (⟨#[92, 34, 43, 44, 59, 60, 62]⟩ : ByteArray).data.toList ((c.toNat : Int).toNat.toUInt8) = ix := ⟨_, rfl⟩
      rw [hixe] at hix
      have HIX := Lib.hid hixe
      clear hixe
      have hex := byte_class (c.toNat : Int)
      obtain ⟨q, hq⟩ : ∃ q, (c.toNat : Int) = q := ⟨_, rfl⟩
      rw [hq] at hcell HE hix HIX hex
      have HQ := Lib.hid hq
      clear hq
      rcases hex with ⟨h0, h32, h35, hsp⟩ | ⟨h0, h32, h35, hsp⟩ | ⟨h0, h32, h35, hsp⟩ | ⟨h0, h32, h35, hsp⟩ | ⟨h0, h32, h35, hsp⟩
      all_goals cases hk0 : ((k : Int) == 0) <;> cases hk1 : ((k : Int) == (s.size : Int) - 1)
      all_goals
        have he := HE.out
        rw [h32, h35, hk0, hk1] at he
        have HE' := Lib.hid he
        have H0 := Lib.hid h0
        have HS := Lib.hid hsp
        rw [hsp] at hix
        clear he
        simp only [decide_eq_true_eq, decide_eq_false_iff_not] at hix
        go_wp2_with (first
          | (go_at_call 51; refine (Tryd.strings_IndexByte _ _ _).mono ?_; rintro e w1 ⟨rfl, rfl⟩; rw [HIX.out])
          | (go_at_call 50; refine (wstr_003 hbo.out HG3.out).mono ?_; rintro e w1 ⟨rfl, hbo1, hbb1⟩)
          | (go_at_call 52; have hh := hbo1; refine (wbyte_q q c HQ.out hbo1 (by have := HG3.out; simp; omega)).mono ?_; rintro e w2 ⟨rfl, hbo2, hbb2⟩)
          | (go_at_call 52; have hh : edgeP (ls s).length k q = false := HE'.out; have hh2 : special q = false := HS.out; refine (wbyte_q q c HQ.out hbo.out HG1.out).mono ?_; rintro e w1 ⟨rfl, hbo1, hbb1⟩)
          | (go_at_call 52; refine (wbyte_92 hbo.out HG1.out).mono ?_; rintro e w1 ⟨rfl, hbo1, hbb1⟩))
        go_roundw
        case rel =>
          refine ⟨k + 1, by omega, by go_num, Lib.hid ?_, by first | exact hbb.trans hbb1 | exact (hbb.trans hbb1).trans hbb2⟩
          rw [Hst.out]
          first
            | (rw [escC_zero (by rw [HQ.out, H0.out])]; exact hbo1)
            | (rw [escC_two (by rw [HQ.out, H0.out]) (by rw [HQ.out]; first | exact .inl HE'.out | exact .inr HS.out)]; simpa using hbo2)
            | (rw [escC_one (by rw [HQ.out, H0.out]) (by rw [HQ.out]; exact HE'.out) (by rw [HQ.out]; exact HS.out)]; exact hbo1)
        case measure => simp [intOf]; omega
    · have hx : k = s.size := by omega
      subst hx
      have Hl : Hid ((ls s).take s.size = ls s) := Lib.hid (List.take_of_length_le (by simp [ls]))
      go_wp2_with (go_at_call 53; refine (Tryd.Builder_String_any_f w.heap.size w.heap.size _ _ (BldOk.shelf hbo.out (by omega)) (by have := hbb.size; omega)).mono ?_; rintro e w1 ⟨rfl, _, hw1⟩)
      go_ret
      exact ⟨ret_str (by rw [Hl.out]; rfl), (HBW.out.trans (hbb.below (by omega))).trans hw1⟩
end Go.Proofs.YtdpknokginnmjaaDoor
