/- strings.Builder: copyCheck, WriteByte, WriteString, with the frame that keeps every elder block but the builder's own. -/
import Derived.Test.YtdpknokginnmjaaDoorB
import Derived.Shelf.Strings.Builder1
set_option linter.unusedVariables false
set_option linter.unusedSimpArgs false
namespace Go.Proofs.YtdpknokginnmjaaDoor
open Go.RowKit
/-- Every block below B but b is as it was. -/
structure BB (B b : Nat) (w w' : World) : Prop where
  os : w'.os = w.os
  tape : w'.tape = w.tape
  output : w'.output = w.output
  size : w.heap.size ≤ w'.heap.size
  block : ∀ k, k < B → k ≠ b → w'.heap[k]? = w.heap[k]?
theorem BB.refl (B b : Nat) (w : World) : BB B b w w := ⟨rfl, rfl, rfl, Nat.le_refl _, fun _ _ _ => rfl⟩
theorem BB.trans {B b : Nat} {w w1 w2 : World} (h : BB B b w w1) (h' : BB B b w1 w2) : BB B b w w2 :=
  ⟨h'.os.trans h.os, h'.tape.trans h.tape, h'.output.trans h.output, Nat.le_trans h.size h'.size, fun k hk hne => (h'.block k hk hne).trans (h.block k hk hne)⟩
theorem BB.below {B b : Nat} {w w' : World} (h : BB B b w w') (hb : b < B) : Below b w w' := ⟨h.os, h.tape, h.output, h.size, fun k hk => h.block k (by omega) (by omega)⟩
theorem BB.cell {B b : Nat} {w w' : World} (h : BB B b w w') {k o : Nat} {v : Value} (hk : k < B) (hne : k ≠ b) (hc : w.cell? ⟨k, o, none⟩ = some v) : w'.cell? ⟨k, o, none⟩ = some v := by
  unfold World.cell? at hc ⊢
  rw [show w'.heap[(⟨k, o, none⟩ : Addr).block]? = w.heap[(⟨k, o, none⟩ : Addr).block]? from h.block k hk hne]
  exact hc
/-- The builder at b holds the bytes l in a row of the call's own. -/
def Bld (w : World) (B b : Nat) (p : Value) (l : List UInt8) : Prop := b < B ∧ B ≤ w.heap.size ∧ ∃ v, w.heap[b]? = some (.cells #[p, v] 92 (0, 0)) ∧ OwnB w B v l
def BldOk (w : World) (B b : Nat) (l : List UInt8) : Prop := Bld w B b (.pointer none) l ∨ Bld w B b (.pointer (some ⟨b, 0, none⟩)) l


theorem und_pb : Tryd.prog.underlying 90 = some (.pointer 92) := by kernel_rfl
theorem und_up : Tryd.prog.underlying 107 = some .unsafePointer := by kernel_rfl
theorem info_bd : (Tryd.prog.info? 92).map (·.size) = some 2 := by kernel_rfl
theorem lies_bd : liesAt Tryd.prog Tryd.prog.depth 92 (2 / Tryd.prog.cellsOf 92) 0 92 1 = true := by kernel_rfl
set_option maxRecDepth 100000 in
theorem check_used (b : Nat) (w : World) (h0 : w.cell? ⟨b, 0, none⟩ = some (.pointer (some ⟨b, 0, none⟩))) :
    Calls Tryd.prog 77 #[.pointer (some ⟨b, 0, none⟩)] w fun e w' => e = .returned (.tuple #[]) ∧ w' = w := by
  obtain ⟨j, hj, _⟩ := Option.map_eq_some_iff.1 info_bd
  go_enter Tryd.func77, Tryd.ntmps77
  go_wp2
  rw [Lib.run_neq_ptr_same w _ und_pb hj]
  go_wp2
  go_end0
  exact ⟨rfl, rfl⟩
set_option maxRecDepth 100000 in
theorem check_fresh (b : Nat) (w : World) (h0 : w.cell? ⟨b, 0, none⟩ = some (.pointer none)) (hsh : w.shape? b = some (92, 2)) (hfz : w.frozen? ⟨b, 0, none⟩ = false) :
    Calls Tryd.prog 77 #[.pointer (some ⟨b, 0, none⟩)] w fun e w' => e = .returned (.tuple #[]) ∧ w' = w.setCell ⟨b, 0, none⟩ (.pointer (some ⟨b, 0, none⟩)) := by
  obtain ⟨j, hj, hjs⟩ := Option.map_eq_some_iff.1 info_bd
  go_enter Tryd.func77, Tryd.ntmps77
  go_wp2
  rw [Lib.run_to_unsafe w ⟨b, 0, none⟩ und_pb und_up hj (by rw [hjs]; decide) hsh (Nat.zero_lt_succ 1)]
  simp only [Result.andThen]
  rw [Oper.upon_value]
  go_wp2
  rw [run_callFunc_extern Tryd.func102 (by kernel_rfl) (by kernel_rfl) (by kernel_rfl) (e := Extern.AbiNoEscape.same) (by kernel_rfl)]
  rw [Lib.run_noEscape]
  simp only [Result.andThen]
  rw [Oper.upon_value]
  go_wp2
  rw [Lib.run_from_unsafe w ⟨b, 0, none⟩ und_up und_pb hj hsh lies_bd]
  simp only [Result.andThen]
  rw [Oper.upon_value]
  go_wp2
  go_end0
  exact ⟨rfl, rfl⟩
theorem setCell_heap {w : World} {b o : Nat} {cs : Array Value} {T : TypeId} (h : w.heap[b]? = some (.cells cs T (0, 0))) (v : Value) : (w.setCell ⟨b, o, none⟩ v).heap[b]? = some (.cells (cs.setIfInBounds o v) T (0, 0)) := by
  simp [World.setCell, Array.getElem?_modify, h]
theorem BB.setCell (B b : Nat) (w : World) (o : Nat) (v : Value) : BB B b w (w.setCell ⟨b, o, none⟩ v) :=
  ⟨rfl, rfl, rfl, by simp [World.setCell], fun k hk hne => Below.heap_setCell _ _ _ _ (fun e => hne (by rw [e]))⟩
theorem BB.grown {B b : Nat} {w w' : World} {v : Value} {l : List UInt8} (h : OwnB w B v l) (hB : B ≤ w.heap.size) (hg : w.grownBy w' v.ownBlock) : BB B b w w' :=
  ⟨hg.os, hg.tape, hg.output, hg.size, fun k hk hne => hg.block k (by omega) (fun e => by have := (World.ownsRow.lt h k e.symm).1; omega)⟩
theorem BB.alloc {B b : Nat} {w : World} (o : Obj) (hB : B ≤ w.heap.size) : BB B b w (w.alloc o) :=
  ⟨rfl, rfl, rfl, by simp, fun k hk hne => by rw [Lib.alloc_old w o k (by omega)]⟩
set_option maxRecDepth 100000 in
theorem bcheck_any {w : World} {B b : Nat} {l : List UInt8} (h : BldOk w B b l) :
    Calls Tryd.prog 77 #[.pointer (some ⟨b, 0, none⟩)] w fun e w' => e = .returned (.tuple #[]) ∧ Bld w' B b (.pointer (some ⟨b, 0, none⟩)) l ∧ BB B b w w' := by
  rcases h with h | h
  · obtain ⟨h1, h2, v, h3, h4⟩ := h
    refine (check_fresh b w (by rw [Lib.cell_of_heap h3]; rfl) (by unfold World.shape?; simp [h3]) (Lib.frozen_of_heap h3 0)).mono ?_
    rintro e w' ⟨rfl, rfl⟩
    refine ⟨rfl, ⟨h1, ?_, v, ?_, ?_⟩, BB.setCell _ _ _ _ _⟩
    · simp [World.setCell]; exact h2
    · rw [setCell_heap h3]; rfl
    · exact OwnR.setCellLt h4 h1 _
  · obtain ⟨h1, h2, v, h3, h4⟩ := h
    refine (check_used b w (by rw [Lib.cell_of_heap h3]; rfl)).mono ?_
    rintro e w' ⟨rfl, rfl⟩
    exact ⟨rfl, ⟨h1, h2, v, h3, h4⟩, BB.refl _ _ _⟩
/-- The builder's own cell after its row has grown. -/
theorem bld_grown {w w' : World} {B b : Nat} {v v' : Value} {l l' : List UInt8} (h1 : b < B) (h2 : B ≤ w.heap.size) (h3 : w.heap[b]? = some (.cells #[.pointer (some ⟨b, 0, none⟩), v] 92 (0, 0))) (h4 : OwnB w B v l) (hg : w.grownBy w' v.ownBlock) (h5 : OwnB w' B v' l') :
    BB B b w w' ∧ w'.heap[b]? = some (.cells #[.pointer (some ⟨b, 0, none⟩), v] 92 (0, 0)) ∧ w'.cell? ⟨b, 1, none⟩ = some v ∧ w'.frozen? ⟨b, 1, none⟩ = false := by
  have hb : w'.heap[b]? = some (.cells #[.pointer (some ⟨b, 0, none⟩), v] 92 (0, 0)) := by
    rw [hg.block b (by omega) (fun e => by have := (World.ownsRow.lt h4 b e.symm).1; omega)]; exact h3
  exact ⟨BB.grown h4 h2 hg, hb, by rw [Lib.cell_of_heap hb]; rfl, Lib.frozen_of_heap hb 1⟩
set_option maxRecDepth 100000 in
set_option maxHeartbeats 1600000 in
theorem wbyte_any {w : World} {B b : Nat} {l : List UInt8} (c : UInt8) (h : BldOk w B b l) (hl : l.length + 1 ≤ 140737488355328) :
    Calls Tryd.prog 52 #[.pointer (some ⟨b, 0, none⟩), .int .u8 (c.toNat : Int)] w fun e w' => e = .returned .nilIface ∧ BldOk w' B b (l ++ [c]) ∧ BB B b w w' := by
  go_enter Tryd.func52, Tryd.ntmps52
  go_wp2_with (go_at_call 77; refine (bcheck_any h).mono ?_)
  rintro e w1 ⟨rfl, ⟨h1, h2, v, h3, h4⟩, hbb1⟩
  have c0 : w1.cell? ⟨b, 0, none⟩ = some (.pointer (some ⟨b, 0, none⟩)) := by rw [Lib.cell_of_heap h3]; rfl
  have c1 : w1.cell? ⟨b, 1, none⟩ = some v := by rw [Lib.cell_of_heap h3]; rfl
  go_wp2_with (at_builtin; refine app_byte rfl (.tmp 11) (.tmp 13) rfl rfl (h4.alloc _) c w1.heap.size rfl ?_ hl (by simp; omega) ?_; rotate_right; intro v' w2 hown2 hg2; obtain ⟨hbb2, hb2, d1, f1⟩ := bld_grown h1 (by simp; omega) (by rw [Lib.alloc_old w1 _ b (by omega)]; exact h3) (h4.alloc _) hg2 hown2; obtain ⟨A2, cp2, rfl⟩ := OwnR.shape hown2)
  · go_ret
    refine ⟨rfl, .inr ⟨h1, ?_, _, ?_, OwnR.setCellLt hown2 h1 _⟩, hbb1.trans (((BB.alloc _ h2).trans hbb2).trans (BB.setCell _ _ _ _ _))⟩
    · have := hbb2.size; simp [World.setCell] at this ⊢; omega
    · rw [setCell_heap hb2]; simp
  · simp [bv]
set_option maxRecDepth 100000 in
set_option maxHeartbeats 1600000 in
theorem wstring_any {w : World} {B b : Nat} {l : List UInt8} (x : ByteArray) (h : BldOk w B b l) (hl : l.length + x.size ≤ 140737488355328) :
    Calls Tryd.prog 50 #[.pointer (some ⟨b, 0, none⟩), .string x] w fun e w' => e = .returned (.tuple #[.int .i64 x.size, .nilIface]) ∧ BldOk w' B b (l ++ ls x) ∧ BB B b w w' := by
  go_enter Tryd.func50, Tryd.ntmps50
  go_wp2_with (go_at_call 77; refine (bcheck_any h).mono ?_)
  rintro e w1 ⟨rfl, ⟨h1, h2, v, h3, h4⟩, hbb1⟩
  have c0 : w1.cell? ⟨b, 0, none⟩ = some (.pointer (some ⟨b, 0, none⟩)) := by rw [Lib.cell_of_heap h3]; rfl
  have c1 : w1.cell? ⟨b, 1, none⟩ = some v := by rw [Lib.cell_of_heap h3]; rfl
  go_wp2_with (at_builtin; refine app_bstr rfl (.tmp 12) (.tmp 13) rfl rfl h4 x rfl hl h2 ?_; intro v' w2 hown2 hg2; obtain ⟨hbb2, hb2, d1, f1⟩ := bld_grown h1 h2 h3 h4 hg2 hown2; obtain ⟨A2, cp2, rfl⟩ := OwnR.shape hown2)
  go_ret2
  refine ⟨rfl, .inr ⟨h1, ?_, _, ?_, OwnR.setCellLt hown2 h1 _⟩, hbb1.trans (hbb2.trans (BB.setCell _ _ _ _ _))⟩
  · have := hbb2.size; simp [World.setCell] at this ⊢; omega
  · rw [setCell_heap hb2]; simp
end Go.Proofs.YtdpknokginnmjaaDoor
