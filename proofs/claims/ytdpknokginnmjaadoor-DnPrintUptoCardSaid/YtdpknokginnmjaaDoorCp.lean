/- The law's own copy of a name: copyDN by a walk. -/
import Derived.Test.YtdpknokginnmjaaDoorD3
import Derived.Test.YtdpknokginnmjaaDoorBd
set_option linter.unusedVariables false
set_option linter.unusedSimpArgs false
namespace Go.Proofs.YtdpknokginnmjaaDoor
open Go.RowKit
/-! ### Rows of pairs, rows of parts -/
def avaCells (x : AvaP) : List Value := [.string x.1, .string x.2]
abbrev OwnA (w : World) (B : Nat) (v : Value) (l : RdnP) : Prop := OwnR avaCells 55 2 w B v l
abbrev OwnV (w : World) (B : Nat) (v : Value) (l : List Value) : Prop := OwnR (fun u => [u]) 47 1 w B v l
theorem info_ava : (Tryd.prog.info? 55).map (fun i => (i.zero, i.size, i.bytes)) = some (some (.agg #[.string ⟨#[]⟩, .string ⟨#[]⟩]), 2, 32) := by kernel_rfl
theorem info_rdn : (Tryd.prog.info? 47).map (fun i => (i.zero, i.size, i.bytes)) = some (some (.slice none 0 0), 1, 24) := by kernel_rfl
theorem und_rdn : Tryd.prog.underlying 47 = some (.slice 55) := by kernel_rfl
theorem und_dn : Tryd.prog.underlying 23 = some (.slice 47) := by kernel_rfl
def spareS : ByteArray := ⟨#[115, 112, 97, 114, 101, 32, 114, 111, 111, 109]⟩
def mark : AvaP := (spareS, ⟨#[]⟩)
/-- A part of the call's own, its mark behind it. -/
def MkRdn (w : World) (B : Nat) (u : Value) (r : RdnP) : Prop := ∃ g cap, u = .slice (some ⟨g, 0, none⟩) r.length cap ∧ OwnA w B (.slice (some ⟨g, 0, none⟩) (r.length + 1) cap) (r ++ [mark])
theorem ava_flat (l : RdnP) : (l.flatMap avaCells).length = l.length * 2 := by
  induction l with
  | nil => rfl
  | cons x t ih => simp [avaCells] at ih ⊢; omega
theorem ava_one (l : RdnP) : ∀ c ∈ l.flatMap avaCells, c.oneCell' = true := by
  intro c hc
  obtain ⟨x, _, hx⟩ := List.mem_flatMap.1 hc
  simp [avaCells] at hx
  rcases hx with rfl | rfl <;> simp [Value.oneCell']
theorem ava_at (l : RdnP) (j : Nat) (hj : j < l.length) : (l.flatMap avaCells)[j * 2]? = some (.string (l.getD j ava0).1) ∧ (l.flatMap avaCells)[j * 2 + 1]? = some (.string (l.getD j ava0).2) := by
  induction l generalizing j with
  | nil => simp at hj
  | cons x t ih =>
    cases j with
    | zero => simp [avaCells]
    | succ j =>
      have h := ih j (by simpa using hj)
      have e1 : (j + 1) * 2 = j * 2 + 2 := by omega
      have e2 : (j + 1) * 2 + 1 = (j * 2 + 1) + 2 := by omega
      simp only [List.flatMap_cons, avaCells, List.getD_cons_succ]
      constructor
      · rw [e1]; simpa using h.1
      · rw [e2]; simpa using h.2
theorem ava_cells {w : World} {b off : Nat} {r : RdnP} (h : ∀ j, j < r.length → w.cell? ⟨b, off + j * 2, none⟩ = some (.string (r.getD j ava0).1) ∧ w.cell? ⟨b, off + j * 2 + 1, none⟩ = some (.string (r.getD j ava0).2)) :
    ∀ j c, (r.flatMap avaCells)[j]? = some c → w.cell? ⟨b, off + j, none⟩ = some c := by
  intro j c hj
  have hlt : j < r.length * 2 := by
    rw [← ava_flat]
    rcases Nat.lt_or_ge j (r.flatMap avaCells).length with h' | h'
    · exact h'
    · rw [List.getElem?_eq_none h'] at hj; cases hj
  obtain ⟨h1, h2⟩ := h (j / 2) (by omega)
  obtain ⟨a1, a2⟩ := ava_at r (j / 2) (by omega)
  rcases Nat.mod_two_eq_zero_or_one j with hm | hm
  · have e : j = j / 2 * 2 := by omega
    rw [e] at hj
    rw [a1] at hj
    rw [← Option.some.inj hj, e, show j / 2 * 2 / 2 = j / 2 by omega]; exact h1
  · have e : j = j / 2 * 2 + 1 := by omega
    rw [e] at hj
    rw [a2] at hj
    have e2 : off + j = off + j / 2 * 2 + 1 := by omega
    rw [e2, ← Option.some.inj hj]; exact h2
theorem grown_refl (w : World) (row : Option Nat) : w.grownBy w row := ⟨rfl, rfl, rfl, Nat.le_refl _, fun _ _ _ => rfl⟩
theorem run_append_none {P : Program} {w : World} (base : Nat) (t ty e : TypeId) (i : TypeInfo) (size : Nat) (ht : P.underlying t = some (.slice e)) (hi : P.info? e = some i)
    (v : Value) (n c : Nat) (xs : List Value) (hown : w.ownsRow base e size v n xs) :
    (Builtin.append_ #[t, t] ty #[v, .slice none 0 c]).run P w = .ok v w := by
  rcases hown.2 with ⟨rfl, rfl⟩ | ⟨g, cap, cur, rfl, _, _, hnc, _⟩
  · simp [Builtin.append_, run_underlying ht, sizeOf, typeInfo, hi, Builtin.lenOf, Builtin.firstCells]
  · simp [Builtin.append_, run_underlying ht, sizeOf, typeInfo, hi, Builtin.lenOf, Builtin.firstCells, hnc, storeCells]
/-- 'append(v, r...)'. -/
theorem app_ava {w : World} {B : Nat} {v : Value} {l : RdnP} {ops : Array Oper} {rest : List Oper} {o : Oper} {a : Act} {Q : Exit → Act → World → Prop} (hgd : o.guard = none) (s x : Operand)
    (ho : o.op = .call { callee := .builtin .append, args := #[s, x], argTypes := #[47, 47] })
    (hs : a.eval s = v) (hown : OwnA w B v l) (r : RdnP) (A : Option Addr) (c : Nat) (hx : a.eval x = .slice A r.length c) (hr : IsRdn w (.slice A r.length c) r) (hn : (l.length + r.length) * 32 ≤ 140737488355328) (hB : B ≤ w.heap.size)
    (h : ∀ v' w', OwnA w' B v' (l ++ r) → w.grownBy w' v.ownBlock → wpList Tryd.prog ops Q rest (a.put o.dst v') w') : wpList Tryd.prog ops Q (o :: rest) a w := by
  by_cases h0 : r.length = 0
  · obtain rfl : r = [] := List.eq_nil_of_length_eq_zero h0
    cases A with
    | none =>
      obtain ⟨i, hi, hz0, hz1, hz2⟩ := info_parts info_ava
      refine wpList_plain hgd fun K hK => ?_
      have hrun := run_append_none (P := Tryd.prog) (w := w) B 47 o.type 55 i 2 und_rdn hi v l.length c _ hown
      unfold Oper.wp
      simp only [List.length_nil] at hx
      simp [execOp, ho, resolve, invoke, builtin, hs, hx, hrun, Result.andThen]
      exact hK _ _ (h v w (by rw [List.append_nil]; exact hown) (grown_refl _ _))
    | some ad =>
      obtain ⟨i, hi, hz0, hz1, hz2⟩ := info_parts info_ava
      refine wpList_append_own w hgd s x 47 ho B 55 i _ 2 32 und_rdn hi hz0 hz1 hz2 rfl (by decide) v l.length (l.flatMap avaCells) hs hown ad 0 c [] hx rfl (fun j c hj => by simp at hj) (fun c hc => by simp at hc) (by unfold maxLen; omega) (by omega) hB ?_
      intro v' w' ho' hg' _
      refine h v' w' ?_ hg'
      simpa [OwnR] using ho'
  · obtain ⟨A', c', he, h2⟩ := hr
    obtain ⟨b, off, hA, hc⟩ := h2 (by omega)
    cases he
    subst hA
    exact appN hgd s x 47 ho info_ava und_rdn rfl (by decide) (by decide) hs hown r (ava_flat r) (ava_one r) b off r.length c hx rfl (ava_cells hc) hn hB h
theorem app_rdn {w : World} {B : Nat} {v : Value} {l : List Value} {ops : Array Oper} {rest : List Oper} {o : Oper} {a : Act} {Q : Exit → Act → World → Prop} (hgd : o.guard = none) (s x : Operand)
    (ho : o.op = .call { callee := .builtin .append, args := #[s, x], argTypes := #[23, 23] })
    (hs : a.eval s = v) (hown : OwnV w B v l) (A : Option Addr) (n c : Nat) (g : Nat) (hx : a.eval x = .slice (some ⟨g, 0, none⟩) 1 1)
    (hg : w.cell? ⟨g, 0, none⟩ = some (.slice A n c)) (hn : l.length + 1 ≤ 4398046511104) (hB : B ≤ w.heap.size)
    (h : ∀ v' w', OwnV w' B v' (l ++ [.slice A n c]) → w.grownBy w' v.ownBlock → wpList Tryd.prog ops Q rest (a.put o.dst v') w') : wpList Tryd.prog ops Q (o :: rest) a w :=
  app1 hgd s x 23 ho info_rdn und_dn rfl (by decide) (by decide) hs hown (.slice A n c) rfl (by simp [Value.oneCell']) g hx (cell1 hg) (by omega) hB h
theorem OwnA.zero {w : World} {B g : Nat} (h : w.heap[g]? = some (.cells #[] 55 (0, 0))) (hB : B ≤ g) : OwnA w B (.slice (some ⟨g, 0, none⟩) 0 0) [] :=
  ⟨rfl, .inr ⟨g, 0, #[], rfl, hB, h, Nat.le_refl _, Nat.zero_le _, rfl, rfl⟩⟩
theorem OwnA.form {w : World} {B : Nat} {v : Value} {l : RdnP} (h : OwnA w B v l) (h0 : 0 < l.length) : ∃ g cap cur, v = .slice (some ⟨g, 0, none⟩) l.length cap ∧ B ≤ g ∧ w.heap[g]? = some (.cells cur 55 (0, 0)) ∧ l.length ≤ cap ∧ cap ≤ maxLen := by
  rcases h.2 with ⟨_, hz⟩ | ⟨g, cap, cur, rfl, hg, hh, h1, h2, _⟩
  · omega
  · exact ⟨g, cap, cur, rfl, hg, hh, h1, h2⟩
theorem lit_mark (w : World) : IsRdn (w.alloc (.cells #[.string ⟨#[115, 112, 97, 114, 101, 32, 114, 111, 111, 109]⟩, .string ⟨#[]⟩] 55)) (.slice (some ⟨w.heap.size, 0, none⟩) 1 1) [mark] := by
  refine ⟨_, _, rfl, fun _ => ⟨_, _, rfl, fun j hj => ?_⟩⟩
  obtain rfl : j = 0 := by simp at hj; omega
  constructor
  · rw [cell_of_row _ _ _ _ _ (0, 0) (heap_alloc_new w _)]; rfl
  · rw [cell_of_row _ _ _ _ _ (0, 0) (heap_alloc_new w _)]; rfl
/-- The part's row stands when the list's row grows. -/
theorem MkRdn.below {w w' : World} {B : Nat} {u : Value} {r : RdnP} (h : MkRdn w B u r) (hb : Below w.heap.size w w') : MkRdn w' B u r := by
  obtain ⟨g, cap, e, ho⟩ := h
  exact ⟨g, cap, e, OwnR.below ho hb⟩
theorem MkRdn.grown {w w' : World} {B B' : Nat} {u q : Value} {us : List Value} {r : RdnP} (h : MkRdn w B u r) (hq : OwnV w B' q us) (hg : w.grownBy w' q.ownBlock) : MkRdn w' B u r := by
  obtain ⟨g, cap, e, ho⟩ := h
  refine ⟨g, cap, e, OwnR.kept ho hg (.inr ?_)⟩
  intro he
  obtain ⟨g', cap', cur', he', _, hh, _⟩ := OwnA.form ho (by simp)
  simp only [Value.ownBlock] at he
  rcases hq.2 with ⟨rfl, _⟩ | ⟨g2, cap2, cur2, rfl, _, hh2, _⟩
  · simp [Value.ownBlock] at he
  · simp only [Value.ownBlock, Option.some.injEq] at he
    simp only [Value.slice.injEq, Option.some.injEq, Addr.mk.injEq] at he'
    rw [← he'.1.1, he, hh2] at hh
    simp at hh
theorem MkRdn.alloc {w : World} {B : Nat} {u : Value} {r : RdnP} (h : MkRdn w B u r) (o : Obj) : MkRdn (w.alloc o) B u r := h.below ((Below.refl _ w).alloc (Nat.le_refl _) o)
/-- The copy: its parts, each with its mark, and the list's own mark. -/
def MkDn (w : World) (B : Nat) (v : Value) (d : DnP) : Prop := ∃ g cap us gs, v = .slice (some ⟨g, 0, none⟩) d.length cap ∧ d.length + 1 ≤ cap ∧ cap ≤ maxLen ∧ us.length = d.length ∧ OwnV w B (.slice (some ⟨g, 0, none⟩) (d.length + 1) cap) (us ++ [.slice (some ⟨gs, 0, none⟩) 1 1]) ∧ (∀ j, j < d.length → MkRdn w B (us.getD j .nilIface) (d.getD j [])) ∧ B ≤ gs ∧ w.heap[gs]? = some (.cells #[.string spareS, .string ⟨#[]⟩] 55 (0, 0))
theorem MkDn.below {w w' : World} {B : Nat} {v : Value} {d : DnP} (h : MkDn w B v d) (hb : Below w.heap.size w w') : MkDn w' B v d := by
  obtain ⟨g, cap, us, gs, h1, h2, h3, h4, h5, h6, h7, h8⟩ := h
  have hl : gs < w.heap.size := by
    rcases Nat.lt_or_ge gs w.heap.size with h' | h'
    · exact h'
    · rw [Array.getElem?_eq_none h'] at h8; cases h8
  exact ⟨g, cap, us, gs, h1, h2, h3, h4, OwnR.below h5 hb, fun j hj => (h6 j hj).below hb, h7, by rw [hb.block gs hl]; exact h8⟩
theorem OwnV.form {w : World} {B : Nat} {v : Value} {l : List Value} (h : OwnV w B v l) (h0 : 0 < l.length) : ∃ g cap cur, v = .slice (some ⟨g, 0, none⟩) l.length cap ∧ B ≤ g ∧ w.heap[g]? = some (.cells cur 47 (0, 0)) ∧ l.length ≤ cap ∧ cap ≤ maxLen := by
  rcases h.2 with ⟨_, hz⟩ | ⟨g, cap, cur, rfl, hg, hh, h1, h2, _⟩
  · omega
  · exact ⟨g, cap, cur, rfl, hg, hh, h1, h2⟩
set_option maxRecDepth 100000 in
set_option maxHeartbeats 3200000 in
theorem copy_any (d : DnP) (v : Value) (w : World) (hd : IsDn w v d) (hs : bulkD d ≤ 1048576) :
    Calls Tryd.prog 9 #[v] w fun e w' => ∃ m, e = .returned m ∧ MkDn w' w.heap.size m d ∧ Below w.heap.size w w' := by
  have hbl := bulkD_len d
  have HD := Lib.hid hd
  obtain ⟨A, cp, rfl, hcell⟩ := hd.cellAt
  have Hcell := Lib.hid hcell; clear hcell hd
  go_enter Tryd.func9, Tryd.ntmps9
  go_wp2
  go_loopw [3, 4] (fun q i wr => ∃ (k : Nat) (us : List Value), k ≤ d.length ∧ i = .int .i64 k ∧ Hid (OwnV wr w.heap.size q us) ∧ us.length = k ∧ Hid (∀ j, j < k → MkRdn wr w.heap.size (us.getD j .nilIface) (d.getD j [])) ∧ Below w.heap.size w wr) (fun _ i _ => d.length - (intOf i).toNat)
  case atStart => exact ⟨0, [], Nat.zero_le _, rfl, Lib.hid (OwnR.nil _ _), rfl, Lib.hid (fun j hj => absurd hj (Nat.not_lt_zero _)), Below.refl _ _⟩
  case round =>
    obtain ⟨k, us, hk, rfl, hown, husl, hmk, hbw⟩ := hrel
    by_cases hlt : k < d.length
    · have hbk := bulkD_at d k hlt
      obtain ⟨b, off, u, rfl, hc, hru⟩ := Hcell.out k hlt
      obtain ⟨r, hr⟩ : ∃ r, d.getD k [] = r := ⟨_, rfl⟩
      rw [hr] at hbk hru
      have Hr := Lib.hid hr
      clear hr
      obtain ⟨A2, c2, rfl, hrc⟩ := hru.cellAt
      have Hrc := Lib.hid hrc
      have hd1 := bkeep hbw hc
      have hrl := bulkR_len r
      have hw1 := (Below.refl wr.heap.size wr).alloc (Nat.le_refl _) (.cells #[] 55)
      have hd2 := bkeep hw1 hd1
      have HRD : Hid (IsRdn (wr.alloc (.cells #[] 55)) (.slice A2 r.length c2) r) := Lib.hid ((hru.below hbw).below hw1)
      have HZ : Hid (OwnA (wr.alloc (.cells #[] 55)) wr.heap.size (.slice (some ⟨wr.heap.size, 0, none⟩) 0 0) []) := Lib.hid (OwnA.zero (heap_alloc_new wr _) (Nat.le_refl _))
      have HN : Hid ((0 + r.length) * 32 ≤ 140737488355328) := Lib.hid (by omega)
      have HN1 : Hid ((r.length + 1) * 32 ≤ 140737488355328) := Lib.hid (by omega)
      clear hc hru hrc
      go_wp2_with (first
        | (at_builtin; refine app_ava rfl (.tmp 12) (.tmp 16) rfl rfl HZ.out r A2 c2 rfl HRD.out HN.out (by simp) ?_; intro v2 w2 ho2 hg2; have hb2 := OwnR.row hw1 HZ.out (by simp) hg2; have hz2 := hb2.size)
        | (at_builtin; refine app_ava rfl (.tmp 17) (.tmp 19) rfl rfl (ho2.alloc (.cells #[.string ⟨#[115, 112, 97, 114, 101, 32, 114, 111, 111, 109]⟩, .string ⟨#[]⟩] 55)) [mark] (some ⟨w2.heap.size, 0, none⟩) 1 rfl (lit_mark w2) HN1.out (by simp; omega) ?_; intro v3 w3 ho3 hg3; have hb3 := OwnR.row (hb2.alloc hb2.size (.cells #[.string ⟨#[115, 112, 97, 114, 101, 32, 114, 111, 111, 109]⟩, .string ⟨#[]⟩] 55)) (ho2.alloc _) (by simp; omega) hg3; have hz3 := hb3.size; obtain ⟨g3, cap3, cur3, hq3, hgg, hh3, hcap0, hcap1⟩ := OwnA.form ho3 (by simp); have hcap2 : r.length + 1 ≤ cap3 := (by simpa using hcap0); clear hcap0; unfold maxLen at hcap1; simp only [List.nil_append, List.length_append, List.length_cons, List.length_nil, Nat.zero_add] at hq3 ho3; subst hq3; have hd3 := bkeep hb3 hd1)
        | (at_builtin; refine app_rdn rfl (.tmp 21) (.tmp 29) rfl rfl ((OwnR.below hown.out hb3).alloc (.cells #[.slice (some ⟨g3, 0, none⟩) r.length cap3] 47)) (some ⟨g3, 0, none⟩) r.length cap3 w3.heap.size rfl (by simp) (by omega) (by have := hbw.size; simp; omega) ?_; intro v4 w4 ho4 hg4))
      go_roundw
      case rel =>
        have hq4 := (OwnR.below hown.out hb3).alloc (.cells #[.slice (some ⟨g3, 0, none⟩) r.length cap3] 47)
        refine ⟨k + 1, us ++ [.slice (some ⟨g3, 0, none⟩) r.length cap3], by omega, by go_num, Lib.hid ho4, by simp; exact husl, Lib.hid ?_, ?_⟩
        · intro j hj
          by_cases hjk : j < k
          · rw [List.getD_eq_getElem?_getD, List.getElem?_append_left (by omega), ← List.getD_eq_getElem?_getD]
            exact (((hmk.out j hjk).below hb3).alloc _).grown hq4 hg4
          · obtain rfl : j = us.length := by omega
            rw [List.getD_eq_getElem?_getD, List.getElem?_append_right (Nat.le_refl _)]
            simp only [Nat.sub_self, List.getElem?_cons_zero, Option.getD_some]
            rw [husl, Hr.out]
            exact MkRdn.grown (MkRdn.alloc ⟨g3, cap3, rfl, OwnR.mono ho3 hbw.size⟩ _) hq4 hg4
        · exact (hbw.trans (hb3.mono hbw.size)).trans (((Below.refl _ w3).alloc (by have := hbw.size; omega) _).trans (Below.grown (Below.refl _ _) hg4 (by have := hbw.size; simp; omega) (fun j hj => (World.ownsRow.lt hq4 j hj).1)))
      case measure => simp [intOf]; omega
    · obtain rfl : k = d.length := by omega
      go_wp2_with (at_builtin; refine app_rdn rfl (.tmp 31) (.tmp 34) rfl rfl ((hown.out.alloc (.cells #[.string ⟨#[115, 112, 97, 114, 101, 32, 114, 111, 111, 109]⟩, .string ⟨#[]⟩] 55)).alloc (.cells #[.slice (some ⟨wr.heap.size, 0, none⟩) 1 1] 47)) (some ⟨wr.heap.size, 0, none⟩) 1 1 (wr.heap.size + 1) rfl (by simp) (by omega) (by have := hbw.size; simp; omega) ?_; intro v4 w4 ho4 hg4; obtain ⟨g4, cap4, cur4, hq4, hgg, hh4, hcap0, hcap1⟩ := OwnV.form ho4 (by simp); have hcap2 : d.length + 1 ≤ cap4 := (by simp at hcap0; omega); have hcap3 := hcap1; clear hcap0; unfold maxLen at hcap1; simp only [List.length_append, List.length_cons, List.length_nil, Nat.zero_add, husl] at hq4 ho4; subst hq4)
      have hq4 := (hown.out.alloc (.cells #[.string ⟨#[115, 112, 97, 114, 101, 32, 114, 111, 111, 109]⟩, .string ⟨#[]⟩] 55)).alloc (.cells #[.slice (some ⟨wr.heap.size, 0, none⟩) 1 1] 47)
      go_ret
      refine ⟨_, rfl, ⟨g4, cap4, us, wr.heap.size, rfl, hcap2, hcap3, husl, ho4, fun j hj => (((hmk.out j hj).alloc _).alloc _).grown hq4 hg4, hbw.size, ?_⟩, ?_⟩
      · rw [hg4.block _ (by simp; omega) (fun e => by have := (World.ownsRow.lt hown.out _ e.symm).2; omega), Lib.alloc_old _ _ _ (by simp)]
        exact heap_alloc_new wr _
      · exact Below.grown ((hbw.alloc hbw.size _).alloc (by have := hbw.size; simp; omega) _) hg4 (by have := hbw.size; simp; omega) (fun j hj => (World.ownsRow.lt hq4 j hj).1)
end Go.Proofs.YtdpknokginnmjaaDoor
