/- Parts of lists; clearing; results that lie in memory. -/
import Derived.Test.YtfmdkdfhnkennaaK9
set_option linter.unusedVariables false
set_option linter.unusedSimpArgs false
namespace Go.K
open Rep

/-- `v2` is the part of the own list `v` from `k` on, `m` elements. -/
def SubS (n : Nat) (v v2 : Value) (k m : Nat) : Prop := ∃ g l c c', v = .slice (some ⟨g, 0, none⟩) l c ∧ v2 = .slice (some ⟨g, k * n, none⟩) m c'

section
variable {α : Type} [Rep α] {w w' : World} {C C' : Nat → Nat} {P : Program} {N : Nat} {env : Env} {x y z q : Operand} {t ty e : TypeId} {v v2 u : Value} {xs : List α} {j b g n k m e' : Nat}

theorem run_sliceBound_ok {kd : IntKind} {i : Int} {y : Nat} {code : BoundsCode} {w : World} (h0 : 0 ≤ i) (h1 : i ≤ y) : (Instr.sliceBound (.int kd i) y code).run P w = .ok i.toNat w := by
  simp [Instr.sliceBound, asIntOf, h0, h1]

/-- 's[k:]' of an own list. -/
theorem OwnL.from_ (h : OwnL w C j e v xs) (hy : ev env y = some v) {kd : IntKind} {i : Int} (hf : elemB P t = some (e', sz α)) (hz : ev env z = some (.int kd i)) (h0 : 0 ≤ i) (h1 : i < xs.length) :
    ∃ v2, SubS (sz α) v v2 i.toNat (xs.length - i.toNat) ∧ ∀ w', Val P N env (.slice t y (some z) none none) w' v2 := by
  obtain ⟨g, cap, cs, rfl, _, _, hc, hle, _⟩ := h.at_own (by omega)
  refine ⟨.slice (some ⟨g, i.toNat * sz α, none⟩) (xs.length - i.toNat) (cap - i.toNat), ⟨g, _, _, _, rfl, rfl⟩, fun w' => mk' fun ρ hρ oo ho => ?_⟩
  unfold elemB at hf
  split at hf
  · rename_i e1 hu
    split at hf
    · rename_i n' hn
      simp only [Option.some.injEq, Prod.mk.injEq] at hf
      obtain ⟨rfl, rfl⟩ := hf
      have hb := run_sliceBound_ok (P := P) (kd := kd) (y := xs.length) (code := .sliceB) (w := w') h0 (by omega)
      have hne : ¬ cap = i.toNat := by omega
      unfold execOp; rw [ho]
      simp [hρ _ _ hy, hρ _ _ hz, Instr.sliceAt, Instr.slice, Instr.sliceBounds, run_underlying hu, run_sizeOfB hn, hb, hne, addr_add]
    · cases hf
  · cases hf
/-- 's[:k]' of an own list. -/
theorem OwnL.to_ (h : OwnL w C j e v xs) (hy : ev env y = some v) {kd : IntKind} {i : Int} (hf : elemB P t = some (e', sz α)) (hz : ev env z = some (.int kd i)) (h0 : 0 ≤ i) (h1 : i ≤ xs.length) (hne : 0 < xs.length) :
    ∃ v2, OwnL w C j e v2 (xs.take i.toNat) ∧ ∀ w', Val P N env (.slice t y none (some z) none) w' v2 := by
  obtain ⟨g, cap, cs, rfl, hcol, hM, hc, hle, hsz, hr⟩ := h.at_own hne
  have hl : (xs.take i.toNat).length = i.toNat := by rw [List.length_take]; omega
  refine ⟨.slice (some ⟨g, 0, none⟩) (xs.take i.toNat).length cap, ⟨.inr ⟨g, cap, cs, rfl, hM, hc, by omega, hsz, fun k hk => ?_⟩, h.col⟩, fun w' => mk' fun ρ hρ oo ho => ?_⟩
  · rw [List.getElem_take]; exact hr k (by omega)
  · unfold elemB at hf
    split at hf
    · rename_i e1 hu
      split at hf
      · rename_i n' hn
        simp only [Option.some.injEq, Prod.mk.injEq] at hf
        obtain ⟨rfl, rfl⟩ := hf
        have hb := run_sliceBound_ok (P := P) (kd := kd) (y := cap) (code := .sliceAcap) (w := w') h0 (by omega)
        unfold execOp; rw [ho]
        rw [hl]
        simp [hρ _ _ hy, hρ _ _ hz, Instr.sliceAt, Instr.slice, Instr.sliceBounds, run_underlying hu, run_sizeOfB hn, hb, addr_add]
      · cases hf
    · cases hf
/-- 's[k:]' of a list. -/
theorem RV.from_ {M : Nat → Prop} (h : RV w M xs v) (hy : ev env y = some v) {kd : IntKind} {i : Int} (hf : elemB P t = some (e', sz α)) (hz : ev env z = some (.int kd i)) (h0 : 0 ≤ i) (h1 : i ≤ xs.length) :
    ∃ v2, RV w M (xs.drop i.toNat) v2 ∧ ∀ w', Val P N env (.slice t y (some z) none none) w' v2 := by
  obtain ⟨a, c, rfl, hc, hm, hs⟩ := rv_list.1 h
  have hval : ∀ w', Val P N env (.slice t y (some z) none none) w' (.slice (if c = i.toNat then a else a.map (·.add (i.toNat * sz α))) (xs.length - i.toNat) (c - i.toNat)) := fun w' => mk' fun ρ hρ oo ho => by
    unfold elemB at hf
    split at hf
    · rename_i e1 hu
      split at hf
      · rename_i n' hn
        simp only [Option.some.injEq, Prod.mk.injEq] at hf
        obtain ⟨rfl, rfl⟩ := hf
        have hb := run_sliceBound_ok (P := P) (kd := kd) (y := xs.length) (code := .sliceB) (w := w') h0 (by omega)
        unfold execOp; rw [ho]
        simp [hρ _ _ hy, hρ _ _ hz, Instr.sliceAt, Instr.slice, Instr.sliceBounds, run_underlying hu, run_sizeOfB hn, hb]
      · cases hf
    · cases hf
  refine ⟨_, ?_, hval⟩
  rw [← List.length_drop]
  refine rv_list.2 ⟨_, _, rfl, by rw [List.length_drop]; omega, by rw [List.length_drop]; omega, ?_⟩
  by_cases hd : xs.drop i.toNat = []
  · exact .inl hd
  · have hlt : i.toNat < xs.length := by
      rcases Nat.lt_or_ge i.toNat xs.length with h | h
      · exact h
      · exact absurd (List.drop_eq_nil_of_le h) hd
    rcases hs with rfl | ⟨b, o, rfl, hs⟩
    · simp at hlt
    · refine .inr ⟨b, o + i.toNat * sz α, ?_, ?_⟩
      · rw [if_neg (by omega)]; simp [addr_add]
      · obtain ⟨hb, cs, ty, fz, hc', hl, hr⟩ := hs
        refine ⟨hb, cs, ty, fz, hc', ?_, fun k hk => ?_⟩
        · rw [List.length_drop]
          have : i.toNat * sz α + (xs.length - i.toNat) * sz α = xs.length * sz α := by rw [← Nat.add_mul]; congr 1; omega
          omega
        · rw [List.length_drop] at hk
          have := hr (i.toNat + k) (by omega)
          rw [List.getElem_drop, show o + i.toNat * sz α + k * sz α = o + (i.toNat + k) * sz α from by rw [Nat.add_mul]; omega]
          exact this
/-- 's[:k]' of a list. -/
theorem RV.to_ {M : Nat → Prop} (h : RV w M xs v) (hy : ev env y = some v) {kd : IntKind} {i : Int} (hf : elemB P t = some (e', sz α)) (hz : ev env z = some (.int kd i)) (h0 : 0 ≤ i) (h1 : i ≤ xs.length) :
    ∃ v2, RV w M (xs.take i.toNat) v2 ∧ ∀ w', Val P N env (.slice t y none (some z) none) w' v2 := by
  obtain ⟨a, c, rfl, hc, hm, hs⟩ := rv_list.1 h
  have hl : (xs.take i.toNat).length = i.toNat := by rw [List.length_take]; omega
  have hval : ∀ w', Val P N env (.slice t y none (some z) none) w' (.slice a (xs.take i.toNat).length c) := fun w' => mk' fun ρ hρ oo ho => by
    unfold elemB at hf
    split at hf
    · rename_i e1 hu
      split at hf
      · rename_i n' hn
        simp only [Option.some.injEq, Prod.mk.injEq] at hf
        obtain ⟨rfl, rfl⟩ := hf
        have hb := run_sliceBound_ok (P := P) (kd := kd) (y := c) (code := .sliceAcap) (w := w') h0 (by omega)
        have ha' : (if c = 0 then a else a.map (·.add 0)) = a := by
          cases a with
          | none => simp
          | some a => simp [Addr.add]
        unfold execOp; rw [ho, hl]
        simp [hρ _ _ hy, hρ _ _ hz, Instr.sliceAt, Instr.slice, Instr.sliceBounds, run_underlying hu, run_sizeOfB hn, hb, ha']
      · cases hf
    · cases hf
  refine ⟨_, ?_, hval⟩
  refine rv_list.2 ⟨_, _, rfl, by omega, by omega, ?_⟩
  rcases hs with rfl | ⟨b, o, rfl, hb, cs, ty, fz, hc', hl', hr⟩
  · left; simp
  · refine .inr ⟨b, o, rfl, hb, cs, ty, fz, hc', ?_, fun k hk => ?_⟩
    · rw [hl]
      have := Nat.mul_le_mul_right (sz α) (show i.toNat ≤ xs.length by omega)
      omega
    · rw [List.getElem_take]; exact hr k (by omega)

theorem val_indexSub {e' : Nat} {kd : IntKind} {i : Int} (hs : SubS n v v2 k m) (hg : Ob v g) (hf : elemB P t = some (e', n)) (hy : ev env y = some v2) (hz : ev env z = some (.int kd i))
    (h0 : 0 ≤ i) (h1 : i < m) : Val P N env (.indexAddr t y z) w (.pointer (some ⟨g, (k + i.toNat) * n, none⟩)) := by
  obtain ⟨g', l, c, c', rfl, rfl⟩ := hs
  simp only [Ob, Value.ownBlock, Option.some.injEq] at hg
  subst hg
  have := val_indexAddr (P := P) (N := N) (w := w) hf hy hz h0 h1
  rwa [← Nat.add_mul] at this
theorem SubS.lenV (hs : SubS n v v2 k m) (hy : ev env y = some v2) {d : TypeId} (ht : P.underlying t = some (.slice d)) :
    ∀ w', Val P N env (.call { callee := .builtin .len, args := #[y], argTypes := #[t] }) w' (.int .i64 m) := fun w' => by
  obtain ⟨g', l, c, c', rfl, rfl⟩ := hs
  exact val_len_slice hy ht
theorem OwnL.ob_ex (h : OwnL w C j e v xs) (hne : 0 < xs.length) : ∃ g, Ob v g := by
  obtain ⟨g, cap, cs, rfl, _⟩ := h.at_own hne
  exact ⟨g, rfl⟩

/-- 'clear(s[k:])' of an own list. -/
theorem a_clear {x0 : α} {zs : List Value} (h : OwnL w C j e v xs) (hs : SubS (sz α) v v2 k m) (hkm : k + m = xs.length) (hm : 0 < m) (hu : P.underlying t = some (.slice ty)) (hz : zeroB P ty = some zs) (h0 : ∀ h M, rep h M x0 zs) (hy : ev env y = some v2) :
    Acts P N env (.call { callee := .builtin .clear, args := #[y], argTypes := #[t] }) w (fun u' w' => Stp [j] w C w' C ∧ OwnL w' C j e v (xs.take k ++ List.replicate m x0)) := acts' fun ρ hρ oo hoo => by
  obtain ⟨g, cap, cs, rfl, hcol, hM, hc, h1, h2, h3⟩ := h.at_own (by omega)
  obtain ⟨g', l, c, c', e1, rfl⟩ := hs
  simp only [Value.slice.injEq, Option.some.injEq, Addr.mk.injEq, and_true] at e1
  obtain ⟨rfl, rfl, rfl⟩ := e1
  obtain ⟨zv, hz1, hz2⟩ := run_zeroB hz w
  have hzl : zs.length = sz α := Rep.len (h0 w.heap (Mc C))
  have hzsz : zv.cells.size = sz α := by rw [hz2]; simpa using hzl
  have hzc : (Builtin.zeroCells zv.cells m).toList.length = m * sz α := by rw [Array.length_toList, size_zeroCells, hzsz]
  have hb : (k + m) * sz α ≤ cap * sz α := Nat.mul_le_mul_right _ (by omega)
  rw [Nat.add_mul] at hb
  have hcell : ∀ i, i < m → cellsAt (Builtin.zeroCells zv.cells m) (i * sz α) (sz α) = zs := fun i hi => by
    have := cellsAt_made hzl hi
    rw [hz2]
    unfold madeCells at this
    unfold Builtin.zeroCells
    first | exact this | (rw [List.size_toArray, hzl]; exact this) | simpa [hzl] using this
  have hone : ∀ u ∈ (Builtin.zeroCells zv.cells m).toList, u.oneCell' = true := fun u hu' => by
    obtain ⟨p, hp, rfl⟩ := List.mem_iff_getElem.1 hu'
    rw [hzc] at hp
    by_cases hs0 : sz α = 0
    · rw [hs0] at hp; omega
    · have hk : p / sz α < m := (Nat.div_lt_iff_lt_mul (by omega)).2 hp
      refine Rep.one (h0 w.heap (Mc C)) _ ?_
      rw [← hcell _ hk]
      apply List.mem_iff_getElem?.2
      refine ⟨p % sz α, ?_⟩
      have hmod := Nat.mod_lt p (show 0 < sz α by omega)
      simp only [cellsAt, List.getElem?_take, if_pos hmod, List.getElem?_drop]
      rw [Nat.mul_comm, Nat.div_add_mod]
      simp [hp, hzc]
  have hst := run_storeCells_at P g (k * sz α) e (Builtin.zeroCells zv.cells m).toList 0 cs w hc (by rw [hzc]; omega) hone
  simp only [Nat.add_zero, hzc] at hst
  have hu3 := upd_setRow (cs := (List.take (k * sz α) cs.toList ++ (Builtin.zeroCells zv.cells m).toList ++ List.drop (k * sz α + m * sz α) cs.toList).toArray) hc
  have hstp : Stp [j] w C _ C := ⟨hu3.ext.mono (fun b _ hb => by rw [show b = g from hb, hcol]; simp), fun _ _ => rfl⟩
  have keep : ∀ {x : α} {vs : List Value}, rep w.heap (Mc C) x vs → rep _ (Mc C) x vs := fun hr => Rep.keep hr (fun b hb hn => hu3.ext.block b hb (fun e => hn (by rw [show b = g from e]; exact hM)))
  refine ⟨.tuple #[], _, .inl ?_, hstp, ⟨.inr ⟨g, cap, _, ?_, hM, hu3.at_, ?_, ?_, fun i hi => ?_⟩, h.col⟩⟩
  · unfold execOp; rw [hoo]
    have hm0 : m ≠ 0 := by omega
    have hrun : (Builtin.clear_ #[t] oo.type #[.slice (some ⟨g, k * sz α, none⟩) m c']).run P w = .ok (.tuple #[]) (w.setRow g (List.take (k * sz α) cs.toList ++ (Builtin.zeroCells zv.cells m).toList ++ List.drop (k * sz α + m * sz α) cs.toList).toArray) := by
      cases m with
      | zero => exact absurd rfl hm0
      | succ m => simp [Builtin.clear_, run_underlying hu, hz1, hst]
    simp [hρ _ _ hy, resolve, invoke, builtin, hrun]
  · simp; omega
  · simp; omega
  · simp only [List.size_toArray, List.length_append, List.length_take, List.length_drop, hzc, Array.length_toList]; omega
  · have hget : ∀ (l : List Value) (p : Nat), l.toArray[p]? = l[p]? := fun l p => by simp
    by_cases hik : i < k
    · have hik2 : i < (xs.take k).length := by rw [List.length_take]; omega
      rw [List.getElem_append_left hik2, List.getElem_take]
      have hb2 := Nat.mul_le_mul_right (sz α) (show i + 1 ≤ k from hik)
      rw [Nat.succ_mul] at hb2
      have hce : cellsAt (List.take (k * sz α) cs.toList ++ (Builtin.zeroCells zv.cells m).toList ++ List.drop (k * sz α + m * sz α) cs.toList).toArray (i * sz α) (sz α) = cellsAt cs (i * sz α) (sz α) := cellsAt_ext (fun r hr => by
        rw [hget, List.append_assoc, List.getElem?_append_left (by simp only [List.length_take, Array.length_toList]; omega), List.getElem?_take, if_pos (by omega), Array.getElem?_toList])
      rw [hce]; exact keep (h3 i (by omega))
    · have htl : (xs.take k).length = k := by rw [List.length_take]; omega
      rw [List.getElem_append_right (by omega), List.getElem_replicate]
      have him : i - k < m := by simp at hi; omega
      have hb3 := Nat.mul_le_mul_right (sz α) (show i - k + 1 ≤ m from him)
      rw [Nat.succ_mul] at hb3
      have hik3 : i * sz α = k * sz α + (i - k) * sz α := by rw [← Nat.add_mul]; congr 1; omega
      have hce : cellsAt (List.take (k * sz α) cs.toList ++ (Builtin.zeroCells zv.cells m).toList ++ List.drop (k * sz α + m * sz α) cs.toList).toArray (i * sz α) (sz α) = cellsAt (Builtin.zeroCells zv.cells m) ((i - k) * sz α) (sz α) := cellsAt_ext (fun r hr => by
        rw [hget, List.append_assoc, List.getElem?_append_right (by simp only [List.length_take, Array.length_toList]; omega), List.getElem?_append_left (by simp only [List.length_take, Array.length_toList, hzc]; omega), Array.getElem?_toList]
        congr 1
        simp only [List.length_take, Array.length_toList]; omega)
      rw [hce, hcell _ him]; exact h0 _ _
end

section
variable {α : Type} [Rep α] {w : World} {C : Nat → Nat} {P : Program} {f : FuncId} {N : Nat} {k : List Item} {R : Value → World → Prop} {env : Env} {ops : Array Oper} {S : World → Prop} {i t : Nat} {L : List (Nat × Bool)} {v v2 : Value} {y z : Operand} {gd : Option (Nat × Bool)} {ty e e' : TypeId} {xs : List α} {j g : Nat} {kd : IntKind} {n : Int}
theorem sFO (hop : opAt ops i = some (some t, .slice ty y (some z) none none, gd)) (hw : wantedE ops env gd = some true) (ht : Nat.blt t N = true) (hl : OwnL w C j e v xs) (hy : ev env y = some v)
    (hf : elemB P ty = some (e', sz α)) (hz : ev env z = some (.int kd n)) (h0 : 0 ≤ n) (h1 : n < xs.length)
    (h : ∀ v2, SubS (sz α) v v2 n.toNat (xs.length - n.toNat) → Sch P f N k R ops S L ((t, v2) :: env) w) : Sch P f N k R ops S ((i, true) :: L) env w := by
  obtain ⟨v2, h2, h3⟩ := hl.from_ (P := P) (N := N) hy hf hz h0 h1
  exact yS hop hw ht (fun w' _ => h3 w') (h v2 h2)
theorem sTO (hop : opAt ops i = some (some t, .slice ty y none (some z) none, gd)) (hw : wantedE ops env gd = some true) (ht : Nat.blt t N = true) (hl : OwnL w C j e v xs) (hy : ev env y = some v)
    (hf : elemB P ty = some (e', sz α)) (hz : ev env z = some (.int kd n)) (h0 : 0 ≤ n) (h1 : n ≤ xs.length) (hne : 0 < xs.length)
    (h : ∀ v2, OwnL w C j e v2 (xs.take n.toNat) → Sch P f N k R ops S L ((t, v2) :: env) w) : Sch P f N k R ops S ((i, true) :: L) env w := by
  obtain ⟨v2, h2, h3⟩ := hl.to_ (P := P) (N := N) hy hf hz h0 h1 hne
  exact yS hop hw ht (fun w' _ => h3 w') (h v2 h2)
theorem sFR {M : Nat → Prop} (hop : opAt ops i = some (some t, .slice ty y (some z) none none, gd)) (hw : wantedE ops env gd = some true) (ht : Nat.blt t N = true) (hl : RV w M xs v) (hy : ev env y = some v)
    (hf : elemB P ty = some (e', sz α)) (hz : ev env z = some (.int kd n)) (h0 : 0 ≤ n) (h1 : n ≤ xs.length)
    (h : ∀ v2, RV w M (xs.drop n.toNat) v2 → Sch P f N k R ops S L ((t, v2) :: env) w) : Sch P f N k R ops S ((i, true) :: L) env w := by
  obtain ⟨v2, h2, h3⟩ := hl.from_ (P := P) (N := N) hy hf hz h0 h1
  exact yS hop hw ht (fun w' _ => h3 w') (h v2 h2)
theorem sTR {M : Nat → Prop} (hop : opAt ops i = some (some t, .slice ty y none (some z) none, gd)) (hw : wantedE ops env gd = some true) (ht : Nat.blt t N = true) (hl : RV w M xs v) (hy : ev env y = some v)
    (hf : elemB P ty = some (e', sz α)) (hz : ev env z = some (.int kd n)) (h0 : 0 ≤ n) (h1 : n ≤ xs.length)
    (h : ∀ v2, RV w M (xs.take n.toNat) v2 → Sch P f N k R ops S L ((t, v2) :: env) w) : Sch P f N k R ops S ((i, true) :: L) env w := by
  obtain ⟨v2, h2, h3⟩ := hl.to_ (P := P) (N := N) hy hf hz h0 h1
  exact yS hop hw ht (fun w' _ => h3 w') (h v2 h2)
end

/-! ### Results that lie in memory -/
section
variable {P : Program} {f : FuncId} {N : Nat} {k : List Item} {env : Env} {w : World} {R : Value → World → Prop}
theorem run_cellAgg {b ty0 : Nat} {cs : List Value} {fz : Nat × Nat} {ty n : Nat} (hc : w.heap[b]? = some (.cells cs.toArray ty0 fz)) (ha : aggB P ty = some true) (hs : szB P ty = some n) (hl : cs.length = n) :
    (loadVar ty ⟨b, 0, none⟩).run P w = .ok (.agg cs.toArray) w := by
  have hcells : (loadCells ⟨b, 0, none⟩ n).run P w = .ok cs.toArray w := by
    have := run_loadCells_list (P := P) w ⟨b, 0, none⟩ cs (fun j u hu => by
      rw [addr_add, cell_of_row w b (0 + j) cs.toArray ty0 fz hc]
      rw [← hu]; simp)
    rwa [hl] at this
  simp only [loadCells] at hcells
  simp [loadVar, run_isAggB ha, run_sizeOfB hs, loadCells, hcells]
theorem run_retC1 {c : Code} {fn : Func} {a ty b : Nat} {ty0 : Nat} {cs : List Value} {fz : Nat × Nat} {n : Nat} (hc : c = .ret) (hf : P.funcs[f]? = some fn) (hres : fn.results = #[.cell a ty]) (hv : look env a = some (.pointer (some ⟨b, 0, none⟩)))
    (hb : w.heap[b]? = some (.cells cs.toArray ty0 fz)) (ha : aggB P ty = some true) (hs : szB P ty = some n) (hl : cs.length = n)
    (hR : R (.agg cs.toArray) w) : Run P f N (.code c :: k) env w R := fun a' ha' => by
  subst hc
  refine runs_ret hf ha'.defers ?_ hR
  have h1 := ha'.slot a _ hv
  have h2 := run_cellAgg hb ha hs hl
  simp only [results, hres]
  simp [h1, Array.getD_eq_getD_getElem?, asAddr, h2]
theorem run_retC2 {c : Code} {fn : Func} {a ty b u : Nat} {x : Value} {ty0 : Nat} {cs : List Value} {fz : Nat × Nat} {n : Nat} (hc : c = .ret) (hf : P.funcs[f]? = some fn) (hres : fn.results = #[.cell a ty, .tmp u]) (hv : look env a = some (.pointer (some ⟨b, 0, none⟩)))
    (hx : look env u = some x) (hb : w.heap[b]? = some (.cells cs.toArray ty0 fz)) (ha : aggB P ty = some true) (hs : szB P ty = some n) (hl : cs.length = n)
    (hR : R (.tuple #[.agg cs.toArray, x]) w) : Run P f N (.code c :: k) env w R := fun a' ha' => by
  subst hc
  refine runs_ret hf ha'.defers ?_ hR
  have h1 := ha'.slot a _ hv
  have h3 := ha'.slot u _ hx
  have h2 := run_cellAgg hb ha hs hl
  simp only [results, hres]
  simp [h1, h3, Array.getD_eq_getD_getElem?, asAddr, h2]
end

/-! ### Small -/
section
variable {P : Program} {N : Nat} {env : Env} {w : World} {x y : Operand} {t u : TypeId} {m n r : Int}
theorem val_max (hx : ev env x = some (.int .i64 m)) (hy : ev env y = some (.int .i64 n)) (ht : P.underlying t = some (.int .i64)) :
    Val P N env (.call { callee := .builtin .max, args := #[x, y], argTypes := #[t, t] }) w (.int .i64 (max m n)) := mk' fun ρ hρ o ho => by
  unfold execOp; rw [ho]
  simp [hρ _ _ hx, hρ _ _ hy, go_sem, resolve, invoke, builtin, Builtin.max_, Builtin.max2]
  by_cases h : m < n
  · rw [if_pos h]; exact (Int.max_eq_right (by omega)).symm
  · rw [if_neg h]; exact (Int.max_eq_left (by omega)).symm
theorem val_min (hx : ev env x = some (.int .i64 m)) (hy : ev env y = some (.int .i64 n)) (ht : P.underlying t = some (.int .i64)) :
    Val P N env (.call { callee := .builtin .min, args := #[x, y], argTypes := #[t, t] }) w (.int .i64 (min m n)) := mk' fun ρ hρ o ho => by
  unfold execOp; rw [ho]
  simp [hρ _ _ hx, hρ _ _ hy, go_sem, resolve, invoke, builtin, Builtin.min_, Builtin.min2]
  by_cases h : n < m
  · rw [if_pos h]; exact (Int.min_eq_right (by omega)).symm
  · rw [if_neg h]; exact (Int.min_eq_left (by omega)).symm
theorem val_andNotE {k : IntKind} (hx : ev env x = some (.int k m)) (hy : ev env y = some (.int k n)) (h : bitsOf .andNot k m n = r) : Val P N env (.binOp .andNot t x y u) w (.int k r) := by
  rw [← h]; exact val_andNot hx hy
end
theorem bits_andNot {m n : Nat} (hm : m < 2 ^ 63) (hn : n < 2 ^ 63) : ∃ r : Nat, bitsOf .andNot .i64 m n = (r : Int) ∧ r ≤ m ∧ (m &&& n ≠ 0 → r < m) := by
  have h : ((BitVec.ofInt 64 m &&& ~~~(BitVec.ofInt 64 n) : BitVec 64)).toNat ≤ m := by
    rw [BitVec.toNat_and, BitVec.ofInt_natCast, BitVec.toNat_ofNat]
    exact Nat.le_trans Nat.and_le_left (Nat.mod_le _ _)
  refine ⟨((BitVec.ofInt 64 m &&& ~~~(BitVec.ofInt 64 n) : BitVec 64)).toNat, ?_, h, fun hne => ?_⟩
  · show IntKind.i64.wrap (((BitVec.ofInt 64 m &&& ~~~(BitVec.ofInt 64 n) : BitVec 64)).toNat : Int) = _
    apply wrap_i64 <;> omega
  · rcases Nat.lt_or_ge ((BitVec.ofInt 64 m &&& ~~~(BitVec.ofInt 64 n) : BitVec 64)).toNat m with hlt | hge
    · exact hlt
    · exfalso
      have e : ((BitVec.ofInt 64 m &&& ~~~(BitVec.ofInt 64 n) : BitVec 64)).toNat = m := by omega
      have e2 : (BitVec.ofInt 64 m &&& ~~~(BitVec.ofInt 64 n) : BitVec 64) = BitVec.ofInt 64 m := by
        apply BitVec.eq_of_toNat_eq
        rw [e, BitVec.ofInt_natCast, BitVec.toNat_ofNat, Nat.mod_eq_of_lt (by omega)]
      have e3 : (BitVec.ofInt 64 m &&& BitVec.ofInt 64 n : BitVec 64) = 0#64 := by
        rw [← e2, BitVec.and_assoc, BitVec.and_comm (~~~ _)]
        simp
      have e4 := congrArg BitVec.toNat e3
      rw [BitVec.toNat_and, BitVec.ofInt_natCast, BitVec.ofInt_natCast, BitVec.toNat_ofNat, BitVec.toNat_ofNat, Nat.mod_eq_of_lt (by omega), Nat.mod_eq_of_lt (by omega)] at e4
      exact hne (by simpa using e4)
/-! ### Closures; a function that ends without 'return' -/
section
variable {P : Program} {f : FuncId} {N : Nat} {k : List Item} {env : Env} {w : World} {R : Value → World → Prop}
theorem run_end0 {fn : Func} (hf : P.funcs[f]? = some fn) (hres : fn.results = #[]) (hR : R (.tuple #[]) w) : Run P f N [] env w R := fun a ha cs =>
  ⟨.tuple #[], w, _, hR, .one step_end, rfl, rfl, ha.defers, rfl, fn, hf, by simp [results, hres, Sem.run, pure]⟩
theorem val_makeFunc {fn : Fn} {xs ys : Array Operand} {us vs : List Value} (hx : evs env xs.toList = some us) (hy : evs env ys.toList = some vs) :
    Val P N env (.makeFunc fn xs ys) w (.func fn us.toArray vs.toArray) := fun a ha o ho => by
  have h1 : xs.map a.eval = us.toArray := by rw [← ha.evs hx, ← List.map_toArray]
  have h2 : ys.map a.eval = vs.toArray := by rw [← ha.evs hy, ← List.map_toArray]
  unfold execOp; rw [ho]
  simp only [h1, h2]
  rfl
end
theorem bit_is (k i : Nat) : ((((k / 2 ^ i) &&& 1 : Nat) : Int) = 1) ↔ k.testBit i = true := by
  rw [Nat.testBit_eq_decide_div_mod_eq, decide_eq_true_eq, Nat.and_one_is_mod]; omega
end Go.K
