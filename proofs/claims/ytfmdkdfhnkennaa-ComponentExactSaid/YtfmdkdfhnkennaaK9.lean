/- Own lists that are made with their length, and read and written in place. -/
import Derived.Test.YtfmdkdfhnkennaaK6
import Derived.Laws.MakeOwn
set_option linter.unusedVariables false
set_option linter.unusedSimpArgs false
namespace Go.K
open Rep

section
variable {α : Type} [Rep α] {w w' : World} {C C' : Nat → Nat} {P : Program} {N : Nat} {env : Env} {x y z q : Operand} {t ty e : TypeId} {v u : Value} {xs : List α} {j b g n : Nat}

theorem cellsAt_made {zs : List Value} {s : Nat} (hz : zs.length = s) {c i : Nat} (h : i < c) : cellsAt (madeCells zs.toArray (c * s)) (i * s) s = zs := by
  apply List.ext_getElem?
  intro k
  have hb : (i + 1) * s ≤ c * s := Nat.mul_le_mul_right s h
  rw [Nat.succ_mul] at hb
  simp only [cellsAt, List.getElem?_take, List.getElem?_drop]
  split
  · rename_i hk
    have h1 : i * s + k < c * s := by omega
    have h2 : (i * s + k) % s = k := by rw [Nat.mul_comm, Nat.mul_add_mod]; exact Nat.mod_eq_of_lt hk
    simp [madeCells, h1, hz, h2, List.getElem?_eq_getElem (show k < zs.length by omega)]
  · rename_i hk
    rw [List.getElem?_eq_none (by omega)]

/-- 'make([]T, l, c)'. -/
theorem a_make {bytes l c : Nat} {kl kc : IntKind} {x0 : α} {zs : List Value} (hF : Lim w C) (hj : j ≠ 0) (hrow : rowB P t e (sz α) bytes = true) (hzz : zeroB P e = some zs)
    (hy : ev env y = some (.int kl l)) (hz : ev env z = some (.int kc c)) (hlc : l ≤ c) (hlen : bytes * c ≤ 140737488355328) (h63 : c ≤ 140737488355328) (h0 : ∀ h M, rep h M x0 zs) :
    Acts P N env (.makeSlice t y z) w (fun v w' => ∃ C', Stp [] w C w' C' ∧ OwnL w' C' j e v (List.replicate l x0) ∧ Lim w' C') := acts' fun ρ hρ oo hoo => by
  obtain ⟨i, zv, hu, hi, hsi, hby, hzi, hzs⟩ := rowB_spec hrow
  have hzc : zv.cells = zs.toArray := by
    unfold zeroB at hzz; rw [hi] at hzz; simp [hzi] at hzz; rw [← hzz]
  have hzl : zs.length = sz α := by rw [← hzs, hzc]; simp
  have hbc : (i.bytes : Int) * c ≤ 281474976710656 := by
    have : ((bytes * c : Nat) : Int) ≤ 140737488355328 := by omega
    rw [Int.natCast_mul] at this; rw [hby]; omega
  have hr := run_make (P := P) w t e i zv hu hi hzi kl kc l c (by omega) (by omega) hbc (by omega)
  simp only [Int.toNat_natCast, hsi, hzc] at hr
  have hn := new_alloc w (.cells (madeCells zs.toArray (c * sz α)) e (0, 0))
  obtain ⟨C', h1, h2, h3⟩ := hn.own hF j
  refine ⟨_, _, .inl ?_, C', h1, ⟨.inr ⟨w.heap.size, c, madeCells zs.toArray (c * sz α), by rw [List.length_replicate], ?_, h2.at_, by rw [List.length_replicate]; exact hlc, by simp [madeCells], fun k hk => ?_⟩, fun b hb => ?_⟩, h3⟩
  · unfold execOp; rw [hoo]
    simp only [hρ _ _ hy, hρ _ _ hz, Sem.run_bind]
    rw [hr]; rfl
  · unfold Mc; rw [h2.col]; exact hj
  · rw [List.length_replicate] at hk
    rw [cellsAt_made hzl (show k < c by omega), List.getElem_replicate]; exact h0 _ _
  · simp only [Ob, Value.ownBlock, Option.some.injEq] at hb
    subst hb; exact h2.col

theorem OwnL.at_own (h : OwnL w C j e v xs) (hne : 0 < xs.length) : ∃ g cap cs, v = .slice (some ⟨g, 0, none⟩) xs.length cap ∧ C g = j ∧ Mc C g ∧ w.heap[g]? = some (.cells cs e (0, 0)) ∧ xs.length ≤ cap ∧ cs.size = cap * sz α ∧
    ∀ i (hi : i < xs.length), rep w.heap (Mc C) xs[i] (cellsAt cs (i * sz α) (sz α)) := by
  rcases h.own with ⟨_, rfl⟩ | ⟨g, cap, cs, hv, hg, hc, h1, h2, h3⟩
  · simp at hne
  · exact ⟨g, cap, cs, hv, h.col g (by subst hv; rfl), hg, hc, h1, h2, h3⟩

/-- The address of an element. -/
theorem OwnL.index (h : OwnL w C j e v xs) (hy : ev env y = some v) {e' : Nat} {kd : IntKind} {i : Int} (hf : elemB P t = some (e', sz α)) (hz : ev env z = some (.int kd i)) (h0 : 0 ≤ i) (h1 : i < xs.length) :
    ∃ g, Ob v g ∧ ∀ w', Val P N env (.indexAddr t y z) w' (.pointer (some ⟨g, i.toNat * sz α, none⟩)) := by
  obtain ⟨g, cap, cs, rfl, _, _, hc, _⟩ := h.at_own (by omega)
  refine ⟨g, rfl, fun w' => ?_⟩
  have := val_indexAddr (P := P) (N := N) (w := w') hf hy hz h0 h1
  rwa [Nat.zero_add] at this

/-- An element is read. -/
theorem OwnL.load (h : OwnL w C j e v xs) (hg : Ob v g) {i : Nat} (hi : i < xs.length) (ha : aggB P t = some false) (hx : Rep.agg α = false) (hy : ev env y = some (.pointer (some ⟨g, i * sz α, none⟩))) :
    ∃ u, RV w (Mc C) xs[i] u ∧ ∀ w', w'.heap[g]? = w.heap[g]? → Val P N env (.load t y) w' u := by
  obtain ⟨g', cap, cs, rfl, _, _, hc, h1, h2, h3⟩ := h.at_own (by omega)
  simp only [Ob, Value.ownBlock, Option.some.injEq] at hg
  subst hg
  have hr := h3 i hi
  have hl := Rep.len hr
  rw [Rep.flat hx] at hr hl
  obtain ⟨u, hu⟩ := List.length_eq_one_iff.1 hl
  rw [hu] at hr
  refine ⟨u, rep1_rv hr hx, fun w' hw => ?_⟩
  have hcu : cs[i * 1]? = some u := by
    have := congrArg (fun l => l[0]?) hu
    simpa [cellsAt] using this
  refine val_loadOwn (cs := cs.toList) (by rw [hw]; simpa using hc) ha ?_ hy
  rw [Rep.flat hx]; simpa using hcu
theorem OwnL.loadAgg (h : OwnL w C j e v xs) (hg : Ob v g) {i : Nat} (hi : i < xs.length) (ha : aggB P t = some true) (hs : szB P t = some (sz α)) (hx : Rep.agg α = true) (hy : ev env y = some (.pointer (some ⟨g, i * sz α, none⟩))) :
    ∃ u, RV w (Mc C) xs[i] u ∧ ∀ w', w'.heap[g]? = w.heap[g]? → Val P N env (.load t y) w' u := by
  obtain ⟨g', cap, cs, rfl, _, _, hc, h1, h2, h3⟩ := h.at_own (by omega)
  simp only [Ob, Value.ownBlock, Option.some.injEq] at hg
  subst hg
  have hr := h3 i hi
  refine ⟨.agg (cellsAt cs (i * sz α) (sz α)).toArray, ⟨_, hr, by simp [hx]⟩, fun w' hw => ?_⟩
  exact val_loadOwnAgg (cs := cs.toList) (by rw [hw]; simpa using hc) ha hs rfl (Rep.len hr) hy

/-- An element is written. -/
theorem a_storeO {x0 : α} {i : Nat} (h : OwnL w C j e v xs) (hg : Ob v g) (hi : i < xs.length) (hy : ev env y = some (.pointer (some ⟨g, i * sz α, none⟩))) (hz : ev env z = some u) (hs : szB P t = some (sz α)) (hr : RV w (Mc C) x0 u) :
    Acts P N env (.store t y z) w (fun u' w' => u' = undef ∧ Stp [j] w C w' C ∧ OwnL w' C j e v (xs.set i x0)) := fun a ha oo hoo => by
  obtain ⟨g', cap, cs, rfl, hcol, hM, hc, h1, h2, h3⟩ := h.at_own (by omega)
  simp only [Ob, Value.ownBlock, Option.some.injEq] at hg
  subst hg
  obtain ⟨vs, hv, hrep⟩ := hr.cells
  have hb : (i + 1) * sz α ≤ cap * sz α := Nat.mul_le_mul_right _ (by omega)
  rw [Nat.succ_mul] at hb
  have hvl := Rep.len hrep
  obtain ⟨u', w', k1, k2, k3⟩ := acts_store (P := P) (N := N) (cs := cs.toList) (n := sz α) (vs := vs) hy hz hs hv hvl (Rep.one hrep) (by simpa using hc) (by simp only [Array.length_toList]; omega) a ha oo hoo
  have hst : Stp [j] w C w' C := ⟨k3.ext.mono (fun b _ hb => by rw [show b = g' from hb, hcol]; simp), fun _ _ => rfl⟩
  have keep : ∀ {x : α} {vs : List Value}, rep w.heap (Mc C) x vs → rep w'.heap (Mc C) x vs := fun hr => Rep.keep hr (fun b hb hn => k3.ext.block b hb (fun e => hn (by rw [show b = g' from e]; exact hM)))
  refine ⟨u', w', k1, k2, hst, ⟨.inr ⟨g', cap, _, by rw [List.length_set], hM, k3.at_, by rw [List.length_set]; exact h1, ?_, fun k hk => ?_⟩, h.col⟩⟩
  · simp only [List.size_toArray, List.length_append, List.length_take, List.length_drop, Array.length_toList, hvl]; omega
  · rw [List.length_set] at hk
    rw [List.getElem_set]
    split
    · rename_i hik
      subst hik
      have : cellsAt (cs.toList.take (i * sz α) ++ vs ++ cs.toList.drop (i * sz α + sz α)).toArray (i * sz α) (sz α) = vs := by
        unfold cellsAt
        simp only [List.append_assoc]
        rw [List.drop_append_of_le_length (by simp only [List.length_take, Array.length_toList]; omega), List.drop_eq_nil_of_le (by simp only [List.length_take]; omega), List.nil_append, ← hvl, List.take_left]
      rw [this]; exact keep hrep
    · rename_i hik
      have : cellsAt (cs.toList.take (i * sz α) ++ vs ++ cs.toList.drop (i * sz α + sz α)).toArray (k * sz α) (sz α) = cellsAt cs (k * sz α) (sz α) := cellsAt_ext (fun m hm => by
        rw [show ∀ (l : List Value) (p : Nat), l.toArray[p]? = l[p]? from fun l p => by simp, ← Array.getElem?_toList]
        rcases Nat.lt_or_ge k i with hlt | hge
        · have := Nat.mul_le_mul_right (sz α) (show k + 1 ≤ i from hlt)
          rw [Nat.succ_mul] at this
          rw [List.append_assoc, List.getElem?_append_left (by simp only [List.length_take, Array.length_toList]; omega), List.getElem?_take, if_pos (by omega)]
        · have := Nat.mul_le_mul_right (sz α) (show i + 1 ≤ k by omega)
          rw [Nat.succ_mul] at this
          rw [List.getElem?_append_right (by simp only [List.length_append, List.length_take, Array.length_toList, hvl]; omega), List.getElem?_drop]
          congr 1
          simp only [List.length_append, List.length_take, Array.length_toList, hvl]; omega)
      rw [this]; exact keep (h3 k hk)
end

section
variable {α : Type} [Rep α] {w : World} {C : Nat → Nat} {P : Program} {f : FuncId} {N : Nat} {k : List Item} {R : Value → World → Prop} {env : Env} {ops : Array Oper} {S : World → Prop} {i t : Nat} {L : List (Nat × Bool)} {v : Value} {y z : Operand} {gd : Option (Nat × Bool)} {ty e e' : TypeId} {xs : List α} {j g : Nat} {kd : IntKind} {n : Int}
theorem oI (hop : opAt ops i = some (some t, .indexAddr ty y z, gd)) (hw : wantedE ops env gd = some true) (ht : Nat.blt t N = true) (hl : OwnL w C j e v xs) (hy : ev env y = some v)
    (hf : elemB P ty = some (e', sz α)) (hz : ev env z = some (.int kd n)) (h0 : 0 ≤ n) (h1 : n < xs.length)
    (h : ∀ g, Ob v g → Sch P f N k R ops S L ((t, .pointer (some ⟨g, n.toNat * sz α, none⟩)) :: env) w) : Sch P f N k R ops S ((i, true) :: L) env w := by
  obtain ⟨g, h2, h3⟩ := hl.index (P := P) (N := N) hy hf hz h0 h1
  exact yS hop hw ht (fun w' _ => h3 w') (h g h2)
theorem oN {i' : Nat} (hop : opAt ops i = some (some t, .load ty y, gd)) (hw : wantedE ops env gd = some true) (ht : Nat.blt t N = true) (hS : S w) (hl : OwnL w C j e v xs) (hg : Ob v g) (hi : i' < xs.length) (ha : aggB P ty = some false) (hx : Rep.agg α = false)
    (hy : ev env y = some (.pointer (some ⟨g, i' * sz α, none⟩))) (h : ∀ v, RV w (Mc C) xs[i'] v → Sch P f N k R ops S L ((t, v) :: env) w) : Sch P f N k R ops S ((i, false) :: L) env w := by
  obtain ⟨v, h2, h3⟩ := hl.load (P := P) (N := N) hg hi ha hx hy
  exact nS hop hw ht hS (h3 w rfl) (h v h2)
theorem oNA {i' : Nat} (hop : opAt ops i = some (some t, .load ty y, gd)) (hw : wantedE ops env gd = some true) (ht : Nat.blt t N = true) (hS : S w) (hl : OwnL w C j e v xs) (hg : Ob v g) (hi : i' < xs.length) (ha : aggB P ty = some true) (hs : szB P ty = some (sz α)) (hx : Rep.agg α = true)
    (hy : ev env y = some (.pointer (some ⟨g, i' * sz α, none⟩))) (h : ∀ v, RV w (Mc C) xs[i'] v → Sch P f N k R ops S L ((t, v) :: env) w) : Sch P f N k R ops S ((i, false) :: L) env w := by
  obtain ⟨v, h2, h3⟩ := hl.loadAgg (P := P) (N := N) hg hi ha hs hx hy
  exact nS hop hw ht hS (h3 w rfl) (h v h2)
theorem OwnL.stay {w' : World} {I : List Nat} (h : OwnL w C j e v xs) (hg : Ob v g) (hS : Ext (fun b => C b ∈ I) w w') (hj : j ∉ I) : w'.heap[g]? = w.heap[g]? :=
  hS.block g (h.own.ob g hg).2 (by rw [h.col g hg]; exact hj)
theorem oS {i' : Nat} {I : List Nat} (hop : opAt ops i = some (some t, .load ty y, gd)) (hw : wantedE ops env gd = some true) (ht : Nat.blt t N = true) (hl : OwnL w C j e v xs) (hg : Ob v g) (hst : ∀ w', S w' → w'.heap[g]? = w.heap[g]?) (hi : i' < xs.length) (ha : aggB P ty = some false) (hx : Rep.agg α = false)
    (hy : ev env y = some (.pointer (some ⟨g, i' * sz α, none⟩))) (h : ∀ v, RV w (Mc C) xs[i'] v → Sch P f N k R ops S L ((t, v) :: env) w) : Sch P f N k R ops S ((i, true) :: L) env w := by
  obtain ⟨v, h2, h3⟩ := hl.load (P := P) (N := N) hg hi ha hx hy
  exact yS hop hw ht (fun w' hS => h3 w' (hst w' hS)) (h v h2)
theorem oSA {i' : Nat} {I : List Nat} (hop : opAt ops i = some (some t, .load ty y, gd)) (hw : wantedE ops env gd = some true) (ht : Nat.blt t N = true) (hl : OwnL w C j e v xs) (hg : Ob v g) (hst : ∀ w', S w' → w'.heap[g]? = w.heap[g]?) (hi : i' < xs.length) (ha : aggB P ty = some true) (hs : szB P ty = some (sz α)) (hx : Rep.agg α = true)
    (hy : ev env y = some (.pointer (some ⟨g, i' * sz α, none⟩))) (h : ∀ v, RV w (Mc C) xs[i'] v → Sch P f N k R ops S L ((t, v) :: env) w) : Sch P f N k R ops S ((i, true) :: L) env w := by
  obtain ⟨v, h2, h3⟩ := hl.loadAgg (P := P) (N := N) hg hi ha hs hx hy
  exact yS hop hw ht (fun w' hS => h3 w' (hst w' hS)) (h v h2)
end
theorem zero_int {h : Array Obj} {M : Nat → Prop} : rep h M (0 : Int) [.int .i64 0] := rfl
theorem zero_bool {h : Array Obj} {M : Nat → Prop} : rep h M false [.bool false] := rfl
end Go.K
