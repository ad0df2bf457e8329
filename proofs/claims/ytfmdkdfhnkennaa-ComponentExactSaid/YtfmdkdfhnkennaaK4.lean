/- The operations that make memory or write it. -/
import Derived.Test.YtfmdkdfhnkennaaK3
set_option linter.unusedVariables false
set_option linter.unusedSimpArgs false
namespace Go.K
open Rep

structure New (w w' : World) (o : Obj) : Prop where
  ext : Ext No w w'
  at_ : w'.heap[w.heap.size]? = some o
  size : w'.heap.size = w.heap.size + 1

structure Upd (w w' : World) (b : Nat) (o : Obj) : Prop where
  ext : Ext (One b) w w'
  at_ : w'.heap[b]? = some o
  size : w'.heap.size = w.heap.size

theorem new_alloc (w : World) (o : Obj) : New w (w.alloc o) o :=
  ⟨⟨rfl, rfl, rfl, by simp, fun b hb _ => heap_alloc_old w o hb, Nat.le_refl _⟩, heap_alloc_new w o, by simp⟩
theorem new_alloc_drew (w : World) (o : Obj) : New w (w.drew.alloc o) o :=
  ⟨⟨rfl, rfl, rfl, by simp, fun b hb _ => heap_alloc_old w.drew o hb, Nat.le_succ _⟩, heap_alloc_new w.drew o, by simp⟩
theorem upd_setRow {w : World} {b : Nat} {old cs : Array Value} {t : TypeId} {fr : Nat × Nat} (h : w.heap[b]? = some (.cells old t fr)) : Upd w (w.setRow b cs) b (.cells cs t fr) :=
  ⟨⟨rfl, rfl, rfl, by simp [World.setRow], fun k _ hk => setRow_other w b k cs (fun e => hk e), Nat.le_refl _⟩, setRow_heap w b old cs t fr h, by simp [World.setRow]⟩

def zeroB (P : Program) (t : TypeId) : Option (List Value) := ((P.info? t).bind (·.zero)).map (·.cells.toList)

section
variable {P : Program} {N : Nat} {env : Env} {w : World} {x y z : Operand} {t u e : TypeId} {v : Value}

theorem run_zeroB {l : List Value} (h : zeroB P t = some l) (w : World) : ∃ z, (zeroValue t).run P w = .ok z w ∧ z.cells = l.toArray := by
  unfold zeroB at h
  cases hi : P.info? t with
  | none => rw [hi] at h; cases h
  | some i =>
    rw [hi] at h
    cases hz : i.zero with
    | none => simp [hz] at h
    | some z => simp [hz] at h; subst h; exact ⟨z, by simp [zeroValue, typeInfo, hi, hz], by simp⟩

theorem acts' {op : Op} {T : Value → World → Prop} (h : ∀ ρ : Operand → Value, (∀ x v, ev env x = some v → ρ x = v) → ∀ o : Oper, o.op = op →
    ∃ v w', ((execOp ρ o).run P w = .ok (.value v) w' ∨ ((execOp ρ o).run P w = .ok .skip w' ∧ v = undef)) ∧ T v w') : Acts P N env op w T :=
  fun a ha o ho => h a.eval (fun x v hx => ha.ev hx) o ho

theorem acts_alloc {l : List Value} (hz : zeroB P t = some l) :
    Acts P N env (.alloc t) w (fun v w' => v = .pointer (some ⟨w.heap.size, 0, none⟩) ∧ New w w' (.cells l.toArray t)) := acts' fun ρ hρ o ho => by
  obtain ⟨zv, h1, h2⟩ := run_zeroB hz w
  refine ⟨_, _, .inl ?_, rfl, new_alloc w _⟩
  unfold execOp; rw [ho]
  simp [go_sem, Instr.alloc, h1, newVar, newRow]
  exact congrArg (fun c => w.alloc (.cells c t)) h2

theorem acts_box {cs : List Value} (hx : ev env x = some v) (hc : v.cells = cs.toArray) :
    Acts P N env (.box t x) w (fun u w' => u = .pointer (some ⟨w.heap.size, 0, none⟩) ∧ New w w' (.cells cs.toArray t)) := acts' fun ρ hρ o ho => by
  refine ⟨_, _, .inl ?_, rfl, new_alloc w _⟩
  unfold execOp; rw [ho]
  simp [hρ _ _ hx, go_sem, Instr.box, newVar, newRow]
  exact congrArg (fun c => w.alloc (.cells c t)) hc

theorem run_storeVarL {b o n : Nat} {cs vs : List Value} {ty : TypeId} (hs : szB P t = some n) (hv : v.cells = vs.toArray) (hl : vs.length = n) (h1 : ∀ u ∈ vs, u.oneCell' = true)
    (hb : w.heap[b]? = some (.cells cs.toArray ty (0, 0))) (ho : o + n ≤ cs.length) :
    (storeVar t ⟨b, o, none⟩ v).run P w = .ok () (w.setRow b (cs.take o ++ vs ++ cs.drop (o + n)).toArray) := by
  have hst := run_storeCells_at P b o ty vs 0 cs.toArray w hb (by simpa [hl] using ho) h1
  simp only [Nat.add_zero, hl] at hst
  unfold storeVar
  simp [run_sizeOfB hs, hv, hl, hst]

theorem acts_store {b o n : Nat} {cs vs : List Value} {ty : TypeId} (hx : ev env x = some (.pointer (some ⟨b, o, none⟩))) (hy : ev env y = some v) (hs : szB P t = some n)
    (hv : v.cells = vs.toArray) (hl : vs.length = n) (h1 : ∀ u ∈ vs, u.oneCell' = true) (hb : w.heap[b]? = some (.cells cs.toArray ty (0, 0))) (ho : o + n ≤ cs.length) :
    Acts P N env (.store t x y) w (fun u w' => u = undef ∧ Upd w w' b (.cells (cs.take o ++ vs ++ cs.drop (o + n)).toArray ty (0, 0))) := acts' fun ρ hρ oo hoo => by
  refine ⟨undef, _, .inr ⟨?_, rfl⟩, rfl, upd_setRow hb⟩
  unfold execOp; rw [hoo]
  simp only [hρ _ _ hx, hρ _ _ hy, Instr.storeAt, Instr.sureAddr, Sem.run_bind, Sem.run_pure, Result.andThen_ok]
  rw [run_storeVarL hs hv hl h1 hb ho]
  rfl

theorem acts_store1 {b o : Nat} {cs : List Value} {ty : TypeId} (hx : ev env x = some (.pointer (some ⟨b, o, none⟩))) (hy : ev env y = some v) (hs : szB P t = some 1)
    (hv : v.cells = #[v]) (h1 : v.oneCell' = true) (hb : w.heap[b]? = some (.cells cs.toArray ty (0, 0))) (ho : o < cs.length) :
    Acts P N env (.store t x y) w (fun u w' => u = undef ∧ Upd w w' b (.cells (cs.set o v).toArray ty (0, 0))) := by
  have h := acts_store (P := P) (N := N) (w := w) (vs := [v]) (n := 1) hx hy hs (by simpa using hv) rfl (by simpa using h1) hb ho
  have e : cs.take o ++ [v] ++ cs.drop (o + 1) = cs.set o v := by
    rw [List.set_eq_take_append_cons_drop, if_pos ho]; simp
  rwa [e] at h
end

/-! ### Lists of the call's own -/

/-- A slice of the call's own: nil, or at the head of a block of its own, which is among `M`. -/
def OwnS {α : Type} [Rep α] (w : World) (M : Nat → Prop) (e : TypeId) (v : Value) (ys : List α) : Prop :=
  (v = .slice none 0 0 ∧ ys = []) ∨
  ∃ g cap cs, v = .slice (some ⟨g, 0, none⟩) ys.length cap ∧ M g ∧ w.heap[g]? = some (.cells cs e (0, 0)) ∧ ys.length ≤ cap ∧ cs.size = cap * sz α ∧
    ∀ i (hi : i < ys.length), rep w.heap M ys[i] (cellsAt cs (i * sz α) (sz α))

section
variable {α : Type} [Rep α] {w w' : World} {A M M' : Nat → Prop} {e : TypeId} {v : Value} {ys zs : List α}

theorem OwnS.nil : OwnS w M e (.slice none 0 0) ([] : List α) := .inl ⟨rfl, rfl⟩

theorem OwnS.ext (h : OwnS w M e v ys) (he : Ext A w w') (hA : ∀ b, b < w.heap.size → A b → M b) (hv : ∀ b, Ob v b → ¬ A b) : OwnS w' M e v ys := by
  rcases h with h | ⟨g, cap, cs, hv', hg, hc, h1, h2, h3⟩
  · exact .inl h
  · refine .inr ⟨g, cap, cs, hv', hg, he.at' hc (hv g (by subst hv'; rfl)), h1, h2, fun i hi => Rep.keep (h3 i hi) (fun b hb hn => he.block b hb (fun ha => hn (hA b hb ha)))⟩

theorem OwnS.sub (h : OwnS w M e v ys) (hM : ∀ b, b < w.heap.size → M' b → M b) (hv : ∀ b, Ob v b → M' b) : OwnS w M' e v ys := by
  rcases h with h | ⟨g, cap, cs, hv', hg, hc, h1, h2, h3⟩
  · exact .inl h
  · exact .inr ⟨g, cap, cs, hv', hv g (by subst hv'; rfl), hc, h1, h2, fun i hi => Rep.sub (h3 i hi) hM⟩

theorem OwnS.ob (h : OwnS w M e v ys) : ∀ b, Ob v b → M b ∧ b < w.heap.size := by
  intro b hb
  rcases h with ⟨rfl, _⟩ | ⟨g, cap, cs, rfl, hg, hc, _⟩
  · cases hb
  · simp only [Ob, Value.ownBlock, Option.some.injEq] at hb
    subst hb
    exact ⟨hg, lt_of_at hc⟩

theorem OwnS.len (h : OwnS w M e v ys) : ∃ a c, v = .slice a ys.length c := by
  rcases h with ⟨rfl, rfl⟩ | ⟨g, cap, cs, rfl, _⟩
  · exact ⟨none, 0, rfl⟩
  · exact ⟨_, _, rfl⟩

/-- It is not written any more: it reads as a list. -/
theorem OwnS.read (h : OwnS w M e v ys) (hM : ∀ b, b < w.heap.size → M' b → M b ∧ ¬ Ob v b) (hl : ys.length ≤ 9223372036854775807) : RV w M' ys v := by
  rcases h with ⟨rfl, rfl⟩ | ⟨g, cap, cs, rfl, hg, hc, h1, h2, h3⟩
  · exact rv_nil
  · refine rv_list.2 ⟨_, cap, rfl, h1, hl, .inr ⟨g, 0, rfl, ?_⟩⟩
    refine ⟨fun hm => (hM g (lt_of_at hc) hm).2 rfl, cs, e, _, hc, ?_, fun i hi => ?_⟩
    · rw [Nat.zero_add, h2]; exact Nat.mul_le_mul_right _ h1
    · rw [Nat.zero_add]; exact Rep.sub (h3 i hi) (fun b hb hm => (hM b hb hm).1)

theorem cellsAt_ext {cs cs' : Array Value} {o o' n : Nat} (h : ∀ j, j < n → cs[o + j]? = cs'[o' + j]?) : cellsAt cs o n = cellsAt cs' o' n := by
  apply List.ext_getElem?
  intro j
  simp only [cellsAt, List.getElem?_take, List.getElem?_drop]
  split
  · rename_i hj; simpa using h j hj
  · rfl

variable {P : Program} {N : Nat} {env : Env} {x y : Operand} {t u : TypeId} {s : Value}

def bytesB (P : Program) (t : TypeId) : Option Nat := (P.info? t).map (·.bytes)

/-- What is asked of a slice type: its element, the element's cells and bytes, and that its zero value has as many cells. -/
def rowB (P : Program) (t e n bytes : Nat) : Bool := match P.underlying t, P.info? e with
  | some (.slice e'), some i => e' == e && i.size == n && i.bytes == bytes && (match i.zero with | some z => z.cells.size == n | none => false)
  | _, _ => false
theorem rowB_spec {n bytes : Nat} (h : rowB P t e n bytes = true) : ∃ i z, P.underlying t = some (.slice e) ∧ P.info? e = some i ∧ i.size = n ∧ i.bytes = bytes ∧ i.zero = some z ∧ z.cells.size = n := by
  unfold rowB at h
  split at h
  · rename_i e' i hu hi
    simp only [Bool.and_eq_true, beq_iff_eq] at h
    obtain ⟨⟨⟨rfl, h1⟩, h2⟩, h3⟩ := h
    cases hz : i.zero with
    | none => rw [hz] at h3; cases h3
    | some z => rw [hz] at h3; exact ⟨i, z, hu, hi, h1, h2, hz, by simpa using h3⟩
  · cases h

/-- 'append(own, list...)'. -/
theorem acts_append {bytes : Nat} (hx : ev env x = some v) (hy : ev env y = some s) (hrow : rowB P t e (sz α) bytes = true) (hsz : 0 < sz α)
    (hown : OwnS w M e v ys) (hsrc : RV w M zs s) (hlen : (ys.length + zs.length) * bytes ≤ 140737488355328) (h63 : ys.length + zs.length ≤ 140737488355328) :
    Acts P N env (.call { callee := .builtin .append, args := #[x, y], argTypes := #[t, t] }) w (fun v' w' =>
      OwnS w' (fun b => Ob v' b ∨ M b) e v' (ys ++ zs) ∧ Ext (Ob v) w w' ∧ (∀ b, Ob v' b → Ob v b ∨ w.heap.size ≤ b)) := acts' fun ρ hρ oo hoo => by
  obtain ⟨i, z, hu, hi, rfl0, hby, hz, hzs⟩ := rowB_spec hrow
  obtain ⟨a, c, rfl, hcap, hl0, hseg⟩ := rv_list.1 hsrc
  have key : ∃ v' w', (Builtin.append_ #[t, t] oo.type #[v, .slice a zs.length c]).run P w = .ok v' w' ∧
      OwnS w' (fun b => Ob v' b ∨ M b) e v' (ys ++ zs) ∧ Ext (Ob v) w w' ∧ (∀ b, Ob v' b → Ob v b ∨ w.heap.size ≤ b) := by
    by_cases hzs0 : zs = []
    · subst hzs0
      refine ⟨v, w, ?_, ?_, Ext.refl _ _, fun b hb => .inl hb⟩
      · have hf : (Builtin.firstCells i.size 0 (.slice a 0 c)).run P w = .ok #[] w := by cases a <;> simp [Builtin.firstCells, loadCells, loadCellsFrom]
        rcases hown with ⟨rfl, _⟩ | ⟨g, cap, cs, rfl, hg, hc, h1, h2, h3⟩
        · simp [Builtin.append_, run_underlying hu, sizeOf, typeInfo, hi, Builtin.lenOf, hf]
        · simp [Builtin.append_, run_underlying hu, sizeOf, typeInfo, hi, Builtin.lenOf, hf, h1, storeCells]
      · rw [List.append_nil]
        exact hown.sub (fun b hb h => h.elim (fun ho => (hown.ob b ho).1) id) (fun b hb => .inl hb)
    · rcases hseg with h | ⟨sb, so, rfl, hsb, scs, sty, sfz, hsc, hsl, hsr⟩
      · exact absurd h hzs0
      · have hm0 : 0 < zs.length := List.length_pos_iff.2 hzs0
        obtain ⟨news, hnews_def⟩ : ∃ news, news = cellsAt scs so (zs.length * sz α) := ⟨_, rfl⟩
        have hnl : news.length = zs.length * i.size := by
          rw [hnews_def, rfl0]; simp only [cellsAt, List.length_take, List.length_drop, Array.length_toList]; omega
        have hnl' : news.length = zs.length * sz α := by rw [hnl, rfl0]
        have hget : ∀ j, j < zs.length * sz α → news[j]? = scs[so + j]? := fun j hj => by
          rw [hnews_def]; simp only [cellsAt, List.getElem?_take, if_pos hj, List.getElem?_drop]; simp
        have hnews : ∀ j v, news[j]? = some v → w.cell? ((⟨sb, so, none⟩ : Addr).add j) = some v := fun j v hv => by
          have hj : j < zs.length * sz α := by rw [← hnl']; exact (List.getElem?_eq_some_iff.1 hv).1
          rw [addr_add, cell_of_row w sb (so + j) scs sty sfz hsc, ← hget j hj, hv]
        have hrepn : ∀ k (hk : k < zs.length), rep w.heap M zs[k] (cellsAt news.toArray (k * sz α) (sz α)) := fun k hk => by
          have := hsr k hk
          rwa [show cellsAt scs (so + k * sz α) (sz α) = cellsAt news.toArray (k * sz α) (sz α) from cellsAt_ext (fun j hj => by
            have hb : k * sz α + j < zs.length * sz α := by
              have := Nat.mul_le_mul_right (sz α) (show k + 1 ≤ zs.length from hk); rw [Nat.succ_mul] at this; omega
            rw [show ∀ m, news.toArray[m]? = news[m]? from fun m => by simp, hget _ hb, Nat.add_assoc])] at this
        have h1c : ∀ u ∈ news, u.oneCell' = true := fun u hu' => by
          obtain ⟨j, hj, rfl⟩ := List.mem_iff_getElem.1 hu'
          have hjl : j < zs.length * sz α := by rw [← hnl']; exact hj
          have hk : j / sz α < zs.length := (Nat.div_lt_iff_lt_mul hsz).2 hjl
          refine Rep.one (hrepn (j / sz α) hk) _ ?_
          apply List.mem_iff_getElem?.2
          refine ⟨j % sz α, ?_⟩
          have hmod := Nat.mod_lt j hsz
          simp only [cellsAt, List.getElem?_take, if_pos hmod, List.getElem?_drop]
          rw [Nat.mul_comm, Nat.div_add_mod]
          simp [hj]
        -- a block made anew
        have fresh : ∀ (olds : List Value) (cap : Nat) (o : Obj), olds.length = ys.length * sz α → (∀ k (hk : k < ys.length), rep w.heap M ys[k] (cellsAt olds.toArray (k * sz α) (sz α))) →
            o = .cells (olds.toArray ++ news.toArray ++ Builtin.zeroCells z.cells (cap - (ys.length + zs.length))) e (0, 0) → ys.length + zs.length ≤ cap →
            OwnS (w.drew.alloc o) (fun b => Ob (.slice (some ⟨w.heap.size, 0, none⟩) (ys.length + zs.length) cap) b ∨ M b) e (.slice (some ⟨w.heap.size, 0, none⟩) (ys.length + zs.length) cap) (ys ++ zs) := by
          intro olds cap o holds hrepo ho hcap'
          subst ho
          have hnew := new_alloc_drew w (.cells (olds.toArray ++ news.toArray ++ Builtin.zeroCells z.cells (cap - (ys.length + zs.length))) e (0, 0))
          refine .inr ⟨w.heap.size, cap, _, by rw [List.length_append], .inl rfl, hnew.at_, by rw [List.length_append]; exact hcap', ?_, ?_⟩
          · simp only [Array.size_append, List.size_toArray, size_zeroCells, hzs, holds, hnl', ← Nat.add_mul]
            congr 1; omega
          · intro k hk
            rw [List.length_append] at hk
            have hkeep : ∀ (x : α) (vs : List Value), rep w.heap M x vs → rep (w.drew.alloc (.cells (olds.toArray ++ news.toArray ++ Builtin.zeroCells z.cells (cap - (ys.length + zs.length))) e (0, 0))).heap
                (fun b => Ob (.slice (some ⟨w.heap.size, 0, none⟩) (ys.length + zs.length) cap) b ∨ M b) x vs := fun x vs hr =>
              Rep.keep (Rep.sub hr (fun b hb h => h.elim (fun e => by simp only [Ob, Value.ownBlock, Option.some.injEq] at e; omega) id)) (fun b hb _ => hnew.ext.block b hb (fun h => h))
            by_cases hky : k < ys.length
            · rw [List.getElem_append_left hky]
              have := hrepo k hky
              rw [show cellsAt olds.toArray (k * sz α) (sz α) = cellsAt (olds.toArray ++ news.toArray ++ Builtin.zeroCells z.cells (cap - (ys.length + zs.length))) (k * sz α) (sz α) from cellsAt_ext (fun j hj => by
                have hb : k * sz α + j < ys.length * sz α := by
                  have := Nat.mul_le_mul_right (sz α) (show k + 1 ≤ ys.length from hky); rw [Nat.succ_mul] at this; omega
                rw [Array.append_assoc, Array.getElem?_append_left (by simpa [holds] using hb)])] at this
              exact hkeep _ _ this
            · rw [List.getElem_append_right (by omega)]
              have hkz : k - ys.length < zs.length := by omega
              have := hrepn (k - ys.length) hkz
              rw [show cellsAt news.toArray ((k - ys.length) * sz α) (sz α) = cellsAt (olds.toArray ++ news.toArray ++ Builtin.zeroCells z.cells (cap - (ys.length + zs.length))) (k * sz α) (sz α) from cellsAt_ext (fun j hj => by
                have hb : (k - ys.length) * sz α + j < zs.length * sz α := by
                  have := Nat.mul_le_mul_right (sz α) (show k - ys.length + 1 ≤ zs.length from hkz); rw [Nat.succ_mul] at this; omega
                have he : k * sz α = ys.length * sz α + (k - ys.length) * sz α := by rw [← Nat.add_mul]; congr 1; omega
                rw [Array.getElem?_append_left (by simp only [Array.size_append, List.size_toArray, holds, hnl']; omega), Array.getElem?_append_right (by simp only [List.size_toArray, holds]; omega)]
                congr 1
                simp only [List.size_toArray, holds]; omega)] at this
              exact hkeep _ _ this
        rcases hown with ⟨rfl, rfl⟩ | ⟨g, cap, cs, rfl, hg, hc, h1, h2, h3⟩
        · have hr := run_append_nil (P := P) w t oo.type e i z hu hi hz ⟨sb, so, none⟩ zs.length c news hnl hnews hm0 (by omega)
            (by rw [hby]; simp only [List.length_nil, Nat.zero_add] at hlen; omega)
          have hfr := fresh [] (grownCap w zs.length 0 e) _ (by simp) (fun k hk => by simp at hk) rfl (by simpa using grownCap_ge w zs.length 0 e)
          simp only [List.length_nil, Nat.zero_add, List.nil_append] at hfr
          refine ⟨_, _, hr, ?_, ?_, ?_⟩
          · simpa using hfr
          · exact (new_alloc_drew w _).ext.mono (fun b hb h => h.elim)
          · intro b hb; simp only [Ob, Value.ownBlock, Option.some.injEq] at hb; exact .inr (by omega)
        · have hcsl : (cellsAt cs 0 (ys.length * sz α)).length = ys.length * sz α := by
            have := Nat.mul_le_mul_right (sz α) h1
            simp only [cellsAt, List.length_take, List.length_drop, Array.length_toList]; omega
          have hcsg : ∀ j, j < ys.length * sz α → (cellsAt cs 0 (ys.length * sz α))[j]? = cs[j]? := fun j hj => by
            simp only [cellsAt, List.getElem?_take, if_pos hj, List.getElem?_drop]; simp
          have hrepo : ∀ k (hk : k < ys.length), rep w.heap M ys[k] (cellsAt (cellsAt cs 0 (ys.length * sz α)).toArray (k * sz α) (sz α)) := fun k hk => by
            have := h3 k hk
            rwa [show cellsAt cs (k * sz α) (sz α) = cellsAt (cellsAt cs 0 (ys.length * sz α)).toArray (k * sz α) (sz α) from cellsAt_ext (fun j hj => by
              have hb : k * sz α + j < ys.length * sz α := by
                have := Nat.mul_le_mul_right (sz α) (show k + 1 ≤ ys.length from hk); rw [Nat.succ_mul] at this; omega
              rw [show ∀ m, (cellsAt cs 0 (ys.length * sz α)).toArray[m]? = (cellsAt cs 0 (ys.length * sz α))[m]? from fun m => by simp, hcsg _ hb])] at this
          by_cases hroom : ys.length + zs.length ≤ cap
          · have hbound : ys.length * i.size + news.length ≤ cs.size := by
              rw [hnl, rfl0, h2, ← Nat.add_mul]; exact Nat.mul_le_mul_right _ hroom
            have hr := run_append_room (P := P) w t oo.type e i hu hi g ys.length cap cs hc ⟨sb, so, none⟩ zs.length c news hnl hnews h1c hroom hbound
            have hupd := upd_setRow (w := w) (cs := (cs.toList.take (ys.length * i.size) ++ news ++ cs.toList.drop (ys.length * i.size + news.length)).toArray) hc
            refine ⟨_, _, hr, .inr ⟨g, cap, _, by rw [List.length_append], .inr hg, hupd.at_, by rw [List.length_append]; exact hroom, ?_, ?_⟩, ?_, ?_⟩
            · simp only [List.size_toArray, List.length_append, List.length_take, List.length_drop, Array.length_toList, hnl, rfl0] at hbound ⊢
              omega
            · intro k hk
              rw [List.length_append] at hk
              have hkeep : ∀ (x : α) (vs : List Value), rep w.heap M x vs → rep (w.setRow g (cs.toList.take (ys.length * i.size) ++ news ++ cs.toList.drop (ys.length * i.size + news.length)).toArray).heap
                  (fun b => Ob (.slice (some ⟨g, 0, none⟩) (ys.length + zs.length) cap) b ∨ M b) x vs := fun x vs hr' =>
                Rep.keep (Rep.sub hr' (fun b hb h => h.elim (fun e => by simp only [Ob, Value.ownBlock, Option.some.injEq] at e; subst e; exact hg) id))
                  (fun b hb hn => hupd.ext.block b hb (fun h => hn (.inr (by rw [show b = g from h]; exact hg))))
              rw [rfl0] at hbound
              by_cases hky : k < ys.length
              · rw [List.getElem_append_left hky]
                have := h3 k hky
                rw [show cellsAt cs (k * sz α) (sz α) = cellsAt (cs.toList.take (ys.length * i.size) ++ news ++ cs.toList.drop (ys.length * i.size + news.length)).toArray (k * sz α) (sz α) from cellsAt_ext (fun j hj => by
                  have hb : k * sz α + j < ys.length * sz α := by
                    have := Nat.mul_le_mul_right (sz α) (show k + 1 ≤ ys.length from hky); rw [Nat.succ_mul] at this; omega
                  conv => rhs; rw [List.getElem?_toArray, List.append_assoc, List.getElem?_append_left (by simp only [List.length_take, Array.length_toList, rfl0]; omega), List.getElem?_take, if_pos (by rw [rfl0]; exact hb)]
                  simp)] at this
                exact hkeep _ _ this
              · rw [List.getElem_append_right (by omega)]
                have hkz : k - ys.length < zs.length := by omega
                have := hrepn (k - ys.length) hkz
                rw [show cellsAt news.toArray ((k - ys.length) * sz α) (sz α) = cellsAt (cs.toList.take (ys.length * i.size) ++ news ++ cs.toList.drop (ys.length * i.size + news.length)).toArray (k * sz α) (sz α) from cellsAt_ext (fun j hj => by
                  have hb : (k - ys.length) * sz α + j < zs.length * sz α := by
                    have := Nat.mul_le_mul_right (sz α) (show k - ys.length + 1 ≤ zs.length from hkz); rw [Nat.succ_mul] at this; omega
                  have he : k * sz α = ys.length * sz α + (k - ys.length) * sz α := by rw [← Nat.add_mul]; congr 1; omega
                  have htl : (cs.toList.take (ys.length * i.size)).length = ys.length * sz α := by simp only [List.length_take, Array.length_toList, rfl0]; omega
                  rw [show ∀ m, news.toArray[m]? = news[m]? from fun m => by simp, show ∀ (l : List Value) m, l.toArray[m]? = l[m]? from fun l m => by simp, List.getElem?_append_left (by rw [List.length_append, htl]; omega), List.getElem?_append_right (by rw [htl]; omega), htl]
                  congr 1; omega)] at this
                exact hkeep _ _ this
            · exact hupd.ext.mono (fun b hb h => by rw [show b = g from h]; rfl)
            · intro b hb; exact .inl hb
          · have holds : ∀ j v, (cellsAt cs 0 (ys.length * sz α))[j]? = some v → w.cell? ((⟨g, 0, none⟩ : Addr).add j) = some v := fun j v hv => by
              have hj : j < ys.length * sz α := by rw [← hcsl]; exact (List.getElem?_eq_some_iff.1 hv).1
              rw [addr_add, cell_of_row w g (0 + j) cs e (0, 0) hc, Nat.zero_add, ← hcsg j hj, hv]
            have hr := run_append_grow (P := P) w t oo.type e i z hu hi hz ⟨g, 0, none⟩ ys.length cap (cellsAt cs 0 (ys.length * sz α)) (by rw [rfl0]; exact hcsl) holds ⟨sb, so, none⟩ zs.length c news hnl hnews (by omega) (by omega)
              (growslice_fits (by omega) (by rw [hby]; exact hlen))
            have hfr := fresh _ (grownCap w (ys.length + zs.length) cap e) _ hcsl hrepo rfl (grownCap_ge w _ _ e)
            refine ⟨_, _, hr, hfr, ?_, ?_⟩
            · exact (new_alloc_drew w _).ext.mono (fun b hb h => h.elim)
            · intro b hb; simp only [Ob, Value.ownBlock, Option.some.injEq] at hb; exact .inr (by omega)
  obtain ⟨v', w', hrun, hpost⟩ := key
  refine ⟨v', w', .inl ?_, hpost⟩
  unfold execOp; rw [hoo]
  simp [hρ _ _ hx, hρ _ _ hy, resolve, invoke, builtin, hrun]
end
end Go.K
