/- Operations that chapter 30 needs: bools compared, entries of a map that is spelt, fields of elements of own lists. -/
import Derived.Test.YtfmdkdfhnkennaaKComp2
import Derived.Laws.Small
set_option linter.unusedVariables false
set_option linter.unusedSimpArgs false
set_option linter.unusedSectionVars false
namespace Go.K
open Rep

section
variable {P : Program} {N : Nat} {env : Env} {x y : Operand} {t u : TypeId} {a b : Bool} {w : World}
theorem run_eqGuard_bool (ht : P.underlying t = some .bool) (op : BinOp) (a b : Bool) : (eqGuard op t x y (.bool a) (.bool b)).run P w = .ok () w := by
  have h8 : (Op.eqGuardIn Op.maxDepth t (.bool a) (.bool b)).run P w = .ok false w := by
    rw [show Op.maxDepth = (Op.maxDepth - 1) + 1 from rfl, Op.eqGuardIn]; simp [run_underlying ht]
  unfold eqGuard
  cases op <;> simp [Sem.run_bind, Sem.run_pure, Sem.run_ite, run_program, Result.andThen_ok, h8] <;> (cases P.eqGuardType P.depth t <;> simp [h8])
theorem val_neqB (ht : P.underlying t = some .bool) (hx : ev env x = some (.bool a)) (hy : ev env y = some (.bool b)) : Val P N env (.binOp .neq t x y u) w (.bool (decide (a ≠ b))) := mk' fun ρ hρ o ho => by
  have h7 : (Op.equal t (.bool a) (.bool b)).run P w = .ok (a == b) w := Go.run_equal_bool w t a b ht
  have h10 : (binOp .neq t (.bool a) (.bool b)).run P w = .ok (.bool (decide (a ≠ b))) w := by
    show (Op.equal t (.bool a) (.bool b) >>= fun z => pure (Value.bool (!z))).run P w = _
    rw [Sem.run_bind, h7]; cases a <;> cases b <;> rfl
  unfold execOp; rw [ho]
  simp only [hρ _ _ hx, hρ _ _ hy]
  simp [Sem.run_bind, run_eqGuard_bool ht, h10]
end

section
variable {κ β : Type} [DecidableEq κ] {kv : κ → Value} {vv : β → Value} {m : List (κ × β)} {w : World} {C : Nat → Nat} {j b : Nat}
variable {P : Program} {N : Nat} {env : Env} {x y z : Operand} {t kt et : TypeId}
/-- An entry of a map that is spelt. -/
theorem a_insert (h : OwnM w C j b kv vv m) (ht : P.underlying t = some (.map kt et)) (hk : KeyOK P kt kv) {k : κ} {u : β}
    (hx : ev env x = some (.map (some b))) (hy : ev env y = some (kv k)) (hz : ev env z = some (vv u)) :
    Acts P N env (.insert t x y z) w (fun v w' => v = undef ∧ Stp [j] w C w' C ∧ OwnM w' C j b kv vv (mput m k u)) := acts' fun ρ hρ o ho => by
  obtain ⟨hc, es, clock, hb, hm⟩ := h
  have hf := hk.find k es.toList (keys m) w hm.key
  have hget : (getObj b).run P w = .ok (.map es clock) w := by simp [getObj, Sem.run, hb]
  cases hi : (keys m).findIdx? (fun x => decide (x = k)) with
  | none =>
    rw [hi] at hf
    have hu := upd_setObj (.map (es.push { key := kv k, val := vv u, born := clock }) (clock + 1)) hb
    refine ⟨undef, _, .inr ⟨?_, rfl⟩, rfl, upd_step (o := .map #[] 0) hu hc, hc, _, _, hu.at_, hm.push hi u⟩
    unfold execOp; rw [ho]
    simp only [hρ _ _ hx, hρ _ _ hy, hρ _ _ hz]
    unfold Instr.mapUpdate
    simp only [Sem.run_bind, run_underlying ht, Result.andThen_ok, hget, hk.check, hf, Option.bind_none]
    rw [setObj_run hb (fun _ _ _ h => by cases h)]
    rfl
  | some i =>
    rw [hi] at hf
    have hu := upd_setObj (.map (es.modify i fun e => { e with key := kv k, val := vv u }) clock) hb
    have hke := key_at hm hi
    have hlt : i < es.size := by
      have := (List.findIdx?_eq_some_iff_getElem.1 hi).1
      have h2 := congrArg List.length hm.key
      simp only [List.length_map, Array.length_toList] at h2
      omega
    have hke' : ((es[i]?).map (·.key)).getD (kv k) = kv k := by rw [hke]; rfl
    refine ⟨undef, _, .inr ⟨?_, rfl⟩, rfl, upd_step (o := .map #[] 0) hu hc, hc, _, _, hu.at_, hm.modify hi u⟩
    unfold execOp; rw [ho]
    simp only [hρ _ _ hx, hρ _ _ hy, hρ _ _ hz]
    unfold Instr.mapUpdate
    have hel : es.toList[i]? = some es[i] := by simp [hlt]
    simp only [Sem.run_bind, run_underlying ht, Result.andThen_ok, hget, hk.check, hf, Option.bind_some, hel, Option.map_some]
    simp only [Sem.run_bind, Instr.keyThatStays, hke', hk.bits, if_true, Sem.run_pure, Result.andThen_ok]
    rw [setObj_run hb (fun _ _ _ h => by cases h)]
    rfl
end

section
variable {α : Type} [Rep α] {w : World} {C : Nat → Nat} {j : Nat} {xs : List α} {v : Value} {e : TypeId} {g i off k : Nat}
variable {P : Program} {N : Nat} {env : Env} {y z : Operand} {t : TypeId} {u : Value} {us : List Value}
theorem cellsAt_put {cs : List Value} {p s : Nat} (hp : p + s ≤ cs.length) (hl : us.length = k) (ho : off + k ≤ s) :
    cellsAt (cs.take (p + off) ++ us ++ cs.drop (p + off + k)).toArray p s = (cellsAt cs.toArray p s).take off ++ us ++ (cellsAt cs.toArray p s).drop (off + k) := by
  have l1 : (cs.take (p + off)).length = p + off := by rw [List.length_take]; omega
  have l2 : (cellsAt cs.toArray p s).length = s := by simp only [cellsAt, List.length_take, List.length_drop]; omega
  have hA : ∀ m, m < s → (cellsAt cs.toArray p s)[m]? = cs[p + m]? := fun m hm => by simp only [cellsAt, List.getElem?_take, List.getElem?_drop, if_pos hm]
  generalize hAA : cellsAt cs.toArray p s = A at *
  have l3 : (A.take off).length = off := by rw [List.length_take]; omega
  apply List.ext_getElem?
  intro m
  simp only [cellsAt, List.getElem?_take, List.getElem?_drop]
  by_cases h3 : m < s
  · rw [if_pos h3]
    by_cases h1 : m < off
    · rw [List.append_assoc, List.append_assoc, List.getElem?_append_left (by omega), List.getElem?_append_left (by omega), List.getElem?_take, if_pos (by omega), List.getElem?_take, if_pos h1, hA m h3]
    · by_cases h2 : m < off + k
      · rw [List.append_assoc, List.append_assoc, List.getElem?_append_right (by omega), List.getElem?_append_right (l₁ := A.take off) (by omega), List.getElem?_append_left (by omega), List.getElem?_append_left (by omega)]
        congr 1; omega
      · rw [List.getElem?_append_right (by rw [List.length_append]; omega), List.getElem?_append_right (l₁ := A.take off ++ us) (by rw [List.length_append]; omega), List.getElem?_drop, List.getElem?_drop, List.length_append, List.length_append, l1, l3, hl, hA _ (by omega)]
        congr 1; omega
  · rw [if_neg h3, List.getElem?_eq_none]
    simp only [List.length_append, List.length_drop]; omega
/-- A part of an element is written. -/
theorem a_storeF {x0 : α} (h : OwnL w C j e v xs) (hg : Ob v g) (hi : i < xs.length) (hy : ev env y = some (.pointer (some ⟨g, i * sz α + off, none⟩))) (hz : ev env z = some u) (hs : szB P t = some k)
    (hv : u.cells = us.toArray) (hl : us.length = k) (h1 : ∀ u ∈ us, u.oneCell' = true) (ho : off + k ≤ sz α)
    (hr : ∀ vs, rep w.heap (Mc C) xs[i] vs → rep w.heap (Mc C) x0 (vs.take off ++ us ++ vs.drop (off + k))) :
    Acts P N env (.store t y z) w (fun u' w' => u' = undef ∧ Stp [j] w C w' C ∧ OwnL w' C j e v (xs.set i x0)) := fun a ha oo hoo => by
  obtain ⟨g', cap, cs, rfl, hcol, hM, hc, hcap, h2, h3⟩ := h.at_own (by omega)
  simp only [Ob, Value.ownBlock, Option.some.injEq] at hg
  subst hg
  have hb : (i + 1) * sz α ≤ cap * sz α := Nat.mul_le_mul_right _ (by omega)
  rw [Nat.succ_mul] at hb
  obtain ⟨u', w', k1, k2, k3⟩ := acts_store (P := P) (N := N) (cs := cs.toList) (n := k) (vs := us) hy hz hs hv hl h1 (by simpa using hc) (by simp only [Array.length_toList]; omega) a ha oo hoo
  have hst : Stp [j] w C w' C := ⟨k3.ext.mono (fun b _ hb => by rw [show b = g' from hb, hcol]; simp), fun _ _ => rfl⟩
  have keep : ∀ {x : α} {vs : List Value}, rep w.heap (Mc C) x vs → rep w'.heap (Mc C) x vs := fun hr => Rep.keep hr (fun b hb hn => k3.ext.block b hb (fun e => hn (by rw [show b = g' from e]; exact hM)))
  refine ⟨u', w', k1, k2, hst, ⟨.inr ⟨g', cap, _, by rw [List.length_set], hM, k3.at_, by rw [List.length_set]; exact hcap, ?_, fun q hk => ?_⟩, h.col⟩⟩
  · simp only [List.size_toArray, List.length_append, List.length_take, List.length_drop, Array.length_toList, hl]; omega
  · rw [List.length_set] at hk
    rw [List.getElem_set]
    split
    · rename_i hik
      subst hik
      rw [cellsAt_put (by simp only [Array.length_toList]; omega) hl ho]
      exact keep (hr _ (by simpa using h3 i hi))
    · rename_i hik
      have : cellsAt (cs.toList.take (i * sz α + off) ++ us ++ cs.toList.drop (i * sz α + off + k)).toArray (q * sz α) (sz α) = cellsAt cs (q * sz α) (sz α) := cellsAt_ext (fun m hm => by
        rw [show ∀ (l : List Value) (p : Nat), l.toArray[p]? = l[p]? from fun l p => by simp, ← Array.getElem?_toList]
        rcases Nat.lt_or_ge q i with hlt | hge
        · have := Nat.mul_le_mul_right (sz α) (show q + 1 ≤ i from hlt)
          rw [Nat.succ_mul] at this
          rw [List.append_assoc, List.getElem?_append_left (by simp only [List.length_take, Array.length_toList]; omega), List.getElem?_take, if_pos (by omega)]
        · have := Nat.mul_le_mul_right (sz α) (show i + 1 ≤ q by omega)
          rw [Nat.succ_mul] at this
          rw [List.getElem?_append_right (by simp only [List.length_append, List.length_take, Array.length_toList, hl]; omega), List.getElem?_drop]
          congr 1
          simp only [List.length_append, List.length_take, Array.length_toList, hl]; omega)
      rw [this]; exact keep (h3 q hk)
/-- A cell of an element is read. -/
theorem OwnL.cell (h : OwnL w C j e v xs) (hg : Ob v g) (hi : i < xs.length) (ho : off < sz α) (ha : aggB P t = some false) (hr : ∀ vs, rep w.heap (Mc C) xs[i] vs → vs[off]? = some u)
    (hy : ev env y = some (.pointer (some ⟨g, i * sz α + off, none⟩))) : ∀ w', w'.heap[g]? = w.heap[g]? → Val P N env (.load t y) w' u := by
  obtain ⟨g', cap, cs, rfl, _, _, hc, h1, h2, h3⟩ := h.at_own (by omega)
  simp only [Ob, Value.ownBlock, Option.some.injEq] at hg
  subst hg
  intro w' hw
  refine val_loadOwn (cs := cs.toList) (by rw [hw]; simpa using hc) ha ?_ hy
  have := hr _ (h3 i hi)
  simp only [cellsAt, List.getElem?_take, List.getElem?_drop, if_pos ho] at this
  exact this
end
theorem mapIn_len {α : Type} (f : α → α) (l : List α) (i : Nat) : ((l.take i).map f ++ l.drop i).length = l.length := by
  simp only [List.length_append, List.length_map, List.length_take, List.length_drop]; omega
theorem mapIn_get {α : Type} (f : α → α) {l : List α} {i : Nat} (h : i < l.length) (h2 : i < ((l.take i).map f ++ l.drop i).length) : ((l.take i).map f ++ l.drop i)[i] = l[i] := by
  have e : ((l.take i).map f).length = i := by rw [List.length_map, List.length_take]; omega
  rw [List.getElem_append_right (by omega), List.getElem_drop]
  congr 1; omega
theorem mapIn_set {α : Type} (f : α → α) {l : List α} {i : Nat} (h : i < l.length) : ((l.take i).map f ++ l.drop i).set i (f l[i]) = (l.take (i + 1)).map f ++ l.drop (i + 1) := by
  have e : ((l.take i).map f).length = i := by rw [List.length_map, List.length_take]; omega
  rw [List.set_append_right _ _ (by omega), e, Nat.sub_self, List.drop_eq_getElem_cons h, List.set_cons_zero, List.take_succ_eq_append_getElem h, List.map_append]
  simp
section
variable {P : Program} {t tr ti : TypeId} {n0 n1 n2 tg0 tg1 tg2 pk0 pk1 pk2 : String} {e0 e1 e2 : Bool} {y0 y1 y2 : Nat} {N : Nat} {env : Env} {x y : Operand} {u : TypeId} {w : World}
theorem run_eq_bond (h : P.underlying t = some (.struct #[⟨n0, tr, 0, e0, tg0, pk0, y0⟩, ⟨n1, tr, 2, e1, tg1, pk1, y1⟩, ⟨n2, ti, 4, e2, tg2, pk2, y2⟩])) (h0 : n0 ≠ "_") (h1 : n1 ≠ "_") (h2 : n2 ≠ "_") (hS : P.stoodInHeld t = false)
    (hE : EqOK P tr kvC) (hi : P.underlying ti = some (.int .i64)) (ha : aggB P tr = some true) (hs : szB P tr = some 2) (a b : Bond) :
    (Op.equalIn 10000 t (.agg (encB a).toArray) (.agg (encB b).toArray)).run P w = .ok (decide (a = b)) w := by
  have hf : P.fieldsOf t = #[⟨n0, tr, 0, e0, tg0, pk0, y0⟩, ⟨n1, tr, 2, e1, tg1, pk1, y1⟩, ⟨n2, ti, 4, e2, tg2, pk2, y2⟩] := by simp [Program.fieldsOf, h]
  have p0 : ∀ c : Bond, (part tr (encB c).toArray 0).run P w = .ok (kvC c.A) w := fun c => by
    unfold part; simp only [Sem.run_bind, run_isAggB ha, Result.andThen_ok, if_true, run_sizeOfB hs, Sem.run_pure]; rfl
  have p1 : ∀ c : Bond, (part tr (encB c).toArray 2).run P w = .ok (kvC c.B) w := fun c => by
    unfold part; simp only [Sem.run_bind, run_isAggB ha, Result.andThen_ok, if_true, run_sizeOfB hs, Sem.run_pure]; rfl
  have p2 : ∀ c : Bond, (part ti (encB c).toArray 4).run P w = .ok (.int .i64 c.w) w := fun c => run_part_plain w (by simp [Program.plainKey, hi]) rfl
  have he : ∀ a b : Couple, (Op.equalIn 9999 tr (kvC a) (kvC b)).run P w = .ok (decide (a = b)) w := fun (a b : Couple) => hE 9991 a b w
  have hn : ∀ x y : Int, (Op.equalIn 9999 ti (.int .i64 x) (.int .i64 y)).run P w = .ok (x == y) w := fun (x y : Int) => run_equalIn_int (P := P) w 9998 ti .i64 .i64 x y hi
  rw [show (10000 : Nat) = 9999 + 1 from rfl, run_equalIn_struct w 9999 t _ _ (by rw [hf]; exact h) hS, hf]
  have hd : (decide (a = b)) = ((decide (a.A = b.A) && decide (a.B = b.B)) && (a.w == b.w)) := by
    cases a; cases b; simp only [Bond.mk.injEq, Bool.decide_and, Bool.and_assoc]; rfl
  simp only [Op.eqFields, Sem.run_bind, Sem.run_ite, h0, h1, h2, ne_eq, not_false_eq_true, if_true, p0, p1, p2, Result.andThen_ok, hd, he, hn]
  cases decide (a.A = b.A) <;> cases decide (a.B = b.B) <;> cases (a.w == b.w) <;> simp [p0, p1, p2, he, hn]
theorem val_neBond (h : P.underlying t = some (.struct #[⟨n0, tr, 0, e0, tg0, pk0, y0⟩, ⟨n1, tr, 2, e1, tg1, pk1, y1⟩, ⟨n2, ti, 4, e2, tg2, pk2, y2⟩])) (h0 : n0 ≠ "_") (h1 : n1 ≠ "_") (h2 : n2 ≠ "_") (hS : P.stoodInHeld t = false)
    (hE : EqOK P tr kvC) (hi : P.underlying ti = some (.int .i64)) (ha : aggB P tr = some true) (hs : szB P tr = some 2) (hg : P.eqGuardType P.depth t = false) {a b : Bond} (hx : ev env x = some (.agg (encB a).toArray)) (hy : ev env y = some (.agg (encB b).toArray)) :
    Val P N env (.binOp .neq t x y u) w (.bool (decide (a ≠ b))) := mk' fun ρ hρ o ho => by
  unfold execOp; rw [ho]
  simp only [hρ _ _ hx, hρ _ _ hy, Sem.run_bind, run_eqGuard_agg _ _ _ _ _ _ _ hg, Result.andThen_ok, run_neq_struct, run_eq_bond h h0 h1 h2 hS hE hi ha hs, Sem.run_pure]
  simp
end
end Go.K
