/- Building structs and slices. -/
import Derived.Test.YtfmdkdfhnkennaaK5
set_option linter.unusedVariables false
set_option linter.unusedSimpArgs false
namespace Go.K
open Rep

/-- Parts laid over cells. -/
def fillL (place : Nat → Option (Nat × Nat)) : List Value → List (Nat × List Value) → Option (List Value)
  | cells, [] => some cells
  | cells, (i, vs) :: rest => match place i with
    | none => none
    | some (off, size) => if vs.length = size ∧ off + vs.length ≤ cells.length then fillL place (cells.take off ++ vs ++ cells.drop (off + vs.length)) rest else none

theorem foldl_set : ∀ (vs : List Value) (k off : Nat) (cs : List Value), off + k + vs.length ≤ cs.length →
    ((vs.zipIdx k).foldl (fun (acc : Array Value) (p : Value × Nat) => acc.setIfInBounds (off + p.2) p.1) cs.toArray) = (cs.take (off + k) ++ vs ++ cs.drop (off + k + vs.length)).toArray
  | [], k, off, cs, h => by simp
  | v :: vs, k, off, cs, h => by
    rw [List.length_cons] at h
    rw [List.zipIdx_cons, List.foldl_cons]
    have e1 : cs.toArray.setIfInBounds (off + k) v = (cs.set (off + k) v).toArray := by simp
    rw [e1, foldl_set vs (k + 1) off (cs.set (off + k) v) (by simp; omega)]
    congr 1
    have hlt : off + k < cs.length := by omega
    rw [List.set_eq_take_append_cons_drop, if_pos hlt]
    have e2 : off + (k + 1) = (cs.take (off + k)).length + 1 := by simp; omega
    have e3 : off + (k + 1) + vs.length = (cs.take (off + k)).length + (1 + vs.length) := by simp; omega
    rw [show List.take (off + (k + 1)) (cs.take (off + k) ++ v :: cs.drop (off + k + 1)) = cs.take (off + k) ++ [v] from by
      rw [e2, List.take_append]; simp [Nat.min_eq_left (Nat.le_of_lt hlt), List.take_take, Nat.min_eq_right (Nat.le_succ (off + k))]]
    rw [show List.drop (off + (k + 1) + vs.length) (cs.take (off + k) ++ v :: cs.drop (off + k + 1)) = cs.drop (off + k + (vs.length + 1)) from by
      rw [e3, List.drop_append]
      simp only [Nat.add_sub_cancel_left]
      rw [List.drop_eq_nil_of_le (by omega), List.nil_append, Nat.add_comm 1, List.drop_succ_cons, List.drop_drop]
      congr 1; omega]
    simp

theorem fill_eq (place : Nat → Option (Nat × Nat)) : ∀ (ps : List (Nat × Value)) (qs : List (Nat × List Value)) (cs cs' : List Value),
    ps.map (fun p => (p.1, p.2.cells)) = qs.map (fun q => (q.1, q.2.toArray)) → fillL place cs qs = some cs' → Instr.fill place cs.toArray ps = some cs'.toArray
  | [], [], cs, cs', _, h => by simp only [fillL, Option.some.injEq] at h; subst h; rfl
  | [], q :: qs, _, _, h, _ => by simp at h
  | p :: ps, [], _, _, h, _ => by simp at h
  | (i, v) :: ps, (j, vs) :: qs, cs, cs', h, hf => by
    simp only [List.map_cons, List.cons.injEq, Prod.mk.injEq] at h
    obtain ⟨⟨rfl, hv⟩, hr⟩ := h
    simp only [fillL] at hf
    unfold Instr.fill
    cases hp : place i with
    | none => rw [hp] at hf; cases hf
    | some os =>
      obtain ⟨off, size⟩ := os
      rw [hp] at hf
      simp only at hf ⊢
      split at hf
      · rename_i hc
        rw [hv]
        have hn : ¬ (vs.toArray.size ≠ size ∨ off + vs.toArray.size > cs.toArray.size) := by simp; omega
        simp only [List.size_toArray] at hn ⊢
        rw [if_neg (by simpa using hn)]
        have e : (vs.toArray.zipIdx.foldl (fun (acc : Array Value) (p : Value × Nat) => acc.setIfInBounds (off + p.2) p.1) cs.toArray) = (cs.take off ++ vs ++ cs.drop (off + vs.length)).toArray := by
          have := foldl_set vs 0 off cs (by simpa using hc.2)
          simpa using this
        rw [show (vs.toArray.zipIdx.foldl (fun cs (x : Value × Nat) => match x with | (c, j) => cs.setIfInBounds (off + j) c) cs.toArray) = _ from e]
        exact fill_eq place ps qs _ cs' hr hf
      · cases hf

/-- The parts of a composite, with their cells. -/
def Parts (env : Env) : List (Nat × Operand) → List (Nat × List Value) → Prop
  | [], [] => True
  | (i, x) :: ps, (j, vs) :: qs => i = j ∧ (∃ v, ev env x = some v ∧ v.cells = vs.toArray) ∧ Parts env ps qs
  | _, _ => False

def placesB (P : Program) (t : TypeId) : Option (List (Nat × Nat)) := match P.underlying t with
  | some (.struct fs) => fs.toList.mapM fun f => (szB P f.type).map fun n => (f.offset, n)
  | _ => none

section
variable {P : Program} {N : Nat} {env : Env} {w : World} {t : TypeId} {ρ : Operand → Value}

theorem Parts.map (hρ : ∀ x v, ev env x = some v → ρ x = v) : ∀ {ps : List (Nat × Operand)} {qs : List (Nat × List Value)}, Parts env ps qs →
    (ps.map fun p => (p.1, ρ p.2)).map (fun p => (p.1, p.2.cells)) = qs.map (fun q => (q.1, q.2.toArray))
  | [], [], _ => rfl
  | [], _ :: _, h => h.elim
  | _ :: _, [], h => h.elim
  | (i, x) :: ps, (j, vs) :: qs, h => by
    obtain ⟨rfl, ⟨v, hv, hc⟩, hr⟩ := h
    simp only [List.map_cons, hρ x v hv, hc]
    rw [Parts.map hρ hr]

theorem run_map {α β : Type} (g : α → β) (s : Sem α) (w : World) : (g <$> s).run P w = (s.run P w).andThen fun a w' => .ok (g a) w' := by
  show (Sem.run P (Sem.bind s (fun a => Sem.pure (g a))) w) = _
  exact Sem.run_bind _ _ _ _

theorem run_places {ps : List (Nat × Nat)} {fs : Array Field} (h : fs.toList.mapM (fun f => (szB P f.type).map fun n => (f.offset, n)) = some ps) (w : World) :
    (fs.mapM fun f => do pure (f.offset, ← sizeOf f.type) : Sem (Array (Nat × Nat))).run P w = .ok ps.toArray w := by
  rw [Array.mapM_eq_mapM_toList]
  have main : ∀ (l : List Field) (ps : List (Nat × Nat)), l.mapM (fun f => (szB P f.type).map fun n => (f.offset, n)) = some ps →
      (l.mapM fun f => do pure (f.offset, ← sizeOf f.type) : Sem (List (Nat × Nat))).run P w = .ok ps w := by
    intro l
    induction l with
    | nil => intro ps h; simp at h; subst h; rfl
    | cons f l ih =>
      intro ps h
      rw [List.mapM_cons] at h
      simp only [Option.bind_eq_bind, Option.bind_eq_some_iff, Option.map_eq_some_iff, Option.pure_def, Option.some.injEq] at h
      obtain ⟨p, ⟨n, hn, rfl⟩, qs, hq, rfl⟩ := h
      rw [List.mapM_cons]
      rw [Sem.run_bind, Sem.run_bind, run_sizeOfB hn, Result.andThen_ok, Sem.run_pure, Result.andThen_ok, Sem.run_bind, ih qs hq, Result.andThen_ok, Sem.run_pure]
  rw [run_map, main _ _ h]
  rfl

theorem val_build {parts : Array (Nat × Operand)} {zs cs : List Value} {ps : List (Nat × Nat)} {qs : List (Nat × List Value)} (hz : zeroB P t = some zs) (hp : placesB P t = some ps)
    (hq : Parts env parts.toList qs) (hf : fillL (ps[·]?) zs qs = some cs) : Val P N env (.build t parts) w (.agg cs.toArray) := mk' fun ρ hρ o ho => by
  obtain ⟨z, h1, h2⟩ := run_zeroB hz w
  unfold placesB at hp
  split at hp
  · rename_i fs hu
    have hpl := run_places hp w
    have hmap := Parts.map hρ hq
    have hfill := fill_eq (ps[·]?) (parts.toList.map fun p => (p.1, ρ p.2)) qs zs cs (by rw [← hmap]) hf
    have hfill' : Instr.fill (fun x => ps.toArray[x]?) z.cells (parts.map fun x => (x.1, ρ x.2)).toList = some cs.toArray := by
      rw [h2]
      have : (parts.map fun x => (x.1, ρ x.2)).toList = parts.toList.map fun p => (p.1, ρ p.2) := by simp
      rw [this, ← hfill]
      congr 1
      funext x
      simp
    unfold execOp; rw [ho]
    simp only [Instr.build, Sem.run_bind, h1, Result.andThen_ok, run_underlying hu, hpl]
    rw [show (parts.map fun x => match x with | (i, x) => (i, ρ x)).toList = (parts.map fun x => (x.1, ρ x.2)).toList from rfl, hfill']
    rfl
  · cases hp
end

section
variable {α : Type} [Rep α] {P : Program} {N : Nat} {env : Env} {w : World} {M : Nat → Prop} {C : Nat → Nat} {t e : TypeId}

/-- The elements of a slice that is written out. -/
def Elems (env : Env) (w : World) (M : Nat → Prop) : Nat → List (Nat × Operand) → List α → Prop
  | _, [], [] => True
  | k, (i, x) :: ps, y :: ys => i = k ∧ (∃ v, ev env x = some v ∧ RV w M y v) ∧ Elems env w M (k + 1) ps ys
  | _, _, _ => False

theorem Elems.len : ∀ {k : Nat} {ps : List (Nat × Operand)} {ys : List α}, Elems env w M k ps ys → ps.length = ys.length
  | _, [], [], _ => rfl
  | _, [], _ :: _, h => h.elim
  | _, _ :: _, [], h => h.elim
  | k, (i, x) :: ps, y :: ys, h => by simp only [List.length_cons]; rw [Elems.len h.2.2]

/-- The cells of a value that reads. -/
theorem RV.cells {x : α} {v : Value} (h : RV w M x v) : ∃ vs, v.cells = vs.toArray ∧ Rep.rep w.heap M x vs := by
  cases hx : Rep.agg α with
  | true => obtain ⟨vs, rfl, _, _, hr⟩ := h.many hx; exact ⟨vs, rfl, hr⟩
  | false =>
    have h1 := (h.one hx).1
    obtain ⟨vs, hr, hv⟩ := h
    have hl := Rep.len hr
    rw [Rep.flat hx] at hl
    obtain ⟨u, rfl⟩ := List.length_eq_one_iff.1 hl
    simp only [hx, Bool.false_eq_true, if_false, List.headD_cons] at hv
    subst hv
    exact ⟨[v], h1, hr⟩

theorem elems_fill : ∀ {ps : List (Nat × Operand)} {ys : List α} {k : Nat} (pre post : List Value), Elems env w M k ps ys → pre.length = k * sz α → post.length = ys.length * sz α →
    ∃ qs news, Parts env ps qs ∧ fillL (fun i => some (i * sz α, sz α)) (pre ++ post) qs = some (pre ++ news) ∧ news.length = ys.length * sz α ∧
      ∀ i (hi : i < ys.length), Rep.rep w.heap M ys[i] ((news.drop (i * sz α)).take (sz α))
  | [], [], k, pre, post, _, _, hpost => by
    have : post = [] := List.eq_nil_of_length_eq_zero (by simpa using hpost)
    subst this
    exact ⟨[], [], trivial, by simp [fillL], by simp, fun i hi => by simp at hi⟩
  | [], _ :: _, _, _, _, h, _, _ => h.elim
  | _ :: _, [], _, _, _, h, _, _ => h.elim
  | (i, x) :: ps, y :: ys, k, pre, post, h, hpre, hpost => by
    obtain ⟨rfl, ⟨v, hv, hr⟩, hrest⟩ := h
    obtain ⟨vs, hc, hrep⟩ := hr.cells
    have hl := Rep.len hrep
    rw [List.length_cons, Nat.succ_mul] at hpost
    obtain ⟨qs, news, h1, h2, h3, h4⟩ := elems_fill (k := i + 1) (pre ++ vs) (post.drop (sz α)) hrest (by rw [List.length_append, hpre, hl, Nat.succ_mul]) (by rw [List.length_drop, hpost]; omega)
    refine ⟨(i, vs) :: qs, vs ++ news, ⟨rfl, ⟨v, hv, hc⟩, h1⟩, ?_, ?_, ?_⟩
    · simp only [fillL]
      rw [if_pos ⟨hl, by rw [List.length_append, hpre, hl, hpost]; omega⟩]
      rw [show List.take (i * sz α) (pre ++ post) = pre from by rw [← hpre]; exact List.take_left, show List.drop (i * sz α + vs.length) (pre ++ post) = post.drop (sz α) from by rw [← hpre, hl, List.drop_append]; simp]
      rw [h2, List.append_assoc]
    · rw [List.length_append, hl, h3, List.length_cons, Nat.succ_mul]; omega
    · intro j hj
      cases j with
      | zero => simpa [← hl] using hrep
      | succ j =>
        have := h4 j (by simpa using hj)
        rw [show (j + 1) * sz α = vs.length + j * sz α from by rw [hl, Nat.succ_mul]; omega, List.drop_append, List.drop_eq_nil_of_le (Nat.le_add_right vs.length (j * sz α))]
        simpa using this

theorem a_buildSlice {n bytes : Nat} {parts : Array (Nat × Operand)} {ys : List α} (hF : Lim w C) (hrow : rowB P t e (sz α) bytes = true) (hn : n = ys.length) (hsm : n * sz α ≤ 16777216) (hsz : 0 < sz α)
    (hp : Elems env w (Mc C) 0 parts.toList ys) :
    Acts P N env (.buildSlice t n parts) w (fun v w' => Stp [] w C w' C ∧ RV w' (Mc C) ys v ∧ Lim w' C) := acts' fun ρ hρ oo hoo => by
  subst hn
  obtain ⟨i, z, hu, hi, hsi, hby, hz, hzs⟩ := rowB_spec hrow
  let zs : List Value := ((Array.range (ys.length * sz α)).map fun j => (if ys.length * sz α = 0 then (#[] : Array Value) else z.cells)[j % (if ys.length * sz α = 0 then (#[] : Array Value) else z.cells).size]!).toList
  obtain ⟨qs, news, h1, h2, h3, h4⟩ := elems_fill (k := 0) [] zs hp (by simp) (by simp [zs])
  simp only [List.nil_append] at h2
  have hmap := Parts.map hρ h1
  have hfill := fill_eq _ (parts.toList.map fun p => (p.1, ρ p.2)) qs zs news (by rw [← hmap]) h2
  have hnew := new_alloc w (.cells news.toArray e)
  have hrun : (Instr.buildSlice t ys.length (parts.map fun x => (x.1, ρ x.2))).run P w = .ok (.slice (some ⟨w.heap.size, 0, none⟩) ys.length ys.length) (w.alloc (.cells news.toArray e)) := by
    have hle : ¬ (ys.length * sz α > 2 ^ 24) := by omega
    have hpl : (parts.map fun x => (x.1, ρ x.2)).toList = parts.toList.map fun p => (p.1, ρ p.2) := by simp
    have hsz' : (sizeOf e).run P w = .ok (sz α) w := by simp [sizeOf, typeInfo, hi, hsi]
    unfold Instr.buildSlice
    simp only [Sem.run_bind, run_underlying hu, Result.andThen_ok, hsz', if_neg hle, Sem.run_pure, hpl]
    by_cases h0 : ys.length * sz α = 0
    · have hzs0 : zs = ((Array.range (ys.length * sz α)).map fun j => (#[] : Array Value)[j % (#[] : Array Value).size]!).toList := by simp only [zs, h0, if_true]
      rw [hzs0] at hfill
      simp only [h0, if_true, Sem.run_bind, Sem.run_pure, Result.andThen_ok] at hfill ⊢
      simp only [Array.toArray_toList] at hfill
      rw [hfill]
      simp [newRow]
    · have hzs0 : zs = ((Array.range (ys.length * sz α)).map fun j => z.cells[j % z.cells.size]!).toList := by simp only [zs, h0, if_false]
      rw [hzs0] at hfill
      have hzv : (zeroValue e).run P w = .ok z w := by simp [zeroValue, typeInfo, hi, hz]
      simp only [h0, if_false, Sem.run_bind, hzv, Sem.run_pure, Result.andThen_ok]
      simp only [Array.toArray_toList] at hfill
      rw [hfill]
      simp [newRow]
  refine ⟨.slice (some ⟨w.heap.size, 0, none⟩) ys.length ys.length, w.alloc (.cells news.toArray e), .inl ?_, hnew.st C, ?_, hF.st (hnew.st C)⟩
  · unfold execOp; rw [hoo]
    simp only [Sem.run_bind]
    rw [show (parts.map fun x => match x with | (i, x) => (i, ρ x)) = (parts.map fun x => (x.1, ρ x.2)) from rfl, hrun]
    rfl
  · refine rv_list.2 ⟨_, _, rfl, Nat.le_refl _, ?_, .inr ⟨w.heap.size, 0, rfl, fun hm => ?_, news.toArray, e, (0, 0), hnew.at_, ?_, fun i hi => ?_⟩⟩
    · have : ys.length ≤ ys.length * sz α := Nat.le_mul_of_pos_right _ hsz
      omega
    · have := hF _ hm; omega
    · simp only [Nat.zero_add, List.size_toArray, h3]; exact Nat.le_refl _
    · have := h4 i hi
      rw [Nat.zero_add]
      exact Rep.keep this (fun b hb hm => hnew.ext.block b hb (fun h => h))
end

section
variable {P : Program} {N : Nat} {env : Env} {w : World} {C : Nat → Nat} {y z : Operand} {t ty : TypeId} {v : Value} {b j n : Nat}
/-- A whole box is written. -/
theorem a_storeAll {cs vs : List Value} (hx : ev env y = some (.pointer (some ⟨b, 0, none⟩))) (hy : ev env z = some v) (hs : szB P t = some n)
    (hv : v.cells = vs.toArray) (hl : vs.length = n) (h1 : ∀ u ∈ vs, u.oneCell' = true) (hb : OwnB w C j b (.cells cs.toArray ty)) (ho : cs.length = n) :
    Acts P N env (.store t y z) w (fun u w' => u = undef ∧ Stp [j] w C w' C ∧ OwnB w' C j b (.cells vs.toArray ty)) := fun a ha oo hoo => by
  obtain ⟨u, w', h2, h3, h4, h5⟩ := a_store (P := P) (N := N) (w := w) (o := 0) hx hy hs hv hl h1 hb (by omega) a ha oo hoo
  have e : List.take 0 cs ++ vs ++ List.drop (0 + n) cs = vs := by
    rw [List.drop_eq_nil_of_le (by omega)]; simp
  rw [e] at h5
  exact ⟨u, w', h2, h3, h4, h5⟩
end
/-- '1 << n' is '2 ^ n'. -/
theorem shl1 {n : Nat} (h : n ≤ 62) : IntKind.i64.wrap (1 * 2 ^ min (n : Int).toNat IntKind.i64.bits) = 2 ^ n := by
  have h1 : min (n : Int).toNat IntKind.i64.bits = n := by
    show min (n : Int).toNat 64 = n
    omega
  have h2 : (2 : Int) ^ n = ((2 ^ n : Nat) : Int) := by simp
  have h3 : 2 ^ n ≤ 2 ^ 62 := Nat.pow_le_pow_right (by decide) h
  rw [h1, Int.one_mul, h2]
  generalize 2 ^ n = q at h3 ⊢
  apply wrap_i64 <;> omega
theorem shl1N {n : Nat} (h : n ≤ 62) : IntKind.i64.wrap (1 * 2 ^ min (n : Int).toNat IntKind.i64.bits) = ((2 ^ n : Nat) : Int) := by rw [shl1 h]; simp
/-- 'm | n' on 64 bits. -/
theorem bits_or {m n : Nat} (hm : m < 2 ^ 63) (hn : n < 2 ^ 63) : bitsOf .or .i64 m n = ((m ||| n : Nat) : Int) := by
  have h : m ||| n < 2 ^ 63 := Nat.or_lt_two_pow hm hn
  show IntKind.i64.wrap (((BitVec.ofInt 64 m ||| BitVec.ofInt 64 n : BitVec 64)).toNat : Int) = _
  rw [BitVec.toNat_or, BitVec.ofInt_natCast, BitVec.ofInt_natCast, BitVec.toNat_ofNat, BitVec.toNat_ofNat, Nat.mod_eq_of_lt (by omega), Nat.mod_eq_of_lt (by omega)]
  apply wrap_i64 <;> omega
theorem bits_and {m n : Nat} (hm : m < 2 ^ 63) (hn : n < 2 ^ 63) : bitsOf .and .i64 m n = ((m &&& n : Nat) : Int) := by
  have h : m &&& n < 2 ^ 63 := Nat.lt_of_le_of_lt Nat.and_le_left hm
  show IntKind.i64.wrap (((BitVec.ofInt 64 m &&& BitVec.ofInt 64 n : BitVec 64)).toNat : Int) = _
  rw [BitVec.toNat_and, BitVec.ofInt_natCast, BitVec.ofInt_natCast, BitVec.toNat_ofNat, BitVec.toNat_ofNat, Nat.mod_eq_of_lt (by omega), Nat.mod_eq_of_lt (by omega)]
  apply wrap_i64 <;> omega
/-- 'm >> k'. -/
theorem shrN {m k : Nat} (h : k ≤ 62) : (m : Int).fdiv (2 ^ min (k : Int).toNat IntKind.i64.bits) = ((m / 2 ^ k : Nat) : Int) := by
  have h1 : min (k : Int).toNat IntKind.i64.bits = k := by
    show min (k : Int).toNat 64 = k
    omega
  rw [h1, show (2 : Int) ^ k = ((2 ^ k : Nat) : Int) from by simp, Int.fdiv_eq_ediv_of_nonneg _ (Int.natCast_nonneg _)]
  exact (Int.natCast_ediv _ _).symm
end Go.K
