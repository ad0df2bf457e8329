/- Maps: an entry that is written in two steps, and ranging. -/
import Derived.Test.YtfmdkdfhnkennaaK7
set_option linter.unusedVariables false
set_option linter.unusedSimpArgs false
set_option linter.unusedSectionVars false
namespace Go.K
open Rep

section
variable {κ β : Type} [DecidableEq κ] {kv : κ → Value} {vv : β → Value} {m : List (κ × β)} {es : Array MapEntry} {clock : Nat}
variable {w w' : World} {I : List Nat} {C C' : Nat → Nat} {M : Nat → Prop} {j b n : Nat} {v : Value} {P : Program} {N : Nat} {env : Env} {x y z q : Operand} {t kt et : TypeId} {z0 : β}

/-- The entry of key `k` was made at `n`. -/
def BornIs (w : World) (b : Nat) (kv : κ → Value) (k : κ) (n : Nat) : Prop :=
  ∃ (es : Array MapEntry) (clock i : Nat) (e : MapEntry), w.heap[b]? = some (.map es clock) ∧ es.toList[i]? = some e ∧ e.key = kv k ∧ e.born = n

theorem modify_same {es : Array MapEntry} {i : Nat} {f g : MapEntry → MapEntry} (h : ∀ e, es.toList[i]? = some e → f e = g e) : es.modify i f = es.modify i g := by
  apply Array.ext'
  rw [Array.toList_modify, Array.toList_modify]
  apply List.ext_getElem?
  intro k
  simp only [List.getElem?_modify]
  cases hk : es.toList[k]? with
  | none => rfl
  | some e =>
    by_cases hik : i = k
    · subst hik; simp [h e hk]
    · simp [hik]

theorem entry_at (hm : MapIs kv vv m es clock) {i : Nat} {k : κ} {u : β} (h : m[i]? = some (k, u)) : ∃ e, es.toList[i]? = some e ∧ e.key = kv k ∧ e.val = vv u := by
  have h1 : (es.toList.map (·.key))[i]? = ((keys m).map kv)[i]? := by rw [hm.key]
  have h2 : (es.toList.map (·.val))[i]? = (m.map (fun p => vv p.2))[i]? := by rw [hm.val]
  simp only [List.getElem?_map, keys, h, Option.map_some] at h1 h2
  cases he : es.toList[i]? with
  | none => rw [he] at h1; cases h1
  | some e => rw [he] at h1 h2; simp only [Option.map_some, Option.some.injEq] at h1 h2; exact ⟨e, rfl, h1, h2⟩

theorem a_mapEntry (h : OwnM w C j b kv vv m) (ht : P.underlying t = some (.map kt et)) (hk : KeyOK P kt kv) (hz : ZeroIs P et (vv z0)) {k : κ}
    (hx : ev env x = some (.map (some b))) (hy : ev env y = some (kv k)) :
    Acts P N env (.mapEntry t x y) w (fun v w' => ∃ n : Nat, v = .tuple #[vv ((mget m k).getD z0), .int .i64 n] ∧ Stp [j] w C w' C ∧ OwnM w' C j b kv vv (mput m k ((mget m k).getD z0)) ∧ BornIs w' b kv k n) := acts' fun ρ hρ o ho => by
  obtain ⟨hc, es, clock, hb, hm⟩ := h
  have hf := hk.find k es.toList (keys m) w hm.key
  have hg := findIdx_mget m k
  have hget : (getObj b).run P w = .ok (.map es clock) w := by simp [getObj, Sem.run, hb]
  cases hi : (keys m).findIdx? (fun x => decide (x = k)) with
  | none =>
    rw [hi] at hf hg
    simp only [Option.bind_none] at hg
    have hu := upd_setObj (.map (es.push { key := kv k, val := vv z0, born := clock }) (clock + 1)) hb
    rw [← hg]
    refine ⟨.tuple #[vv z0, .int .i64 clock], _, .inl ?_, clock, rfl, upd_step (o := .map #[] 0) hu hc, ⟨hc, _, _, hu.at_, hm.push hi z0⟩, _, _, es.size, { key := kv k, val := vv z0, born := clock }, hu.at_, by simp, rfl, rfl⟩
    unfold execOp; rw [ho]
    simp only [hρ _ _ hx, hρ _ _ hy]
    unfold Instr.mapEntry
    simp only [Sem.run_bind, run_underlying ht, Result.andThen_ok, hget, hk.check, hf, Option.bind_none, hz w]
    rw [setObj_run hb (fun _ _ _ h => by cases h)]
    rfl
  | some i =>
    obtain ⟨u, hmu⟩ := findIdx_at hi
    rw [hi] at hf hg
    simp only [Option.bind_some, hmu, Option.map_some] at hg
    obtain ⟨e, he, hek, hev⟩ := entry_at hm hmu
    rw [← hg]
    have hsame : (es.modify i fun e => { e with key := kv k }) = es.modify i fun e => { e with key := kv k, val := vv u } := modify_same (fun e' he' => by
      rw [he] at he'; cases he'; rw [hev])
    have hu := upd_setObj (.map (es.modify i fun e => { e with key := kv k }) clock) hb
    have hke : ((es[i]?).map (·.key)).getD (kv k) = kv k := by rw [key_at hm hi]; rfl
    have heq : es[i]? = some e := by simpa using he
    refine ⟨.tuple #[vv u, .int .i64 e.born], _, .inl ?_, e.born, rfl, upd_step (o := .map #[] 0) hu hc, ⟨hc, _, _, hu.at_, by rw [hsame]; exact hm.modify hi u⟩, _, _, i, { e with key := kv k }, hu.at_, ?_, rfl, rfl⟩
    · unfold execOp; rw [ho]
      simp only [hρ _ _ hx, hρ _ _ hy]
      unfold Instr.mapEntry
      simp only [Sem.run_bind, run_underlying ht, Result.andThen_ok, hget, hk.check, hf, Option.bind_some, he, Option.map_some]
      simp only [Sem.run_bind, Instr.keyThatStays, hke, hk.bits, if_true, Sem.run_pure, Result.andThen_ok]
      rw [setObj_run hb (fun _ _ _ h => by cases h)]
      simp only [Result.andThen_ok, heq, Option.map_some, Option.getD_some, hev]
      rfl
    · rw [Array.toList_modify, List.getElem?_modify]; simp [he]

theorem born_unique {l : List MapEntry} (h : l.Pairwise (fun a b => a.born < b.born)) {i j : Nat} {a c : MapEntry} (hi : l[i]? = some a) (hj : l[j]? = some c) (he : a.born = c.born) : i = j := by
  obtain ⟨h1, rfl⟩ := List.getElem?_eq_some_iff.1 hi
  obtain ⟨h2, rfl⟩ := List.getElem?_eq_some_iff.1 hj
  rw [List.pairwise_iff_getElem] at h
  rcases Nat.lt_trichotomy i j with hlt | e | hlt
  · have := h i j h1 h2 hlt; omega
  · exact e
  · have := h j i h2 h1 hlt; omega

theorem a_entryStore (h : OwnM w C j b kv vv m) (hk : KeyOK P kt kv) {k : κ} {n : Nat} {u : β} (hbn : BornIs w b kv k n)
    (hx : ev env x = some (.map (some b))) (hy : ev env y = some (.int .i64 n)) (hz : ev env z = some (vv u)) :
    Acts P N env (.entryStore t x y z) w (fun v w' => v = undef ∧ Stp [j] w C w' C ∧ OwnM w' C j b kv vv (mput m k u)) := acts' fun ρ hρ o ho => by
  obtain ⟨hc, es, clock, hb, hm⟩ := h
  obtain ⟨es', clock', i, e, hb', he, hek, hen⟩ := hbn
  rw [hb] at hb'
  simp only [Option.some.injEq, Obj.map.injEq] at hb'
  obtain ⟨rfl, rfl⟩ := hb'
  have hget : (getObj b).run P w = .ok (.map es clock) w := by simp [getObj, Sem.run, hb]
  have hlt : i < es.toList.length := (List.getElem?_eq_some_iff.1 he).1
  have hfind : es.findIdx? (fun e => (e.born : Int) == (n : Int)) = some i := by
    rw [show es.findIdx? (fun e => (e.born : Int) == (n : Int)) = es.toList.findIdx? (fun e => (e.born : Int) == (n : Int)) from by cases es; simp, List.findIdx?_eq_some_iff_getElem]
    obtain ⟨h1, h2⟩ := List.getElem?_eq_some_iff.1 he
    refine ⟨h1, by rw [h2, hen]; simp, fun j hji => ?_⟩
    simp only [beq_iff_eq]
    intro hbj
    have hj : j < es.toList.length := by omega
    have : i = j := born_unique hm.rise he (List.getElem?_eq_getElem hj) (by rw [hen]; omega)
    omega
  have hmk : ∃ u0, m[i]? = some (k, u0) := by
    have h1 : (es.toList.map (·.key))[i]? = ((keys m).map kv)[i]? := by rw [hm.key]
    simp only [List.getElem?_map, he, Option.map_some, keys] at h1
    cases hmi : m[i]? with
    | none => rw [hmi] at h1; cases h1
    | some p =>
      rw [hmi] at h1
      simp only [Option.map_some, Option.some.injEq] at h1
      exact ⟨p.2, by rw [show p = (k, p.2) from by rw [← hk.inj _ _ (h1.symm.trans hek)]]⟩
  obtain ⟨u0, hmk⟩ := hmk
  have hidx : (keys m).findIdx? (fun x => decide (x = k)) = some i := by
    rw [List.findIdx?_eq_some_iff_getElem]
    obtain ⟨h1, h2⟩ := List.getElem?_eq_some_iff.1 hmk
    refine ⟨by simpa [keys] using h1, by simp [keys, h2], fun j hji => ?_⟩
    simp only [decide_eq_true_eq]
    intro hjk
    have hnd := hm.nodup
    unfold List.Nodup at hnd
    rw [List.pairwise_iff_getElem] at hnd
    exact hnd j i _ (by simpa [keys] using h1) hji (by rw [hjk]; simp [keys, h2])
  have hsame : (es.modify i fun e => { e with val := vv u }) = es.modify i fun e => { e with key := kv k, val := vv u } := modify_same (fun e' he' => by
    rw [he] at he'; cases he'; rw [hek])
  have hu := upd_setObj (.map (es.modify i fun e => { e with val := vv u }) clock) hb
  refine ⟨undef, _, .inr ⟨?_, rfl⟩, rfl, upd_step (o := .map #[] 0) hu hc, hc, _, _, hu.at_, by rw [hsame]; exact hm.modify hidx u⟩
  unfold execOp; rw [ho]
  simp only [hρ _ _ hx, hρ _ _ hy, hρ _ _ hz]
  unfold Instr.entryStore
  simp only [Sem.run_bind, Result.andThen_ok, hget, asInt, asIntOf, Sem.run_pure, hfind]
  rw [setObj_run hb (fun _ _ _ h => by cases h)]
  rfl

theorem OwnM.lenV (h : OwnM w C j b kv vv m) (hx : ev env x = some (.map (some b))) (ht : P.underlying t = some (.map kt et)) :
    Val P N env (.call { callee := .builtin .len, args := #[x], argTypes := #[t] }) w (.int .i64 m.length) := mk' fun ρ hρ o ho => by
  obtain ⟨_, es, clock, hb, hm⟩ := h
  have hl : es.size = m.length := by have := congrArg List.length hm.key; simpa [keys] using this
  have hget : (getObj b).run P w = .ok (.map es clock) w := by simp [getObj, Sem.run, hb]
  unfold execOp; rw [ho]
  simp [hρ _ _ hx, resolve, invoke, builtin, Builtin.len_, run_underlying ht, goInt, hget, hl]
theorem RM.lenV (h : RM w M kv vv m v) (hx : ev env x = some v) (ht : P.underlying t = some (.map kt et)) :
    Val P N env (.call { callee := .builtin .len, args := #[x], argTypes := #[t] }) w (.int .i64 m.length) := mk' fun ρ hρ o ho => by
  obtain ⟨b, rfl, _, es, clock, hb, hm⟩ := h
  have hl : es.size = m.length := by have := congrArg List.length hm.key; simpa [keys] using this
  have hget : (getObj b).run P w = .ok (.map es clock) w := by simp [getObj, Sem.run, hb]
  unfold execOp; rw [ho]
  simp [hρ _ _ hx, resolve, invoke, builtin, Builtin.len_, run_underlying ht, goInt, hget, hl]

/-! ### Ranging over a map -/

/-- What an iterator has not yet come to. -/
def leftOf (m : List (κ × β)) (es : List MapEntry) (seen : List Nat) : List (κ × β) := ((m.zip es).filter fun p => !seen.contains p.2.born).map (·.1)

/-- An iterator over a map at block `b` that does not turn meanwhile. -/
structure OwnIt (w : World) (C : Nat → Nat) (j it jb b : Nat) (kv : κ → Value) (vv : β → Value) (m : List (κ × β)) (left : List (κ × β)) (cur : Option (κ × β)) : Prop where
  col : C it = j
  colb : C b = jb
  is : ∃ (es : Array MapEntry) (clock : Nat) (seen : Array Nat), w.heap[it]? = some (.mapIter (some b) clock seen clock) ∧ w.heap[b]? = some (.map es clock) ∧ MapIs kv vv m es clock ∧ left = leftOf m es.toList seen.toList ∧
    ∀ c, cur = some c → ∃ (i : Nat) (e : MapEntry), m[i]? = some c ∧ es.toList[i]? = some e ∧ seen.back? = some e.born

variable {it jb : Nat} {left : List (κ × β)} {cur : Option (κ × β)}
theorem OwnIt.st (h : OwnIt w C j it jb b kv vv m left cur) (hs : Stp I w C w' C') (hj : j ∉ I) (hjb : jb ∉ I) : OwnIt w' C' j it jb b kv vv m left cur := by
  obtain ⟨h1, h2, es, clock, seen, h3, h4, r⟩ := h
  exact ⟨(hs.col it (lt_of_at h3)).trans h1, (hs.col b (lt_of_at h4)).trans h2, es, clock, seen, hs.ext.at' h3 (by rw [h1]; exact hj), hs.ext.at' h4 (by rw [h2]; exact hjb), r⟩

theorem leftOf_nil (m : List (κ × β)) (es : List MapEntry) (h : es.length = m.length) : leftOf m es [] = m := by
  unfold leftOf
  rw [List.filter_eq_self.2 (fun p _ => by simp)]
  exact List.map_fst_zip (by omega)

/-- 'for k, v := range m' begins. -/
theorem a_range (hF : Lim w C) (j : Nat) (ht : P.underlying t = some (.map kt et)) (hb : w.heap[b]? = some (.map es clock)) (hm : MapIs kv vv m es clock) (hx : ev env x = some (.map (some b))) :
    Acts P N env (.range t x) w (fun v w' => ∃ C' it, v = .pointer (some ⟨it, 0, none⟩) ∧ Stp [] w C w' C' ∧ OwnIt w' C' j it (C b) b kv vv m m none ∧ Lim w' C') := acts' fun ρ hρ o ho => by
  have hn := new_alloc w (.mapIter (some b) clock #[] clock)
  obtain ⟨C', h1, h2, h3⟩ := hn.own hF j
  have hget : (getObj b).run P w = .ok (.map es clock) w := by simp [getObj, Sem.run, hb]
  have hlen : es.toList.length = m.length := by have := congrArg List.length hm.key; simpa [keys] using this
  refine ⟨.pointer (some ⟨w.heap.size, 0, none⟩), _, .inl ?_, C', _, rfl, h1, ⟨h2.col, h1.col b (lt_of_at hb), es, clock, #[], h2.at_, h1.ext.at' hb (by simp), hm, (leftOf_nil m _ hlen).symm, fun c hc => by cases hc⟩, h3⟩
  unfold execOp; rw [ho]
  simp [hρ _ _ hx, Instr.range, run_underlying ht, hget]

theorem eraseIdx_map' {γ δ : Type} (f : γ → δ) : ∀ (l : List γ) (i : Nat), (l.map f).eraseIdx i = (l.eraseIdx i).map f
  | [], _ => by simp
  | a :: l, 0 => by simp
  | a :: l, i + 1 => by simp [eraseIdx_map' f l i]
theorem filter_erase {γ : Type} (f : γ → Nat) : ∀ (l : List γ) (c : Nat) (hc : c < l.length), l.Pairwise (fun a b => f a ≠ f b) → l.filter (fun a => f a != f l[c]) = l.eraseIdx c
  | [], c, hc, _ => by simp at hc
  | a :: l, 0, _, hp => by
    rw [List.pairwise_cons] at hp
    simp only [List.getElem_cons_zero, List.eraseIdx_zero, List.tail_cons]
    rw [List.filter_cons_of_neg (by simp), List.filter_eq_self.2 (fun b hb => by simpa using fun e => hp.1 b hb e.symm)]
  | a :: l, c + 1, hc, hp => by
    rw [List.pairwise_cons] at hp
    simp only [List.length_cons] at hc
    simp only [List.getElem_cons_succ, List.eraseIdx_cons_succ]
    rw [List.filter_cons_of_pos (by simpa using hp.1 _ (List.getElem_mem (by omega))), filter_erase f l c (by omega) hp.2]

theorem zip_pairwise {m : List (κ × β)} {es : List MapEntry} (h : es.Pairwise (fun a b => a.born < b.born)) : (m.zip es).Pairwise (fun a b => a.2.born ≠ b.2.born) := by
  rw [List.pairwise_iff_getElem] at h ⊢
  intro i j hi hj hij
  simp only [List.length_zip] at hi hj
  simp only [List.getElem_zip]
  have := h i j (by omega) (by omega) hij
  omega

theorem filter_zip_snd {m : List (κ × β)} {es : List MapEntry} (hl : es.length = m.length) (p : MapEntry → Bool) : ((m.zip es).filter fun q => p q.2).map (·.2) = es.filter p := by
  induction es generalizing m with
  | nil => simp
  | cons e es ih =>
    cases m with
    | nil => simp at hl
    | cons q m =>
      simp only [List.zip_cons_cons, List.filter_cons]
      have := ih (m := m) (by simpa using hl)
      split <;> simp [this]

/-- The next step of a range over a map: whichever entry is left, or the end. -/
theorem a_next (hF : Lim w C) (hI : OwnIt w C j it jb b kv vv m left cur) (hx : ev env x = some (.pointer (some ⟨it, 0, none⟩))) :
    Acts P N env (.next x false) w (fun v w' => Stp [j] w C w' C ∧ Lim w' C ∧ ((left = [] ∧ v = .tuple #[.bool false]) ∨
      ∃ (c : Nat) (hc : c < left.length), v = .tuple #[.bool true, kv left[c].1, vv left[c].2] ∧ OwnIt w' C j it jb b kv vv m (left.eraseIdx c) (some left[c]))) := acts' fun ρ hρ o ho => by
  obtain ⟨hcol, hcolb, es, clock, seen, hit, hb, hm, hleft, hcur⟩ := hI
  have hlen : es.toList.length = m.length := by have := congrArg List.length hm.key; simpa [keys] using this
  have hgi : (getObj it).run P w = .ok (.mapIter (some b) clock seen clock) w := by simp [getObj, Sem.run, hit]
  have hgb : (getObj b).run P w = .ok (.map es clock) w := by simp [getObj, Sem.run, hb]
  have hne : b ≠ it := fun e => by rw [e, hit] at hb; cases hb
  -- the entries that are left
  let L := (m.zip es.toList).filter fun p => !seen.toList.contains p.2.born
  have hL : left = L.map (·.1) := hleft
  have hE : (es.filter fun e => !seen.contains e.born).toList = L.map (·.2) := by
    rw [Array.toList_filter, ← filter_zip_snd hlen (fun e => !seen.contains e.born)]
    congr 1
    apply List.filter_congr
    intro p _
    simp
  have hborn : ∀ e ∈ es.toList, e.born < clock := hm.born
  have hold : (es.filter fun e => !seen.contains e.born).filter (·.born < clock) = es.filter fun e => !seen.contains e.born := by
    apply Array.ext'
    rw [Array.toList_filter]
    apply List.filter_eq_self.2
    intro e he
    rw [Array.toList_filter] at he
    simpa using hborn e (List.mem_filter.1 he).1
  have hnew : (es.filter fun e => !seen.contains e.born).filter (·.born ≥ clock) = #[] := by
    apply Array.ext'
    rw [Array.toList_filter]
    apply List.filter_eq_nil_iff.2
    intro e he
    rw [Array.toList_filter] at he
    have := hborn e (List.mem_filter.1 he).1
    simpa using this
  have hguard : (!seen.isEmpty && !es.isEmpty && es.all (·.born ≥ clock)) = false := by
    by_cases h0 : es.isEmpty = true
    · simp [h0]
    · have hpos : 0 < es.size := by simp only [Array.isEmpty_iff] at h0; exact Array.size_pos_iff.2 h0
      have : es.all (·.born ≥ clock) = false := by
        rw [← Array.all_toList]
        apply Bool.eq_false_iff.2
        intro hall
        rw [List.all_eq_true] at hall
        have hmem : es[0] ∈ es.toList := by simp
        have h1 := hall _ hmem
        have h2 := hborn _ hmem
        simp at h1
        omega
      simp [this]
  by_cases hemp : L = []
  · have hemp' : (es.filter fun e => !seen.contains e.born) = #[] := Array.ext' (by rw [hE, hemp]; rfl)
    refine ⟨.tuple #[.bool false], w, .inl ?_, Stp.refl _ _ _, hF, .inl ⟨by rw [hL, hemp]; rfl, rfl⟩⟩
    unfold execOp; rw [ho]
    simp only [hρ _ _ hx]
    unfold Instr.next
    simp only [Sem.run_bind, hgi, Result.andThen_ok, hgb, hguard, hold, hnew, hemp']
    simp [choose, Sem.run, Question.forced]
  · have hLlen : (es.filter fun e => !seen.contains e.born).size = L.length := by rw [← Array.length_toList, hE, List.length_map]
    have hpos : 0 < L.length := List.length_pos_iff.2 hemp
    have hnonempty : (es.filter fun e => !seen.contains e.born).isEmpty = false := by
      rw [Array.isEmpty_eq_false_iff, ← Array.size_pos_iff]; omega
    -- the choice
    obtain ⟨c, w1, hc, hw1, hchoose⟩ : ∃ c w1, c < L.length ∧ (Ext No w w1 ∧ w1.heap = w.heap) ∧ (choose (.mapNext L.length)).run P w = .ok c w1 := by
      by_cases h1 : L.length ≤ 1
      · exact ⟨0, w, hpos, ⟨Ext.refl _ _, rfl⟩, by simp [choose, Sem.run, Question.forced, h1]⟩
      · refine ⟨w.tape w.drawn (.mapNext L.length) % L.length, { w with drawn := w.drawn + 1 }, Nat.mod_lt _ hpos, ⟨Ext.drew _ _, rfl⟩, ?_⟩
        simp [choose, Sem.run, Question.forced, h1, Question.cut]
    obtain ⟨p, hp⟩ : ∃ p, L[c]? = some p := ⟨L[c], List.getElem?_eq_getElem hc⟩
    have hpm : p ∈ L := List.mem_of_getElem? hp
    have hpL : L[c] = p := by have := List.getElem?_eq_getElem hc; rw [this] at hp; exact Option.some.inj hp
    obtain ⟨i, hi, hpi⟩ := List.mem_iff_getElem.1 (List.mem_filter.1 hpm).1
    simp only [List.length_zip] at hi
    have hmi : m[i]? = some p.1 := by rw [← hpi]; simp only [List.getElem_zip]; exact List.getElem?_eq_getElem (by omega)
    have hei : es.toList[i]? = some p.2 := by rw [← hpi]; simp only [List.getElem_zip]; exact List.getElem?_eq_getElem (by omega)
    obtain ⟨e', he', hk', hv'⟩ := entry_at hm (k := p.1.1) (u := p.1.2) hmi
    rw [hei] at he'; cases he'
    have hcand : ∀ E : Array MapEntry, E.isEmpty = false → E.toList = L.map (·.2) → ((if E.isEmpty then #[none] else #[]) ++ (E ++ #[]).map some : Array (Option MapEntry))[c]? = some (some p.2) := by
      intro E hEe hEl
      rw [hEe]
      simp only [Bool.false_eq_true, if_false, Array.append_empty, Array.empty_append, Array.getElem?_map]
      rw [← Array.getElem?_toList, hEl, List.getElem?_map, hp]; rfl
    have hcand' := hcand _ hnonempty hE
    have hcsz : ∀ E : Array MapEntry, E.isEmpty = false → E.size = L.length → ((if E.isEmpty then #[none] else #[]) ++ (E ++ #[]).map some : Array (Option MapEntry)).size = L.length := by
      intro E hEe hEl
      rw [hEe]; simp [hEl]
    have hcsz' := hcsz _ hnonempty hLlen
    have hit1 : w1.heap[it]? = some (.mapIter (some b) clock seen clock) := by rw [hw1.2]; exact hit
    have hu := upd_setObj (.mapIter (some b) clock (seen.push p.2.born) clock) hit1
    have hst : Stp [j] w C _ C := ⟨(hw1.1.mono (A' := fun b => C b ∈ [j]) (fun _ _ h => h.elim)).trans (upd_step (o := .map #[] 0) hu hcol).ext (fun _ _ h => h), fun _ _ => rfl⟩
    have hcl : c < left.length := by rw [hL, List.length_map]; exact hc
    have hlc : left[c] = p.1 := by simp only [hL, List.getElem_map, hpL]
    refine ⟨.tuple #[.bool true, p.2.key, p.2.val], _, .inl ?_, hst, hF.st hst, .inr ⟨c, hcl, by rw [hlc, hk', hv'], hcol, hcolb, es, clock, seen.push p.2.born, hu.at_, ?_, hm, ?_, fun d hd => ?_⟩⟩
    · unfold execOp; rw [ho]
      simp only [hρ _ _ hx]
      unfold Instr.next
      simp only [Sem.run_bind, hgi, Result.andThen_ok, hgb, hguard, Bool.false_eq_true, if_false, hold, hnew, hcsz', hchoose, hcand', Sem.run_pure]
      rw [setObj_run hit1 (fun _ _ _ h => by cases h)]
      rfl
    · have := hu.ext.block b (by rw [hw1.2]; exact lt_of_at hb) (fun e => hne e)
      rw [this, hw1.2]; exact hb
    · have hpw : L.Pairwise (fun a b => a.2.born ≠ b.2.born) := (zip_pairwise hm.rise).filter _
      have h1 := filter_erase (fun q : (κ × β) × MapEntry => q.2.born) L c hc hpw
      rw [hpL] at h1
      rw [hL, eraseIdx_map', ← h1]
      unfold leftOf
      rw [List.filter_filter]
      congr 1
      apply List.filter_congr
      intro q _
      rw [Bool.eq_iff_iff]
      simp [and_comm]
    · simp only [Option.some.injEq] at hd
      subst hd
      rw [hlc]
      exact ⟨i, p.2, hmi, hei, by simp⟩

theorem OwnIt.entry {c : κ × β} (hI : OwnIt w C j it jb b kv vv m left (some c)) (hx : ev env x = some (.pointer (some ⟨it, 0, none⟩))) :
    Val P N env (.entry x) w (.tuple #[kv c.1, vv c.2]) := mk' fun ρ hρ o ho => by
  obtain ⟨hcol, hcolb, es, clock, seen, hit, hb, hm, hleft, hcur⟩ := hI
  obtain ⟨i, e, hmi, hei, hback⟩ := hcur c rfl
  obtain ⟨e', he', hk', hv'⟩ := entry_at hm (k := c.1) (u := c.2) hmi
  rw [hei] at he'; cases he'
  have hgi : (getObj it).run P w = .ok (.mapIter (some b) clock seen clock) w := by simp [getObj, Sem.run, hit]
  have hgb : (getObj b).run P w = .ok (.map es clock) w := by simp [getObj, Sem.run, hb]
  have hfind : es.find? (fun x => x.born == e.born) = some e := by
    rw [← Array.find?_toList]
    obtain ⟨h1, h2⟩ := List.getElem?_eq_some_iff.1 hei
    rw [List.find?_eq_some_iff_getElem]
    refine ⟨by simp, i, h1, h2, fun k hk => ?_⟩
    simp only [Bool.not_eq_true', beq_eq_false_iff_ne]
    intro hbk
    have := born_unique hm.rise (List.getElem?_eq_getElem (show k < es.toList.length by omega)) hei hbk
    omega
  unfold execOp; rw [ho]
  simp only [hρ _ _ hx]
  unfold Instr.entry
  simp [hgi, hgb, hback, hfind, hk', hv']
/-- The same over a map that is only read. -/
theorem a_rangeR (hF : Lim w C) (j : Nat) (ht : P.underlying t = some (.map kt et)) (hr : RM w (Mc C) kv vv m v) (hx : ev env x = some v) :
    Acts P N env (.range t x) w (fun v w' => ∃ C' it b, v = .pointer (some ⟨it, 0, none⟩) ∧ Stp [] w C w' C' ∧ OwnIt w' C' j it 0 b kv vv m m none ∧ Lim w' C') := fun a ha o ho => by
  obtain ⟨b, rfl, hn, es, clock, hb, hm⟩ := hr
  obtain ⟨u, w', h1, C', it, h2, h3, h4, h5⟩ := a_range (P := P) (N := N) hF j ht hb hm hx a ha o ho
  have hc : C b = 0 := by by_cases hz : C b = 0; exact hz; exact absurd hz hn
  rw [hc] at h4
  exact ⟨u, w', h1, C', it, b, h2, h3, h4, h5⟩
theorem RM.nodup {M : Nat → Prop} (hr : RM w M kv vv m v) : (keys m).Nodup := by
  obtain ⟨b, rfl, hn, es, clock, hb, hm⟩ := hr
  exact hm.nodup
theorem mget_mem {κ β : Type} [DecidableEq κ] {m : List (κ × β)} (h : (keys m).Nodup) {p : κ × β} (hp : p ∈ m) : mget m p.1 = some p.2 := by
  induction m with
  | nil => cases hp
  | cons a m ih =>
    obtain ⟨x, u⟩ := a
    simp only [keys, List.map_cons, List.nodup_cons] at h
    rcases List.mem_cons.1 hp with rfl | hp
    · simp [mget]
    · have : x ≠ p.1 := fun e => h.1 (by rw [e]; exact List.mem_map_of_mem hp)
      rw [mget, if_neg this]; exact ih h.2 hp
theorem perm_next {γ : Type} {l tk m : List γ} {c : Nat} (hc : c < l.length) (h : (tk ++ l).Perm m) : ((tk ++ [l[c]]) ++ l.eraseIdx c).Perm m := by
  rw [List.append_assoc]
  refine List.Perm.trans (List.Perm.append_left tk ?_) h
  have h2 : l = l.take c ++ l[c] :: l.drop (c + 1) := by rw [← List.drop_eq_getElem_cons hc, List.take_append_drop]
  rw [List.eraseIdx_eq_take_drop_succ]
  exact (List.perm_middle (a := l[c]) (l₁ := l.take c) (l₂ := l.drop (c + 1))).symm.trans (List.Perm.of_eq h2.symm)
end
end Go.K
