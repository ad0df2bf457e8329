/- Ranks, dictionaries and hits, step by step. Plain Lean. -/
import Derived.Test.YtbdlkdiadplmcaaL1
import Derived.WalkKit
import Derived.ProofKit
import Derived.OpenShut
import Derived.ChangeSlices
import Derived.Below
import Derived.Carry
import Derived.Deep.Slices
import Derived.WideShapes
import Derived.ChangeArms
set_option linter.unusedVariables false
set_option linter.unusedSimpArgs false
namespace Go.K
open Rep
theorem cnt_take {α : Type} {l : List α} {k : Nat} (h : k < l.length) (p : α → Bool) : (((l.take (k + 1)).countP p : Nat) : Int) = (((l.take k).countP p : Nat) : Int) + if p l[k] then 1 else 0 := by
  rw [List.take_succ_eq_append_getElem h, List.countP_append, List.countP_cons, List.countP_nil]
  split <;> simp
theorem cnt_le {α : Type} {l : List α} {k : Nat} (p : α → Bool) : (l.take k).countP p ≤ k := Nat.le_trans List.countP_le_length (by rw [List.length_take]; omega)
theorem rank_all (l : List Int) (i : Nat) : (((l.take l.length).countP fun x => decide (gAt l i < x) : Nat) : Int) = (rankS l i : Int) := by rw [List.take_length]; rfl
theorem sing_all (l : List Int) (i : Nat) : decide ((((l.take l.length).countP fun x => decide (x = gAt l i) : Nat) : Int) = 1) = singS l i := by
  rw [List.take_length]; unfold singS; apply decide_eq_decide.2; omega
/-- A dictionary is valid. -/
structure DictOK (es : List Ent) : Prop where
  len : es.length ≤ 64
  asc : ∀ i (h : i + 1 < es.length), strLt es[i].val es[i + 1].val = true
  cnt : ∀ x ∈ es, 1 ≤ x.cnt ∧ x.cnt ≤ 1048576
theorem sizesS_take {gs : List Grp} {k : Nat} (h : k < gs.length) : sizesS (gs.take (k + 1)) = sizesS (gs.take k) ++ [(gs[k].mem.length : Int)] := by
  unfold sizesS; rw [List.take_succ_eq_append_getElem h, List.map_append]; rfl
theorem sizesS_len (gs : List Grp) : (sizesS gs).length = gs.length := by simp [sizesS]
theorem cntsS_take {es : List Ent} {k : Nat} (h : k < es.length) : cntsS (es.take (k + 1)) = cntsS (es.take k) ++ [es[k].cnt] := by
  unfold cntsS; rw [List.take_succ_eq_append_getElem h, List.map_append]; rfl
theorem cntsS_len (es : List Ent) : (cntsS es).length = es.length := by simp [cntsS]
theorem hitN_take {ns : List ByteArray} {v : ByteArray} {l : List Int} {j : Nat} (h : j < l.length) : hitN ns v (l.take (j + 1)) = hitN ns v (l.take j) + if ns.getD l[j].toNat default = v then 1 else 0 := by
  unfold hitN; rw [cnt_take h]; simp
theorem hitsS_take {gs : List Grp} {ns : List ByteArray} {a : List Gss} {k : Nat} (h : k < a.length) : hitsS gs ns (a.take (k + 1)) = hitsS gs ns (a.take k) + hitN ns a[k].val (gs.getD a[k].grp.toNat default).mem := by
  rw [List.take_succ_eq_append_getElem h, hitsS_app]
  show _ + (_ + 0) = _; omega
theorem hitsS_bnd {gs : List Grp} {ns : List ByteArray} {B : Nat} (hB : ∀ g ∈ gs, g.mem.length ≤ B) : ∀ a : List Gss, 0 ≤ hitsS gs ns a ∧ hitsS gs ns a ≤ (a.length * B : Nat)
  | [] => ⟨Int.le_refl _, by simp [hitsS]⟩
  | g :: a => by
    have ih := hitsS_bnd (ns := ns) hB a
    have h1 := hitN_le (ns := ns) (v := g.val) (l := (gs.getD g.grp.toNat default).mem)
    have h2 : (gs.getD g.grp.toNat default).mem.length ≤ B := by
      rw [List.getD_eq_getElem?_getD]
      cases h : gs[g.grp.toNat]? with
      | none => exact Nat.zero_le _
      | some x => exact hB x (List.mem_of_getElem? h)
    show 0 ≤ hitN ns g.val (gs.getD g.grp.toNat default).mem + hitsS gs ns a ∧ hitN ns g.val (gs.getD g.grp.toNat default).mem + hitsS gs ns a ≤ _
    rw [List.length_cons, Nat.succ_mul]
    omega
theorem sngS_bnd {sz : List Int} {B : Int} (hB : ∀ x ∈ sz, 0 ≤ x ∧ x ≤ B) (h0 : 0 ≤ B) : ∀ k : Nat, k ≤ sz.length → 0 ≤ sngS sz k ∧ sngS sz k ≤ k * B
  | 0, _ => ⟨Int.le_refl _, by simp [sngS]⟩
  | k + 1, hk => by
    have ih := sngS_bnd hB h0 k (by omega)
    have h1 := hB (sz[k]'(by omega)) (List.getElem_mem _)
    rw [← gAt_in (by omega)] at h1
    have e : ((k + 1 : Nat) : Int) * B = k * B + B := by rw [show ((k + 1 : Nat) : Int) = (k : Int) + 1 from by omega, Int.add_mul, Int.one_mul]
    show 0 ≤ sngS sz k + (if singS sz k then gAt sz k else 0) ∧ sngS sz k + (if singS sz k then gAt sz k else 0) ≤ _
    rw [e]
    split <;> omega
end Go.K
namespace Go.K
open Rep
abbrev vvS : ByteArray → Value := fun s => .string s
theorem rv_ents_size {w : World} {M : Nat → Prop} {es : List Ent} {v : Value} (h : RV w M es v) : ∀ x ∈ es, x.val.size ≤ 9223372036854775807 := fun x hx => by
  obtain ⟨a, c, rfl, _, _, h3⟩ := rv_list.1 h
  rcases h3 with rfl | ⟨b, o, rfl, hb, cs, ty, fz, hc, hl, hr⟩
  · simp at hx
  · obtain ⟨i, hi, rfl⟩ := List.getElem_of_mem hx
    obtain ⟨us, ws, _, h1, _⟩ := hr i hi
    exact h1.2
theorem getD_ent {es : List Ent} {k : Nat} {d : Ent} (h : k < es.length) : es.getD k d = es[k] := getDi h
theorem vals_size {es : List Ent} (h : ∀ x ∈ es, x.val.size ≤ 9223372036854775807) {r : Int} {v : ByteArray} (hm : mget (valsS es es.length) r = some v) : v.size ≤ 9223372036854775807 := by
  obtain ⟨q, hq, _, _, rfl⟩ := valsS_get _ hm
  rw [getD_ent hq]; exact h _ (List.getElem_mem hq)
end Go.K

/- Bits in common, and how many there are. Plain Lean. -/
set_option linter.unusedVariables false
set_option linter.unusedSimpArgs false
namespace Go.K
open Rep
def andU (a b : U64) : U64 := ⟨bitsOf .and .u64 a.n b.n⟩
def andB (a b : Bits) : Bits := ⟨a.len, List.zipWith andU a.words b.words⟩
/-- What 'math/bits.OnesCount64' computes. -/
def onesS (x : Int) : Int :=
  let x1 := IntKind.u64.wrap (bitsOf .and .u64 (x.fdiv (2 ^ min (1 : Int).toNat IntKind.u64.bits)) 6148914691236517205 + bitsOf .and .u64 x 6148914691236517205)
  let x2 := IntKind.u64.wrap (bitsOf .and .u64 (x1.fdiv (2 ^ min (2 : Int).toNat IntKind.u64.bits)) 3689348814741910323 + bitsOf .and .u64 x1 3689348814741910323)
  let x3 := bitsOf .and .u64 (IntKind.u64.wrap (x2.fdiv (2 ^ min (4 : Int).toNat IntKind.u64.bits) + x2)) 1085102592571150095
  let x4 := IntKind.u64.wrap (x3 + x3.fdiv (2 ^ min (8 : Int).toNat IntKind.u64.bits))
  let x5 := IntKind.u64.wrap (x4 + x4.fdiv (2 ^ min (16 : Int).toNat IntKind.u64.bits))
  let x6 := IntKind.u64.wrap (x5 + x5.fdiv (2 ^ min (32 : Int).toNat IntKind.u64.bits))
  bitsOf .and .i64 (IntKind.i64.wrap x6) 127
theorem and127 (m : Int) : 0 ≤ bitsOf .and .i64 m 127 ∧ bitsOf .and .i64 m 127 ≤ 127 := by
  have h1 : ((BitVec.ofInt 64 m &&& BitVec.ofInt 64 127 : BitVec 64)).toNat ≤ 127 := by
    rw [BitVec.toNat_and]
    exact Nat.le_trans Nat.and_le_right (by decide)
  have : bitsOf .and .i64 m 127 = (((BitVec.ofInt 64 m &&& BitVec.ofInt 64 127 : BitVec 64)).toNat : Int) := by
    show IntKind.i64.wrap (((BitVec.ofInt 64 m &&& BitVec.ofInt 64 127 : BitVec 64)).toNat : Int) = _
    apply wrap_i64 <;> omega
  rw [this]; omega
theorem onesS_bnd (x : Int) : 0 ≤ onesS x ∧ onesS x ≤ 127 := and127 _
def sumOnes (l : List U64) (k : Nat) : Int := match k with | 0 => 0 | k + 1 => sumOnes l k + onesS (l.getD k default).n
theorem sumOnes_bnd (l : List U64) : ∀ k : Nat, 0 ≤ sumOnes l k ∧ sumOnes l k ≤ k * 127
  | 0 => ⟨Int.le_refl _, Int.le_refl _⟩
  | k + 1 => by
    have ih := sumOnes_bnd l k
    have := onesS_bnd (l.getD k default).n
    show 0 ≤ sumOnes l k + onesS (l.getD k default).n ∧ sumOnes l k + onesS (l.getD k default).n ≤ _
    omega
def countB (b : Bits) : Int := if validB b then sumOnes b.words b.words.length else 0
theorem valid_words {b : Bits} (h : validB b = true) : b.words.length ≤ 8 ∧ 1 ≤ b.words.length := by have := validB_iff.1 h; omega
/-- 'And', for valid arrays of one length. -/
def andOK (a b : Bits) : Prop := validB a = true ∧ validB b = true ∧ a.len = b.len
instance (a b : Bits) : Decidable (andOK a b) := by unfold andOK; exact inferInstance
theorem and_words {a b : Bits} (h : andOK a b) : a.words.length = b.words.length := by
  obtain ⟨h1, h2, h3⟩ := h
  have v1 := validB_iff.1 h1; have v2 := validB_iff.1 h2
  omega
theorem zip_take {a b : List U64} {k : Nat} (h1 : k < a.length) (h2 : k < b.length) : (List.zipWith andU a b).take (k + 1) = (List.zipWith andU a b).take k ++ [andU a[k] b[k]] := by
  rw [List.take_succ_eq_append_getElem (by rw [List.length_zipWith]; omega), List.getElem_zipWith]
/-- All arrays together, from one on; none if two are of different lengths. -/
def allS (a : Bits) (l : List Bits) : Option Bits := match l with | [] => some a | b :: l => if andOK a b then allS (andB a b) l else none
def alwaysS (cl : List Bits) : Int := match cl.filter validB with | [] => 0 | a :: l => match allS a l with | some x => countB x | none => 0
theorem allS_drop {a : Bits} {l : List Bits} {k : Nat} (h : k < l.length) : allS a (l.drop k) = if andOK a l[k] then allS (andB a l[k]) (l.drop (k + 1)) else none := by
  rw [List.drop_eq_getElem_cons h]; rfl
/-! ### What is kept -/
def delS (ys cl : List Bits) (i k : Nat) : Prop := ys.length = cl.length ∧ i ≤ k ∧ ys.take i = (cl.take k).filter validB ∧ ∀ q (h1 : q < ys.length) (h2 : q < cl.length), k ≤ q → ys[q] = cl[q]
theorem delS.keep {ys cl : List Bits} {i k : Nat} (h : delS ys cl i k) (hk : k < cl.length) (hv : validB cl[k] = true) : delS (ys.set i cl[k]) cl (i + 1) (k + 1) := by
  obtain ⟨h1, h2, h3, h4⟩ := h
  refine ⟨by rw [List.length_set]; exact h1, by omega, ?_, fun q hq1 hq2 hq => ?_⟩
  · rw [List.take_succ_eq_append_getElem (by rw [List.length_set]; omega), List.take_set_of_le (Nat.le_refl i), List.getElem_set_self, h3, List.take_succ_eq_append_getElem hk, List.filter_append, List.filter_cons, if_pos hv, List.filter_nil]
  · rw [List.getElem_set, if_neg (by omega)]; exact h4 q _ hq2 (by omega)
theorem delS.drop {ys cl : List Bits} {i k : Nat} (h : delS ys cl i k) (hk : k < cl.length) (hv : validB cl[k] = false) : delS ys cl i (k + 1) := by
  obtain ⟨h1, h2, h3, h4⟩ := h
  refine ⟨h1, by omega, ?_, fun q hq1 hq2 hq => h4 q hq1 hq2 (by omega)⟩
  rw [h3, List.take_succ_eq_append_getElem hk, List.filter_append, List.filter_cons, if_neg (by rw [hv]; simp), List.filter_nil, List.append_nil]
theorem delS.start {cl : List Bits} {k : Nat} (hk : k < cl.length) (h0 : ∀ i (hi : i < cl.length), i < k → validB cl[i] = true) (hv : validB cl[k] = false) : delS cl cl k (k + 1) := by
  refine ⟨rfl, by omega, ?_, fun _ _ _ _ => rfl⟩
  rw [List.take_succ_eq_append_getElem hk, List.filter_append, List.filter_cons, if_neg (by rw [hv]; simp), List.filter_nil, List.append_nil]
  rw [List.filter_eq_self.2 fun x hx => ?_]
  obtain ⟨q, hq, rfl⟩ := List.getElem_of_mem hx
  rw [List.length_take] at hq
  rw [List.getElem_take]; exact h0 q (by omega) (by omega)
theorem delS.all {cl : List Bits} (h0 : ∀ i (hi : i < cl.length), validB cl[i] = true) : cl.filter validB = cl := List.filter_eq_self.2 fun x hx => by
  obtain ⟨q, hq, rfl⟩ := List.getElem_of_mem hx; exact h0 q hq
theorem zero_bits {h : Array Obj} {M : Nat → Prop} : rep h M (⟨0, []⟩ : Bits) [.int .i64 0, .slice none 0 0] :=
  ⟨[.int .i64 0], [.slice none 0 0], rfl, rfl, ⟨none, 0, rfl, Nat.le_refl _, by simp, .inl rfl⟩⟩
end Go.K
theorem Go.K.zip_set {a b : List U64} {k : Nat} {z : U64} (h1 : k < a.length) (h2 : k < b.length) :
    ((List.zipWith andU a b).take k ++ List.replicate (a.length - k) z).set k (andU a[k] b[k]) = (List.zipWith andU a b).take (k + 1) ++ List.replicate (a.length - (k + 1)) z := by
  have hl : ((List.zipWith andU a b).take k).length = k := by rw [List.length_take, List.length_zipWith]; omega
  rw [List.set_append, if_neg (by omega), hl, Nat.sub_self, show a.length - k = (a.length - (k + 1)) + 1 from by omega, List.replicate_succ, List.set_cons_zero, zip_take h1 h2, List.append_assoc]
  rfl
namespace Go.K
open Rep
section
variable {P : Program} {N : Nat} {env : Env} {w : World} {C : Nat → Nat} {t e : TypeId}
theorem a_buildEmptyN {bytes n : Nat} (hF : Lim w C) (hrow : rowB P t e n bytes = true) : Acts P N env (.buildSlice t 0 #[]) w (fun v w' => (∃ a, v = .slice (some a) 0 0) ∧ Stp [] w C w' C ∧ Lim w' C) := acts' fun ρ hρ oo hoo => by
  obtain ⟨i, z, hu, hi, hsi, hby, hz, hzs⟩ := rowB_spec hrow
  have hsz' : (sizeOf e).run P w = .ok n w := by simp [sizeOf, typeInfo, hi, hsi]
  have hnew := new_alloc w (.cells #[] e)
  have hrun : (Instr.buildSlice t 0 #[]).run P w = .ok (.slice (some ⟨w.heap.size, 0, none⟩) 0 0) (w.alloc (.cells #[] e)) := by
    unfold Instr.buildSlice
    simp [run_underlying hu, hsz', Instr.fill, newRow, show Array.range 0 = (#[] : Array Nat) from by simp [Array.range]]
  refine ⟨.slice (some ⟨w.heap.size, 0, none⟩) 0 0, w.alloc (.cells #[] e), .inl ?_, ⟨_, rfl⟩, hnew.st C, hF.st (hnew.st C)⟩
  unfold execOp; rw [hoo]
  simp only [Sem.run_bind]
  rw [show Array.map (fun x : Nat × Operand => (x.fst, ρ x.snd)) #[] = #[] from by simp, hrun]
  rfl
end
end Go.K

/- Columns as the deck deals them. Plain Lean. -/
set_option linter.unusedVariables false
set_option linter.unusedSimpArgs false
namespace Go.K
open Rep
def InU (x : Int) : Prop := 0 ≤ x ∧ x < 18446744073709551616
theorem inU_and (x y : Int) : InU (bitsOf .and .u64 x y) := wrap_u64_range _
theorem inU_xor (x y : Int) : InU (bitsOf .xor .u64 x y) := wrap_u64_range _
theorem inU_zero : InU 0 := ⟨by decide, by decide⟩
/-- An array of n bits. -/
def BitsN (n : Int) (b : Bits) : Prop := b.len = n ∧ (b.words.length : Int) = n / 64 ∧ ∀ x ∈ b.words, InU x.n
def GoodB (b : Bits) : Prop := b = ⟨0, []⟩ ∨ BitsN 64 b ∨ BitsN 128 b
theorem BitsN.good64 {b : Bits} (h : BitsN 64 b) : GoodB b := .inr (.inl h)
theorem BitsN.good128 {b : Bits} (h : BitsN 128 b) : GoodB b := .inr (.inr h)
theorem good_empty : GoodB ⟨0, []⟩ := .inl rfl
theorem GoodB.len {b : Bits} (h : GoodB b) : b.words.length ≤ 2 := by
  rcases h with rfl | h | h
  · exact Nat.zero_le _
  · have := h.2.1; omega
  · have := h.2.1; omega
theorem snoc_all {α : Type} {P : α → Prop} {l : List α} {x : α} (h : ∀ y ∈ l, P y) (hx : P x) : ∀ y ∈ l ++ [x], P y := fun y hy => by
  rcases List.mem_append.1 hy with h1 | h1
  · exact h y h1
  · rw [List.mem_singleton.1 h1]; exact hx
theorem atB_at {cl : List Bits} {i : Nat} (h : i < cl.length) : atB cl i = cl[i] := by unfold atB; exact getDi h
end Go.K

/- Dictionaries as the deck deals them. Plain Lean. -/
set_option linter.unusedVariables false
set_option linter.unusedSimpArgs false
namespace Go.K
open Rep
def dicN : List ByteArray := [⟨#[97, 110, 110, 32, 109, 105, 108, 108, 101, 114]⟩, ⟨#[111, 110, 101, 105, 108, 108]⟩, ⟨#[112, 101, 116, 101, 114]⟩, ⟨#[114, 111, 98, 101, 114, 116, 32, 115, 109, 105, 116, 104]⟩, ⟨#[114, 117, 112, 101, 114, 116]⟩, ⟨#[114, 117, 116, 104]⟩]
def nmD (j : Nat) : ByteArray := dicN.getD j default
theorem nmD_asc : ∀ b, b < 6 → ∀ a, a < b → strLt (nmD a) (nmD b) = true := by decide +kernel
theorem nmD_at {i : Nat} (h : i < dicN.length) : dicN[i] = nmD i := (getDi h).symm
/-- Entries of the first i names, in their order. -/
structure DicI (es : List Ent) (i : Nat) (js : List Nat) : Prop where
  asc : js.Pairwise (· < ·)
  lt : ∀ j ∈ js, j < i
  len : es.length = js.length
  val : ∀ k (h : k < es.length) (h2 : k < js.length), es[k].val = nmD js[k]
  cnt : ∀ x ∈ es, 1 ≤ x.cnt ∧ x.cnt ≤ 6
theorem DicI.nil : DicI [] 0 [] := ⟨List.Pairwise.nil, (fun j hj => by cases hj), rfl, (fun k h => by simp at h), (fun x hx => by cases hx)⟩
theorem DicI.skip {es : List Ent} {i : Nat} {js : List Nat} (h : DicI es i js) : DicI es (i + 1) js := ⟨h.asc, fun j hj => Nat.lt_succ_of_lt (h.lt j hj), h.len, h.val, h.cnt⟩
theorem DicI.put {es : List Ent} {i : Nat} {js : List Nat} {c : Int} (h : DicI es i js) (h1 : 1 ≤ c) (h2 : c ≤ 6) : DicI (es ++ [⟨nmD i, c⟩]) (i + 1) (js ++ [i]) := by
  refine ⟨?_, snoc_all (fun j hj => Nat.lt_succ_of_lt (h.lt j hj)) (Nat.lt_succ_self i), by simp [h.len], fun k hk hk2 => ?_, snoc_all h.cnt ⟨h1, h2⟩⟩
  · rw [List.pairwise_append]
    exact ⟨h.asc, List.pairwise_singleton _ _, fun a ha b hb => by rw [List.mem_singleton.1 hb]; exact h.lt a ha⟩
  · have hl := h.len
    rcases Nat.lt_or_ge k es.length with h3 | h3
    · rw [List.getElem_append_left h3, List.getElem_append_left (by omega)]; exact h.val k h3 (by omega)
    · rw [List.getElem_append_right h3, List.getElem_append_right (by omega)]; simp
theorem DicI.ok {es : List Ent} {i : Nat} {js : List Nat} (h : DicI es i js) (hi : i ≤ 6) : DictOK es := by
  have hl := h.len
  have hjl : js.length ≤ 6 := by
    have h1 : js.Nodup := h.asc.imp (fun h => Nat.ne_of_lt h)
    have h2 := List.Nodup.length_le_of_subset (l₂ := List.range 6) h1 (fun j hj => List.mem_range.2 (Nat.lt_of_lt_of_le (h.lt j hj) hi))
    rwa [List.length_range] at h2
  refine ⟨by omega, fun k hk => ?_, fun x hx => ?_⟩
  · rw [h.val k (by omega) (by omega), h.val (k + 1) hk (by omega)]
    have h1 := List.pairwise_iff_getElem.1 h.asc k (k + 1) (by omega) (by omega) (by omega)
    exact nmD_asc _ (Nat.lt_of_lt_of_le (h.lt _ (List.getElem_mem _)) hi) _ h1
  · have := h.cnt x hx; omega
end Go.K

/- Guesses are compared as structs. -/
set_option linter.unusedVariables false
set_option linter.unusedSimpArgs false
namespace Go.K
open Rep
theorem ba_eq (x y : ByteArray) : (x == y) = decide (x = y) := by
  cases x with | mk a =>
  cases y with | mk b =>
  have h : (ByteArray.mk a == ByteArray.mk b) = (a == b) := by first | rfl | (show ByteArray.beq _ _ = _; unfold ByteArray.beq; rfl)
  rw [h, Bool.eq_iff_iff]; simp
abbrev kvG : Gss → Value := fun g => .agg #[.int .i64 g.grp, .string g.val]
section
variable {P : Program} {t ti ts : TypeId} {n0 n1 tg0 tg1 pk0 pk1 : String} {e0 e1 : Bool} {y0 y1 : Nat}
theorem eqOK_gss (h : P.underlying t = some (.struct #[⟨n0, ti, 0, e0, tg0, pk0, y0⟩, ⟨n1, ts, 1, e1, tg1, pk1, y1⟩])) (h0 : n0 ≠ "_") (h1 : n1 ≠ "_") (hS : P.stoodInHeld t = false)
    (hi : P.underlying ti = some (.int .i64)) (hs : P.underlying ts = some .string) (d : Nat) (a b : Gss) (w : World) : (Op.equalIn (d + 8) t (kvG a) (kvG b)).run P w = .ok (decide (a.grp = b.grp ∧ a.val = b.val)) w := by
  have hf : P.fieldsOf t = #[⟨n0, ti, 0, e0, tg0, pk0, y0⟩, ⟨n1, ts, 1, e1, tg1, pk1, y1⟩] := by simp [Program.fieldsOf, h]
  have he := fun (x y : Int) => run_equalIn_int (P := P) w (d + 6) ti .i64 .i64 x y hi
  have hes : ∀ x y : ByteArray, (Op.equalIn (d + 7) ts (.string x) (.string y)).run P w = .ok (decide (x = y)) w := fun x y => by
    rw [show d + 7 = (d + 6) + 1 from rfl, Op.equalIn]; simp [run_underlying hs, ba_eq]
  rw [show d + 8 = (d + 7) + 1 from rfl]
  rw [run_equalIn_struct w (d + 7) t _ _ (by rw [hf]; exact h) hS, hf]
  have p0 : ∀ c : Gss, (part ti #[.int .i64 c.grp, .string c.val] 0).run P w = .ok (.int .i64 c.grp) w := fun c => run_part_plain w (by simp [Program.plainKey, hi]) rfl
  have p1 : ∀ c : Gss, (part ts #[.int .i64 c.grp, .string c.val] 1).run P w = .ok (.string c.val) w := fun c => run_part_plain w (by simp [Program.plainKey, hs]) rfl
  have hd : (decide (a.grp = b.grp ∧ a.val = b.val)) = ((a.grp == b.grp) && decide (a.val = b.val)) := by rw [Bool.decide_and]; rfl
  simp only [Op.eqFields, Sem.run_bind, Sem.run_ite, h0, h1, ne_eq, not_false_eq_true, if_true, p0, p1, Result.andThen_ok, he, hes, hd]
  cases (a.grp == b.grp) <;> cases (decide (a.val = b.val)) <;> simp
theorem eqGuard_gss (h : P.underlying t = some (.struct #[⟨n0, ti, 0, e0, tg0, pk0, y0⟩, ⟨n1, ts, 1, e1, tg1, pk1, y1⟩])) (h0 : n0 ≠ "_") (h1 : n1 ≠ "_")
    (hi : P.underlying ti = some (.int .i64)) (hs : P.underlying ts = some .string) (d : Nat) (a b : Gss) (w : World) : (Op.eqGuardIn (d + 2) t (kvG a) (kvG b)).run P w = .ok false w := by
  have p0 : ∀ c : Gss, (part ti #[.int .i64 c.grp, .string c.val] 0).run P w = .ok (.int .i64 c.grp) w := fun c => run_part_plain w (by simp [Program.plainKey, hi]) rfl
  have p1 : ∀ c : Gss, (part ts #[.int .i64 c.grp, .string c.val] 1).run P w = .ok (.string c.val) w := fun c => run_part_plain w (by simp [Program.plainKey, hs]) rfl
  have q : ∀ (x y : Int), (Op.eqGuardIn (d + 1) ti (.int .i64 x) (.int .i64 y)).run P w = .ok false w := fun x y => by unfold Op.eqGuardIn; simp [run_underlying hi]
  have q2 : ∀ (x y : ByteArray), (Op.eqGuardIn (d + 1) ts (.string x) (.string y)).run P w = .ok false w := fun x y => by unfold Op.eqGuardIn; simp [run_underlying hs]
  rw [show d + 2 = (d + 1) + 1 from rfl, Op.eqGuardIn]
  simp only [Sem.run_bind, run_underlying h, Result.andThen_ok]
  rw [← Array.forIn_toList]
  simp only [List.forIn_cons, List.forIn_nil, Sem.run_bind, Sem.run_ite, h0, h1, ne_eq, not_false_eq_true, if_true, p0, p1, q, q2, Result.andThen_ok, Sem.run_pure, Bool.false_eq_true, if_false]
variable {N : Nat} {env : Env} {x y : Operand} {u : TypeId} {a b : Gss} {w : World}
theorem val_neG (h : P.underlying t = some (.struct #[⟨n0, ti, 0, e0, tg0, pk0, y0⟩, ⟨n1, ts, 1, e1, tg1, pk1, y1⟩])) (h0 : n0 ≠ "_") (h1 : n1 ≠ "_") (hS : P.stoodInHeld t = false)
    (hi : P.underlying ti = some (.int .i64)) (hs : P.underlying ts = some .string) (hx : ev env x = some (kvG a)) (hy : ev env y = some (kvG b)) : Val P N env (.binOp .neq t x y u) w (.bool (decide (¬ (a.grp = b.grp ∧ a.val = b.val)))) := mk' fun ρ hρ o ho => by
  have h5 := eqOK_gss h h0 h1 hS hi hs (Op.maxDepth - 8) a b w
  have h6 := eqGuard_gss h h0 h1 hi hs (Op.maxDepth - 2) a b w
  have h7 : (Op.equal t (kvG a) (kvG b)).run P w = .ok (decide (a.grp = b.grp ∧ a.val = b.val)) w := h5
  have h8 : (Op.eqGuardIn Op.maxDepth t (kvG a) (kvG b)).run P w = .ok false w := h6
  have h9 : (eqGuard .neq t x y (kvG a) (kvG b)).run P w = .ok () w := by
    unfold eqGuard
    simp only [Sem.run_bind, Sem.run_pure, Sem.run_ite, run_program, Result.andThen_ok, h8, Bool.not_true, Bool.false_eq_true, if_false]
    cases P.eqGuardType P.depth t <;> simp [h8]
  have h10 : (binOp .neq t (kvG a) (kvG b)).run P w = .ok (.bool (decide (¬ (a.grp = b.grp ∧ a.val = b.val)))) w := by
    show (Op.equal t (kvG a) (kvG b) >>= fun z => pure (Value.bool (!z))).run P w = _
    rw [Sem.run_bind, h7]
    by_cases hc : a.grp = b.grp ∧ a.val = b.val <;> simp [hc]
  unfold execOp; rw [ho]
  simp only [hρ _ _ hx, hρ _ _ hy]
  simp [Sem.run_bind, h9, h10]
end
/-! ### The arrays seen through a mask -/
def xorU (a b : U64) : U64 := ⟨bitsOf .xor .u64 a.n b.n⟩
def xorB (a b : Bits) : Bits := ⟨a.len, List.zipWith xorU a.words b.words⟩
theorem xor_u64 (a b : Nat) (ha : a < 18446744073709551616) (hb : b < 18446744073709551616) : bitsOf .xor .u64 (a : Int) (b : Int) = ((a ^^^ b : Nat) : Int) := by
  have h1 : ((BitVec.ofInt 64 (a : Int) ^^^ BitVec.ofInt 64 (b : Int) : BitVec 64)).toNat = a ^^^ b := by
    rw [BitVec.toNat_xor, BitVec.toNat_ofInt, BitVec.toNat_ofInt]
    congr 1 <;> omega
  have h2 : a ^^^ b < 2 ^ 64 := Nat.xor_lt_two_pow ha hb
  show IntKind.u64.wrap (((BitVec.ofInt 64 (a : Int) ^^^ BitVec.ofInt 64 (b : Int) : BitVec 64)).toNat : Int) = _
  rw [h1]
  apply wrap_u64 <;> omega
theorem xorU_inj {a b m : U64} (ha : InU a.n) (hb : InU b.n) (hm : InU m.n) (h : xorU a m = xorU b m) : a = b := by
  obtain ⟨a1, a2⟩ := ha; obtain ⟨b1, b2⟩ := hb; obtain ⟨m1, m2⟩ := hm
  have e1 := xor_u64 a.n.toNat m.n.toNat (by omega) (by omega)
  have e2 := xor_u64 b.n.toNat m.n.toNat (by omega) (by omega)
  rw [Int.toNat_of_nonneg a1, Int.toNat_of_nonneg m1] at e1
  rw [Int.toNat_of_nonneg b1, Int.toNat_of_nonneg m1] at e2
  have h3 : bitsOf .xor .u64 a.n m.n = bitsOf .xor .u64 b.n m.n := congrArg Num.n h
  rw [e1, e2] at h3
  have h4 : a.n.toNat ^^^ m.n.toNat = b.n.toNat ^^^ m.n.toNat := by omega
  have h5 : a.n.toNat = b.n.toNat := by
    have := congrArg (· ^^^ m.n.toNat) h4
    simpa [Nat.xor_assoc] using this
  exact Num.ext_ (by omega)
theorem xorB_inj {n : Int} {a b m : Bits} (ha : BitsN n a) (hb : BitsN n b) (hm : BitsN n m) : xorB a m = xorB b m ↔ a = b := by
  refine ⟨fun h => ?_, fun h => by rw [h]⟩
  have hw : List.zipWith xorU a.words m.words = List.zipWith xorU b.words m.words := congrArg Bits.words h
  have l1 := ha.2.1; have l2 := hb.2.1; have l3 := hm.2.1
  refine bits_ext (by rw [ha.1, hb.1]) (List.ext_getElem (by omega) fun i h1 h2 => ?_)
  have h3 := congrArg (fun l : List U64 => l[i]?) hw
  try simp only at h3
  rw [List.getElem?_eq_getElem (by rw [List.length_zipWith]; omega), List.getElem?_eq_getElem (by rw [List.length_zipWith]; omega), List.getElem_zipWith, List.getElem_zipWith] at h3
  injection h3 with h3
  exact xorU_inj (ha.2.2 _ (List.getElem_mem _)) (hb.2.2 _ (List.getElem_mem _)) (hm.2.2 _ (List.getElem_mem (by omega))) h3
theorem xorB_n {n : Int} {a m : Bits} (ha : BitsN n a) (hm : BitsN n m) : BitsN n (xorB a m) := ⟨ha.1, by
  have l1 := ha.2.1; have l3 := hm.2.1
  show ((List.zipWith xorU a.words m.words).length : Int) = _
  rw [List.length_zipWith]; omega, fun x hx => by
  obtain ⟨i, hi, rfl⟩ := List.getElem_of_mem (show x ∈ List.zipWith xorU a.words m.words from hx)
  rw [List.getElem_zipWith]; exact inU_xor _ _⟩
/-- The words behind k steps. -/
def xorN (a b : Bits) (k : Nat) : List U64 := (List.zipWith xorU a.words b.words).take k ++ a.words.drop k
section
variable {a b : Bits} {k : Nat}
theorem xorN_len (h : a.words.length = b.words.length) : (xorN a b k).length = a.words.length := by
  unfold xorN; rw [List.length_append, List.length_take, List.length_zipWith, List.length_drop]; omega
theorem xorN_at (hk : k < a.words.length) (h : a.words.length = b.words.length) : (xorN a b k)[k]'(by rw [xorN_len h]; exact hk) = a.words[k] := by
  have hl : ((List.zipWith xorU a.words b.words).take k).length = k := by rw [List.length_take, List.length_zipWith]; omega
  unfold xorN
  rw [List.getElem_append_right (by omega), List.getElem_drop]
  congr 1; omega
theorem xorN_all (h : a.words.length = b.words.length) : xorN a b a.words.length = (xorB a b).words := by
  unfold xorN xorB
  rw [List.drop_length, List.append_nil, List.take_of_length_le (by rw [List.length_zipWith]; omega)]
theorem xorN_set (hk : k < a.words.length) (hk2 : k < b.words.length) : (xorN a b k).set k (xorU a.words[k] b.words[k]) = xorN a b (k + 1) := by
  have hl : ((List.zipWith xorU a.words b.words).take k).length = k := by rw [List.length_take, List.length_zipWith]; omega
  unfold xorN
  rw [List.set_append, if_neg (by omega), hl, Nat.sub_self, List.drop_eq_getElem_cons hk, List.set_cons_zero, List.take_succ_eq_append_getElem (by rw [List.length_zipWith]; omega), List.getElem_zipWith, List.append_assoc]
  rfl
end
end Go.K

/- A region where three orders may come up: behind `A` one of `i` and `i'`; behind `i` (a slice literal) one of `i2` and `i2'`. -/
set_option linter.unusedVariables false
set_option linter.unusedSimpArgs false
namespace Go.K
open Rep
section
variable {P : Program} {ops : Array Oper} {S : World → Prop} {Q : Exit → Act → World → Prop}
theorem wp_and {o : Oper} {a : Act} {w : World} {K K' : Act → World → Prop} {t n : Nat} {fs : Array (Nat × Operand)} (hb : o.op = .buildSlice t n fs) (h : o.wp P a w K Q) (h' : o.wp P a w K' Q) : o.wp P a w (fun a w => K a w ∧ K' a w) Q := by
  unfold Oper.wp at *
  have hr : ∀ r, (execOp a.eval o).run P w = r → (∀ g vs w', r ≠ .ok (.enter g vs) w') ∧ (∀ g vs w', r ≠ .ok (.row g vs) w') := by
    intro r hr
    unfold execOp at hr
    rw [hb] at hr
    simp only [Sem.run_bind] at hr
    cases hi : (Instr.buildSlice t n (fs.map fun (i, x) => (i, a.eval x))).run P w <;> (rw [hi] at hr; subst hr; simp [Result.andThen])
  generalize hrr : (execOp a.eval o).run P w = r at *
  obtain ⟨n1, n2⟩ := hr r rfl
  cases r with
  | ok m w' => cases m <;> simp only [Oper.upon] at h h' ⊢ <;> first | exact ⟨h, h'⟩ | exact absurd rfl (n1 _ _ _) | exact absurd rfl (n2 _ _ _) | exact h | trivial
  | halt hl => cases hl <;> exact h
def bsOp : Op → Bool
  | .buildSlice _ _ _ => true
  | _ => false
theorem wpOp_and {i : Nat} {a : Act} {w : World} {K K' : Act → World → Prop} (hb : ∀ o, ops[i]? = some o → bsOp o.op = true) (h : wpOp P ops Q i K a w) (h' : wpOp P ops Q i K' a w) : wpOp P ops Q i (fun a w => K a w ∧ K' a w) a w := by
  unfold wpOp at *
  cases ho : ops[i]? with
  | none => rw [ho] at h h'; exact ⟨h, h'⟩
  | some o =>
    rw [ho] at h h'
    simp only at h h' ⊢
    have hb2 := hb o ho
    split at h
    · rename_i hw
      rw [if_pos hw] at h' ⊢
      rcases h with h | h
      · rcases h' with h' | h'
        · left
          cases hop : o.op <;> (rw [hop] at hb2; first | exact wp_and hop h h' | cases hb2)
        · exact .inr h'
      · exact .inr h
    · rename_i hw
      rw [if_neg hw] at h' ⊢
      exact ⟨h, h'⟩
/-- As 'chk2', where behind `i` and `B`, again, one of two may come up. -/
def chk3B (ops : Array Oper) (jb i : Nat) (B : List Nat) (i2 : Nat) (L2 : List (Nat × Bool)) (i3 : Nat) (L3 : List (Nat × Bool)) (i' : Nat) (L' : List (Nat × Bool)) : Nat → Array Bool → List Nat → Bool
  | 0, _, _ => false
  | n + 1, listed, [] => (Region.ready .any ops listed == [i, i']) && ((ops[i]?).any fun o => bsOp o.op) && chk2B ops jb i2 L2 i3 L3 n (listed.setIfInBounds i true) B && ((listed.setIfInBounds i' true).getD jb false || stab L') && chkB ops jb n (listed.setIfInBounds i' true) L'
  | n + 1, listed, j :: A => !Nat.beq j jb && (Nat.ble ops.size jb || needs ops 8 jb j) && Region.free .any ops listed j && (Region.ready .any ops listed).contains j && chk3B ops jb i B i2 L2 i3 L3 i' L' n (listed.setIfInBounds j true) A
theorem stab_app {B : List Nat} {i : Nat} {L : List (Nat × Bool)} : stab (B.map (fun j => (j, true)) ++ (i, false) :: L) = true := by cases B <;> rfl
theorem gol_fork3 (hs : Region.noSelect ops = true) (hQ : ∀ c a d v w, Q (.panic c) (Act.put a d v) w → Q (.panic c) a w) {jb i i2 i3 i' : Nat} {B : List Nat} {L2 L3 L' : List (Nat × Bool)} :
    ∀ (n : Nat) (listed : Array Bool) (A : List Nat) (a : Act) (w : World), chk3B ops jb i B i2 L2 i3 L3 i' L' n listed A = true → Closed ops listed → S w →
      GoL P ops S Q (A.map (fun j => (j, true)) ++ (i, false) :: (B.map (fun j => (j, true)) ++ (i2, false) :: L2)) a w → GoL P ops S Q (A.map (fun j => (j, true)) ++ (i, false) :: (B.map (fun j => (j, true)) ++ (i3, false) :: L3)) a w →
      GoL P ops S Q (A.map (fun j => (j, true)) ++ (i', false) :: L') a w → wpAnyB P ops Q S jb n listed a w
  | 0, _, _, _, _, hc, _, _, _, _, _ => by cases hc
  | n + 1, listed, [], a, w, hc, hcl, hS, h, h2, h' => by
    simp only [chk3B, Bool.and_eq_true, beq_iff_eq] at hc
    obtain ⟨⟨⟨⟨h0, hb⟩, hk⟩, h3⟩, h4⟩ := hc
    have hr : i ∈ Region.ready .any ops listed := by rw [h0]; simp
    have hr' : i' ∈ Region.ready .any ops listed := by rw [h0]; simp
    refine ⟨fun h0' => (by rw [h0'] at h0; cases h0), fun j hj => ?_⟩
    rw [h0] at hj
    simp only [List.mem_cons, List.not_mem_nil, or_false] at hj
    rcases hj with rfl | rfl
    · have hb' : ∀ o, ops[j]? = some o → bsOp o.op = true := fun o ho => by rw [ho] at hb; simpa using hb
      exact wpOp_mono (fun a' w' g => ⟨fun hb => g.1.1 stab_app, gol_fork hs hQ n _ B a' w' hk (closed_set hcl hr) (g.1.1 stab_app) g.1.2 g.2.2⟩) (wpOp_and hb' h h2)
    · exact wpOp_mono (fun a' w' g => ⟨fun hb => g.1 (by rw [hb] at h3; simpa using h3), gol_drawn hs hQ n _ L' a' w' h4 (closed_set hcl hr') g.1 g.2⟩) h'
  | n + 1, listed, j :: A, a, w, hc, hcl, hS, h, h2, h' => by
    simp only [chk3B, Bool.and_eq_true] at hc
    obtain ⟨⟨⟨⟨h1, hd⟩, h3⟩, h4⟩, h5⟩ := hc
    obtain ⟨o, v, hi, hy, h⟩ := h
    obtain ⟨o2, v2, hi2, hy2, h2⟩ := h2
    obtain ⟨o', v', hi', hy', h'⟩ := h'
    rw [hi] at hi' hi2
    cases hi'
    cases hi2
    obtain rfl := yieldsIf_det hy hy' hS
    obtain rfl := yieldsIf_det hy hy2 hS
    have hr : j ∈ Region.ready .any ops listed := by simpa using h4
    exact wpAnyB_first hi (Region.noSelect_spec hs) (fun c a w hq => hQ c a _ _ w hq) (fun e => by subst e; simp at h1) (hneed_of hd) n listed a w hcl (Region.free_spec hi h3) hr hy hS (gol_fork3 hs hQ n _ A _ w h5 (closed_set hcl hr) hS h h2 h')
end
section
variable {P : Program} {f : FuncId} {N : Nat} {k : List Item} {env : Env} {w : World} {R : Value → World → Prop}
theorem run_draw3 {c : Code} {id : Nat} {ops : Array Oper} (I : List Nat) (C : Nat → Nat) (A : List Nat) (i : Nat) (B : List Nat) (i2 : Nat) (L2 : List (Nat × Bool)) (i3 : Nat) (L3 : List (Nat × Bool)) (i' : Nat) (L' : List (Nat × Bool)) (hm : P.follows .mixedOrders = true) (hc : c = .region id ops true)
    (hn : Region.noSelect ops = true) (hk : chk3B ops (barOf ops.size ((i2, false) :: L2)) i B i2 L2 i3 L3 i' L' ops.size (Array.replicate ops.size false) A = true)
    (h : ∀ w₁, Stp [] w C w₁ C → Sch P f N k R ops (fun w' => Ext (fun b => C b ∈ I) w₁ w') (A.map (fun j => (j, true)) ++ (i, false) :: (B.map (fun j => (j, true)) ++ (i2, false) :: L2)) env w₁)
    (h2 : ∀ w₁, Stp [] w C w₁ C → Sch P f N k R ops (fun w' => Ext (fun b => C b ∈ I) w₁ w') (A.map (fun j => (j, true)) ++ (i, false) :: (B.map (fun j => (j, true)) ++ (i3, false) :: L3)) env w₁)
    (h' : ∀ w₁, Stp [] w C w₁ C → Sch P f N k R ops (fun w' => Ext (fun b => C b ∈ I) w₁ w') (A.map (fun j => (j, true)) ++ (i', false) :: L') env w₁) : Run P f N (.code c :: k) env w R := fun a ha => by
  subst hc
  exact runs_of_wp (wp_region_any hm (wpAny_of_bar _ _ _ _ (gol_fork3 hn (fun c a d v w h => h.elim) _ _ A a _ hk (closed_none ops) (Ext.refl _ _) (h _ (Stp.drew [] w C) a ha) (h2 _ (Stp.drew [] w C) a ha) (h' _ (Stp.drew [] w C) a ha))))
end
end Go.K

/- The law of AttackBlind. Plain Lean. -/
set_option linter.unusedVariables false
set_option linter.unusedSimpArgs false
namespace Go.K
open Rep
theorem bits_valid {n : Int} {b : Bits} (h : BitsN n b) (hn : n = 64 ∨ n = 128) : validB b = true := validB_iff.2 ⟨by rw [h.1]; omega, by rw [h.2.1, h.1]⟩
section
variable {cl cl2 : List Bits} {n : Nat} {mk : Bits}
theorem blind_mem (h : grpN cl n = grpN cl2 n) (h2 : fsts cl n = fsts cl2 n) : (grpsOf cl n).map Grp.mem = (grpsOf cl2 n).map Grp.mem := by
  unfold grpsOf
  rw [List.map_map, List.map_map, h2, h]
  rfl
theorem sizes_mem (gs : List Grp) : sizesS gs = (gs.map Grp.mem).map fun l => (l.length : Int) := by unfold sizesS; rw [List.map_map]; rfl
theorem blind_groups (hcl : ∀ x ∈ cl, BitsN 64 x) (hm : BitsN 64 mk) : (grpsOf cl cl.length).map Grp.mem = (grpsOf (cl.map fun y => xorB y mk) cl.length).map Grp.mem := by
  have ha : ∀ i, i < cl.length → atB (cl.map fun y => xorB y mk) i = xorB (atB cl i) mk := fun i hi => by rw [atB_at hi, atB_at (by rw [List.length_map]; exact hi), List.getElem_map]
  have hn : ∀ i, i < cl.length → BitsN 64 (atB cl i) := fun i hi => by rw [atB_at hi]; exact hcl _ (List.getElem_mem hi)
  obtain ⟨h1, h2⟩ := mems_congr (cl := cl) (cl2 := cl.map fun y => xorB y mk) (n := cl.length)
    (fun i hi => by rw [ha i hi]; exact ⟨fun _ => bits_valid (xorB_n (hn i hi) hm) (.inl rfl), fun _ => bits_valid (hn i hi) (.inl rfl)⟩)
    (fun i j hi hj => by rw [ha i hi, ha j hj]; exact (xorB_inj (hn i hi) (hn j hj) hm).symm)
  exact blind_mem h1 h2
theorem mem_at {g1 g2 : List Grp} (h : g1.map Grp.mem = g2.map Grp.mem) {k : Nat} (h1 : k < g1.length) (h2 : k < g2.length) : g1[k].mem = g2[k].mem := by
  have := congrArg (fun l : List (List Int) => l[k]?) h
  simpa [h1, h2] using this
end
end Go.K

/- From the row's reading of an argument to what the steps ask. -/
set_option linter.unusedVariables false
namespace Go.K
open Rep
/-- Nobody writes anything that stood at the start. -/
def C0 : Nat → Nat := fun _ => 0
theorem lim0 (w : World) : Lim w C0 := fun b h => absurd rfl h
theorem Stp.below {w w' : World} (h : Stp [] w C0 w' C0) : Go.RowKit.Below w.heap.size w w' := h.ext.below (Nat.le_refl _) (fun b hb => by simp at hb)

end Go.K

/- From the row's reading of an argument, of whatever make, to what the steps ask. -/
set_option linter.unusedVariables false
set_option linter.unusedSimpArgs false
namespace Go.K
open Rep

/-- Whatever the row reads at this type reads as a Lean value. -/
def Opens {H : Type} (enc : TypeId × Value → H) (P : Program) (w : World) (base : Nat) (spare : Nat → Bool) (held : Bool) (α : Type) [Rep α] (t : TypeId) : Prop :=
  P.cellsOf t = sz α ∧ ∀ (fuel : Nat) (cs : List Value) (x : DataW H × List MemPlace), DataW.trod enc P w base spare held fuel t cs = some x → ∃ a : α, rep w.heap (Mc C0) a cs

section
variable {H : Type} {enc : TypeId × Value → H} {P : Program} {w : World} {base : Nat} {spare : Nat → Bool} {held : Bool} {α β γ : Type} [Rep α] [Rep β] [Rep γ] {t e : TypeId}

theorem opens_int (ht : P.underlying t = some (.int .i64)) (hc : P.cellsOf t = 1) : Opens enc P w base spare held Int t := ⟨hc, fun fuel cs x h => by
  obtain ⟨n, rfl, _⟩ := DataW.trod_int ht h
  exact ⟨n, rfl⟩⟩
theorem opens_slice (ht : P.underlying t = some (.slice e)) (hc : P.cellsOf t = 1) (hsz : 0 < sz α) (he : Opens enc P w base spare held α e) : Opens enc P w base spare held (List α) t := ⟨hc, fun fuel cs x h => by
  rcases Go.Deep.open_slice ht h with ⟨rfl, _⟩ | ⟨a, len, cap, m, n, D, Pl, rfl, hb, hl, hm, hmm, hx, hcell⟩
  · exact ⟨[], none, 0, rfl, Nat.le_refl _, by simp, .inl rfl⟩
  · have hlm : len ≤ m := by rw [hmm]; split <;> omega
    have key : ∀ k, k ≤ len → ∃ xs : List α, xs.length = k ∧ ∀ i (hi : i < xs.length), ∃ cs', w.cells? base (a.add (i * sz α)) (sz α) = some cs' ∧ rep w.heap (Mc C0) xs[i] cs' := by
      intro k
      induction k with
      | zero => exact fun _ => ⟨[], rfl, fun i hi => by simp at hi⟩
      | succ k ih =>
        intro hk
        obtain ⟨xs, hxl, hxs⟩ := ih (by omega)
        obtain ⟨cs', h1, h2⟩ := hcell k (by omega)
        obtain ⟨y, hy⟩ := he.2 _ _ _ h2
        rw [he.1] at h1
        refine ⟨xs ++ [y], by simp [hxl], fun i hi => ?_⟩
        by_cases hik : i < xs.length
        · rw [List.getElem_append_left hik]; exact hxs i hik
        · have hik2 : i = k := by simp at hi; omega
          subst hik2
          rw [List.getElem_append_right (by omega)]
          exact ⟨cs', h1, by simpa [hxl] using hy⟩
    obtain ⟨xs, hxl, hxs⟩ := key len (Nat.le_refl _)
    refine ⟨xs, some a, cap, by rw [hxl], by omega, by unfold maxLen at hm; omega, ?_⟩
    by_cases h0 : len = 0
    · left; exact List.length_eq_zero_iff.1 (by omega)
    · right
      have hall : ∀ i (hi : i < xs.length), ∃ cs', cs'.length = sz α ∧ (∀ j (hj : j < cs'.length), w.cell? (a.add (i * sz α + j)) = some cs'[j]) ∧ rep w.heap (Mc C0) xs[i] cs' := fun i hi => by
        obtain ⟨cs', h1, h2⟩ := hxs i hi
        obtain ⟨_, h3, h4⟩ := World.cells?_some h1
        refine ⟨cs', h3, fun j hj => ?_, h2⟩
        have h5 := h4 j (by omega)
        rw [Addr.add_add] at h5
        rw [h5]; exact List.getElem?_eq_getElem hj
      obtain ⟨c0, hc0l, hc0, _⟩ := hall 0 (by omega)
      have hfirst := hc0 0 (by omega)
      obtain ⟨b, off, spot⟩ := a
      have hspot : spot = none := by simpa [Addr.add] using World.cell?_spot hfirst
      subst hspot
      refine ⟨b, off, rfl, ?_⟩
      simp only [addr_add] at hall hfirst
      unfold World.cell? at hfirst
      simp only at hfirst
      cases hbk : w.heap[b]? with
      | none => rw [hbk] at hfirst; cases hfirst
      | some ob =>
        cases ob with
        | cells c ty fz =>
          have hget : ∀ i (hi : i < xs.length), ∃ cs', cs'.length = sz α ∧ (∀ j (hj : j < cs'.length), c[off + (i * sz α + j)]? = some cs'[j]) ∧ rep w.heap (Mc C0) xs[i] cs' := fun i hi => by
            obtain ⟨cs', h1, h2, h3⟩ := hall i hi
            refine ⟨cs', h1, fun j hj => ?_, h3⟩
            have h4 := h2 j hj
            unfold World.cell? at h4
            simp only [hbk] at h4
            simpa using h4
          refine ⟨fun h => h rfl, c, ty, fz, hbk, ?_, fun i hi => ?_⟩
          · obtain ⟨cs', h1, h2, _⟩ := hget (len - 1) (by omega)
            have h3 := (Array.getElem?_eq_some_iff.1 (h2 (sz α - 1) (by omega))).1
            have h4 : len * sz α = (len - 1) * sz α + sz α := by
              have : len = (len - 1) + 1 := by omega
              rw [this, Nat.succ_mul]; simp
            rw [hxl, h4]; omega
          · obtain ⟨cs', h1, h2, h3⟩ := hget i hi
            have : cellsAt c (off + i * sz α) (sz α) = cs' := by
              apply List.ext_getElem?
              intro r
              simp only [cellsAt, List.getElem?_take, List.getElem?_drop, Array.getElem?_toList]
              by_cases hr : r < sz α
              · rw [if_pos hr, List.getElem?_eq_getElem (by omega), Nat.add_assoc]; exact h2 r (by omega)
              · rw [if_neg hr, List.getElem?_eq_none (by omega)]
            rw [this]; exact h3
        | _ => rw [hbk] at hfirst; cases hfirst⟩

theorem Opens.rv (h : Opens enc P w base spare held α t) (hx : Rep.agg α = false) {fuel : Nat} {v : Value} {x : DataW H × List MemPlace} (ht : DataW.trod enc P w base spare held fuel t [v] = some x) : ∃ a : α, RV w (Mc C0) a v := by
  obtain ⟨a, ha⟩ := h.2 _ _ _ ht
  exact ⟨a, rep1_rv ha hx⟩
end
end Go.K
