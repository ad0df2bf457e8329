/- Ranks, dictionaries and hits, step by step. Plain Lean. -/
import Derived.Test.YtbdlkdiadplmcaaL1
import Derived.WalkKit
import Derived.ProofKit
import Derived.OpenShut
import Derived.ChangeSlices
import Derived.Below
import Derived.Carry
import Derived.Deep.Slices
import Derived.WideShapes
import Derived.ChangeArms
set_option linter.unusedVariables false
set_option linter.unusedSimpArgs false
namespace Go.K
open Rep
theorem cnt_take {α : Type} {l : List α} {k : Nat} (h : k < l.length) (p : α → Bool) : (((l.take (k + 1)).countP p : Nat) : Int) = (((l.take k).countP p : Nat) : Int) + if p l[k] then 1 else 0 := by
  rw [List.take_succ_eq_append_getElem h, List.countP_append, List.countP_cons, List.countP_nil]
  split <;> simp
theorem cnt_le {α : Type} {l : List α} {k : Nat} (p : α → Bool) : (l.take k).countP p ≤ k := Nat.le_trans List.countP_le_length (by rw [List.length_take]; omega)
theorem rank_all (l : List Int) (i : Nat) : (((l.take l.length).countP fun x => decide (gAt l i < x) : Nat) : Int) = (rankS l i : Int) := by rw [List.take_length]; rfl
theorem sing_all (l : List Int) (i : Nat) : decide ((((l.take l.length).countP fun x => decide (x = gAt l i) : Nat) : Int) = 1) = singS l i := by
  rw [List.take_length]; unfold singS; apply decide_eq_decide.2; omega
/-- A dictionary is valid. -/
structure DictOK (es : List Ent) : Prop where
  len : es.length ≤ 64
  asc : ∀ i (h : i + 1 < es.length), strLt es[i].val es[i + 1].val = true
  cnt : ∀ x ∈ es, 1 ≤ x.cnt ∧ x.cnt ≤ 1048576
theorem sizesS_take {gs : List Grp} {k : Nat} (h : k < gs.length) : sizesS (gs.take (k + 1)) = sizesS (gs.take k) ++ [(gs[k].mem.length : Int)] := by
  unfold sizesS; rw [List.take_succ_eq_append_getElem h, List.map_append]; rfl
theorem sizesS_len (gs : List Grp) : (sizesS gs).length = gs.length := by simp [sizesS]
theorem cntsS_take {es : List Ent} {k : Nat} (h : k < es.length) : cntsS (es.take (k + 1)) = cntsS (es.take k) ++ [es[k].cnt] := by
  unfold cntsS; rw [List.take_succ_eq_append_getElem h, List.map_append]; rfl
theorem cntsS_len (es : List Ent) : (cntsS es).length = es.length := by simp [cntsS]
theorem hitN_take {ns : List ByteArray} {v : ByteArray} {l : List Int} {j : Nat} (h : j < l.length) : hitN ns v (l.take (j + 1)) = hitN ns v (l.take j) + if ns.getD l[j].toNat default = v then 1 else 0 := by
  unfold hitN; rw [cnt_take h]; simp
theorem hitsS_take {gs : List Grp} {ns : List ByteArray} {a : List Gss} {k : Nat} (h : k < a.length) : hitsS gs ns (a.take (k + 1)) = hitsS gs ns (a.take k) + hitN ns a[k].val (gs.getD a[k].grp.toNat default).mem := by
  rw [List.take_succ_eq_append_getElem h, hitsS_app]
  show _ + (_ + 0) = _; omega
theorem hitsS_bnd {gs : List Grp} {ns : List ByteArray} {B : Nat} (hB : ∀ g ∈ gs, g.mem.length ≤ B) : ∀ a : List Gss, 0 ≤ hitsS gs ns a ∧ hitsS gs ns a ≤ (a.length * B : Nat)
  | [] => ⟨Int.le_refl _, by simp [hitsS]⟩
  | g :: a => by
    have ih := hitsS_bnd (ns := ns) hB a
    have h1 := hitN_le (ns := ns) (v := g.val) (l := (gs.getD g.grp.toNat default).mem)
    have h2 : (gs.getD g.grp.toNat default).mem.length ≤ B := by
      rw [List.getD_eq_getElem?_getD]
      cases h : gs[g.grp.toNat]? with
      | none => exact Nat.zero_le _
      | some x => exact hB x (List.mem_of_getElem? h)
    show 0 ≤ hitN ns g.val (gs.getD g.grp.toNat default).mem + hitsS gs ns a ∧ hitN ns g.val (gs.getD g.grp.toNat default).mem + hitsS gs ns a ≤ _
    rw [List.length_cons, Nat.succ_mul]
    omega
theorem sngS_bnd {sz : List Int} {B : Int} (hB : ∀ x ∈ sz, 0 ≤ x ∧ x ≤ B) (h0 : 0 ≤ B) : ∀ k : Nat, k ≤ sz.length → 0 ≤ sngS sz k ∧ sngS sz k ≤ k * B
  | 0, _ => ⟨Int.le_refl _, by simp [sngS]⟩
  | k + 1, hk => by
    have ih := sngS_bnd hB h0 k (by omega)
    have h1 := hB (sz[k]'(by omega)) (List.getElem_mem _)
    rw [← gAt_in (by omega)] at h1
    have e : ((k + 1 : Nat) : Int) * B = k * B + B := by rw [show ((k + 1 : Nat) : Int) = (k : Int) + 1 from by omega, Int.add_mul, Int.one_mul]
    show 0 ≤ sngS sz k + (if singS sz k then gAt sz k else 0) ∧ sngS sz k + (if singS sz k then gAt sz k else 0) ≤ _
    rw [e]
    split <;> omega
end Go.K
namespace Go.K
open Rep
abbrev vvS : ByteArray → Value := fun s => .string s
theorem rv_ents_size {w : World} {M : Nat → Prop} {es : List Ent} {v : Value} (h : RV w M es v) : ∀ x ∈ es, x.val.size ≤ 9223372036854775807 := fun x hx => by
  obtain ⟨a, c, rfl, _, _, h3⟩ := rv_list.1 h
  rcases h3 with rfl | ⟨b, o, rfl, hb, cs, ty, fz, hc, hl, hr⟩
  · simp at hx
  · obtain ⟨i, hi, rfl⟩ := List.getElem_of_mem hx
    obtain ⟨us, ws, _, h1, _⟩ := hr i hi
    exact h1.2
theorem getD_ent {es : List Ent} {k : Nat} {d : Ent} (h : k < es.length) : es.getD k d = es[k] := getDi h
theorem vals_size {es : List Ent} (h : ∀ x ∈ es, x.val.size ≤ 9223372036854775807) {r : Int} {v : ByteArray} (hm : mget (valsS es es.length) r = some v) : v.size ≤ 9223372036854775807 := by
  obtain ⟨q, hq, _, _, rfl⟩ := valsS_get _ hm
  rw [getD_ent hq]; exact h _ (List.getElem_mem hq)
end Go.K

/- Bits in common, and how many there are. Plain Lean. -/
set_option linter.unusedVariables false
set_option linter.unusedSimpArgs false
namespace Go.K
open Rep
def andU (a b : U64) : U64 := ⟨bitsOf .and .u64 a.n b.n⟩
def andB (a b : Bits) : Bits := ⟨a.len, List.zipWith andU a.words b.words⟩
/-- What 'math/bits.OnesCount64' computes. -/
def onesS (x : Int) : Int :=
  let x1 := IntKind.u64.wrap (bitsOf .and .u64 (x.fdiv (2 ^ min (1 : Int).toNat IntKind.u64.bits)) 6148914691236517205 + bitsOf .and .u64 x 6148914691236517205)
  let x2 := IntKind.u64.wrap (bitsOf .and .u64 (x1.fdiv (2 ^ min (2 : Int).toNat IntKind.u64.bits)) 3689348814741910323 + bitsOf .and .u64 x1 3689348814741910323)
  let x3 := bitsOf .and .u64 (IntKind.u64.wrap (x2.fdiv (2 ^ min (4 : Int).toNat IntKind.u64.bits) + x2)) 1085102592571150095
  let x4 := IntKind.u64.wrap (x3 + x3.fdiv (2 ^ min (8 : Int).toNat IntKind.u64.bits))
  let x5 := IntKind.u64.wrap (x4 + x4.fdiv (2 ^ min (16 : Int).toNat IntKind.u64.bits))
  let x6 := IntKind.u64.wrap (x5 + x5.fdiv (2 ^ min (32 : Int).toNat IntKind.u64.bits))
  bitsOf .and .i64 (IntKind.i64.wrap x6) 127
theorem and127 (m : Int) : 0 ≤ bitsOf .and .i64 m 127 ∧ bitsOf .and .i64 m 127 ≤ 127 := by
  have h1 : ((BitVec.ofInt 64 m &&& BitVec.ofInt 64 127 : BitVec 64)).toNat ≤ 127 := by
    rw [BitVec.toNat_and]
    exact Nat.le_trans Nat.and_le_right (by decide)
  have : bitsOf .and .i64 m 127 = (((BitVec.ofInt 64 m &&& BitVec.ofInt 64 127 : BitVec 64)).toNat : Int) := by
    show IntKind.i64.wrap (((BitVec.ofInt 64 m &&& BitVec.ofInt 64 127 : BitVec 64)).toNat : Int) = _
    apply wrap_i64 <;> omega
  rw [this]; omega
theorem onesS_bnd (x : Int) : 0 ≤ onesS x ∧ onesS x ≤ 127 := and127 _
def sumOnes (l : List U64) (k : Nat) : Int := match k with | 0 => 0 | k + 1 => sumOnes l k + onesS (l.getD k default).n
theorem sumOnes_bnd (l : List U64) : ∀ k : Nat, 0 ≤ sumOnes l k ∧ sumOnes l k ≤ k * 127
  | 0 => ⟨Int.le_refl _, Int.le_refl _⟩
  | k + 1 => by
    have ih := sumOnes_bnd l k
    have := onesS_bnd (l.getD k default).n
    show 0 ≤ sumOnes l k + onesS (l.getD k default).n ∧ sumOnes l k + onesS (l.getD k default).n ≤ _
    omega
def countB (b : Bits) : Int := if validB b then sumOnes b.words b.words.length else 0
theorem valid_words {b : Bits} (h : validB b = true) : b.words.length ≤ 8 ∧ 1 ≤ b.words.length := by have := validB_iff.1 h; omega
/-- 'And', for valid arrays of one length. -/
def andOK (a b : Bits) : Prop := validB a = true ∧ validB b = true ∧ a.len = b.len
instance (a b : Bits) : Decidable (andOK a b) := by unfold andOK; exact inferInstance
theorem and_words {a b : Bits} (h : andOK a b) : a.words.length = b.words.length := by
  obtain ⟨h1, h2, h3⟩ := h
  have v1 := validB_iff.1 h1; have v2 := validB_iff.1 h2
  omega
theorem zip_take {a b : List U64} {k : Nat} (h1 : k < a.length) (h2 : k < b.length) : (List.zipWith andU a b).take (k + 1) = (List.zipWith andU a b).take k ++ [andU a[k] b[k]] := by
  rw [List.take_succ_eq_append_getElem (by rw [List.length_zipWith]; omega), List.getElem_zipWith]
/-- All arrays together, from one on; none if two are of different lengths. -/
def allS (a : Bits) (l : List Bits) : Option Bits := match l with | [] => some a | b :: l => if andOK a b then allS (andB a b) l else none
def alwaysS (cl : List Bits) : Int := match cl.filter validB with | [] => 0 | a :: l => match allS a l with | some x => countB x | none => 0
theorem allS_drop {a : Bits} {l : List Bits} {k : Nat} (h : k < l.length) : allS a (l.drop k) = if andOK a l[k] then allS (andB a l[k]) (l.drop (k + 1)) else none := by
  rw [List.drop_eq_getElem_cons h]; rfl
/-! ### What is kept -/
def delS (ys cl : List Bits) (i k : Nat) : Prop := ys.length = cl.length ∧ i ≤ k ∧ ys.take i = (cl.take k).filter validB ∧ ∀ q (h1 : q < ys.length) (h2 : q < cl.length), k ≤ q → ys[q] = cl[q]
theorem delS.keep {ys cl : List Bits} {i k : Nat} (h : delS ys cl i k) (hk : k < cl.length) (hv : validB cl[k] = true) : delS (ys.set i cl[k]) cl (i + 1) (k + 1) := by
  obtain ⟨h1, h2, h3, h4⟩ := h
  refine ⟨by rw [List.length_set]; exact h1, by omega, ?_, fun q hq1 hq2 hq => ?_⟩
  · rw [List.take_succ_eq_append_getElem (by rw [List.length_set]; omega), List.take_set_of_le (Nat.le_refl i), List.getElem_set_self, h3, List.take_succ_eq_append_getElem hk, List.filter_append, List.filter_cons, if_pos hv, List.filter_nil]
  · rw [List.getElem_set, if_neg (by omega)]; exact h4 q _ hq2 (by omega)
theorem delS.drop {ys cl : List Bits} {i k : Nat} (h : delS ys cl i k) (hk : k < cl.length) (hv : validB cl[k] = false) : delS ys cl i (k + 1) := by
  obtain ⟨h1, h2, h3, h4⟩ := h
  refine ⟨h1, by omega, ?_, fun q hq1 hq2 hq => h4 q hq1 hq2 (by omega)⟩
  rw [h3, List.take_succ_eq_append_getElem hk, List.filter_append, List.filter_cons, if_neg (by rw [hv]; simp), List.filter_nil, List.append_nil]
theorem delS.start {cl : List Bits} {k : Nat} (hk : k < cl.length) (h0 : ∀ i (hi : i < cl.length), i < k → validB cl[i] = true) (hv : validB cl[k] = false) : delS cl cl k (k + 1) := by
  refine ⟨rfl, by omega, ?_, fun _ _ _ _ => rfl⟩
  rw [List.take_succ_eq_append_getElem hk, List.filter_append, List.filter_cons, if_neg (by rw [hv]; simp), List.filter_nil, List.append_nil]
  rw [List.filter_eq_self.2 fun x hx => ?_]
  obtain ⟨q, hq, rfl⟩ := List.getElem_of_mem hx
  rw [List.length_take] at hq
  rw [List.getElem_take]; exact h0 q (by omega) (by omega)
theorem delS.all {cl : List Bits} (h0 : ∀ i (hi : i < cl.length), validB cl[i] = true) : cl.filter validB = cl := List.filter_eq_self.2 fun x hx => by
  obtain ⟨q, hq, rfl⟩ := List.getElem_of_mem hx; exact h0 q hq
theorem zero_bits {h : Array Obj} {M : Nat → Prop} : rep h M (⟨0, []⟩ : Bits) [.int .i64 0, .slice none 0 0] :=
  ⟨[.int .i64 0], [.slice none 0 0], rfl, rfl, ⟨none, 0, rfl, Nat.le_refl _, by simp, .inl rfl⟩⟩
end Go.K
theorem Go.K.zip_set {a b : List U64} {k : Nat} {z : U64} (h1 : k < a.length) (h2 : k < b.length) :
    ((List.zipWith andU a b).take k ++ List.replicate (a.length - k) z).set k (andU a[k] b[k]) = (List.zipWith andU a b).take (k + 1) ++ List.replicate (a.length - (k + 1)) z := by
  have hl : ((List.zipWith andU a b).take k).length = k := by rw [List.length_take, List.length_zipWith]; omega
  rw [List.set_append, if_neg (by omega), hl, Nat.sub_self, show a.length - k = (a.length - (k + 1)) + 1 from by omega, List.replicate_succ, List.set_cons_zero, zip_take h1 h2, List.append_assoc]
  rfl
namespace Go.K
open Rep
section
variable {P : Program} {N : Nat} {env : Env} {w : World} {C : Nat → Nat} {t e : TypeId}
theorem a_buildEmptyN {bytes n : Nat} (hF : Lim w C) (hrow : rowB P t e n bytes = true) : Acts P N env (.buildSlice t 0 #[]) w (fun v w' => (∃ a, v = .slice (some a) 0 0) ∧ Stp [] w C w' C ∧ Lim w' C) := acts' fun ρ hρ oo hoo => by
  obtain ⟨i, z, hu, hi, hsi, hby, hz, hzs⟩ := rowB_spec hrow
  have hsz' : (sizeOf e).run P w = .ok n w := by simp [sizeOf, typeInfo, hi, hsi]
  have hnew := new_alloc w (.cells #[] e)
  have hrun : (Instr.buildSlice t 0 #[]).run P w = .ok (.slice (some ⟨w.heap.size, 0, none⟩) 0 0) (w.alloc (.cells #[] e)) := by
    unfold Instr.buildSlice
    simp [run_underlying hu, hsz', Instr.fill, newRow, show Array.range 0 = (#[] : Array Nat) from by simp [Array.range]]
  refine ⟨.slice (some ⟨w.heap.size, 0, none⟩) 0 0, w.alloc (.cells #[] e), .inl ?_, ⟨_, rfl⟩, hnew.st C, hF.st (hnew.st C)⟩
  unfold execOp; rw [hoo]
  simp only [Sem.run_bind]
  rw [show Array.map (fun x : Nat × Operand => (x.fst, ρ x.snd)) #[] = #[] from by simp, hrun]
  rfl
end
end Go.K

/- Columns as the deck deals them. Plain Lean. -/
set_option linter.unusedVariables false
set_option linter.unusedSimpArgs false
namespace Go.K
open Rep
def InU (x : Int) : Prop := 0 ≤ x ∧ x < 18446744073709551616
theorem inU_and (x y : Int) : InU (bitsOf .and .u64 x y) := wrap_u64_range _
theorem inU_zero : InU 0 := ⟨by decide, by decide⟩
/-- An array of n bits. -/
def BitsN (n : Int) (b : Bits) : Prop := b.len = n ∧ (b.words.length : Int) = n / 64 ∧ ∀ x ∈ b.words, InU x.n
def GoodB (b : Bits) : Prop := b = ⟨0, []⟩ ∨ BitsN 64 b ∨ BitsN 128 b
theorem BitsN.good64 {b : Bits} (h : BitsN 64 b) : GoodB b := .inr (.inl h)
theorem BitsN.good128 {b : Bits} (h : BitsN 128 b) : GoodB b := .inr (.inr h)
theorem good_empty : GoodB ⟨0, []⟩ := .inl rfl
theorem GoodB.len {b : Bits} (h : GoodB b) : b.words.length ≤ 2 := by
  rcases h with rfl | h | h
  · exact Nat.zero_le _
  · have := h.2.1; omega
  · have := h.2.1; omega
theorem snoc_all {α : Type} {P : α → Prop} {l : List α} {x : α} (h : ∀ y ∈ l, P y) (hx : P x) : ∀ y ∈ l ++ [x], P y := fun y hy => by
  rcases List.mem_append.1 hy with h1 | h1
  · exact h y h1
  · rw [List.mem_singleton.1 h1]; exact hx
end Go.K

/- How many bits are set. Plain Lean. -/
set_option linter.unusedVariables false
set_option linter.unusedSimpArgs false
namespace Go.K
open Rep
def pop : Nat → Nat → Nat
  | 0, _ => 0
  | n + 1, x => x % 2 + pop n (x / 2)
theorem pop_add (m n x : Nat) : pop (m + n) x = pop m x + pop n (x / 2 ^ m) := by
  induction m generalizing x with
  | zero => simp [pop]
  | succ m ih =>
    rw [show m + 1 + n = (m + n) + 1 from by omega]
    show x % 2 + pop (m + n) (x / 2) = x % 2 + pop m (x / 2) + _
    rw [ih, Nat.div_div_eq_div_mul, show 2 * 2 ^ m = 2 ^ (m + 1) from by rw [Nat.pow_succ, Nat.mul_comm], Nat.add_assoc]
theorem pop_mod (m x : Nat) : pop m x = pop m (x % 2 ^ m) := by
  induction m generalizing x with
  | zero => rfl
  | succ m ih =>
    show x % 2 + pop m (x / 2) = x % 2 ^ (m + 1) % 2 + pop m (x % 2 ^ (m + 1) / 2)
    rw [ih (x / 2), ih (x % 2 ^ (m + 1) / 2), Nat.mod_mod_of_dvd x ⟨2 ^ m, by rw [Nat.pow_succ, Nat.mul_comm]⟩]
    congr 2
    rw [show 2 ^ (m + 1) = 2 * 2 ^ m from by rw [Nat.pow_succ, Nat.mul_comm], Nat.mod_mul_right_div_self, Nat.mod_mod]
theorem pop_le (m x : Nat) : pop m x ≤ m := by
  induction m generalizing x with
  | zero => exact Nat.le_refl _
  | succ m ih => show x % 2 + _ ≤ _; have := ih (x / 2); omega
theorem pop_and (m x y : Nat) : pop m (x &&& y) ≤ pop m x := by
  induction m generalizing x y with
  | zero => exact Nat.le_refl _
  | succ m ih =>
    show (x &&& y) % 2 + pop m ((x &&& y) / 2) ≤ x % 2 + pop m (x / 2)
    have h1 := ih (x / 2) (y / 2)
    have h2 : (x &&& y) / 2 = x / 2 &&& y / 2 := Nat.and_div_two_pow (n := 1)
    have h3 : (x &&& y) % 2 = x % 2 &&& y % 2 := Nat.and_mod_two_pow (n := 1)
    rw [h2, h3]
    have h4 : x % 2 &&& y % 2 ≤ x % 2 := Nat.and_le_left
    omega
/-! ### Eight lanes -/
def lane (b : Nat) : Nat → Nat
  | 0 => 0
  | n + 1 => 256 * lane b n + b
def a1 (m v : Nat) : Nat := (v / 2 &&& m) + (v &&& m)
def a2 (m v : Nat) : Nat := (v / 4 &&& m) + (v &&& m)
def a3 (m v : Nat) : Nat := (v / 16 + v) &&& m
theorem and_split (a b c d : Nat) (hb : b < 256) (hd : d < 256) : (256 * a + b) &&& (256 * c + d) = 256 * (a &&& c) + (b &&& d) := by
  have h1 : ((256 * a + b) &&& (256 * c + d)) / 2 ^ 8 = (256 * a + b) / 2 ^ 8 &&& (256 * c + d) / 2 ^ 8 := Nat.and_div_two_pow
  have h2 : ((256 * a + b) &&& (256 * c + d)) % 2 ^ 8 = (256 * a + b) % 2 ^ 8 &&& (256 * c + d) % 2 ^ 8 := Nat.and_mod_two_pow
  have e1 : (256 * a + b) / 2 ^ 8 = a := by omega
  have e2 : (256 * c + d) / 2 ^ 8 = c := by omega
  have e3 : (256 * a + b) % 2 ^ 8 = b := by omega
  have e4 : (256 * c + d) % 2 ^ 8 = d := by omega
  rw [e1, e2] at h1
  rw [e3, e4] at h2
  omega
theorem m55 : ∀ q, q < 2 → ∀ k, k < 128 → (q * 128 + k) &&& 0x55 = k &&& 0x55 := by decide +kernel
theorem m33 : ∀ q, q < 4 → ∀ k, k < 64 → (q * 64 + k) &&& 0x33 = k &&& 0x33 := by decide +kernel
theorem a1_lane (n h l : Nat) (hl : l < 256) : a1 (lane 0x55 (n + 1)) (256 * h + l) = 256 * a1 (lane 0x55 n) h + a1 0x55 l := by
  unfold a1
  show ((256 * h + l) / 2 &&& (256 * lane 0x55 n + 0x55)) + ((256 * h + l) &&& (256 * lane 0x55 n + 0x55)) = _
  rw [show (256 * h + l) / 2 = 256 * (h / 2) + (h % 2 * 128 + l / 2) from by omega, and_split _ _ _ _ (by omega) (by decide), and_split _ _ _ _ hl (by decide), m55 _ (by omega) _ (by omega)]
  omega
theorem a2_lane (n h l : Nat) (hl : l < 256) : a2 (lane 0x33 (n + 1)) (256 * h + l) = 256 * a2 (lane 0x33 n) h + a2 0x33 l := by
  unfold a2
  show ((256 * h + l) / 4 &&& (256 * lane 0x33 n + 0x33)) + ((256 * h + l) &&& (256 * lane 0x33 n + 0x33)) = _
  rw [show (256 * h + l) / 4 = 256 * (h / 4) + (h % 4 * 64 + l / 4) from by omega, and_split _ _ _ _ (by omega) (by decide), and_split _ _ _ _ hl (by decide), m33 _ (by omega) _ (by omega)]
  omega
theorem a3_lane (n h l : Nat) (hh : h % 16 ≤ 4) (h1 : l / 16 ≤ 4) (h2 : l % 16 ≤ 4) : a3 (lane 0x0f (n + 1)) (256 * h + l) = 256 * a3 (lane 0x0f n) h + a3 0x0f l := by
  unfold a3
  show ((256 * h + l) / 16 + (256 * h + l)) &&& (256 * lane 0x0f n + 0x0f) = _
  rw [show (256 * h + l) / 16 + (256 * h + l) = 256 * (h / 16 + h) + (h % 16 * 16 + (l / 16 + l)) from by omega, and_split _ _ _ _ (by omega) (by decide)]
  have e1 : h % 16 * 16 + (l / 16 + l) &&& 0x0f = (h % 16 * 16 + (l / 16 + l)) % 16 := Nat.and_two_pow_sub_one_eq_mod _ 4
  have e2 : (l / 16 + l) &&& 0x0f = (l / 16 + l) % 16 := Nat.and_two_pow_sub_one_eq_mod _ 4
  rw [e1, e2]; omega
theorem byte_ : ∀ l, l < 256 → a1 0x55 l < 256 ∧ a2 0x33 (a1 0x55 l) / 16 ≤ 4 ∧ a2 0x33 (a1 0x55 l) % 16 ≤ 4 ∧ a3 0x0f (a2 0x33 (a1 0x55 l)) = pop 8 l := by decide +kernel
def G2 (n v : Nat) : Nat := a2 (lane 0x33 n) (a1 (lane 0x55 n) v)
def G3 (n v : Nat) : Nat := a3 (lane 0x0f n) (G2 n v)
theorem G2_lane (n h l : Nat) (hl : l < 256) : G2 (n + 1) (256 * h + l) = 256 * G2 n h + a2 0x33 (a1 0x55 l) := by
  unfold G2; rw [a1_lane _ _ _ hl, a2_lane _ _ _ (byte_ l hl).1]
theorem G2_low (n h : Nat) : G2 n h % 16 ≤ 4 := by
  cases n with
  | zero => unfold G2 a2; simp [lane]
  | succ n =>
    have e : h = 256 * (h / 256) + h % 256 := by omega
    rw [e, G2_lane _ _ _ (by omega)]
    have := (byte_ (h % 256) (by omega)).2.2.1
    omega
theorem G3_lane (n h l : Nat) (hl : l < 256) : G3 (n + 1) (256 * h + l) = 256 * G3 n h + pop 8 l := by
  unfold G3
  obtain ⟨b1, b2, b3, b4⟩ := byte_ l hl
  rw [G2_lane _ _ _ hl, a3_lane _ _ _ (G2_low n h) b2 b3, b4]
theorem G3_step (n v : Nat) : G3 (n + 1) v = 256 * G3 n (v / 256) + pop 8 (v % 256) := by
  have e : v = 256 * (v / 256) + v % 256 := by omega
  have := G3_lane n (v / 256) (v % 256) (by omega)
  rwa [← e] at this
theorem G3_zero (v : Nat) : G3 0 v = 0 := by unfold G3 a3; simp [lane]
/-! ### The program's numbers -/
theorem and_u64 (a b : Nat) (ha : a < 18446744073709551616) (hb : b < 18446744073709551616) : bitsOf .and .u64 (a : Int) (b : Int) = ((a &&& b : Nat) : Int) := by
  have h1 : ((BitVec.ofInt 64 (a : Int) &&& BitVec.ofInt 64 (b : Int) : BitVec 64)).toNat = a &&& b := by
    rw [BitVec.toNat_and, BitVec.toNat_ofInt, BitVec.toNat_ofInt]
    congr 1 <;> omega
  have h2 : a &&& b ≤ a := Nat.and_le_left
  show IntKind.u64.wrap (((BitVec.ofInt 64 (a : Int) &&& BitVec.ofInt 64 (b : Int) : BitVec 64)).toNat : Int) = _
  rw [h1]
  apply wrap_u64 <;> omega
theorem and_i64 (a b : Nat) (ha : a < 9223372036854775808) (hb : b < 9223372036854775808) : bitsOf .and .i64 (a : Int) (b : Int) = ((a &&& b : Nat) : Int) := by
  have h1 : ((BitVec.ofInt 64 (a : Int) &&& BitVec.ofInt 64 (b : Int) : BitVec 64)).toNat = a &&& b := by
    rw [BitVec.toNat_and, BitVec.toNat_ofInt, BitVec.toNat_ofInt]
    congr 1 <;> omega
  have h2 : a &&& b ≤ a := Nat.and_le_left
  show IntKind.i64.wrap (((BitVec.ofInt 64 (a : Int) &&& BitVec.ofInt 64 (b : Int) : BitVec 64)).toNat : Int) = _
  rw [h1]
  apply wrap_i64 <;> omega
theorem shr_u64 (a k : Nat) (hk : k ≤ 64) : (a : Int).fdiv (2 ^ min (k : Int).toNat IntKind.u64.bits) = ((a / 2 ^ k : Nat) : Int) := by
  rw [show min (k : Int).toNat IntKind.u64.bits = k from by simp [IntKind.bits]; omega]
  rw [Int.fdiv_eq_ediv_of_nonneg _ (by exact Int.pow_nonneg (by decide))]
  norm_cast
theorem sw1 {y t p : Nat} (q : p ≤ 8) (h : y = 256 * t + p) : y / 256 = t := by omega
theorem sw2 {y t1 t2 t3 p0 p1 p2 : Nat} (q0 : p0 ≤ 8) (q1 : p1 ≤ 8) (q2 : p2 ≤ 8) (h : y = 256 * t1 + p0) (h1 : t1 = 256 * t2 + p1) (h2 : t2 = 256 * t3 + p2) : (y + t1) / 65536 = t2 + t3 := by
  have : y + t1 = 65536 * (t2 + t3) + (256 * (p1 + p2) + (p0 + p1)) := by omega
  rw [this]
  have h3 : 256 * (p1 + p2) + (p0 + p1) < 65536 := by omega
  clear this h h1 h2
  generalize 256 * (p1 + p2) + (p0 + p1) = z at *
  omega
theorem sw3 {T S0 S1 S2 S3 : Nat} (h0 : S0 ≤ 32) (h1 : S1 ≤ 32) (h2 : S2 ≤ 32) (h3 : S3 ≤ 32) : (4294967296 * T + (S0 + 256 * S1 + 65536 * S2 + 16777216 * S3)) / 4294967296 = T := by
  have h : S0 + 256 * S1 + 65536 * S2 + 16777216 * S3 < 4294967296 := by omega
  generalize S0 + 256 * S1 + 65536 * S2 + 16777216 * S3 = z at *
  clear h0 h1 h2 h3
  omega
theorem sw4 {P K : Nat} (h : P ≤ 64) : (P + 128 * K) % 128 = P := by omega
theorem swar_sum {p0 p1 p2 p3 p4 p5 p6 p7 y3 : Nat} (q0 : p0 ≤ 8) (q1 : p1 ≤ 8) (q2 : p2 ≤ 8) (q3 : p3 ≤ 8) (q4 : p4 ≤ 8) (q5 : p5 ≤ 8) (q6 : p6 ≤ 8) (q7 : p7 ≤ 8)
    (h : y3 = 256 * (256 * (256 * (256 * (256 * (256 * (256 * (256 * 0 + p7) + p6) + p5) + p4) + p3) + p2) + p1) + p0) :
    (y3 + y3 / 256 + (y3 + y3 / 256) / 65536 + (y3 + y3 / 256 + (y3 + y3 / 256) / 65536) / 4294967296) % 128 = p0 + (p1 + (p2 + (p3 + (p4 + (p5 + (p6 + p7)))))) := by
  rw [show 256 * 0 + p7 = p7 from Nat.zero_add _] at h
  obtain ⟨t6, h6⟩ : ∃ t, t = 256 * p7 + p6 := ⟨_, rfl⟩
  rw [← h6] at h
  obtain ⟨t5, h5⟩ : ∃ t, t = 256 * t6 + p5 := ⟨_, rfl⟩
  rw [← h5] at h
  obtain ⟨t4, h4⟩ : ∃ t, t = 256 * t5 + p4 := ⟨_, rfl⟩
  rw [← h4] at h
  obtain ⟨t3, h3⟩ : ∃ t, t = 256 * t4 + p3 := ⟨_, rfl⟩
  rw [← h3] at h
  obtain ⟨t2, h2⟩ : ∃ t, t = 256 * t3 + p2 := ⟨_, rfl⟩
  rw [← h2] at h
  obtain ⟨t1, h1⟩ : ∃ t, t = 256 * t2 + p1 := ⟨_, rfl⟩
  rw [← h1] at h
  rw [sw1 q0 h, sw2 q0 q1 q2 h h1 h2]
  have e3 : y3 + t1 + (t2 + t3) = 4294967296 * (t4 + t5 + t6 + p7) + ((p0 + p1 + p2 + p3) + 256 * (p1 + p2 + p3 + p4) + 65536 * (p2 + p3 + p4 + p5) + 16777216 * (p3 + p4 + p5 + p6)) := by
    clear q0 q1 q2 q3 q4 q5 q6 q7
    subst h; subst h1; subst h2; subst h3; subst h4; subst h5; subst h6
    omega
  have e4 : (y3 + t1 + (t2 + t3)) / 4294967296 = t4 + t5 + t6 + p7 := by
    rw [e3]; exact sw3 (by omega) (by omega) (by omega) (by omega)
  rw [e4]
  have e5 : y3 + t1 + (t2 + t3) + (t4 + t5 + t6 + p7) = (p0 + (p1 + (p2 + (p3 + (p4 + (p5 + (p6 + p7))))))) + 128 * (2 * (t1 + t2 + t3 + t4 + t5 + t6 + p7)) := by
    clear q0 q1 q2 q3 q4 q5 q6 q7 e3 e4
    omega
  rw [e5]
  exact sw4 (by clear e3 e4 e5 h h1 h2 h3 h4 h5 h6; omega)
theorem w64 (a : Nat) (ha : a < 18446744073709551616) : IntKind.u64.wrap (a : Int) = a := by apply wrap_u64 <;> omega
theorem st1 (v : Nat) (hv : v < 18446744073709551616) : IntKind.u64.wrap (bitsOf .and .u64 ((v : Int).fdiv (2 ^ min (1 : Int).toNat IntKind.u64.bits)) 6148914691236517205 + bitsOf .and .u64 (v : Int) 6148914691236517205) = ((a1 6148914691236517205 v : Nat) : Int) ∧ a1 6148914691236517205 v < 18446744073709551616 := by
  have l1 : v / 2 &&& 6148914691236517205 ≤ 6148914691236517205 := Nat.and_le_right
  have l2 : v &&& 6148914691236517205 ≤ 6148914691236517205 := Nat.and_le_right
  have s1 : (v : Int).fdiv (2 ^ min (1 : Int).toNat IntKind.u64.bits) = ((v / 2 : Nat) : Int) := shr_u64 v 1 (by decide)
  rw [s1, show (6148914691236517205 : Int) = ((6148914691236517205 : Nat) : Int) from rfl, and_u64 _ _ (by omega) (by decide), and_u64 _ _ hv (by decide), ← Int.natCast_add, w64 _ (by omega)]
  unfold a1
  exact ⟨rfl, by omega⟩
theorem st2 (v : Nat) (hv : v < 18446744073709551616) : IntKind.u64.wrap (bitsOf .and .u64 ((v : Int).fdiv (2 ^ min (2 : Int).toNat IntKind.u64.bits)) 3689348814741910323 + bitsOf .and .u64 (v : Int) 3689348814741910323) = ((a2 3689348814741910323 v : Nat) : Int) ∧ a2 3689348814741910323 v ≤ 7378697629483820646 := by
  have l1 : v / 4 &&& 3689348814741910323 ≤ 3689348814741910323 := Nat.and_le_right
  have l2 : v &&& 3689348814741910323 ≤ 3689348814741910323 := Nat.and_le_right
  have s1 : (v : Int).fdiv (2 ^ min (2 : Int).toNat IntKind.u64.bits) = ((v / 4 : Nat) : Int) := shr_u64 v 2 (by decide)
  rw [s1, show (3689348814741910323 : Int) = ((3689348814741910323 : Nat) : Int) from rfl, and_u64 _ _ (by omega) (by decide), and_u64 _ _ hv (by decide), ← Int.natCast_add, w64 _ (by omega)]
  unfold a2
  exact ⟨rfl, by omega⟩
theorem st3 (v : Nat) (hv : v ≤ 7378697629483820646) : bitsOf .and .u64 (IntKind.u64.wrap ((v : Int).fdiv (2 ^ min (4 : Int).toNat IntKind.u64.bits) + (v : Int))) 1085102592571150095 = ((a3 1085102592571150095 v : Nat) : Int) ∧ a3 1085102592571150095 v ≤ 1085102592571150095 := by
  have s1 : (v : Int).fdiv (2 ^ min (4 : Int).toNat IntKind.u64.bits) = ((v / 16 : Nat) : Int) := shr_u64 v 4 (by decide)
  rw [s1, ← Int.natCast_add, w64 _ (by omega), show (1085102592571150095 : Int) = ((1085102592571150095 : Nat) : Int) from rfl, and_u64 _ _ (by omega) (by decide)]
  unfold a3
  exact ⟨rfl, Nat.and_le_right⟩
theorem st4 (v : Nat) (hv : v ≤ 1085102592571150095) : IntKind.u64.wrap ((v : Int) + (v : Int).fdiv (2 ^ min (8 : Int).toNat IntKind.u64.bits)) = ((v + v / 256 : Nat) : Int) ∧ v + v / 256 ≤ 2170205185142300190 := by
  have s1 : (v : Int).fdiv (2 ^ min (8 : Int).toNat IntKind.u64.bits) = ((v / 256 : Nat) : Int) := shr_u64 v 8 (by decide)
  rw [s1, ← Int.natCast_add, w64 _ (by omega)]
  exact ⟨rfl, by omega⟩
theorem st5 (v : Nat) (hv : v ≤ 2170205185142300190) : IntKind.u64.wrap ((v : Int) + (v : Int).fdiv (2 ^ min (16 : Int).toNat IntKind.u64.bits)) = ((v + v / 65536 : Nat) : Int) ∧ v + v / 65536 ≤ 4340410370284600380 := by
  have s1 : (v : Int).fdiv (2 ^ min (16 : Int).toNat IntKind.u64.bits) = ((v / 65536 : Nat) : Int) := shr_u64 v 16 (by decide)
  rw [s1, ← Int.natCast_add, w64 _ (by omega)]
  exact ⟨rfl, by omega⟩
theorem st6 (v : Nat) (hv : v ≤ 4340410370284600380) : IntKind.u64.wrap ((v : Int) + (v : Int).fdiv (2 ^ min (32 : Int).toNat IntKind.u64.bits)) = ((v + v / 4294967296 : Nat) : Int) ∧ v + v / 4294967296 ≤ 9000000000000000000 := by
  have s1 : (v : Int).fdiv (2 ^ min (32 : Int).toNat IntKind.u64.bits) = ((v / 4294967296 : Nat) : Int) := shr_u64 v 32 (by decide)
  rw [s1, ← Int.natCast_add, w64 _ (by omega)]
  exact ⟨rfl, by omega⟩
theorem st7 (v : Nat) (hv : v ≤ 9000000000000000000) : bitsOf .and .i64 (IntKind.i64.wrap (v : Int)) 127 = ((v % 128 : Nat) : Int) := by
  rw [show IntKind.i64.wrap (v : Int) = (v : Int) from by apply wrap_i64 <;> omega, show (127 : Int) = ((127 : Nat) : Int) from rfl, and_i64 _ _ (by omega) (by decide)]
  rw [show v &&& 127 = v % 128 from Nat.and_two_pow_sub_one_eq_mod _ 7]
theorem lane55 : lane 0x55 8 = 6148914691236517205 := by decide +kernel
theorem lane33 : lane 0x33 8 = 3689348814741910323 := by decide +kernel
theorem lane0f : lane 0x0f 8 = 1085102592571150095 := by decide +kernel
theorem pop64 (v : Nat) : pop 64 v = pop 8 (v % 256) + (pop 8 (v / 256 % 256) + (pop 8 (v / 256 / 256 % 256) + (pop 8 (v / 256 / 256 / 256 % 256) + (pop 8 (v / 256 / 256 / 256 / 256 % 256) + (pop 8 (v / 256 / 256 / 256 / 256 / 256 % 256) + (pop 8 (v / 256 / 256 / 256 / 256 / 256 / 256 % 256) + pop 8 (v / 256 / 256 / 256 / 256 / 256 / 256 / 256 % 256))))))) := by
  have st : ∀ n x, pop (8 + n) x = pop 8 (x % 256) + pop n (x / 256) := fun n x => by rw [pop_add, pop_mod 8 x]
  have z : ∀ x, pop 0 x = 0 := fun _ => rfl
  rw [show (64 : Nat) = 8 + 56 from rfl, st, show (56 : Nat) = 8 + 48 from rfl, st, show (48 : Nat) = 8 + 40 from rfl, st, show (40 : Nat) = 8 + 32 from rfl, st, show (32 : Nat) = 8 + 24 from rfl, st, show (24 : Nat) = 8 + 16 from rfl, st, show pop 16 = pop (8 + 8) from rfl, st, show pop 8 (v / 256 / 256 / 256 / 256 / 256 / 256 / 256) = pop 8 (v / 256 / 256 / 256 / 256 / 256 / 256 / 256 % 256) from pop_mod 8 _]
theorem G3_8 (v : Nat) : G3 8 v = 256 * (256 * (256 * (256 * (256 * (256 * (256 * (256 * 0 + pop 8 (v / 256 / 256 / 256 / 256 / 256 / 256 / 256 % 256)) + pop 8 (v / 256 / 256 / 256 / 256 / 256 / 256 % 256)) + pop 8 (v / 256 / 256 / 256 / 256 / 256 % 256)) + pop 8 (v / 256 / 256 / 256 / 256 % 256)) + pop 8 (v / 256 / 256 / 256 % 256)) + pop 8 (v / 256 / 256 % 256)) + pop 8 (v / 256 % 256)) + pop 8 (v % 256) := by
  rw [G3_step, G3_step, G3_step, G3_step, G3_step, G3_step, G3_step, G3_step, G3_zero]
theorem onesN (v : Nat) (hv : v < 18446744073709551616) : onesS (v : Int) = ((pop 64 v : Nat) : Int) := by
  obtain ⟨e1, b1⟩ := st1 v hv
  obtain ⟨e2, b2⟩ := st2 _ b1
  obtain ⟨e3, b3⟩ := st3 _ b2
  obtain ⟨e4, b4⟩ := st4 _ b3
  obtain ⟨e5, b5⟩ := st5 _ b4
  obtain ⟨e6, b6⟩ := st6 _ b5
  have e7 := st7 _ b6
  have hs := swar_sum (pop_le 8 _) (pop_le 8 _) (pop_le 8 _) (pop_le 8 _) (pop_le 8 _) (pop_le 8 _) (pop_le 8 _) (pop_le 8 _) (G3_8 v)
  rw [← pop64] at hs
  unfold G3 G2 at hs
  rw [lane55, lane33, lane0f] at hs
  rw [hs] at e7
  rw [← e7, ← e6, ← e5, ← e4, ← e3, ← e2, ← e1]
  rfl
theorem onesS_pop (x : Int) (h : InU x) : onesS x = pop 64 x.toNat := by
  obtain ⟨h1, h2⟩ := h
  have := onesN x.toNat (by omega)
  rwa [Int.toNat_of_nonneg h1] at this
end Go.K

/- The law of AttackAlways. Plain Lean. -/
set_option linter.unusedVariables false
set_option linter.unusedSimpArgs false
namespace Go.K
open Rep
def pw (x : U64) : Nat := pop 64 x.n.toNat
def popL (l : List U64) : Nat := (l.map pw).sum
theorem BitsN.valid {n : Int} {b : Bits} (h : BitsN n b) (hn : n = 64 ∨ n = 128) : validB b = true := validB_iff.2 ⟨by rw [h.1]; omega, by rw [h.2.1, h.1]⟩
theorem sumOnes_pop {l : List U64} (hu : ∀ x ∈ l, InU x.n) : ∀ k, k ≤ l.length → sumOnes l k = (popL (l.take k) : Nat)
  | 0, _ => rfl
  | k + 1, hk => by
    have ih := sumOnes_pop hu k (by omega)
    have hx := onesS_pop _ (hu _ (List.getElem_mem (show k < l.length by omega)))
    show sumOnes l k + onesS (l.getD k default).n = _
    rw [getDi (by omega), ih, hx, List.take_succ_eq_append_getElem (by omega)]
    unfold popL
    rw [List.map_append, List.sum_append]
    simp [pw]
theorem countB_pop {b : Bits} (hv : validB b = true) (hu : ∀ x ∈ b.words, InU x.n) : countB b = (popL b.words : Nat) := by
  unfold countB
  rw [hv, sumOnes_pop hu _ (Nat.le_refl _), List.take_length]; rfl
theorem andU_pop {a b : U64} (ha : InU a.n) (hb : InU b.n) : pw (andU a b) ≤ pw a := by
  unfold pw andU
  have e : bitsOf .and .u64 a.n b.n = ((a.n.toNat &&& b.n.toNat : Nat) : Int) := by
    obtain ⟨h1, h2⟩ := ha; obtain ⟨h3, h4⟩ := hb
    have := and_u64 a.n.toNat b.n.toNat (by omega) (by omega)
    rwa [Int.toNat_of_nonneg h1, Int.toNat_of_nonneg h3] at this
  show pop 64 (bitsOf .and .u64 a.n b.n).toNat ≤ _
  rw [e, Int.toNat_natCast]
  exact pop_and _ _ _
theorem popL_and : ∀ {l m : List U64}, (∀ x ∈ l, InU x.n) → (∀ x ∈ m, InU x.n) → popL (List.zipWith andU l m) ≤ popL l
  | [], _, _, _ => by simp [popL]
  | _ :: _, [], _, _ => by simp [popL]
  | a :: l, b :: m, h1, h2 => by
    have ih := popL_and (l := l) (m := m) (fun x hx => h1 x (by simp [hx])) (fun x hx => h2 x (by simp [hx]))
    have := andU_pop (h1 a (by simp)) (h2 b (by simp))
    simp only [popL, List.zipWith_cons_cons, List.map_cons, List.sum_cons] at ih ⊢
    omega
theorem zip_inU {l m : List U64} : ∀ x ∈ List.zipWith andU l m, InU x.n := fun x hx => by
  obtain ⟨i, hi, rfl⟩ := List.getElem_of_mem hx
  rw [List.getElem_zipWith]; exact inU_and _ _
/-- All arrays of one length. -/
theorem allS_some {n : Int} (hn : n = 64 ∨ n = 128) : ∀ {l : List Bits} {a : Bits}, BitsN n a → (∀ x ∈ l, BitsN n x) → ∃ y, allS a l = some y ∧ BitsN n y ∧ popL y.words ≤ popL a.words
  | [], a, ha, _ => ⟨a, rfl, ha, Nat.le_refl _⟩
  | b :: l, a, ha, h => by
    have hb := h b (by simp)
    have hok : andOK a b := ⟨ha.valid hn, hb.valid hn, by rw [ha.1, hb.1]⟩
    have hab : BitsN n (andB a b) := ⟨ha.1, by
      have := and_words hok
      show ((List.zipWith andU a.words b.words).length : Int) = _
      rw [List.length_zipWith, ← this, Nat.min_self]; exact ha.2.1, zip_inU⟩
    obtain ⟨y, h1, h2, h3⟩ := allS_some hn (l := l) hab (fun x hx => h x (by simp [hx]))
    refine ⟨y, by show (if andOK a b then allS (andB a b) l else none) = _; rw [if_pos hok]; exact h1, h2, Nat.le_trans h3 (popL_and ha.2.2 hb.2.2)⟩
theorem allS_app : ∀ {l m : List Bits} {a : Bits}, allS a (l ++ m) = match allS a l with | some y => allS y m | none => none
  | [], m, a => rfl
  | b :: l, m, a => by
    show (if andOK a b then allS (andB a b) (l ++ m) else none) = match (if andOK a b then allS (andB a b) l else none) with | some y => allS y m | none => none
    split
    · exact allS_app
    · rfl
section
variable {a x c : Bits} {l : List Bits}
theorem filt_all {n : Int} (hn : n = 64 ∨ n = 128) (h : ∀ x ∈ l, BitsN n x) : l.filter validB = l := List.filter_eq_self.2 fun x hx => (h x hx).valid hn
theorem empty_bad : validB (⟨0, []⟩ : Bits) = false := by decide
theorem alw_is (ha : BitsN 128 a) (hl : ∀ x ∈ l, BitsN 128 x) : ∃ y, allS a l = some y ∧ BitsN 128 y ∧ popL y.words ≤ popL a.words ∧ alwaysS (a :: l) = (popL y.words : Nat) := by
  obtain ⟨y, h1, h2, h3⟩ := allS_some (.inr rfl) ha hl
  refine ⟨y, h1, h2, h3, ?_⟩
  unfold alwaysS
  rw [List.filter_cons, if_pos (ha.valid (.inr rfl)), filt_all (.inr rfl) hl]
  simp only [h1]
  exact countB_pop (h2.valid (.inr rfl)) h2.2.2
theorem alw_one (ha : BitsN 128 a) : alwaysS [a] = (popL a.words : Nat) := by
  obtain ⟨y, h1, _, _, h4⟩ := alw_is ha (l := []) (fun x hx => by cases hx)
  injection h1 with h1; subst h1; exact h4
theorem alw_two (ha : BitsN 128 a) : alwaysS [⟨0, []⟩, a] = (popL a.words : Nat) := by
  rw [← alw_one ha]; unfold alwaysS
  rw [List.filter_cons, if_neg (by rw [empty_bad]; decide)]
theorem alw_le (ha : BitsN 128 a) (hl : ∀ x ∈ l, BitsN 128 x) : alwaysS (a :: l) ≤ (popL a.words : Nat) := by
  obtain ⟨y, _, _, h3, h4⟩ := alw_is ha hl; omega
theorem alw_more (ha : BitsN 128 a) (hl : ∀ x ∈ l, BitsN 128 x) (hx : BitsN 128 x) : alwaysS (a :: l ++ [x, ⟨0, []⟩]) ≤ alwaysS (a :: l) := by
  obtain ⟨y, h1, h2, h3, h4⟩ := alw_is ha hl
  obtain ⟨z, k1, k2, k3, k4⟩ := alw_is ha (l := l ++ [x]) (snoc_all hl hx)
  have e : alwaysS (a :: l ++ [x, ⟨0, []⟩]) = alwaysS (a :: (l ++ [x])) := by
    unfold alwaysS
    rw [show a :: l ++ [x, ⟨0, []⟩] = (a :: (l ++ [x])) ++ [⟨0, []⟩] from by simp, List.filter_append, List.filter_cons (x := (⟨0, []⟩ : Bits)), if_neg (by rw [empty_bad]; decide), List.filter_nil, List.append_nil]
  rw [e, k4, h4]
  rw [allS_app, h1] at k1
  obtain ⟨z2, m1, m2, m3⟩ := allS_some (.inr rfl) h2 (l := [x]) (fun q hq => by rw [List.mem_singleton.1 hq]; exact hx)
  simp only [m1, Option.some.injEq] at k1
  subst k1; omega
theorem alw_other (ha : BitsN 128 a) (hl : ∀ x ∈ l, BitsN 128 x) (hc : BitsN 64 c) : alwaysS (a :: l ++ [c]) = 0 := by
  obtain ⟨y, h1, h2, h3, h4⟩ := alw_is ha hl
  unfold alwaysS
  rw [List.filter_append, List.filter_cons, if_pos (ha.valid (.inr rfl)), filt_all (.inr rfl) hl, List.filter_cons, if_pos (hc.valid (.inl rfl)), List.filter_nil]
  have : allS a (l ++ [c]) = none := by
    rw [allS_app, h1]
    show (if andOK y c then allS (andB y c) [] else none) = none
    rw [if_neg (fun h => by have := h.2.2; rw [h2.1, hc.1] at this; exact absurd this (by decide))]
  show (match allS a (l ++ [c]) with | some x => countB x | none => 0) = 0
  rw [this]
end
/-! ### The reference counts bit by bit -/
def bitI (b : Bits) (i : Nat) : Int := bitsOf .and .u64 (((b.words.getD ((i : Int) / 64).toNat default).n).fdiv (2 ^ min ((i : Int) % 64).toNat IntKind.u64.bits)) 1
def cntS (b : Bits) : Nat → Int
  | 0 => 0
  | k + 1 => cntS b k + if bitI b k = 1 then 1 else 0
theorem cntS_yes {b : Bits} {k : Nat} (h : bitI b k = 1) : cntS b (k + 1) = cntS b k + 1 := by show _ + (if _ then _ else _) = _; rw [if_pos h]
theorem cntS_no {b : Bits} {k : Nat} (h : ¬ bitI b k = 1) : cntS b (k + 1) = cntS b k := by show _ + (if _ then _ else _) = _; rw [if_neg h]; omega
theorem cntS_bnd (b : Bits) : ∀ k : Nat, 0 ≤ cntS b k ∧ cntS b k ≤ k
  | 0 => ⟨Int.le_refl _, Int.le_refl _⟩
  | k + 1 => by
    have := cntS_bnd b k
    show 0 ≤ cntS b k + (if _ then _ else _) ∧ cntS b k + (if _ then _ else _) ≤ _
    split <;> omega
theorem bitI_is {b : Bits} {i : Nat} (hi : i / 64 < b.words.length) (hu : ∀ x ∈ b.words, InU x.n) : bitI b i = ((b.words[i / 64].n.toNat / 2 ^ (i % 64) % 2 : Nat) : Int) := by
  obtain ⟨h1, h2⟩ := hu _ (List.getElem_mem hi)
  unfold bitI
  have e1 : ((i : Int) / 64).toNat = i / 64 := by omega
  have e2 : ((i : Int) % 64) = ((i % 64 : Nat) : Int) := by omega
  rw [e1, getDi hi, e2]
  obtain ⟨v, hv⟩ : ∃ v : Nat, b.words[i / 64].n = v := ⟨b.words[i / 64].n.toNat, by omega⟩
  rw [hv] at h2 ⊢
  rw [shr_u64 v (i % 64) (by omega), Int.toNat_natCast]
  have hle : v / 2 ^ (i % 64) ≤ v := Nat.div_le_self _ _
  rw [show (1 : Int) = ((1 : Nat) : Int) from rfl, and_u64 _ _ (by omega) (by decide)]
  congr 1
  exact Nat.and_two_pow_sub_one_eq_mod _ 1
theorem cntS_is {b : Bits} (hu : ∀ x ∈ b.words, InU x.n) : ∀ k, k ≤ 64 * b.words.length → cntS b k = ((popL (b.words.take (k / 64)) + pop (k % 64) ((b.words.getD (k / 64) default).n.toNat) : Nat) : Int)
  | 0, _ => rfl
  | k + 1, hk => by
    have hi : k / 64 < b.words.length := by omega
    have ih := cntS_is hu k (by omega)
    have hb := bitI_is hi hu
    have hstep : cntS b (k + 1) = cntS b k + bitI b k := by
      by_cases h : bitI b k = 1
      · rw [cntS_yes h, h]
      · rw [cntS_no h]; omega
    rw [getDi hi] at ih
    obtain ⟨v, hv⟩ : ∃ v, v = b.words[k / 64].n.toNat := ⟨_, rfl⟩
    rw [← hv] at hb ih
    have hp : pop (k % 64 + 1) v = pop (k % 64) v + v / 2 ^ (k % 64) % 2 := by rw [pop_add]; rfl
    rw [hstep, ih, hb]
    rcases Nat.lt_or_ge (k % 64 + 1) 64 with h | h
    · have e1 : (k + 1) / 64 = k / 64 := by omega
      have e2 : (k + 1) % 64 = k % 64 + 1 := by omega
      rw [e1, e2, getDi hi, ← hv, hp]; omega
    · have e1 : (k + 1) / 64 = k / 64 + 1 := by omega
      have e2 : (k + 1) % 64 = 0 := by omega
      have e3 : k % 64 = 63 := by omega
      rw [e1, e2]
      rw [e3] at hp
      rw [List.take_succ_eq_append_getElem hi]
      unfold popL
      rw [List.map_append, List.sum_append]
      rw [e3]
      show _ = ((_ + (pw b.words[k / 64] + 0) + 0 : Nat) : Int)
      unfold pw
      rw [← hv, show pop 64 v = pop 63 v + v / 2 ^ 63 % 2 from hp]
      omega
theorem cnt_all {b : Bits} (hv : validB b = true) (hu : ∀ x ∈ b.words, InU x.n) : cntS b b.len.toNat = (popL b.words : Nat) := by
  have h := validB_iff.1 hv
  have e : b.len.toNat = 64 * b.words.length := by omega
  rw [cntS_is hu _ (by omega)]
  have e1 : b.len.toNat / 64 = b.words.length := by omega
  have e2 : b.len.toNat % 64 = 0 := by omega
  rw [e1, e2, List.take_length]; rfl
end Go.K

/- From the row's reading of an argument to what the steps ask. -/
set_option linter.unusedVariables false
namespace Go.K
open Rep
/-- Nobody writes anything that stood at the start. -/
def C0 : Nat → Nat := fun _ => 0
theorem lim0 (w : World) : Lim w C0 := fun b h => absurd rfl h
theorem Stp.below {w w' : World} (h : Stp [] w C0 w' C0) : Go.RowKit.Below w.heap.size w w' := h.ext.below (Nat.le_refl _) (fun b hb => by simp at hb)

end Go.K

/- From the row's reading of an argument, of whatever make, to what the steps ask. -/
set_option linter.unusedVariables false
set_option linter.unusedSimpArgs false
namespace Go.K
open Rep

/-- Whatever the row reads at this type reads as a Lean value. -/
def Opens {H : Type} (enc : TypeId × Value → H) (P : Program) (w : World) (base : Nat) (spare : Nat → Bool) (held : Bool) (α : Type) [Rep α] (t : TypeId) : Prop :=
  P.cellsOf t = sz α ∧ ∀ (fuel : Nat) (cs : List Value) (x : DataW H × List MemPlace), DataW.trod enc P w base spare held fuel t cs = some x → ∃ a : α, rep w.heap (Mc C0) a cs

section
variable {H : Type} {enc : TypeId × Value → H} {P : Program} {w : World} {base : Nat} {spare : Nat → Bool} {held : Bool} {α β γ : Type} [Rep α] [Rep β] [Rep γ] {t e : TypeId}

theorem opens_int (ht : P.underlying t = some (.int .i64)) (hc : P.cellsOf t = 1) : Opens enc P w base spare held Int t := ⟨hc, fun fuel cs x h => by
  obtain ⟨n, rfl, _⟩ := DataW.trod_int ht h
  exact ⟨n, rfl⟩⟩
theorem opens_slice (ht : P.underlying t = some (.slice e)) (hc : P.cellsOf t = 1) (hsz : 0 < sz α) (he : Opens enc P w base spare held α e) : Opens enc P w base spare held (List α) t := ⟨hc, fun fuel cs x h => by
  rcases Go.Deep.open_slice ht h with ⟨rfl, _⟩ | ⟨a, len, cap, m, n, D, Pl, rfl, hb, hl, hm, hmm, hx, hcell⟩
  · exact ⟨[], none, 0, rfl, Nat.le_refl _, by simp, .inl rfl⟩
  · have hlm : len ≤ m := by rw [hmm]; split <;> omega
    have key : ∀ k, k ≤ len → ∃ xs : List α, xs.length = k ∧ ∀ i (hi : i < xs.length), ∃ cs', w.cells? base (a.add (i * sz α)) (sz α) = some cs' ∧ rep w.heap (Mc C0) xs[i] cs' := by
      intro k
      induction k with
      | zero => exact fun _ => ⟨[], rfl, fun i hi => by simp at hi⟩
      | succ k ih =>
        intro hk
        obtain ⟨xs, hxl, hxs⟩ := ih (by omega)
        obtain ⟨cs', h1, h2⟩ := hcell k (by omega)
        obtain ⟨y, hy⟩ := he.2 _ _ _ h2
        rw [he.1] at h1
        refine ⟨xs ++ [y], by simp [hxl], fun i hi => ?_⟩
        by_cases hik : i < xs.length
        · rw [List.getElem_append_left hik]; exact hxs i hik
        · have hik2 : i = k := by simp at hi; omega
          subst hik2
          rw [List.getElem_append_right (by omega)]
          exact ⟨cs', h1, by simpa [hxl] using hy⟩
    obtain ⟨xs, hxl, hxs⟩ := key len (Nat.le_refl _)
    refine ⟨xs, some a, cap, by rw [hxl], by omega, by unfold maxLen at hm; omega, ?_⟩
    by_cases h0 : len = 0
    · left; exact List.length_eq_zero_iff.1 (by omega)
    · right
      have hall : ∀ i (hi : i < xs.length), ∃ cs', cs'.length = sz α ∧ (∀ j (hj : j < cs'.length), w.cell? (a.add (i * sz α + j)) = some cs'[j]) ∧ rep w.heap (Mc C0) xs[i] cs' := fun i hi => by
        obtain ⟨cs', h1, h2⟩ := hxs i hi
        obtain ⟨_, h3, h4⟩ := World.cells?_some h1
        refine ⟨cs', h3, fun j hj => ?_, h2⟩
        have h5 := h4 j (by omega)
        rw [Addr.add_add] at h5
        rw [h5]; exact List.getElem?_eq_getElem hj
      obtain ⟨c0, hc0l, hc0, _⟩ := hall 0 (by omega)
      have hfirst := hc0 0 (by omega)
      obtain ⟨b, off, spot⟩ := a
      have hspot : spot = none := by simpa [Addr.add] using World.cell?_spot hfirst
      subst hspot
      refine ⟨b, off, rfl, ?_⟩
      simp only [addr_add] at hall hfirst
      unfold World.cell? at hfirst
      simp only at hfirst
      cases hbk : w.heap[b]? with
      | none => rw [hbk] at hfirst; cases hfirst
      | some ob =>
        cases ob with
        | cells c ty fz =>
          have hget : ∀ i (hi : i < xs.length), ∃ cs', cs'.length = sz α ∧ (∀ j (hj : j < cs'.length), c[off + (i * sz α + j)]? = some cs'[j]) ∧ rep w.heap (Mc C0) xs[i] cs' := fun i hi => by
            obtain ⟨cs', h1, h2, h3⟩ := hall i hi
            refine ⟨cs', h1, fun j hj => ?_, h3⟩
            have h4 := h2 j hj
            unfold World.cell? at h4
            simp only [hbk] at h4
            simpa using h4
          refine ⟨fun h => h rfl, c, ty, fz, hbk, ?_, fun i hi => ?_⟩
          · obtain ⟨cs', h1, h2, _⟩ := hget (len - 1) (by omega)
            have h3 := (Array.getElem?_eq_some_iff.1 (h2 (sz α - 1) (by omega))).1
            have h4 : len * sz α = (len - 1) * sz α + sz α := by
              have : len = (len - 1) + 1 := by omega
              rw [this, Nat.succ_mul]; simp
            rw [hxl, h4]; omega
          · obtain ⟨cs', h1, h2, h3⟩ := hget i hi
            have : cellsAt c (off + i * sz α) (sz α) = cs' := by
              apply List.ext_getElem?
              intro r
              simp only [cellsAt, List.getElem?_take, List.getElem?_drop, Array.getElem?_toList]
              by_cases hr : r < sz α
              · rw [if_pos hr, List.getElem?_eq_getElem (by omega), Nat.add_assoc]; exact h2 r (by omega)
              · rw [if_neg hr, List.getElem?_eq_none (by omega)]
            rw [this]; exact h3
        | _ => rw [hbk] at hfirst; cases hfirst⟩

theorem Opens.rv (h : Opens enc P w base spare held α t) (hx : Rep.agg α = false) {fuel : Nat} {v : Value} {x : DataW H × List MemPlace} (ht : DataW.trod enc P w base spare held fuel t [v] = some x) : ∃ a : α, RV w (Mc C0) a v := by
  obtain ⟨a, ha⟩ := h.2 _ _ _ ht
  exact ⟨a, rep1_rv ha hx⟩
end
end Go.K
