/- The blocks that a deck deals: plain. -/
import Derived.Test.YtejbklahkkjmhaaKDeck
set_option linter.unusedVariables false
set_option linter.unusedSimpArgs false
namespace Go.K
open Rep

def hashN : Nat → Int | 0 => 3 | 1 => 5 | 2 => 8 | _ => 9223372036854775808
def hashL : List U64 := [⟨3⟩, ⟨5⟩, ⟨8⟩, ⟨9223372036854775808⟩]

/-- The deck and the lists of numbers behind so many. -/
def blkSt (d : Dk) : Nat → Dk × (Nat → List Int)
  | 0 => (d, fun _ => [])
  | j + 1 => ((blkSt d j).1.after 6, fun x => if (blkSt d j).1.num 6 = x ∧ x < 4 then (blkSt d j).2 x ++ [(j : Int) + 1] else (blkSt d j).2 x)

theorem blkSt_list (d : Dk) : ∀ j, (blkSt d j).1.list = d.list
  | 0 => rfl
  | j + 1 => by
    show ((blkSt d j).1.after 6).list = _
    unfold Dk.after; rw [if_neg (by omega)]; exact blkSt_list d j
theorem after_list (d : Dk) (n : Int) : (d.after n).list = d.list := by unfold Dk.after; split <;> rfl
theorem blkSt_len (d : Dk) (x : Nat) : ∀ j, ((blkSt d j).2 x).length ≤ j
  | 0 => Nat.le_refl _
  | j + 1 => by
    have := blkSt_len d x j
    simp only [blkSt]
    split
    · simp; omega
    · omega

def blocksAll (f : Nat → List Int) : List Block := (List.range 4).map fun k => ⟨hashN k, f k⟩
def full (b : Block) : Bool := decide (0 < (b.ids.length : Int))
def blocksOf (d : Dk) (most : Nat) : List Block := (blocksAll (blkSt d most).2).filter full
def dkBlocks (d : Dk) (most : Nat) : Dk := (blkSt d most).1
theorem blocksAll_len (f : Nat → List Int) : (blocksAll f).length = 4 := by simp [blocksAll]
theorem blocksAll_get (f : Nat → List Int) {k : Nat} (h : k < (blocksAll f).length) : (blocksAll f)[k] = ⟨hashN k, f k⟩ := by simp [blocksAll]
theorem hashL_get {k : Nat} (h : k < hashL.length) : hashL[k] = ⟨hashN k⟩ := by
  have : k < 4 := h
  match k, this with
  | 0, _ => rfl | 1, _ => rfl | 2, _ => rfl | 3, _ => rfl
def updF {β : Type} (f : Nat → β) (k : Nat) (y : β) : Nat → β := fun x => if x = k then y else f x

/-- Blocks without numbers. -/
def raw0 (k : Nat) : Raw 2 := ⟨[.int .u64 (hashN k), .slice none 0 0], rfl, by simp [Value.oneCell']⟩
def blocks0 (j : Nat) : List (Raw 2) := (List.range j).map raw0
theorem blocks0_succ {j : Nat} (_h : j < 4) : blocks0 (j + 1) = blocks0 j ++ [raw0 j] := by simp [blocks0, List.range_succ]
@[simp] theorem blocks0_len (j : Nat) : (blocks0 j).length = j := by simp [blocks0]
theorem blocks0_own {w : World} {C : Nat → Nat} {v : Value} {ty : TypeId} (h : OwnL w C 3 ty v (blocks0 4)) :
    ∃ g cap cs, v = .slice (some ⟨g, 0, none⟩) 4 cap ∧ OwnB w C 3 g (.cells (List.toArray cs) ty) ∧ 4 ≤ cap ∧ cs.length = cap * 2 ∧ (∀ k, k < 4 → cs[k * 2]? = some (.int .u64 (hashN k))) ∧ (∀ k, k < 4 → cs[k * 2 + 1]? = some (.slice none 0 0)) := by
  rcases h.own with ⟨_, h0⟩ | ⟨g, cap, cs, rfl, hg, hc, hcap, hsz, hrep⟩
  · simp [blocks0] at h0
  · have hcell : ∀ k, k < 4 → cellsAt cs (k * 2) 2 = [.int .u64 (hashN k), .slice none 0 0] := fun k hk => by
      have : cellsAt cs (k * 2) 2 = ((blocks0 4)[k]'(by simp; omega)).vals := hrep k (by simp; omega)
      rw [this]; simp [blocks0, raw0]
    rw [blocks0_len] at hcap
    refine ⟨g, cap, cs.toList, by rw [blocks0_len], ⟨h.col g rfl, by simpa using hc⟩, hcap, by rw [Array.length_toList]; exact hsz, fun k hk => ?_, fun k hk => ?_⟩
    · have := cellsAt_get (j := 0) (hcell k hk) rfl (by omega); simpa using this
    · have := cellsAt_get (j := 1) (hcell k hk) rfl (by omega); simpa using this

theorem take_full {l : List Block} {m : Nat} (h : m < l.length) : (l.take (m + 1)).filter full = (l.take m).filter full ++ if full l[m] then [l[m]] else [] := by
  rw [List.take_succ_eq_append_getElem h, List.filter_append]; congr 1
  cases hf : full l[m] <;> simp [hf]
theorem take_full_len (f : Nat → List Int) (m : Nat) : (((blocksAll f).take m).filter full).length ≤ 4 := by
  refine Nat.le_trans (List.length_filter_le _ _) ?_
  rw [List.length_take, blocksAll_len]; omega

/-- The own blocks of 'out', before they are only read. -/
theorem rv_blocksAll {w : World} {C : Nat → Nat} {g cap : Nat} {cs : List Value} {ty : TypeId} {v : Nat → Value} {f : Nat → List Int} {n e : Nat} (hb : OwnB w C 3 g (.cells cs.toArray ty)) (hcap : 4 ≤ cap) (hsz : cs.length = cap * 2)
    (hn : n ≤ 3) (h1 : ∀ k, k < 4 → cs[k * 2]? = some (.int .u64 (hashN k))) (h2 : ∀ k, k < 4 → cs[k * 2 + 1]? = some (v k)) (hin : ∀ k, k < 4 → OwnL w C (4 + k) e (v k) (f k)) (hl : ∀ k, (f k).length ≤ 140737488355328) :
    RV w (Mc (frz n C)) (blocksAll f) (.slice (some ⟨g, 0, none⟩) 4 cap) := by
  refine rv_list.2 ⟨_, cap, by rw [blocksAll_len], by rw [blocksAll_len]; exact hcap, by rw [blocksAll_len]; decide, .inr ⟨g, 0, rfl, hb.frzM hn, cs.toArray, ty, (0, 0), hb.at_, ?_, fun i hi => ?_⟩⟩
  · rw [blocksAll_len]; show 0 + 4 * 2 ≤ _; simp; omega
  · rw [blocksAll_get]
    have hi4 : i < 4 := by simpa [blocksAll_len] using hi
    have e1 : cellsAt cs.toArray (0 + i * 2) 2 = [.int .u64 (hashN i), v i] := by
      rw [Nat.zero_add]
      exact cells2 (by simpa using h1 i hi4) (by simpa using h2 i hi4)
    show rep w.heap _ (⟨hashN i, f i⟩ : Block) (cellsAt cs.toArray (0 + i * 2) 2)
    rw [e1]
    exact rv_pair (p := ((⟨hashN i⟩ : U64), f i)) (us := [.int .u64 (hashN i)]) (ws := [v i]) rfl ((hin i hi4).frz (by omega) (hl i) |>.rep1 rfl)

/-- Lists of blocks, as many as asked for. -/
def listsSt (d : Dk) (most : Nat) : Nat → Dk × List (List Block)
  | 0 => (d, [])
  | j + 1 => (dkBlocks (listsSt d most j).1 most, (listsSt d most j).2 ++ [blocksOf (listsSt d most j).1 most])
theorem dkBlocks_list (d : Dk) (most : Nat) : (dkBlocks d most).list = d.list := blkSt_list d most
theorem listsSt_list (d : Dk) (most : Nat) : ∀ j, (listsSt d most j).1.list = d.list
  | 0 => rfl
  | j + 1 => by show (dkBlocks _ most).list = _; rw [dkBlocks_list, listsSt_list d most j]
theorem listsSt_len (d : Dk) (most : Nat) : ∀ j, (listsSt d most j).2.length = j
  | 0 => rfl
  | j + 1 => by simp [listsSt, listsSt_len d most j]
end Go.K
