/-
  The sum of layer 2: words of bytes, the state's fold. Plain Lean.
-/
import Derived.Test.YtlcomikbmbnddaaField
namespace Go.Proofs.Ytlcomikbmbnddaa
open Go.RowKit
namespace Hs
/-- A number out of bytes, the least first. -/
def le : List UInt8 → Nat
  | [] => 0
  | x :: r => x.toNat + 256 * le r
theorem le_lt : ∀ l : List UInt8, le l < 256 ^ l.length
  | [] => by simp [le]
  | x :: r => by
    have h := le_lt r
    have hx := x.toNat_lt
    rw [List.length_cons, Nat.pow_succ]
    unfold le
    omega
theorem le_snoc : ∀ (l : List UInt8) (x : UInt8), le (l ++ [x]) = le l + 256 ^ l.length * x.toNat
  | [], x => by simp [le]
  | y :: l, x => by
    rw [List.cons_append]
    unfold le
    rw [le_snoc l x, List.length_cons, Nat.pow_succ, Nat.mul_add, Nat.mul_comm (256 ^ l.length) 256, Nat.mul_assoc]
    omega
/-- The sevens of bytes. -/
def wordsF : Nat → List UInt8 → List Nat
  | 0, _ => []
  | f + 1, bs => if bs = [] then [] else le (bs.take 7) :: wordsF f (bs.drop 7)
def words (bs : List UInt8) : List Nat := wordsF bs.length bs
theorem wordsF_more : ∀ (f g : Nat) (bs : List UInt8), bs.length ≤ f → f ≤ g → wordsF g bs = wordsF f bs := by
  intro f
  induction f with
  | zero =>
    intro g bs h _
    have : bs = [] := List.eq_nil_of_length_eq_zero (by omega)
    subst this
    cases g <;> simp [wordsF]
  | succ f ih =>
    intro g bs h hg
    obtain ⟨g, rfl⟩ : ∃ g', g = g' + 1 := ⟨g - 1, by omega⟩
    unfold wordsF
    by_cases hb : bs = []
    · rw [if_pos hb, if_pos hb]
    · rw [if_neg hb, if_neg hb, ih g _ (by rw [List.length_drop]; have := List.length_pos_iff.2 hb; omega) (by omega)]
theorem words_nil : words [] = [] := rfl
theorem words_step {bs : List UInt8} (h : bs ≠ []) : words bs = le (bs.take 7) :: words (bs.drop 7) := by
  have hl := List.length_pos_iff.2 h
  unfold words
  obtain ⟨f, hf⟩ : ∃ f, bs.length = f + 1 := ⟨bs.length - 1, by omega⟩
  rw [hf, wordsF, if_neg h, wordsF_more (bs.drop 7).length f _ (Nat.le_refl _) (by rw [List.length_drop]; omega)]
theorem word_lt (bs : List UInt8) : le (bs.take 7) < 72057594037927936 := by
  have h := le_lt (bs.take 7)
  have h2 : (bs.take 7).length ≤ 7 := List.length_take_le _ _
  have h3 : 256 ^ (bs.take 7).length ≤ 256 ^ 7 := Nat.pow_le_pow_right (by omega) h2
  have h4 : (256 : Nat) ^ 7 = 72057594037927936 := by decide
  omega
theorem words_lt : ∀ (f : Nat) (bs : List UInt8), ∀ x ∈ wordsF f bs, x < 72057594037927936 := by
  intro f
  induction f with
  | zero => intro bs x hx; simp [wordsF] at hx
  | succ f ih =>
    intro bs x hx
    unfold wordsF at hx
    by_cases hb : bs = []
    · rw [if_pos hb] at hx; simp at hx
    · rw [if_neg hb] at hx
      rcases List.mem_cons.1 hx with rfl | hx
      · exact word_lt bs
      · exact ih _ _ hx
theorem wordsF_len : ∀ (f : Nat) (bs : List UInt8), (wordsF f bs).length ≤ bs.length := by
  intro f
  induction f with
  | zero => intro bs; simp [wordsF]
  | succ f ih =>
    intro bs
    unfold wordsF
    by_cases hb : bs = []
    · rw [if_pos hb]; simp
    · rw [if_neg hb, List.length_cons]
      have := ih (bs.drop 7)
      rw [List.length_drop] at this
      have := List.length_pos_iff.2 hb
      omega
theorem words_len (bs : List UInt8) : (words bs).length ≤ bs.length := wordsF_len _ _

theorem words_get : ∀ (i : Nat) (bs : List UInt8), 7 * i < bs.length → (words bs)[i]? = some (le ((bs.drop (7 * i)).take 7))
  | 0, bs, h => by
    have hb : bs ≠ [] := by rintro rfl; simp at h
    rw [words_step hb]; simp
  | i + 1, bs, h => by
    have hb : bs ≠ [] := by rintro rfl; simp at h
    rw [words_step hb, List.getElem?_cons_succ, words_get i (bs.drop 7) (by rw [List.length_drop]; omega), List.drop_drop, show 7 + 7 * i = 7 * (i + 1) by omega]
theorem wordsF_length : ∀ (f : Nat) (bs : List UInt8), bs.length ≤ f → (wordsF f bs).length = (bs.length + 6) / 7 := by
  intro f
  induction f with
  | zero => intro bs h; have : bs.length = 0 := by omega
            rw [this]; rfl
  | succ f ih =>
    intro bs h
    unfold wordsF
    by_cases hb : bs = []
    · subst hb; rfl
    · have := List.length_pos_iff.2 hb
      rw [if_neg hb, List.length_cons, ih _ (by rw [List.length_drop]; omega), List.length_drop]
      omega
theorem words_length (bs : List UInt8) : (words bs).length = (bs.length + 6) / 7 := wordsF_length _ _ (Nat.le_refl _)

/-- A word is taken in. -/
def tk (s w k : Nat) : Nat := Fd.pow (num (Fd.mul 37 s + num (w + k))) 17
theorem tk_lt (s w k : Nat) : tk s w k < 2305843009213693951 := Fd.pow_lt _ _
def foldT : List Nat → Nat → Nat → Nat
  | [], _, s => s
  | w :: r, k, s => foldT r (k + 1) (tk s w (k + 1))
theorem foldT_app : ∀ (a b : List Nat) (k s : Nat), foldT (a ++ b) k s = foldT b (k + a.length) (foldT a k s)
  | [], b, k, s => by simp [foldT]
  | w :: a, b, k, s => by
    show foldT (a ++ b) (k + 1) (tk s w (k + 1)) = foldT b (k + (a.length + 1)) (foldT a (k + 1) (tk s w (k + 1)))
    rw [foldT_app a b, show k + 1 + a.length = k + (a.length + 1) by omega]
theorem foldT_lt : ∀ (a : List Nat) (k s : Nat), s < 2305843009213693951 → foldT a k s < 2305843009213693951
  | [], _, _, h => h
  | _ :: a, _, _, _ => foldT_lt a _ _ (tk_lt _ _ _)
/-- The sum of a label and numbers. -/
def of (label : List UInt8) (l : List Nat) : Nat := foldT (words label ++ [l.length] ++ l.map num ++ [0]) 0 label.length
theorem foldT_snoc (a : List Nat) (w k s : Nat) : foldT (a ++ [w]) k s = tk (foldT a k s) w (k + a.length + 1) := by
  rw [foldT_app]; rfl
theorem of_lt (label : List UInt8) (l : List Nat) : of label l < 2305843009213693951 := by
  unfold of
  rw [foldT_snoc]
  exact tk_lt _ _ _
def ofBytes (label : List UInt8) (bs : List UInt8) : Nat := of label (words bs ++ [bs.length])
def secret (label : List UInt8) (l : List Nat) : Nat := 1 + of label l % 2305843009213693949
theorem secret_lt (label : List UInt8) (l : List Nat) : secret label l < 2305843009213693950 := by
  have := Nat.mod_lt (of label l) (show 0 < 2305843009213693949 by omega)
  unfold secret; omega
end Hs
end Go.Proofs.Ytlcomikbmbnddaa
