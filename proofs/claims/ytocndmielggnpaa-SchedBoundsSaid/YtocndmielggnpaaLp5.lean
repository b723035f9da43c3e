/- How many cycles a row takes: bounds. Plain Lean. -/
import Derived.Test.YtocndmielggnpaaM8
set_option linter.unusedSimpArgs false
set_option linter.unusedVariables false
section
namespace Go.Proofs.Ytocndmielggnpaa.PAll
open Go.RowKit
/-- How late the first n are, together. -/
def sumLt (d : De) (X : List S37) : Nat → Int
 | 0 => 0
 | n + 1 => sumLt d X n + ltP (X.getD n z37).f0 d
theorem sumLt_bd (d : De) (X : List S37) (n : Nat) : (n : Int) ≤ sumLt d X n ∧ sumLt d X n ≤ 20 * n := by
 induction n with
 | zero => simp [sumLt]
 | succ n ih => have := lt_bd (X.getD n z37).f0 d; unfold sumLt; omega
theorem issueP_mono (g g' : Int → Int) (m m' : Int) (hg : ∀ p, g p ≤ g' p) (hm : m ≤ m') (l : List Int) : issueP g m l ≤ issueP g' m' l := by
 unfold issueP
 have key : ∀ (l : List Int) (x y : Int), x ≤ y → l.foldl (fun n p => max n (g p)) x ≤ l.foldl (fun n p => max n (g' p)) y := by
  intro l
  induction l with
  | nil => intro x y h; exact h
  | cons p l ih => intro x y h; exact ih _ _ (by have := hg p; show max x (g p) ≤ max y (g' p); omega)
 exact key l _ _ (by omega)
theorem cyP_eq (X : List S37) (e : En) (d : De) : cyP X e d = issueP (rdyK d X X.length) (nowK d X X.length) (ndP e) + 1 := by
 unfold cyP rdyK nowK
 rw [List.take_length]
theorem now_ge (d : De) (X : List S37) (n : Nat) (hn : n ≤ X.length) : (n : Int) - 1 ≤ nowK d X n := by
 induction n with
 | zero => simp [nowK, cySt]
 | succ n ih =>
  rw [nowK_succ d X n (by omega)]
  have := issueP_ge (rdyK d X n) (nowK d X n) (tkP (X.getD n z37).f0)
  have := ih (by omega)
  omega
theorem now_le (d : De) (X : List S37) (n : Nat) (hn : n ≤ X.length) : nowK d X n ≤ sumLt d X n - 1 ∧ ∀ p, rdyK d X n p ≤ sumLt d X n := by
 induction n with
 | zero => exact ⟨by simp [nowK, cySt, sumLt], fun p => by simp [rdyK, cySt, sumLt]⟩
 | succ n ih =>
  obtain ⟨h1, h2⟩ := ih (by omega)
  have h3 := issueP_le (rdyK d X n) (nowK d X n) (sumLt d X n) h2 (by omega) (tkP (X.getD n z37).f0)
  have h4 := lt_bd (X.getD n z37).f0 d
  have h5 := nowK_succ d X n (by omega)
  refine ⟨by unfold sumLt; omega, fun p => ?_⟩
  rw [rdyK_succ d X n (by omega)]
  have := h2 p
  unfold sumLt
  split <;> omega
theorem cy_ge (X : List S37) (e : En) (d : De) : (X.length : Int) + 1 ≤ cyP X e d := by
 rw [cyP_eq]
 have := issueP_ge (rdyK d X X.length) (nowK d X X.length) (ndP e)
 have := now_ge d X X.length (Nat.le_refl _)
 omega
theorem cy_le (X : List S37) (e : En) (d : De) : cyP X e d ≤ sumLt d X X.length + 1 := by
 rw [cyP_eq]
 obtain ⟨h1, h2⟩ := now_le d X X.length (Nat.le_refl _)
 have := issueP_le (rdyK d X X.length) (nowK d X X.length) (sumLt d X X.length) h2 (by omega) (ndP e)
 omega
theorem cy_mono (X : List S37) (e : En) (d d' : De) (h : ∀ x : S35, ltP x d ≤ ltP x d') : cyP X e d ≤ cyP X e d' := by
 have key : ∀ n, n ≤ X.length → nowK d X n ≤ nowK d' X n ∧ ∀ p, rdyK d X n p ≤ rdyK d' X n p := by
  intro n
  induction n with
  | zero => intro _; exact ⟨by simp [nowK, cySt], fun p => by simp [rdyK, cySt]⟩
  | succ n ih =>
   intro hn
   obtain ⟨h1, h2⟩ := ih (by omega)
   have h3 : nowK d X (n + 1) ≤ nowK d' X (n + 1) := by
    rw [nowK_succ d X n (by omega), nowK_succ d' X n (by omega)]
    exact issueP_mono _ _ _ _ h2 h1 _
   refine ⟨h3, fun p => ?_⟩
   rw [rdyK_succ d X n (by omega), rdyK_succ d' X n (by omega)]
   have := h (X.getD n z37).f0
   have := h2 p
   split <;> omega
 rw [cyP_eq, cyP_eq]
 obtain ⟨h1, h2⟩ := key X.length (Nat.le_refl _)
 have := issueP_mono _ _ _ _ h2 h1 (ndP e)
 omega
def moreD (a b : De) : De := ⟨max a.mul b.mul, max a.dv b.dv, max a.ld b.ld, max a.tk b.tk⟩
def oneD : De := ⟨1, 1, 1, 0⟩
theorem lt_more (x : S35) (a b : De) : ltP x a ≤ ltP x (moreD a b) := by
 unfold ltP moreD lt0
 simp only
 split
 · omega
 · split
   · omega
   · split <;> omega
theorem lt_one (x : S35) : ltP x oneD = 1 := by
 unfold ltP oneD lt0
 simp only
 (repeat' split) <;> omega
theorem sum_one (X : List S37) (n : Nat) : sumLt oneD X n = n := by
 induction n with
 | zero => rfl
 | succ n ih => unfold sumLt; rw [ih, lt_one]; omega
theorem cy_one (X : List S37) (e : En) : cyP X e oneD = X.length + 1 := by
 have h1 := cy_ge X e oneD
 have h2 := cy_le X e oneD
 rw [sum_one] at h2
 omega
theorem cy_nil (e : En) (d : De) : cyP [] e d = 1 := by
 have h1 := cy_ge [] e d
 have h2 := cy_le [] e d
 simp only [List.length_nil, sumLt] at h1 h2
 omega
theorem cy_more (X : List S37) (e : En) (a b : De) : cyP X e a ≤ cyP X e (moreD a b) := cy_mono X e a _ (fun x => lt_more x a b)
end Go.Proofs.Ytocndmielggnpaa.PAll
end
