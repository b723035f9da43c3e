/- A chain of instructions, and ones that have nothing to do with each other. Plain Lean. -/
import Derived.Test.YtocndmielggnpaaLp5
import Derived.Test.YtocndmielggnpaaM12
set_option linter.unusedSimpArgs false
set_option linter.unusedVariables false
section
namespace Go.Proofs.Ytocndmielggnpaa.PAll
open Go.RowKit
def opOf (b : Int) : Int := if b % 4 = 0 then 5 else if b % 4 = 1 then 7 else if b % 4 = 2 then 17 else 24
/-- A link of the chain. -/
def chX (b : Int) (i : Int) : S37 := ⟨⟨opOf b, 1, 0, 1, 0, 0, 0, []⟩, i⟩
def apX (i : Int) : S37 := ⟨⟨4, i % 16, 0, 0, 0, 0, i, []⟩, i⟩
def chL (ks : List Int) (n : Nat) : List S37 := (List.range n).map fun i : Nat => chX (ks.getD i 0) i
def apL (n : Nat) : List S37 := (List.range n).map fun i : Nat => apX i
theorem chL_succ (ks : List Int) (n : Nat) : chL ks (n + 1) = chL ks n ++ [chX (ks.getD n 0) n] := by simp [chL, List.range_succ]
theorem apL_succ (n : Nat) : apL (n + 1) = apL n ++ [apX n] := by simp [apL, List.range_succ]
theorem chL_len (ks : List Int) (n : Nat) : (chL ks n).length = n := by simp [chL]
theorem apL_len (n : Nat) : (apL n).length = n := by simp [apL]
theorem chL_get (ks : List Int) (n i : Nat) (h : i < n) : (chL ks n).getD i z37 = chX (ks.getD i 0) i := by
 simp [chL, List.getD_eq_getElem?_getD, h]
theorem apL_get (n i : Nat) (h : i < n) : (apL n).getD i z37 = apX i := by
 simp [apL, List.getD_eq_getElem?_getD, h]
theorem chL_sh (ks : List Int) (n : Nat) (h : n ≤ 24) : Sh (chL ks n) := by
 refine ⟨by rw [chL_len]; omega, ?_⟩
 intro x hx
 obtain ⟨i, _, rfl⟩ := List.mem_map.1 hx
 exact Nat.zero_le _
theorem apL_sh (n : Nat) (h : n ≤ 24) : Sh (apL n) := by
 refine ⟨by rw [apL_len]; omega, ?_⟩
 intro x hx
 obtain ⟨i, _, rfl⟩ := List.mem_map.1 hx
 exact Nat.zero_le _
theorem op_four (b : Int) : opOf b = 5 ∨ opOf b = 7 ∨ opOf b = 17 ∨ opOf b = 24 := by unfold opOf; (repeat' split) <;> simp
theorem ch_ch (b i : Int) : chP (chX b i).f0 = [1] := by
 unfold chX
 rcases op_four b with h | h | h | h <;> rw [h]
 · exact (show chP ⟨5, 1, 0, 1, 0, 0, 0, []⟩ = [1] by decide)
 · exact (show chP ⟨7, 1, 0, 1, 0, 0, 0, []⟩ = [1] by decide)
 · exact (show chP ⟨17, 1, 0, 1, 0, 0, 0, []⟩ = [1] by decide)
 · exact (show chP ⟨24, 1, 0, 1, 0, 0, 0, []⟩ = [1] by decide)
theorem ch_tk (b i : Int) : tkP (chX b i).f0 = [1, 0] ∨ tkP (chX b i).f0 = [1] := by
 unfold chX
 rcases op_four b with h | h | h | h <;> rw [h]
 · exact .inl (show tkP ⟨5, 1, 0, 1, 0, 0, 0, []⟩ = [1, 0] by decide)
 · exact .inl (show tkP ⟨7, 1, 0, 1, 0, 0, 0, []⟩ = [1, 0] by decide)
 · exact .inl (show tkP ⟨17, 1, 0, 1, 0, 0, 0, []⟩ = [1, 0] by decide)
 · exact .inr (show tkP ⟨24, 1, 0, 1, 0, 0, 0, []⟩ = [1] by decide)
theorem ap_tk (i : Int) : tkP (apX i).f0 = [] := by
 unfold tkP apX rowOf
 simp only
 rw [if_neg (by decide), if_neg (by decide), show (Kind.kt 4).1 = 68 from by decide, if_pos rfl]
def chE : En := ⟨2, 1, 0, [1, 1], 0⟩
def apE : En := ⟨7, -1, 0, [], 0⟩
theorem nd_ch : ndP chE = [1] := by decide
theorem nd_ap : ndP apE = [] := by decide
theorem chain_now (d : De) (ks : List Int) (N n : Nat) (hn : n ≤ N) : rdyK d (chL ks N) n 0 = 0 ∧ rdyK d (chL ks N) n 1 = sumLt d (chL ks N) n ∧ nowK d (chL ks N) n + 1 ≤ sumLt d (chL ks N) n ∧ -1 ≤ nowK d (chL ks N) n := by
 induction n with
 | zero => exact ⟨rfl, rfl, by simp [nowK, cySt, sumLt], by simp [nowK, cySt]⟩
 | succ n ih =>
  obtain ⟨h0, h1, h2, h3⟩ := ih (by omega)
  have hl : n < (chL ks N).length := by rw [chL_len]; omega
  have hg := chL_get ks N n (by omega)
  have hs := (sumLt_bd d (chL ks N) n).1
  have hlt := lt_bd ((chL ks N).getD n z37).f0 d
  have hnow : nowK d (chL ks N) (n + 1) = sumLt d (chL ks N) n := by
   rw [nowK_succ d _ n hl, hg]
   rcases ch_tk (ks.getD n 0) n with ht | ht
   · rw [ht]
     simp only [issueP, List.foldl_cons, List.foldl_nil, h0, h1]
     omega
   · rw [ht]
     simp only [issueP, List.foldl_cons, List.foldl_nil, h1]
     omega
  have hch : chP ((chL ks N).getD n z37).f0 = [1] := by rw [hg]; exact ch_ch _ _
  refine ⟨?_, ?_, ?_, by omega⟩
  · rw [rdyK_succ d _ n hl, hch, if_neg (by decide)]; exact h0
  · rw [rdyK_succ d _ n hl, hch, if_pos (by decide), hnow]; rfl
  · have hu : sumLt d (chL ks N) (n + 1) = sumLt d (chL ks N) n + ltP ((chL ks N).getD n z37).f0 d := rfl
    rw [hnow, hu]; omega
theorem chain_cy (d : De) (ks : List Int) (N : Nat) : cyP (chL ks N) chE d = 1 + sumLt d (chL ks N) N := by
 rw [cyP_eq, nd_ch, chL_len]
 obtain ⟨h0, h1, h2, h3⟩ := chain_now d ks N N (Nat.le_refl _)
 simp only [issueP, List.foldl_cons, List.foldl_nil, h1]
 omega
theorem apart_cy (d : De) (N : Nat) : cyP (apL N) apE d = N + 1 := by
 rw [cyP_eq, nd_ap, apL_len]
 have key : ∀ n, n ≤ N → nowK d (apL N) n = (n : Int) - 1 := by
  intro n
  induction n with
  | zero => intro _; simp [nowK, cySt]
  | succ n ih =>
   intro hn
   rw [nowK_succ d _ n (by rw [apL_len]; omega), apL_get N n (by omega), ap_tk, ih (by omega)]
   simp only [issueP, List.foldl_nil]
   omega
 rw [key N (Nat.le_refl _)]
 simp only [issueP, List.foldl_nil]
 omega
theorem mono_id {f : Nat → Nat} {n : Nat} (hm : ∀ a b, a < b → b < n → f a < f b) (hb : ∀ a, a < n → f a < n) (a : Nat) (ha : a < n) : f a = a := by
 have h1 : ∀ a, a < n → a ≤ f a := by
  intro a
  induction a with
  | zero => intro _; omega
  | succ a ih => intro h; have := ih (by omega); have := hm a (a + 1) (by omega) h; omega
 have h2 : ∀ c a, a + c + 1 = n → f a ≤ a := by
  intro c
  induction c with
  | zero => intro a h; have := hb a (by omega); omega
  | succ c ih => intro a h; have := ih (a + 1) (by omega); have := hm a (a + 1) (by omega) (by omega); omega
 have := h1 a ha
 have := h2 (n - a - 1) a (by omega)
 omega
theorem chain_block (d : De) (ks : List Int) (N : Nat) (hN : N ≤ 24) : blockP (chL ks N) chE d = chL ks N := by
 have hsh := chL_sh ks N hN
 have hod := blkO_od hsh chE d
 have hk := blkO_keeps hsh chE d
 rw [blkO_toL]
 have hlen := hod.len
 rw [chL_len] at hlen
 have hid : ∀ a, a < N → (blkO (chL ks N) chE d).idxOf a = a := by
  refine fun a ha => mono_id (n := N) (f := fun a => (blkO (chL ks N) chE d).idxOf a) (fun a b hab hb => ?_) (fun a ha => ?_) a ha
  · refine hk a b hab (by rw [chL_len]; exact hb) (.inr (.inl ⟨1, ?_, ?_⟩))
    · rw [chL_get ks N a (by omega), ch_ch]; simp
    · rw [chL_get ks N b hb, ch_ch]; simp
  · obtain ⟨h1, _⟩ := hod.ps (a := a) (by rw [chL_len]; exact ha)
    rw [hlen] at h1
    exact h1
 apply List.ext_getElem
 · rw [toL, List.length_map, hlen, chL_len]
 · intro i h1 h2
   rw [chL_len] at h2
   obtain ⟨hp, he⟩ := hod.ps (a := i) (by rw [chL_len]; exact h2)
   have e : (blkO (chL ks N) chE d)[i]'(by omega) = i := by
    have := hid i h2
    simp only [this] at he
    exact he
   simp only [toL, List.getElem_map, e]
   rw [List.getD_eq_getElem?_getD, List.getElem?_eq_getElem (by rw [chL_len]; exact h2)]
   rfl
end Go.Proofs.Ytocndmielggnpaa.PAll
end
