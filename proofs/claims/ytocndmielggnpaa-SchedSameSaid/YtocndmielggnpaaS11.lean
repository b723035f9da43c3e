/- What the rows of chapter 16 lean on, part 12. -/
import Derived.Deep.DeepCutAuto
import Derived.ProofKit
import Derived.OpenShut
import Derived.Deep.Slices
import Derived.ChangeArms
import Derived.Test.YtocndmielggnpaaS7
import Derived.Test.YtocndmielggnpaaS10
import Derived.Test.YtocndmielggnpaaS6
import Derived.Test.YtocndmielggnpaaS4
set_option linter.unusedSimpArgs false
set_option linter.unusedVariables false
section
namespace Go.Proofs.Ytocndmielggnpaa.PAll
open Go.RowKit Go.Proofs.YtocndmielggnpaaW.PrintWords Go.Proofs.YtocndmielggnpaaW.PrintLast Go.Proofs.YtocndmielggnpaaW.PrintMore
def meetB (a b : List Int) : Bool := a.any fun p => decide (p ∈ b)
theorem meet_l0 (a b : List Int) (ha : a.length ≤ 1000000000) (hb : b.length ≤ 1000000000) : ∀ d i : Nat, i + d = a.length → Ev (fun k => jacquardref16_meet.l0 k a b i) (meetB (a.drop i) b) := by
 intro d
 induction d with
 | zero =>
  intro i hi
  refine Ev.s ?_
  simp only [jacquardref16_meet.l0]; simp only [if_neg (show ¬ ((i : Int) < (a.length : Int)) by omega)]
  rw [show a.drop i = [] from List.drop_eq_nil_of_le (by omega)]
  exact Ev.now false
 | succ d ih =>
  intro i hi
  have hlt : i < a.length := by omega
  have hd : a.drop i = a.getD i 0 :: a.drop (i + 1) := by
   rw [List.drop_eq_getElem_cons hlt, List.getD_eq_getElem?_getD, List.getElem?_eq_getElem hlt]; rfl
  refine Ev.s ?_
  simp only [jacquardref16_meet.l0]; simp only [if_pos (show ((i : Int) < (a.length : Int)) by omega), if_pos (show (0 : Int) ≤ (i : Int) by omega), rd_nat, wr1 i (by omega)]
  refine Ev.bind (has_ev b _ hb) ?_
  rw [hd]
  by_cases h : a.getD i 0 ∈ b
  · simp only [decide_eq_true h, if_true, meetB, List.any_cons, Bool.true_or]
    exact Ev.now true
  · simp only [decide_eq_false h, Bool.false_eq_true, if_false, meetB, List.any_cons, Bool.false_or]
    exact ih (i + 1) (by omega)
theorem meet_ev (a b : List Int) (ha : a.length ≤ 1000000000) (hb : b.length ≤ 1000000000) : Ev (fun k => jacquardref16_meet.f k a b) (meetB a b) := by
 have := meet_l0 a b ha hb a.length 0 (by omega)
 simpa [jacquardref16_meet.f] using this
theorem meetB_true {a b : List Int} (h : meetB a b = true) : ∃ p, p ∈ a ∧ p ∈ b := by
 unfold meetB at h
 rw [List.any_eq_true] at h
 obtain ⟨p, h1, h2⟩ := h
 exact ⟨p, h1, of_decide_eq_true h2⟩
theorem loads16 (x : S35) : jacquardref16_loads.f x.f0 = some (decide (isLd x)) := by
 unfold jacquardref16_loads.f isLd
 by_cases h : x.f0 = 24
 · simp [h]
 · by_cases h2 : x.f0 = 25
   · simp [h2]
   · simp [h, h2]
theorem bound16 (x : S35) : jacquardref16_bound.f x.f0 = some (decide (isBd x)) := by
 unfold jacquardref16_bound.f isBd
 rw [loads16]
 simp only [Option.bind_some]
 by_cases h1 : x.f0 = 26
 · simp [h1]
 by_cases h2 : x.f0 = 27
 · simp [h2]
 by_cases h3 : x.f0 = 28
 · simp [h3]
 by_cases h4 : x.f0 = 17
 · simp [h4]
 simp [h1, h2, h3, h4]
def behB (x y : S35) : Bool := meetB (chP x) (tkP y) || (meetB (chP x) (chP y) || (meetB (tkP x) (chP y) || (decide (isBd x) && decide (isBd y) && !(decide (isLd x) && decide (isLd y)))))
theorem behB_BehP {x y : S35} (h : behB x y = true) : BehP x y := by
 unfold behB at h
 simp only [Bool.or_eq_true, Bool.and_eq_true, Bool.not_eq_true', decide_eq_true_eq] at h
 rcases h with h | h | h | ⟨⟨h1, h2⟩, h3⟩
 · exact .inl (meetB_true h)
 · exact .inr (.inl (meetB_true h))
 · exact .inr (.inr (.inl (meetB_true h)))
 · refine .inr (.inr (.inr ⟨h1, h2, fun h4 => ?_⟩))
   simp [h4.1, h4.2] at h3
def Sm (x : S35) : Prop := x.f7.length ≤ 1000000
theorem Sm.few {x : S35} (h : Sm x) : Few x := by unfold Sm at h; unfold Few; omega
theorem behind_j0 (b : Bool) (x y : S35) : Ev (fun k => jacquardref16_Behind.j0 k b x.f0 x.f1 x.f2 x.f3 x.f4 x.f5 x.f6 x.f7 y.f0 y.f1 y.f2 y.f3 y.f4 y.f5 y.f6 y.f7) (b || (decide (isBd x) && decide (isBd y) && !(decide (isLd x) && decide (isLd y)))) := by
 refine Ev.s ?_
 simp only [jacquardref16_Behind.j0, bound16, loads16, Option.bind_some]
 cases b
 · cases hx : decide (isBd x) <;> cases hy : decide (isBd y) <;> cases hl : decide (isLd x) <;> cases hm : decide (isLd y) <;> simp <;> exact Ev.now _
 · simpa using Ev.now true
theorem behind_ev (x y : S35) (hx : Sm x) (hy : Sm y) : Ev (fun k => jacquardref16_Behind.f k x.f0 x.f1 x.f2 x.f3 x.f4 x.f5 x.f6 x.f7 y.f0 y.f1 y.f2 y.f3 y.f4 y.f5 y.f6 y.f7) (behB x y) := by
 have c1 : (chP x).length ≤ 1000000000 := by have := ch_len' x; unfold Sm at hx; omega
 have c2 : (chP y).length ≤ 1000000000 := by have := ch_len' y; unfold Sm at hy; omega
 have c3 : (tkP x).length ≤ 1000000000 := by have := tk_len x; unfold Sm at hx; omega
 have c4 : (tkP y).length ≤ 1000000000 := by have := tk_len y; unfold Sm at hy; omega
 simp only [jacquardref16_Behind.f, changes16_eq x hx.few, changes16_eq y hy.few, Option.bind_some]
 refine Ev.bind (takes12_ev y hy.few) ?_
 refine Ev.bind (meet_ev _ _ c1 c4) ?_
 unfold behB
 cases h1 : meetB (chP x) (tkP y)
 · simp only [Bool.false_eq_true, if_false, Bool.false_or]
   refine Ev.bind (meet_ev _ _ c1 c2) ?_
   cases h2 : meetB (chP x) (chP y)
   · simp only [Bool.false_eq_true, if_false, Bool.false_or]
     refine Ev.bind (takes12_ev x hx.few) ?_
     refine Ev.bind (meet_ev _ _ c3 c2) ?_
     exact behind_j0 _ x y
   · simp only [if_true, Bool.true_or]
     exact behind_j0 true x y
 · simp only [if_true, Bool.true_or]
   exact behind_j0 true x y
theorem s37_ext {x y : S37} (h : x.f0.f0 = y.f0.f0 ∧ x.f0.f1 = y.f0.f1 ∧ x.f0.f2 = y.f0.f2 ∧ x.f0.f3 = y.f0.f3 ∧ x.f0.f4 = y.f0.f4 ∧ x.f0.f5 = y.f0.f5 ∧ x.f0.f6 = y.f0.f6 ∧ x.f0.f7 = y.f0.f7 ∧ x.f1 = y.f1) : x = y := by
 obtain ⟨⟨a0, a1, a2, a3, a4, a5, a6, a7⟩, a8⟩ := x
 obtain ⟨⟨b0, b1, b2, b3, b4, b5, b6, b7⟩, b8⟩ := y
 simp only at h
 obtain ⟨rfl, rfl, rfl, rfl, rfl, rfl, rfl, rfl, rfl⟩ := h
 rfl
section
variable (a0 a1 a2 a3 a4 a5 a6 : Int) (la : List Int) (a8 b0 b1 b2 b3 b4 b5 b6 : Int) (lb : List Int) (b8 : Int)
theorem same_l0 (hl : la.length = lb.length) (hs : la.length ≤ 1000000000) : ∀ c i : Nat, i + c = la.length → ∀ r : Bool, (r = true ↔ la.drop i = lb.drop i) → Ev (fun k => jacquardref16_same.l0 k i a0 a1 a2 a3 a4 a5 a6 la a8 b0 b1 b2 b3 b4 b5 b6 lb b8) r := by
 intro c
 induction c with
 | zero =>
  intro i hi r hr
  refine Ev.s ?_
  simp only [jacquardref16_same.l0]; simp only [if_neg (show ¬ ((i : Int) < (la.length : Int)) by omega)]
  rw [show r = true from hr.2 (by rw [List.drop_eq_nil_of_le (by omega), List.drop_eq_nil_of_le (by omega)])]
  exact Ev.now true
 | succ c ih =>
  intro i hi r hr
  have h1 : i < la.length := by omega
  have h2 : i < lb.length := by omega
  have hd : la.drop i = la.getD i 0 :: la.drop (i + 1) := by
   rw [List.drop_eq_getElem_cons h1, List.getD_eq_getElem?_getD, List.getElem?_eq_getElem h1]; rfl
  have he : lb.drop i = lb.getD i 0 :: lb.drop (i + 1) := by
   rw [List.drop_eq_getElem_cons h2, List.getD_eq_getElem?_getD, List.getElem?_eq_getElem h2]; rfl
  refine Ev.s ?_
  simp only [jacquardref16_same.l0]; simp only [if_pos (show ((i : Int) < (la.length : Int)) by omega), if_pos (show (0 : Int) ≤ (i : Int) by omega), if_pos (show ((i : Int) < (lb.length : Int)) by omega), rd_nat, wr1 i (by omega)]
  rw [hd, he] at hr
  by_cases h : la.getD i 0 = lb.getD i 0
  · simp only [if_pos h]
    refine ih (i + 1) (by omega) r (hr.trans ?_)
    rw [h]; simp
  · simp only [if_neg h]
    rw [show r = false from by
     cases r
     · rfl
     · have := hr.1 rfl
       simp only [List.cons.injEq] at this
       exact absurd this.1 h]
    exact Ev.now false
theorem same_j0t : Ev (fun k => jacquardref16_same.j0 k true a0 a1 a2 a3 a4 a5 a6 la a8 b0 b1 b2 b3 b4 b5 b6 lb b8) false := by
 refine Ev.s ?_
 simp only [jacquardref16_same.j0, if_true]
 exact Ev.now false
theorem same_j0f (hl : la.length = lb.length) (hs : la.length ≤ 1000000000) (r : Bool) (hr : r = true ↔ la = lb) : Ev (fun k => jacquardref16_same.j0 k false a0 a1 a2 a3 a4 a5 a6 la a8 b0 b1 b2 b3 b4 b5 b6 lb b8) r := by
 refine Ev.s ?_
 simp only [jacquardref16_same.j0, Bool.false_eq_true, if_false]
 exact same_l0 a0 a1 a2 a3 a4 a5 a6 la a8 b0 b1 b2 b3 b4 b5 b6 lb b8 hl hs la.length 0 (by omega) r (by simpa using hr)
end
theorem same_ev (x y : S37) (hx : Sm x.f0) (r : Bool) (hr : r = true ↔ x = y) : Ev (fun k => jacquardref16_same.f k x.f0.f0 x.f0.f1 x.f0.f2 x.f0.f3 x.f0.f4 x.f0.f5 x.f0.f6 x.f0.f7 x.f1 y.f0.f0 y.f0.f1 y.f0.f2 y.f0.f3 y.f0.f4 y.f0.f5 y.f0.f6 y.f0.f7 y.f1) r := by
 have ff : (∀ h : x = y, False) → r = false := fun h => by
  cases r
  · rfl
  · exact (h (hr.1 rfl)).elim
 simp only [jacquardref16_same.f]
 by_cases h8 : x.f1 = y.f1
 rotate_left
 · simp only [if_neg h8]; rw [ff (fun e => h8 (by rw [e]))]; exact same_j0t ..
 by_cases h0 : x.f0.f0 = y.f0.f0
 rotate_left
 · simp only [if_pos h8, if_neg h0]; rw [ff (fun e => h0 (by rw [e]))]; exact same_j0t ..
 by_cases h1 : x.f0.f1 = y.f0.f1
 rotate_left
 · simp only [if_pos h8, if_pos h0, if_neg h1]; rw [ff (fun e => h1 (by rw [e]))]; exact same_j0t ..
 by_cases h2 : x.f0.f2 = y.f0.f2
 rotate_left
 · simp only [if_pos h8, if_pos h0, if_pos h1, if_neg h2]; rw [ff (fun e => h2 (by rw [e]))]; exact same_j0t ..
 by_cases h3 : x.f0.f3 = y.f0.f3
 rotate_left
 · simp only [if_pos h8, if_pos h0, if_pos h1, if_pos h2, if_neg h3]; rw [ff (fun e => h3 (by rw [e]))]; exact same_j0t ..
 by_cases h4 : x.f0.f4 = y.f0.f4
 rotate_left
 · simp only [if_pos h8, if_pos h0, if_pos h1, if_pos h2, if_pos h3, if_neg h4]; rw [ff (fun e => h4 (by rw [e]))]; exact same_j0t ..
 by_cases h5 : x.f0.f5 = y.f0.f5
 rotate_left
 · simp only [if_pos h8, if_pos h0, if_pos h1, if_pos h2, if_pos h3, if_pos h4, if_neg h5]; rw [ff (fun e => h5 (by rw [e]))]; exact same_j0t ..
 by_cases h6 : x.f0.f6 = y.f0.f6
 rotate_left
 · simp only [if_pos h8, if_pos h0, if_pos h1, if_pos h2, if_pos h3, if_pos h4, if_pos h5, if_neg h6]; rw [ff (fun e => h6 (by rw [e]))]; exact same_j0t ..
 simp only [if_pos h8, if_pos h0, if_pos h1, if_pos h2, if_pos h3, if_pos h4, if_pos h5, if_pos h6]
 by_cases hl : x.f0.f7.length = y.f0.f7.length
 · have e : ((x.f0.f7.length : Int) != (y.f0.f7.length : Int)) = false := by rw [bne_eq_false_iff_eq]; omega
   simp only [e]
   unfold Sm at hx
   refine same_j0f _ _ _ _ _ _ _ _ _ _ _ _ _ _ _ _ _ _ hl (by omega) r (hr.trans ⟨fun h => by rw [h], fun h => s37_ext ⟨h0, h1, h2, h3, h4, h5, h6, h, h8⟩⟩)
 · have e : ((x.f0.f7.length : Int) != (y.f0.f7.length : Int)) = true := by rw [bne_iff_ne]; omega
   simp only [e]
   rw [ff (fun e => hl (by rw [e]))]
   exact same_j0t ..
end Go.Proofs.Ytocndmielggnpaa.PAll
end
section
namespace Go.Proofs.Ytocndmielggnpaa.PAll
open Go.RowKit Go.Proofs.YtocndmielggnpaaW.PrintWords Go.Proofs.YtocndmielggnpaaW.PrintLast Go.Proofs.YtocndmielggnpaaW.PrintMore
theorem nodup_le {α : Type} [BEq α] [LawfulBEq α] : ∀ (A B : List α), A.Nodup → (∀ a ∈ A, a ∈ B) → A.length ≤ B.length
 | [], B, _, _ => by simp
 | a :: A, B, hn, hs => by
  have h1 := nodup_le A (B.erase a) (List.nodup_cons.1 hn).2 (fun b hb => by
   have hne : b ≠ a := by rintro rfl; exact (List.nodup_cons.1 hn).1 hb
   exact (List.mem_erase_of_ne hne).2 (hs b (by simp [hb])))
  have hm : a ∈ B := hs a (by simp)
  rw [List.length_erase_of_mem hm] at h1
  have : 0 < B.length := List.length_pos_of_mem hm
  simp only [List.length_cons]
  omega
theorem first_ (P : Nat → Prop) (n : Nat) (h : ∃ p, p < n ∧ P p) : ∃ p, p < n ∧ P p ∧ ∀ q, q < p → ¬ P q := by
 induction n with
 | zero => obtain ⟨p, h1, _⟩ := h; omega
 | succ n ih =>
  by_cases h1 : ∃ p, p < n ∧ P p
  · obtain ⟨p, a, b, c⟩ := ih h1
    exact ⟨p, by omega, b, c⟩
  · obtain ⟨p, a, b⟩ := h
    refine ⟨p, a, b, fun q hq hPq => h1 ⟨q, by omega, hPq⟩⟩
section
variable {l : List S37} {O : List Nat}
/-- An order: its places. -/
structure Od (l : List S37) (O : List Nat) : Prop where
 perm : O.Perm (List.range l.length)
theorem Od.nodup (h : Od l O) : O.Nodup := h.perm.nodup_iff.2 List.nodup_range
theorem Od.len (h : Od l O) : O.length = l.length := by simpa using h.perm.length_eq
theorem Od.ps (h : Od l O) {a : Nat} (ha : a < l.length) : ∃ hp : O.idxOf a < O.length, O[O.idxOf a] = a := by
 have hm : a ∈ O := h.perm.mem_iff.2 (List.mem_range.2 ha)
 exact ⟨List.idxOf_lt_length_of_mem hm, List.getElem_idxOf _⟩
theorem Od.inj (h : Od l O) {a b : Nat} (ha : a < l.length) (hb : b < l.length) (he : O.idxOf a = O.idxOf b) : a = b := by
 obtain ⟨p, e1⟩ := h.ps ha
 obtain ⟨q, e2⟩ := h.ps hb
 rw [← e1, ← e2]
 simp only [he]
theorem Od.at (h : Od l O) {p : Nat} (hp : p < O.length) : O[p] < l.length ∧ O.idxOf O[p] = p :=
 ⟨List.mem_range.1 (h.perm.mem_iff.1 (List.getElem_mem hp)), h.nodup.idxOf_getElem p hp⟩
def toL (l : List S37) (O : List Nat) : List S37 := O.map fun j => l.getD j z37
theorem toL_get (p : Nat) (hp : p < O.length) : (toL l O).getD p z37 = l.getD O[p] z37 := by
 unfold toL
 rw [List.getD_eq_getElem?_getD, List.getElem?_map, List.getElem?_eq_getElem hp]
 rfl
theorem Od.toL_ps (h : Od l O) {a : Nat} (ha : a < l.length) : (toL l O).getD (O.idxOf a) z37 = l.getD a z37 := by
 obtain ⟨hp, e⟩ := h.ps ha
 rw [toL_get _ hp, e]
/-- What the search has found. -/
structure At (l : List S37) (O ats : List Nat) : Prop where
 ok : ∀ i, i < ats.length → ats.getD i 0 < O.length ∧ (toL l O).getD (ats.getD i 0) z37 = l.getD i z37
 nodup : ats.Nodup
 first : ∀ i, i < ats.length → ∀ p, p < ats.getD i 0 → (toL l O).getD p z37 = l.getD i z37 → ∃ j, j < i ∧ ats.getD j 0 = p
theorem mem_getD {ats : List Nat} {p : Nat} (h : p ∈ ats) : ∃ i, i < ats.length ∧ ats.getD i 0 = p := by
 obtain ⟨i, hi, e⟩ := List.mem_iff_getElem.1 h
 exact ⟨i, hi, by rw [List.getD_eq_getElem?_getD, List.getElem?_eq_getElem hi]; exact e⟩
theorem At.inj {ats : List Nat} (h : At l O ats) {i j : Nat} (hi : i < ats.length) (hj : j < ats.length) (he : ats.getD i 0 = ats.getD j 0) : i = j := by
 rw [List.getD_eq_getElem?_getD, List.getD_eq_getElem?_getD, List.getElem?_eq_getElem hi, List.getElem?_eq_getElem hj] at he
 exact (List.getElem_inj h.nodup).1 he
open Classical in
noncomputable def cls (l : List S37) (i : Nat) (x : S37) : List Nat := (List.range i).filter fun j => decide (l.getD j z37 = x)
theorem cls_mem (i : Nat) (x : S37) (j : Nat) : j ∈ cls l i x ↔ j < i ∧ l.getD j z37 = x := by
 unfold cls
 simp [List.mem_filter]
theorem cls_nodup (i : Nat) (x : S37) : (cls l i x).Nodup := List.nodup_range.filter _
theorem cls_succ (i : Nat) : (cls l (i + 1) (l.getD i z37)).length = (cls l i (l.getD i z37)).length + 1 := by
 unfold cls
 rw [List.range_succ, List.filter_append, List.length_append]
 simp
theorem nodup_map {f : Nat → Nat} : ∀ (A : List Nat), A.Nodup → (∀ a ∈ A, ∀ b ∈ A, f a = f b → a = b) → (A.map f).Nodup
 | [], _, _ => by simp
 | a :: A, hn, hi => by
  rw [List.map_cons, List.nodup_cons]
  refine ⟨fun hm => ?_, nodup_map A (List.nodup_cons.1 hn).2 (fun b hb c hc => hi b (by simp [hb]) c (by simp [hc]))⟩
  obtain ⟨b, hb, e⟩ := List.mem_map.1 hm
  have := hi b (by simp [hb]) a (by simp) e
  subst this
  exact (List.nodup_cons.1 hn).1 hb
/-- Of those up to i one does not lie at a place that was found for those ahead of i. -/
theorem At.free (h : Od l O) {ats : List Nat} (hA : At l O ats) (i : Nat) (hi : i ≤ ats.length) (hn : i < l.length) : ∃ a, a ≤ i ∧ l.getD a z37 = l.getD i z37 ∧ ∀ j, j < i → l.getD j z37 = l.getD i z37 → ats.getD j 0 ≠ O.idxOf a := by
 apply Classical.byContradiction
 intro hc
 have hall : ∀ a, a ≤ i → l.getD a z37 = l.getD i z37 → ∃ j, j < i ∧ l.getD j z37 = l.getD i z37 ∧ ats.getD j 0 = O.idxOf a := by
  intro a h1 h2
  apply Classical.byContradiction
  intro h3
  exact hc ⟨a, h1, h2, fun j h4 h5 h6 => h3 ⟨j, h4, h5, h6⟩⟩
 have h1 := nodup_le ((cls l (i + 1) (l.getD i z37)).map O.idxOf) ((cls l i (l.getD i z37)).map fun j => ats.getD j 0) (nodup_map _ (cls_nodup _ _) (fun a ha b hb e => by
     have ha' := (cls_mem _ _ a).1 ha
     have hb' := (cls_mem _ _ b).1 hb
     exact h.inj (by omega) (by omega) e)) (fun p hp => by
     obtain ⟨a, ha, rfl⟩ := List.mem_map.1 hp
     have ha' := (cls_mem _ _ a).1 ha
     obtain ⟨j, h4, h5, h6⟩ := hall a (by omega) ha'.2
     exact List.mem_map.2 ⟨j, (cls_mem _ _ j).2 ⟨h4, h5⟩, h6⟩)
 rw [List.length_map, List.length_map, cls_succ] at h1
 omega
theorem At.some (h : Od l O) {ats : List Nat} (hA : At l O ats) (hn : ats.length < l.length) : ∃ p, p < O.length ∧ (p ∉ ats ∧ (toL l O).getD p z37 = l.getD ats.length z37) := by
 obtain ⟨a, ha, he, hf⟩ := hA.free h ats.length (Nat.le_refl _) hn
 refine ⟨O.idxOf a, (h.ps (by omega)).1, ?_, by rw [h.toL_ps (by omega)]; exact he⟩
 intro hm
 obtain ⟨j, hj, e⟩ := mem_getD hm
 refine hf j hj ?_ e
 rw [← (hA.ok j hj).2, e, h.toL_ps (by omega)]
 exact he
theorem At.snoc {ats : List Nat} (hA : At l O ats) {p : Nat} (hp : p < O.length) (h1 : p ∉ ats) (h2 : (toL l O).getD p z37 = l.getD ats.length z37) (h3 : ∀ q, q < p → ¬ (q ∉ ats ∧ (toL l O).getD q z37 = l.getD ats.length z37)) : At l O (ats ++ [p]) := by
 have e0 : ∀ i, i < ats.length → (ats ++ [p]).getD i 0 = ats.getD i 0 := by
  intro i hi
  rw [List.getD_eq_getElem?_getD, List.getElem?_append_left hi, ← List.getD_eq_getElem?_getD]
 have e1 : (ats ++ [p]).getD ats.length 0 = p := by
  rw [List.getD_eq_getElem?_getD, List.getElem?_append_right (Nat.le_refl _)]; simp
 refine ⟨?_, ?_, ?_⟩
 · intro i hi
   rw [List.length_append, List.length_singleton] at hi
   by_cases h : i = ats.length
   · subst h; rw [e1]; exact ⟨hp, h2⟩
   · rw [e0 i (by omega)]; exact hA.ok i (by omega)
 · rw [List.nodup_append]
   refine ⟨hA.nodup, by simp, ?_⟩
   intro a ha b hb e
   rw [List.mem_singleton] at hb
   subst e; subst hb
   exact h1 ha
 · intro i hi q hq he
   rw [List.length_append, List.length_singleton] at hi
   by_cases h : i = ats.length
   · subst h
     rw [e1] at hq
     by_cases hm : q ∈ ats
     · obtain ⟨j, hj, e⟩ := mem_getD hm
       exact ⟨j, hj, by rw [e0 j hj]; exact e⟩
     · exact (h3 q hq ⟨hm, he⟩).elim
   · rw [e0 i (by omega)] at hq
     obtain ⟨j, hj, e⟩ := hA.first i (by omega) q hq he
     exact ⟨j, hj, by rw [e0 j (by omega)]; exact e⟩
/-- The places that were found keep, as the order does. -/
theorem At.keeps (h : Od l O) {ats : List Nat} (hA : At l O ats) (hn : ats.length = l.length) (hB : ∀ a b, a < b → b < l.length → BehP (l.getD a z37).f0 (l.getD b z37).f0 → O.idxOf a < O.idxOf b)
    (i k : Nat) (hik : i < k) (hk : k < l.length) (hBe : BehP (l.getD i z37).f0 (l.getD k z37).f0) : ats.getD i 0 < ats.getD k 0 := by
 -- one of those up to i lies at or behind the place of i
 obtain ⟨a, ha, hae, haf⟩ := hA.free h i (by omega) (by omega)
 have h1 : ats.getD i 0 ≤ O.idxOf a := by
  apply Classical.byContradiction
  intro hc
  obtain ⟨j, hj, e⟩ := hA.first i (by omega) (O.idxOf a) (by omega) (by rw [h.toL_ps (by omega)]; exact hae)
  refine haf j hj ?_ e
  rw [← (hA.ok j (by omega)).2, e, h.toL_ps (by omega)]
  exact hae
 -- one of those from k on lies at or ahead of the place of k
 have h2 : ∃ b, k ≤ b ∧ b < l.length ∧ l.getD b z37 = l.getD k z37 ∧ O.idxOf b ≤ ats.getD k 0 := by
  apply Classical.byContradiction
  intro hc
  have hmono : ∀ j, j < k → l.getD j z37 = l.getD k z37 → ats.getD j 0 ≤ ats.getD k 0 := by
   intro j hj he
   apply Classical.byContradiction
   intro hgt
   obtain ⟨j', hj', e⟩ := hA.first j (by omega) (ats.getD k 0) (by omega) (by rw [(hA.ok k (by omega)).2]; exact he.symm)
   have := hA.inj (by omega) (by omega) e
   omega
  have hle := nodup_le ((cls l (k + 1) (l.getD k z37)).map fun j => ats.getD j 0) ((cls l k (l.getD k z37)).map O.idxOf) (nodup_map _ (cls_nodup _ _) (fun a ha b hb e => by
      have ha' := (cls_mem _ _ a).1 ha
      have hb' := (cls_mem _ _ b).1 hb
      exact hA.inj (by omega) (by omega) e)) (fun p hp => by
      obtain ⟨j, hj, rfl⟩ := List.mem_map.1 hp
      have hj' := (cls_mem _ _ j).1 hj
      have hok := hA.ok j (by omega)
      obtain ⟨hb1, hb2⟩ := h.at hok.1
      have hcl : l.getD (O[ats.getD j 0]'hok.1) z37 = l.getD k z37 := by
       rw [← toL_get _ hok.1, hok.2]; exact hj'.2
      have hpk : ats.getD j 0 ≤ ats.getD k 0 := by
       by_cases e : j = k
       · subst e; exact Nat.le_refl _
       · exact hmono j (by omega) hj'.2
      refine List.mem_map.2 ⟨O[ats.getD j 0]'hok.1, (cls_mem _ _ _).2 ⟨?_, hcl⟩, hb2⟩
      apply Classical.byContradiction
      intro hge
      exact hc ⟨_, by omega, hb1, hcl, by rw [hb2]; exact hpk⟩)
  rw [List.length_map, List.length_map, cls_succ] at hle
  omega
 obtain ⟨b, hb1, hb2, hb3, hb4⟩ := h2
 have := hB a b (by omega) hb2 (by rw [hae, hb3]; exact hBe)
 omega
end
end Go.Proofs.Ytocndmielggnpaa.PAll
end
section
namespace Go.Proofs.Ytocndmielggnpaa.PAll
open Go.RowKit Go.Proofs.YtocndmielggnpaaW.PrintWords Go.Proofs.YtocndmielggnpaaW.PrintLast Go.Proofs.YtocndmielggnpaaW.PrintMore
def X5 (ats : List Nat) (n : Nat) : List Int := ats.map (fun j : Nat => (j : Int)) ++ List.replicate (n - ats.length) 0
def X6 (ats : List Nat) (n : Nat) : List Bool := (List.range n).map fun p => decide (p ∈ ats)
theorem X5_len (ats : List Nat) (n : Nat) (h : ats.length ≤ n) : (X5 ats n).length = n := by simp [X5]; omega
theorem X6_len (ats : List Nat) (n : Nat) : (X6 ats n).length = n := by simp [X6]
theorem X5_nil (n : Nat) : X5 [] n = List.replicate n 0 := by simp [X5]
theorem X6_nil (n : Nat) : X6 [] n = List.replicate n false := by
 apply List.ext_getElem
 · simp [X6]
 · intro i h1 h2; simp [X6]
theorem X5_set (ats : List Nat) (n p : Nat) (h : ats.length < n) : (X5 ats n).set ats.length (p : Int) = X5 (ats ++ [p]) n := by
 obtain ⟨c, hc⟩ : ∃ c, n - ats.length = c + 1 := ⟨n - ats.length - 1, by omega⟩
 have hc' : n - (ats ++ [p]).length = c := by rw [List.length_append, List.length_singleton]; omega
 unfold X5
 rw [hc, hc', List.set_append_right _ _ (by simp), List.length_map, Nat.sub_self, List.replicate_succ, List.set_cons_zero, List.map_append, List.append_assoc]
 rfl
theorem X6_set (ats : List Nat) (n p : Nat) (h : p < n) : (X6 ats n).set p true = X6 (ats ++ [p]) n := by
 apply List.ext_getElem
 · simp [X6]
 · intro i h1 h2
   simp only [X6, List.length_set, List.length_map, List.length_range] at h1
   rw [List.getElem_set]
   simp only [X6, List.getElem_map, List.getElem_range, List.mem_append, List.mem_singleton]
   by_cases hp : p = i
   · simp [hp]
   · simp [hp, Ne.symm hp]
theorem X5_get (ats : List Nat) (n j : Nat) (h : j < ats.length) : rd (X5 ats n) (j : Int) = (ats.getD j 0 : Nat) := by
 unfold rd X5
 rw [Int.toNat_natCast, List.getD_eq_getElem?_getD, List.getElem?_append_left (by simpa using h), List.getElem?_map, List.getD_eq_getElem?_getD, List.getElem?_eq_getElem h]
 rfl
theorem X6_get (ats : List Nat) (n p : Nat) (h : p < n) : rdOf false (X6 ats n) (p : Int) = decide (p ∈ ats) := by
 unfold rdOf X6
 rw [Int.toNat_natCast, List.getD_eq_getElem?_getD, List.getElem?_map, List.getElem?_range h]
 rfl
section
variable {l : List S37} {O : List Nat}
theorem keeps_l1 (hl : l.length ≤ 1000000) (hsm : ∀ k, Sm (l.getD k z37).f0) (h : Od l O) {ats : List Nat} (hn : ats.length < l.length) {p : Nat} (hp : p < O.length) (h1 : p ∉ ats) (h2 : (toL l O).getD p z37 = l.getD ats.length z37)
    (h3 : ∀ q, q < p → ¬ (q ∉ ats ∧ (toL l O).getD q z37 = l.getD ats.length z37)) {r : Bool}
    (hr : Ev (fun k => jacquardref16_Keeps.l0 k l (toL l O) (X5 (ats ++ [p]) l.length) (X6 (ats ++ [p]) l.length) ((ats.length + 1 : Nat) : Int)) r) : ∀ c q : Nat, q + c = p →
    Ev (fun k => jacquardref16_Keeps.l1 k l (toL l O) (X5 ats l.length) (X6 ats l.length) (ats.length : Int) q) r := by
 have hO := h.len
 have htl : (toL l O).length = l.length := by simp [toL, hO]
 intro c
 induction c with
 | zero =>
  intro q hq
  obtain rfl : q = p := by omega
  refine Ev.s ?_
  simp only [jacquardref16_Keeps.l1]
  simp only [htl, X6_len, X5_len ats l.length (by omega), if_pos (show (q : Int) < (l.length : Int) by omega), if_pos (show (0 : Int) ≤ (q : Int) by omega), X6_get ats l.length q (by omega), decide_eq_false h1, Bool.false_eq_true, if_false,
   if_pos (show (0 : Int) ≤ (ats.length : Int) by omega), if_pos (show (ats.length : Int) < (l.length : Int) by omega), rdT_nat]
  refine Ev.bind (same_ev _ _ (hsm _) true (by rw [h2]; simp)) ?_
  simp only [if_true, if_neg (show ¬ (q : Int) = (l.length : Int) by omega), Int.toNat_natCast, X5_set ats l.length q hn, X6_set ats l.length q (by omega), wr1 ats.length (by omega)]
  exact hr
 | succ c ih =>
  intro q hq
  refine Ev.s ?_
  simp only [jacquardref16_Keeps.l1]
  simp only [htl, X6_len, X5_len ats l.length (by omega), if_pos (show (q : Int) < (l.length : Int) by omega), if_pos (show (0 : Int) ≤ (q : Int) by omega), X6_get ats l.length q (by omega),
   if_pos (show (0 : Int) ≤ (ats.length : Int) by omega), if_pos (show (ats.length : Int) < (l.length : Int) by omega), rdT_nat, wr1 q (by omega)]
  by_cases hm : q ∈ ats
  · simp only [decide_eq_true hm, if_true]
    exact ih (q + 1) (by omega)
  · simp only [decide_eq_false hm, Bool.false_eq_true, if_false]
    have hne : (toL l O).getD q z37 ≠ l.getD ats.length z37 := fun e => h3 q (by omega) ⟨hm, e⟩
    refine Ev.bind (same_ev _ _ (hsm _) false (by simp only [Bool.false_eq_true, false_iff]; exact fun e => hne e.symm)) ?_
    simp only [Bool.false_eq_true, if_false]
    exact ih (q + 1) (by omega)
theorem keeps_l3 (hl : l.length ≤ 1000000) (hsm : ∀ k, Sm (l.getD k z37).f0) {ats : List Nat} (hn : ats.length = l.length) (i : Nat) (hi : i < l.length)
    (hB : ∀ k, i < k → k < l.length → ats.getD k 0 < ats.getD i 0 → behB (l.getD i z37).f0 (l.getD k z37).f0 = false)
    (hr : Ev (fun k => jacquardref16_Keeps.l2 k l (X5 ats l.length) ((i + 1 : Nat) : Int)) true) : ∀ c k : Nat, k + c = l.length → i < k → Ev (fun f => jacquardref16_Keeps.l3 f l (X5 ats l.length) i k) true := by
 intro c
 induction c with
 | zero =>
  intro k hk hik
  refine Ev.s ?_
  simp only [jacquardref16_Keeps.l3]; simp only [if_neg (show ¬ (k : Int) < (l.length : Int) by omega), wr1 i (by omega)]
  exact hr
 | succ c ih =>
  intro k hk hik
  refine Ev.s ?_
  simp only [jacquardref16_Keeps.l3]
  simp only [X5_len ats l.length (by omega), if_pos (show (k : Int) < (l.length : Int) by omega), if_pos (show (0 : Int) ≤ (k : Int) by omega), if_pos (show (0 : Int) ≤ (i : Int) by omega), if_pos (show (i : Int) < (l.length : Int) by omega),
   X5_get ats l.length k (by omega), X5_get ats l.length i (by omega), rdT_nat, wr1 k (by omega)]
  by_cases hlt : ats.getD k 0 < ats.getD i 0
  · simp only [if_pos (show ((ats.getD k 0 : Nat) : Int) < ((ats.getD i 0 : Nat) : Int) by omega)]
    refine Ev.bind (behind_ev _ _ (hsm i) (hsm k)) ?_
    simp only [hB k hik (by omega) hlt, Bool.false_eq_true, if_false]
    exact ih (k + 1) (by omega) (by omega)
  · simp only [if_neg (show ¬ ((ats.getD k 0 : Nat) : Int) < ((ats.getD i 0 : Nat) : Int) by omega)]
    exact ih (k + 1) (by omega) (by omega)
theorem keeps_l2 (hl : l.length ≤ 1000000) (hsm : ∀ k, Sm (l.getD k z37).f0) {ats : List Nat} (hn : ats.length = l.length)
    (hB : ∀ i k, i < k → k < l.length → ats.getD k 0 < ats.getD i 0 → behB (l.getD i z37).f0 (l.getD k z37).f0 = false) : ∀ c i : Nat, i + c = l.length → Ev (fun f => jacquardref16_Keeps.l2 f l (X5 ats l.length) i) true := by
 intro c
 induction c with
 | zero =>
  intro i hi
  refine Ev.s ?_
  simp only [jacquardref16_Keeps.l2]; simp only [if_neg (show ¬ (i : Int) < (l.length : Int) by omega)]
  exact Ev.now true
 | succ c ih =>
  intro i hi
  refine Ev.s ?_
  simp only [jacquardref16_Keeps.l2]; simp only [if_pos (show (i : Int) < (l.length : Int) by omega), wr1 i (by omega)]
  exact keeps_l3 hl hsm hn i (by omega) (fun k h1 h2 h3 => hB i k h1 h2 h3) (ih (i + 1) (by omega)) c (i + 1) (by omega) (by omega)
theorem keeps_l0 (hl : l.length ≤ 1000000) (hsm : ∀ k, Sm (l.getD k z37).f0) (h : Od l O) (hB : ∀ a b, a < b → b < l.length → BehP (l.getD a z37).f0 (l.getD b z37).f0 → O.idxOf a < O.idxOf b) : ∀ (c : Nat) (ats : List Nat), At l O ats → ats.length + c = l.length →
    Ev (fun f => jacquardref16_Keeps.l0 f l (toL l O) (X5 ats l.length) (X6 ats l.length) (ats.length : Int)) true := by
 intro c
 induction c with
 | zero =>
  intro ats hA hn
  refine Ev.s ?_
  simp only [jacquardref16_Keeps.l0]; simp only [if_neg (show ¬ (ats.length : Int) < (l.length : Int) by omega)]
  refine keeps_l2 hl hsm (ats := ats) (by omega) (fun i k h1 h2 h3 => ?_) l.length 0 (by omega)
  cases hb : behB (l.getD i z37).f0 (l.getD k z37).f0 with
  | false => rfl
  | true =>
   have := hA.keeps h (by omega) hB i k h1 h2 (behB_BehP hb)
   omega
 | succ c ih =>
  intro ats hA hn
  obtain ⟨p, hp, ⟨h1, h2⟩, h3⟩ := first_ _ _ (hA.some h (by omega))
  refine Ev.s ?_
  simp only [jacquardref16_Keeps.l0]; simp only [if_pos (show (ats.length : Int) < (l.length : Int) by omega)]
  refine keeps_l1 hl hsm h (by omega) hp h1 h2 h3 ?_ p 0 (by omega)
  have := ih (ats ++ [p]) (hA.snoc hp h1 h2 h3) (by rw [List.length_append, List.length_singleton]; omega)
  rwa [List.length_append, List.length_singleton] at this
theorem keeps_ev (hl : l.length ≤ 1000000) (hsm : ∀ k, Sm (l.getD k z37).f0) (h : Od l O) (hB : ∀ a b, a < b → b < l.length → BehP (l.getD a z37).f0 (l.getD b z37).f0 → O.idxOf a < O.idxOf b) : Ev (fun f => jacquardref16_Keeps.f f l (toL l O)) true := by
 have htl : (toL l O).length = l.length := by simp [toL, h.len]
 simp only [jacquardref16_Keeps.f, htl, if_true, if_pos (show (0 : Int) ≤ (l.length : Int) by omega), Int.toNat_natCast, if_pos (show l.length ≤ 35184372088832 by omega), if_pos (show l.length ≤ 281474976710656 by omega)]
 rw [← X5_nil, ← X6_nil]
 exact keeps_l0 hl hsm h hB l.length [] ⟨fun i hi => by simp at hi, by simp, fun i hi => by simp at hi⟩ (by simp)
end
theorem sm_of {l : List S37} (h : Sh l) (k : Nat) : Sm (l.getD k z37).f0 := by have := h.at k; unfold Sm; omega
theorem toL_range (l : List S37) : toL l (List.range l.length) = l := by
 apply List.ext_getElem
 · simp [toL]
 · intro i h1 h2
   simp [toL, List.getD_eq_getElem?_getD, List.getElem?_eq_getElem h2]
theorem idx_range (n a : Nat) (h : a < n) : (List.range n).idxOf a = a := by
 have := List.nodup_range.idxOf_getElem (xs := List.range n) a (by simpa using h)
 simpa using this
/-- The order that Block hands back, as places. -/
def blkO (l : List S37) (e : En) (d : De) : List Nat := if cyP (order d l) e d ≤ cyP l e d then ordO d l else List.range l.length
theorem blkO_toL (l : List S37) (e : En) (d : De) : blockP l e d = toL l (blkO l e d) := by
 unfold blockP blkO
 split
 · rfl
 · exact (toL_range l).symm
theorem blkO_od {l : List S37} (h : Sh l) (e : En) (d : De) : Od l (blkO l e d) := by
 unfold blkO
 split
 · exact ⟨ordO_perm h⟩
 · exact ⟨List.Perm.refl _⟩
theorem blkO_keeps {l : List S37} (h : Sh l) (e : En) (d : De) : ∀ a b, a < b → b < l.length → BehP (l.getD a z37).f0 (l.getD b z37).f0 → (blkO l e d).idxOf a < (blkO l e d).idxOf b := by
 intro a b hab hb hBe
 unfold blkO
 split
 · exact ordO_keeps h a b hab hb hBe
 · rw [idx_range _ _ (by omega), idx_range _ _ hb]; exact hab
theorem block_keeps {l : List S37} (h : Sh l) (e : En) (d : De) : Ev (fun f => jacquardref16_Keeps.f f l (blockP l e d)) true := by
 have hl := h.1
 rw [blkO_toL]
 exact keeps_ev (by omega) (sm_of h) (blkO_od h e d) (blkO_keeps h e d)
theorem block_len {l : List S37} (h : Sh l) (e : En) (d : De) : (blockP l e d).length = l.length := by
 rw [blkO_toL, toL, List.length_map, (blkO_od h e d).len]
theorem block_sh {l : List S37} (h : Sh l) (e : En) (d : De) : Sh (blockP l e d) := by
 refine ⟨by rw [block_len h]; exact h.1, ?_⟩
 intro x hx
 rw [blkO_toL, toL] at hx
 obtain ⟨j, _, rfl⟩ := List.mem_map.1 hx
 exact h.at j
theorem block_le {l : List S37} (e : En) (d : De) : cyP (blockP l e d) e d ≤ cyP l e d := by
 unfold blockP
 split
 · assumption
 · omega
end Go.Proofs.Ytocndmielggnpaa.PAll
end
section
namespace Go.Proofs.Ytocndmielggnpaa.PAll
open Go.RowKit Go.Proofs.YtocndmielggnpaaW.PrintWords Go.Proofs.YtocndmielggnpaaW.PrintLast Go.Proofs.YtocndmielggnpaaW.PrintMore
open Go.Proofs.Ytocndmielggnpaa.AMap Go.Proofs.Ytocndmielggnpaa.Env Go.Proofs.Ytocndmielggnpaa.Kind
def sx0 : S37 := ⟨⟨24, 1, 0, 0, 0, 0, 0, []⟩, 0⟩
def sx1 : S37 := ⟨⟨18, 2, 0, 1, 0, 0, 1, []⟩, 0⟩
def sx2 : S37 := ⟨⟨3, 3, 0, 0, 0, 0, 7, []⟩, 0⟩
def sE : En := ⟨7, 0, 0, [], 0⟩
def sD : De := ⟨1, 1, 3, 0⟩
def sL : List S37 := [sx0, sx1, sx2]
def sM : List S37 := [sx0, sx2, sx1]
theorem s_cy6 : cyP sL sE sD = 6 := by decide +kernel
theorem s_cy5 : cyP sM sE sD = 5 := by decide +kernel
theorem sL_sh : Sh sL := ⟨by decide, by decide⟩
theorem few_of {l : List S37} (h : Sh l) : ∀ x ∈ l, Few x.f0 := fun x hx => by have := h.2 x hx; unfold Few; omega
theorem sM_sh : Sh sM := ⟨by decide, by decide⟩
theorem C_nil (w : World) (A : Option Addr) : (Kd.int .i64).C w A ([] : List Int).length [] := ⟨rfl, by decide, fun h => by simp at h⟩
/-- Three instructions without Args in a block. -/
theorem C3 {w : World} {b : Nat} (x y z : S37) (hx : x.f0.f7 = []) (hy : y.f0.f7 = []) (hz : z.f0.f7 = []) (A0 A1 A2 : Option Addr) (c0 c1 c2 : Nat)
    (h : w.heap[b]? = some (.cells (#[.int .i64 x.f0.f0, .int .i64 x.f0.f1, .int .i64 x.f0.f2, .int .i64 x.f0.f3, .int .i64 x.f0.f4, .int .i64 x.f0.f5, .int .i32 x.f0.f6, .slice A0 0 c0, .int .i64 x.f1,
     .int .i64 y.f0.f0, .int .i64 y.f0.f1, .int .i64 y.f0.f2, .int .i64 y.f0.f3, .int .i64 y.f0.f4, .int .i64 y.f0.f5, .int .i32 y.f0.f6, .slice A1 0 c1, .int .i64 y.f1,
     .int .i64 z.f0.f0, .int .i64 z.f0.f1, .int .i64 z.f0.f2, .int .i64 z.f0.f3, .int .i64 z.f0.f4, .int .i64 z.f0.f5, .int .i32 z.f0.f6, .slice A2 0 c2, .int .i64 z.f1]) 37 (0, 0))) : k37.C w (some ⟨b, 0, none⟩) 3 [x, y, z] := by
 have key : ∀ (v : S37) (A : Option Addr) (c : Nat), v.f0.f7 = [] → k37.K w v [.int .i64 v.f0.f0, .int .i64 v.f0.f1, .int .i64 v.f0.f2, .int .i64 v.f0.f3, .int .i64 v.f0.f4, .int .i64 v.f0.f5, .int .i32 v.f0.f6, .slice A 0 c, .int .i64 v.f1] := by
  intro v A c hv
  have := k37_mk w v (A7 := A) (c7 := c) (by rw [hv]; exact Nat.zero_le _) (by rw [hv]; exact C_nil w A)
  rwa [show v.f0.f7.length = 0 by rw [hv]; rfl] at this
 have ad : ∀ n, (⟨b, 0, none⟩ : Addr).add n = ⟨b, n, none⟩ := fun n => add_plain _ _
 refine ⟨rfl, by decide, fun _ => ⟨_, rfl, fun j p hj => ?_⟩⟩
 match j, hj with
 | 0, hj =>
  simp only [List.getElem?_cons_zero, Option.some.injEq] at hj
  subst hj
  refine ⟨_, rfl, key _ A0 c0 hx, fun i u hu => ?_⟩
  rw [ad, blk_cell h]
  match i, hu with
  | 0, hu | 1, hu | 2, hu | 3, hu | 4, hu | 5, hu | 6, hu | 7, hu | 8, hu => exact hu
 | 1, hj =>
  simp only [List.getElem?_cons_zero, List.getElem?_cons_succ, Option.some.injEq] at hj
  subst hj
  refine ⟨_, rfl, key _ A1 c1 hy, fun i u hu => ?_⟩
  rw [ad, blk_cell h]
  match i, hu with
  | 0, hu | 1, hu | 2, hu | 3, hu | 4, hu | 5, hu | 6, hu | 7, hu | 8, hu => exact hu
 | 2, hj =>
  simp only [List.getElem?_cons_zero, List.getElem?_cons_succ, Option.some.injEq] at hj
  subst hj
  refine ⟨_, rfl, key _ A2 c2 hz, fun i u hu => ?_⟩
  rw [ad, blk_cell h]
  match i, hu with
  | 0, hu | 1, hu | 2, hu | 3, hu | 4, hu | 5, hu | 6, hu | 7, hu | 8, hu => exact hu
theorem ld_c (w : World) : Calls Try.prog 18 #[.int .i64 1, .int .i64 0] w fun e w' => ∃ A c, e = .returned (.agg #[.int .i64 24, .int .i64 1, .int .i64 0, .int .i64 0, .int .i64 0, .int .i64 0, .int .i32 0, .slice A 0 c, .int .i64 0]) ∧ Below w.heap.size w w' := by
 refine (jacquardlaw16_ld.calls 1 0 _ _ _ _ _ _ _ _ _ w rfl).mono ?_
 rintro e w' ⟨v, rfl, hR, hb⟩
 obtain ⟨A, c, rfl⟩ := Kd.R_slice hR
 exact ⟨A, c, rfl, hb⟩
theorem addi_c (w : World) : Calls Try.prog 19 #[.int .i64 2, .int .i64 1] w fun e w' => ∃ A c, e = .returned (.agg #[.int .i64 18, .int .i64 2, .int .i64 0, .int .i64 1, .int .i64 0, .int .i64 0, .int .i32 1, .slice A 0 c, .int .i64 0]) ∧ Below w.heap.size w w' := by
 refine (jacquardlaw16_addi.calls 2 1 _ _ _ _ _ _ _ _ _ w rfl).mono ?_
 rintro e w' ⟨v, rfl, hR, hb⟩
 obtain ⟨A, c, rfl⟩ := Kd.R_slice hR
 exact ⟨A, c, rfl, hb⟩
theorem li_c (w : World) : Calls Try.prog 20 #[.int .i64 3] w fun e w' => ∃ A c, e = .returned (.agg #[.int .i64 3, .int .i64 3, .int .i64 0, .int .i64 0, .int .i64 0, .int .i64 0, .int .i32 7, .slice A 0 c, .int .i64 0]) ∧ Below w.heap.size w w' := by
 refine (jacquardlaw16_li.calls 3 _ _ _ _ _ _ _ _ _ w rfl).mono ?_
 rintro e w' ⟨v, rfl, hR, hb⟩
 obtain ⟨A, c, rfl⟩ := Kd.R_slice hR
 exact ⟨A, c, rfl, hb⟩
set_option maxHeartbeats 4000000 in
set_option maxRecDepth 100000 in
theorem shown_calls (w : World) : Calls Try.prog 8 #[] w fun en w' => en = .returned (.bool true) ∧ Below w.heap.size w w' := by
 obtain ⟨w1, hw1⟩ : ∃ w1, w1 = (w.alloc (.cells #[(.int .i64 1), (.int .i64 1), (.int .i64 3), (.int .i64 0)] 27)).alloc (.cells #[(.int .i64 7), (.int .i64 0), (.int .i64 0), (.slice none 0 0), (.int .i32 0)] 25) := ⟨_, rfl⟩
 have hbd : w1.heap[w.heap.size]? = some (.cells #[(.int .i64 1), (.int .i64 1), (.int .i64 3), (.int .i64 0)] 27 (0, 0)) := by rw [hw1]; exact blk_alloc (heap_alloc_new w _) _
 have hbe : w1.heap[w.heap.size + 1]? = some (.cells #[(.int .i64 7), (.int .i64 0), (.int .i64 0), (.slice none 0 0), (.int .i32 0)] 25 (0, 0)) := by rw [hw1]; exact new_at _ _ _ (by simp)
 have hb1 : Below w.heap.size w w1 := by rw [hw1]; exact below_alloc (below_alloc (Below.refl _ _) _) _
 have HBD := Aside0.mk hbd
 have HBE := Aside0.mk hbe
 have HB1 := Aside0.mk hb1
 have HW1 := Aside0.mk hw1
 clear hbd hbe hb1 hw1
 go_enter Try.func8, Try.ntmps8
 go_wp2_with fail
 refine calls_world HW1.out ?_
 refine (ld_c _).mono ?_
 rintro en w2 ⟨B0, k0, rfl, hb⟩
 have HB2 := Aside0.mk hb
 clear hb
 go_wp2_with fail
 refine (addi_c _).mono ?_
 rintro en w3 ⟨B1, k1, rfl, hb⟩
 have HB3 := Aside0.mk (below_then HB2.out HB2.out.size hb)
 clear hb HB2
 go_wp2_with fail
 refine (li_c _).mono ?_
 rintro en w4 ⟨B2, k2, rfl, hb⟩
 have HB4 := Aside0.mk (below_then HB3.out HB3.out.size hb)
 clear hb HB3
 go_upto_region 4 with fail
 obtain ⟨w5, hw5⟩ : ∃ w5, w5 = w4.alloc (.cells #[(.int .i64 24), (.int .i64 1), (.int .i64 0), (.int .i64 0), (.int .i64 0), (.int .i64 0), (.int .i32 0), (.slice B0 0 k0), (.int .i64 0), (.int .i64 18), (.int .i64 2), (.int .i64 0), (.int .i64 1), (.int .i64 0), (.int .i64 0), (.int .i32 1), (.slice B1 0 k1), (.int .i64 0), (.int .i64 3), (.int .i64 3), (.int .i64 0), (.int .i64 0), (.int .i64 0), (.int .i64 0), (.int .i32 7), (.slice B2 0 k2), (.int .i64 0)] 37) := ⟨_, rfl⟩
 have hl5 : w5.heap[w4.heap.size]? = some (.cells #[(.int .i64 24), (.int .i64 1), (.int .i64 0), (.int .i64 0), (.int .i64 0), (.int .i64 0), (.int .i32 0), (.slice B0 0 k0), (.int .i64 0), (.int .i64 18), (.int .i64 2), (.int .i64 0), (.int .i64 1), (.int .i64 0), (.int .i64 0), (.int .i32 1), (.slice B1 0 k1), (.int .i64 0), (.int .i64 3), (.int .i64 3), (.int .i64 0), (.int .i64 0), (.int .i64 0), (.int .i64 0), (.int .i32 7), (.slice B2 0 k2), (.int .i64 0)] 37 (0, 0)) := by rw [hw5]; exact heap_alloc_new w4 _
 have hb5 : Below w1.heap.size w1 w5 := by rw [hw5]; exact below_alloc HB4.out _
 rw [← hw5]
 have HL := Aside0.mk hl5
 have HB5 := Aside0.mk hb5
 have HD := Aside0.mk (blk_b hb5 HBD.out)
 have HE := Aside0.mk (blk_b hb5 HBE.out)
 have HC := Aside0.mk (show k37.C w5 (some ⟨w4.heap.size, 0, none⟩) 3 sL from C3 sx0 sx1 sx2 rfl rfl rfl B0 B1 B2 k0 k1 k2 hl5)
 obtain ⟨g, hg⟩ : ∃ g, g = w4.heap.size := ⟨_, rfl⟩
 rw [← hg] at HL HC ⊢
 clear hw5 hl5 hb5 hg HB4 HBD HBE
 have q0 : w5.cell? ⟨w.heap.size + 1, 0, none⟩ = some (.int .i64 7) := (blk_cell HE.out 0).trans rfl
 have q1 : w5.cell? ⟨w.heap.size + 1, 1, none⟩ = some (.int .i64 0) := (blk_cell HE.out 1).trans rfl
 have q2 : w5.cell? ⟨w.heap.size + 1, 2, none⟩ = some (.int .i64 0) := (blk_cell HE.out 2).trans rfl
 have q3 : w5.cell? ⟨w.heap.size + 1, 3, none⟩ = some (.slice none 0 0) := (blk_cell HE.out 3).trans rfl
 have q4 : w5.cell? ⟨w.heap.size + 1, 4, none⟩ = some (.int .i32 0) := (blk_cell HE.out 4).trans rfl
 have q5 : w5.cell? ⟨w.heap.size, 0, none⟩ = some (.int .i64 1) := (blk_cell HD.out 0).trans rfl
 have q6 : w5.cell? ⟨w.heap.size, 1, none⟩ = some (.int .i64 1) := (blk_cell HD.out 1).trans rfl
 have q7 : w5.cell? ⟨w.heap.size, 2, none⟩ = some (.int .i64 3) := (blk_cell HD.out 2).trans rfl
 have q8 : w5.cell? ⟨w.heap.size, 3, none⟩ = some (.int .i64 0) := (blk_cell HD.out 3).trans rfl
 have HBLK := Aside0.mk (show Calls Try.prog 15 #[.slice (some ⟨g, 0, none⟩) 3 3, .agg #[(.int .i64 7), (.int .i64 0), (.int .i64 0), (.slice none 0 0), (.int .i32 0)], .agg #[(.int .i64 1), (.int .i64 1), (.int .i64 3), (.int .i64 0)]] w5 _ from block_calls (some ⟨g, 0, none⟩) 3 sL sE none 0 sD w5 HC.out (Nat.le_refl _) (C_nil _ _) (Nat.le_refl _) sL_sh (safe_of sL_sh))
 go_wp2_with fail
 refine HBLK.out.mono ?_
 rintro en w6 ⟨v, rfl, hO, hb6⟩
 obtain ⟨Ab, cb, rfl, hcb, hCb⟩ := Kd.R_reads hO
 have HB6 := Aside0.mk hb6
 have HCB := Aside0.mk hCb
 have HCBC := Aside0.mk hcb
 clear hO hb6 hCb hcb HBLK q0 q1 q2 q3 q4 q5 q6 q7 q8
 have HC6 : Aside0 (∀ w', Below w6.heap.size w6 w' → Calls Try.prog 10 #[.slice (some ⟨g, 0, none⟩) 3 3, .agg #[(.int .i64 7), (.int .i64 0), (.int .i64 0), (.slice none 0 0), (.int .i32 0)], .agg #[(.int .i64 1), (.int .i64 1), (.int .i64 3), (.int .i64 0)]] w' fun en w'' => en = .returned (.int .i64 6) ∧ Below w'.heap.size w' w'') := ⟨by
  intro w' hb
  have := cycles_calls (some ⟨g, 0, none⟩) 3 sL sE none 0 sD w' (Kd.C_below HC.out (below_then HB6.out HB6.out.size hb)) (Nat.le_refl _) (C_nil _ _) (Nat.le_refl _) (by decide) (few_of sL_sh)
  rwa [s_cy6] at this⟩
 have HC5 : Aside0 (∀ w' : World, Calls Try.prog 10 #[.slice (some ⟨w'.heap.size, 0, none⟩) 3 3, .agg #[(.int .i64 7), (.int .i64 0), (.int .i64 0), (.slice none 0 0), (.int .i32 0)], .agg #[(.int .i64 1), (.int .i64 1), (.int .i64 3), (.int .i64 0)]] (w'.alloc (.cells #[(.int .i64 24), (.int .i64 1), (.int .i64 0), (.int .i64 0), (.int .i64 0), (.int .i64 0), (.int .i32 0), (.slice B0 0 k0), (.int .i64 0), (.int .i64 3), (.int .i64 3), (.int .i64 0), (.int .i64 0), (.int .i64 0), (.int .i64 0), (.int .i32 7), (.slice B2 0 k2), (.int .i64 0), (.int .i64 18), (.int .i64 2), (.int .i64 0), (.int .i64 1), (.int .i64 0), (.int .i64 0), (.int .i32 1), (.slice B1 0 k1), (.int .i64 0)] 37)) fun en w'' => en = .returned (.int .i64 5) ∧ Below (w'.alloc (.cells #[(.int .i64 24), (.int .i64 1), (.int .i64 0), (.int .i64 0), (.int .i64 0), (.int .i64 0), (.int .i32 0), (.slice B0 0 k0), (.int .i64 0), (.int .i64 3), (.int .i64 3), (.int .i64 0), (.int .i64 0), (.int .i64 0), (.int .i64 0), (.int .i32 7), (.slice B2 0 k2), (.int .i64 0), (.int .i64 18), (.int .i64 2), (.int .i64 0), (.int .i64 1), (.int .i64 0), (.int .i64 0), (.int .i32 1), (.slice B1 0 k1), (.int .i64 0)] 37)).heap.size (w'.alloc (.cells #[(.int .i64 24), (.int .i64 1), (.int .i64 0), (.int .i64 0), (.int .i64 0), (.int .i64 0), (.int .i32 0), (.slice B0 0 k0), (.int .i64 0), (.int .i64 3), (.int .i64 3), (.int .i64 0), (.int .i64 0), (.int .i64 0), (.int .i64 0), (.int .i32 7), (.slice B2 0 k2), (.int .i64 0), (.int .i64 18), (.int .i64 2), (.int .i64 0), (.int .i64 1), (.int .i64 0), (.int .i64 0), (.int .i32 1), (.slice B1 0 k1), (.int .i64 0)] 37)) w'') := ⟨by
  intro w'
  have := cycles_calls (some ⟨w'.heap.size, 0, none⟩) 3 sM sE none 0 sD (w'.alloc (.cells #[(.int .i64 24), (.int .i64 1), (.int .i64 0), (.int .i64 0), (.int .i64 0), (.int .i64 0), (.int .i32 0), (.slice B0 0 k0), (.int .i64 0), (.int .i64 3), (.int .i64 3), (.int .i64 0), (.int .i64 0), (.int .i64 0), (.int .i64 0), (.int .i32 7), (.slice B2 0 k2), (.int .i64 0), (.int .i64 18), (.int .i64 2), (.int .i64 0), (.int .i64 1), (.int .i64 0), (.int .i64 0), (.int .i32 1), (.slice B1 0 k1), (.int .i64 0)] 37)) (C3 sx0 sx2 sx1 rfl rfl rfl B0 B2 B1 k0 k2 k1 (heap_alloc_new w' _)) (Nat.le_refl _) (C_nil _ _) (Nat.le_refl _) (by decide) (few_of sM_sh)
  rwa [s_cy5] at this⟩
 have HKP : Aside0 (∀ w', Below w6.heap.size w6 w' → Calls Try.prog 16 #[.slice (some ⟨g, 0, none⟩) 3 3, .slice Ab (blockP sL sE sD).length cb] w' fun en w'' => en = .returned (.bool true) ∧ Below w'.heap.size w' w'') := ⟨by
  intro w' hb
  obtain ⟨k, hk⟩ := (block_keeps sL_sh sE sD).rounds
  exact jacquardref16_Keeps.calls k (some ⟨g, 0, none⟩) 3 sL Ab cb (blockP sL sE sD) true w' (Kd.C_below HC.out (below_then HB6.out HB6.out.size hb)) (Nat.le_refl _) (Kd.C_below HCB.out hb) HCBC.out hk⟩
 go_wp2_with fail
 refine start_ (n := 27) (S := fun w' => w'.cell? ⟨w.heap.size + 1, 0, none⟩ = some (.int .i64 7) ∧ w'.cell? ⟨w.heap.size + 1, 1, none⟩ = some (.int .i64 0) ∧ w'.cell? ⟨w.heap.size + 1, 2, none⟩ = some (.int .i64 0) ∧ w'.cell? ⟨w.heap.size + 1, 3, none⟩ = some (.slice none 0 0) ∧ w'.cell? ⟨w.heap.size + 1, 4, none⟩ = some (.int .i32 0) ∧ w'.cell? ⟨w.heap.size, 0, none⟩ = some (.int .i64 1) ∧ w'.cell? ⟨w.heap.size, 1, none⟩ = some (.int .i64 1) ∧ w'.cell? ⟨w.heap.size, 2, none⟩ = some (.int .i64 3) ∧ w'.cell? ⟨w.heap.size, 3, none⟩ = some (.int .i64 0) ∧ w'.cell? ⟨g, 0, none⟩ = some (.int .i64 24) ∧ w'.cell? ⟨g, 1, none⟩ = some (.int .i64 1) ∧ w'.cell? ⟨g, 2, none⟩ = some (.int .i64 0) ∧ w'.cell? ⟨g, 3, none⟩ = some (.int .i64 0) ∧ w'.cell? ⟨g, 4, none⟩ = some (.int .i64 0) ∧ w'.cell? ⟨g, 5, none⟩ = some (.int .i64 0) ∧ w'.cell? ⟨g, 6, none⟩ = some (.int .i32 0) ∧ w'.cell? ⟨g, 7, none⟩ = some (.slice B0 0 k0) ∧ w'.cell? ⟨g, 8, none⟩ = some (.int .i64 0) ∧ w'.cell? ⟨g, 9, none⟩ = some (.int .i64 18) ∧ w'.cell? ⟨g, 10, none⟩ = some (.int .i64 2) ∧ w'.cell? ⟨g, 11, none⟩ = some (.int .i64 0) ∧ w'.cell? ⟨g, 12, none⟩ = some (.int .i64 1) ∧ w'.cell? ⟨g, 13, none⟩ = some (.int .i64 0) ∧ w'.cell? ⟨g, 14, none⟩ = some (.int .i64 0) ∧ w'.cell? ⟨g, 15, none⟩ = some (.int .i32 1) ∧ w'.cell? ⟨g, 16, none⟩ = some (.slice B1 0 k1) ∧ w'.cell? ⟨g, 17, none⟩ = some (.int .i64 0) ∧ w'.cell? ⟨g, 18, none⟩ = some (.int .i64 3) ∧ w'.cell? ⟨g, 19, none⟩ = some (.int .i64 3) ∧ w'.cell? ⟨g, 20, none⟩ = some (.int .i64 0) ∧ w'.cell? ⟨g, 21, none⟩ = some (.int .i64 0) ∧ w'.cell? ⟨g, 22, none⟩ = some (.int .i64 0) ∧ w'.cell? ⟨g, 23, none⟩ = some (.int .i64 0) ∧ w'.cell? ⟨g, 24, none⟩ = some (.int .i32 7) ∧ w'.cell? ⟨g, 25, none⟩ = some (.slice B2 0 k2) ∧ w'.cell? ⟨g, 26, none⟩ = some (.int .i64 0)) (ds := []) (bm 27 0) (by kernel_rfl) rfl rfl ⟨cell_b (below_drew1 HB6.out) ((blk_cell HE.out 0).trans rfl), cell_b (below_drew1 HB6.out) ((blk_cell HE.out 1).trans rfl), cell_b (below_drew1 HB6.out) ((blk_cell HE.out 2).trans rfl), cell_b (below_drew1 HB6.out) ((blk_cell HE.out 3).trans rfl), cell_b (below_drew1 HB6.out) ((blk_cell HE.out 4).trans rfl), cell_b (below_drew1 HB6.out) ((blk_cell HD.out 0).trans rfl), cell_b (below_drew1 HB6.out) ((blk_cell HD.out 1).trans rfl), cell_b (below_drew1 HB6.out) ((blk_cell HD.out 2).trans rfl), cell_b (below_drew1 HB6.out) ((blk_cell HD.out 3).trans rfl), cell_b (below_drew1 HB6.out) ((blk_cell HL.out 0).trans rfl), cell_b (below_drew1 HB6.out) ((blk_cell HL.out 1).trans rfl), cell_b (below_drew1 HB6.out) ((blk_cell HL.out 2).trans rfl), cell_b (below_drew1 HB6.out) ((blk_cell HL.out 3).trans rfl), cell_b (below_drew1 HB6.out) ((blk_cell HL.out 4).trans rfl), cell_b (below_drew1 HB6.out) ((blk_cell HL.out 5).trans rfl), cell_b (below_drew1 HB6.out) ((blk_cell HL.out 6).trans rfl), cell_b (below_drew1 HB6.out) ((blk_cell HL.out 7).trans rfl), cell_b (below_drew1 HB6.out) ((blk_cell HL.out 8).trans rfl), cell_b (below_drew1 HB6.out) ((blk_cell HL.out 9).trans rfl), cell_b (below_drew1 HB6.out) ((blk_cell HL.out 10).trans rfl), cell_b (below_drew1 HB6.out) ((blk_cell HL.out 11).trans rfl), cell_b (below_drew1 HB6.out) ((blk_cell HL.out 12).trans rfl), cell_b (below_drew1 HB6.out) ((blk_cell HL.out 13).trans rfl), cell_b (below_drew1 HB6.out) ((blk_cell HL.out 14).trans rfl), cell_b (below_drew1 HB6.out) ((blk_cell HL.out 15).trans rfl), cell_b (below_drew1 HB6.out) ((blk_cell HL.out 16).trans rfl), cell_b (below_drew1 HB6.out) ((blk_cell HL.out 17).trans rfl), cell_b (below_drew1 HB6.out) ((blk_cell HL.out 18).trans rfl), cell_b (below_drew1 HB6.out) ((blk_cell HL.out 19).trans rfl), cell_b (below_drew1 HB6.out) ((blk_cell HL.out 20).trans rfl), cell_b (below_drew1 HB6.out) ((blk_cell HL.out 21).trans rfl), cell_b (below_drew1 HB6.out) ((blk_cell HL.out 22).trans rfl), cell_b (below_drew1 HB6.out) ((blk_cell HL.out 23).trans rfl), cell_b (below_drew1 HB6.out) ((blk_cell HL.out 24).trans rfl), cell_b (below_drew1 HB6.out) ((blk_cell HL.out 25).trans rfl), cell_b (below_drew1 HB6.out) ((blk_cell HL.out 26).trans rfl)⟩ (fun hHeld => ?_)
 refine pu 0 15 (bm 27 1) rfl rfl (by kernel_rfl) (fun _ _ _ h => h) (by rfl) (v := ?_) (a' := ?_) (by intro w'; go_simp; with_reducible rfl) (by simp only [np]; rfl) ?_
 refine tu 1 16 (bm 27 3) rfl rfl (by kernel_rfl) (fun _ _ _ h => h) (by rfl) (v := ?_) (a' := ?_) (by rintro w' ⟨s0, s1, s2, s3, s4, s5, s6, s7, s8, s9, s10, s11, s12, s13, s14, s15, s16, s17, s18, s19, s20, s21, s22, s23, s24, s25, s26, s27, s28, s29, s30, s31, s32, s33, s34, s35⟩; go_simp; with_reducible rfl) hHeld (by simp only [np]; rfl) ?_
 refine tu 2 17 (bm 27 7) rfl rfl (by kernel_rfl) (fun _ _ _ h => h) (by rfl) (v := ?_) (a' := ?_) (by rintro w' ⟨s0, s1, s2, s3, s4, s5, s6, s7, s8, s9, s10, s11, s12, s13, s14, s15, s16, s17, s18, s19, s20, s21, s22, s23, s24, s25, s26, s27, s28, s29, s30, s31, s32, s33, s34, s35⟩; go_simp; with_reducible rfl) hHeld (by simp only [np]; rfl) ?_
 refine one_ (i := 3) (N := some 18) (bm 27 15) rfl rfl (by kernel_rfl) (by decide) (fun K hK => ?_)
 refine goes_ Try.func10 (by kernel_rfl) rfl #[.slice (some ⟨g, 0, none⟩) 3 3, .agg #[(.int .i64 7), (.int .i64 0), (.int .i64 0), (.slice none 0 0), (.int .i32 0)], .agg #[(.int .i64 1), (.int .i64 1), (.int .i64 3), (.int .i64 0)]] (by rfl) rfl rfl (by simp only [List.map_toArray, List.map_cons, List.map_nil]; rfl) ?_
 with_reducible refine (HC6.out _ (below_drew1 (Below.refl _ _))).mono ?_
 rintro en w7 ⟨rfl, hb⟩
 refine ⟨_, rfl, ?_⟩
 have HBn := Aside0.mk (below_then (below_drew1 (Below.refl w6.heap.size w6)) (Nat.le_refl _) hb)
 refine hK.out _ _ ⟨cell_b hb (hHeld.1), cell_b hb (hHeld.2.1), cell_b hb (hHeld.2.2.1), cell_b hb (hHeld.2.2.2.1), cell_b hb (hHeld.2.2.2.2.1), cell_b hb (hHeld.2.2.2.2.2.1), cell_b hb (hHeld.2.2.2.2.2.2.1), cell_b hb (hHeld.2.2.2.2.2.2.2.1), cell_b hb (hHeld.2.2.2.2.2.2.2.2.1), cell_b hb (hHeld.2.2.2.2.2.2.2.2.2.1), cell_b hb (hHeld.2.2.2.2.2.2.2.2.2.2.1), cell_b hb (hHeld.2.2.2.2.2.2.2.2.2.2.2.1), cell_b hb (hHeld.2.2.2.2.2.2.2.2.2.2.2.2.1), cell_b hb (hHeld.2.2.2.2.2.2.2.2.2.2.2.2.2.1), cell_b hb (hHeld.2.2.2.2.2.2.2.2.2.2.2.2.2.2.1), cell_b hb (hHeld.2.2.2.2.2.2.2.2.2.2.2.2.2.2.2.1), cell_b hb (hHeld.2.2.2.2.2.2.2.2.2.2.2.2.2.2.2.2.1), cell_b hb (hHeld.2.2.2.2.2.2.2.2.2.2.2.2.2.2.2.2.2.1), cell_b hb (hHeld.2.2.2.2.2.2.2.2.2.2.2.2.2.2.2.2.2.2.1), cell_b hb (hHeld.2.2.2.2.2.2.2.2.2.2.2.2.2.2.2.2.2.2.2.1), cell_b hb (hHeld.2.2.2.2.2.2.2.2.2.2.2.2.2.2.2.2.2.2.2.2.1), cell_b hb (hHeld.2.2.2.2.2.2.2.2.2.2.2.2.2.2.2.2.2.2.2.2.2.1), cell_b hb (hHeld.2.2.2.2.2.2.2.2.2.2.2.2.2.2.2.2.2.2.2.2.2.2.1), cell_b hb (hHeld.2.2.2.2.2.2.2.2.2.2.2.2.2.2.2.2.2.2.2.2.2.2.2.1), cell_b hb (hHeld.2.2.2.2.2.2.2.2.2.2.2.2.2.2.2.2.2.2.2.2.2.2.2.2.1), cell_b hb (hHeld.2.2.2.2.2.2.2.2.2.2.2.2.2.2.2.2.2.2.2.2.2.2.2.2.2.1), cell_b hb (hHeld.2.2.2.2.2.2.2.2.2.2.2.2.2.2.2.2.2.2.2.2.2.2.2.2.2.2.1), cell_b hb (hHeld.2.2.2.2.2.2.2.2.2.2.2.2.2.2.2.2.2.2.2.2.2.2.2.2.2.2.2.1), cell_b hb (hHeld.2.2.2.2.2.2.2.2.2.2.2.2.2.2.2.2.2.2.2.2.2.2.2.2.2.2.2.2.1), cell_b hb (hHeld.2.2.2.2.2.2.2.2.2.2.2.2.2.2.2.2.2.2.2.2.2.2.2.2.2.2.2.2.2.1), cell_b hb (hHeld.2.2.2.2.2.2.2.2.2.2.2.2.2.2.2.2.2.2.2.2.2.2.2.2.2.2.2.2.2.2.1), cell_b hb (hHeld.2.2.2.2.2.2.2.2.2.2.2.2.2.2.2.2.2.2.2.2.2.2.2.2.2.2.2.2.2.2.2.1), cell_b hb (hHeld.2.2.2.2.2.2.2.2.2.2.2.2.2.2.2.2.2.2.2.2.2.2.2.2.2.2.2.2.2.2.2.2.1), cell_b hb (hHeld.2.2.2.2.2.2.2.2.2.2.2.2.2.2.2.2.2.2.2.2.2.2.2.2.2.2.2.2.2.2.2.2.2.1), cell_b hb (hHeld.2.2.2.2.2.2.2.2.2.2.2.2.2.2.2.2.2.2.2.2.2.2.2.2.2.2.2.2.2.2.2.2.2.2.1), cell_b hb (hHeld.2.2.2.2.2.2.2.2.2.2.2.2.2.2.2.2.2.2.2.2.2.2.2.2.2.2.2.2.2.2.2.2.2.2.2)⟩ (fun hHeld => ?_)
 clear hK K
 refine norm_ (a' := ?_) ?_ ?_
 rotate_left
 · show Act.put _ (some 18) _ = _; simp only [np]; rfl
 refine pu 4 19 (bm 27 31) rfl rfl (by kernel_rfl) (fun _ _ _ h => h) (by rfl) (v := ?_) (a' := ?_) (by intro w'; go_simp; with_reducible rfl) (by simp only [np]; rfl) ?_
 refine pu 5 20 (bm 27 63) rfl rfl (by kernel_rfl) (fun _ _ _ h => h) (by rfl) (v := ?_) (a' := ?_) (by intro w'; go_simp; with_reducible rfl) (by simp only [np]; rfl) ?_
 refine pu 6 21 (bm 27 127) rfl rfl (by kernel_rfl) (fun _ _ _ h => h) (by rfl) (v := ?_) (a' := ?_) (by intro w'; go_simp; with_reducible rfl) (by simp only [np]; rfl) ?_
 refine pu 7 22 (bm 27 255) rfl rfl (by kernel_rfl) (fun _ _ _ h => h) (by rfl) (v := ?_) (a' := ?_) (by intro w'; go_simp; with_reducible rfl) (by simp only [np]; rfl) ?_
 refine pu 9 24 (bm 27 767) rfl rfl (by kernel_rfl) (fun _ _ _ h => h) (by rfl) (v := ?_) (a' := ?_) (by intro w'; go_simp; with_reducible rfl) (by simp only [np]; rfl) ?_
 refine pu 10 25 (bm 27 1791) rfl rfl (by kernel_rfl) (fun _ _ _ h => h) (by rfl) (v := ?_) (a' := ?_) (by intro w'; go_simp; with_reducible rfl) (by simp only [np]; rfl) ?_
 refine pu 12 27 (bm 27 5887) rfl rfl (by kernel_rfl) (fun _ _ _ h => h) (by rfl) (v := ?_) (a' := ?_) (by intro w'; go_simp; with_reducible rfl) (by simp only [np]; rfl) ?_
 refine pu 13 28 (bm 27 14079) rfl rfl (by kernel_rfl) (fun _ _ _ h => h) (by rfl) (v := ?_) (a' := ?_) (by intro w'; go_simp; with_reducible rfl) (by simp only [np]; rfl) ?_
 refine tu 8 23 (bm 27 14335) rfl rfl (by kernel_rfl) (fun _ _ _ h => h) (by rfl) (v := ?_) (a' := ?_) (by rintro w' ⟨s0, s1, s2, s3, s4, s5, s6, s7, s8, s9, s10, s11, s12, s13, s14, s15, s16, s17, s18, s19, s20, s21, s22, s23, s24, s25, s26, s27, s28, s29, s30, s31, s32, s33, s34, s35⟩; go_simp; with_reducible rfl) hHeld (by simp only [np]; rfl) ?_
 refine tu 11 26 (bm 27 16383) rfl rfl (by kernel_rfl) (fun _ _ _ h => h) (by rfl) (v := ?_) (a' := ?_) (by rintro w' ⟨s0, s1, s2, s3, s4, s5, s6, s7, s8, s9, s10, s11, s12, s13, s14, s15, s16, s17, s18, s19, s20, s21, s22, s23, s24, s25, s26, s27, s28, s29, s30, s31, s32, s33, s34, s35⟩; go_simp; with_reducible rfl) hHeld (by simp only [np]; rfl) ?_
 refine tu 14 29 (bm 27 32767) rfl rfl (by kernel_rfl) (fun _ _ _ h => h) (by rfl) (v := ?_) (a' := ?_) (by rintro w' ⟨s0, s1, s2, s3, s4, s5, s6, s7, s8, s9, s10, s11, s12, s13, s14, s15, s16, s17, s18, s19, s20, s21, s22, s23, s24, s25, s26, s27, s28, s29, s30, s31, s32, s33, s34, s35⟩; go_simp; with_reducible rfl) hHeld (by simp only [np]; rfl) ?_
 refine tu 16 31 (bm 27 98303) rfl rfl (by kernel_rfl) (fun _ _ _ h => h) (by rfl) (v := ?_) (a' := ?_) (by rintro w' ⟨s0, s1, s2, s3, s4, s5, s6, s7, s8, s9, s10, s11, s12, s13, s14, s15, s16, s17, s18, s19, s20, s21, s22, s23, s24, s25, s26, s27, s28, s29, s30, s31, s32, s33, s34, s35⟩; go_simp; with_reducible rfl) hHeld (by simp only [np]; rfl) ?_
 refine tu 17 32 (bm 27 229375) rfl rfl (by kernel_rfl) (fun _ _ _ h => h) (by rfl) (v := ?_) (a' := ?_) (by rintro w' ⟨s0, s1, s2, s3, s4, s5, s6, s7, s8, s9, s10, s11, s12, s13, s14, s15, s16, s17, s18, s19, s20, s21, s22, s23, s24, s25, s26, s27, s28, s29, s30, s31, s32, s33, s34, s35⟩; go_simp; with_reducible rfl) hHeld (by simp only [np]; rfl) ?_
 refine one_ (i := 15) (N := some 30) (bm 27 262143) rfl rfl (by kernel_rfl) (by decide) (fun K hK => ?_)
 refine value_ (w1 := ?_) (v := ?_) (by rfl) rfl ?_ ?_
 rotate_left 2
 · go_simp
   constructor
   · rfl
   · rfl
 have HBa := Aside0.mk (below_alloc HBn.out (.cells #[(.int .i64 24), (.int .i64 1), (.int .i64 0), (.int .i64 0), (.int .i64 0), (.int .i64 0), (.int .i32 0), (.slice B0 0 k0), (.int .i64 0), (.int .i64 3), (.int .i64 3), (.int .i64 0), (.int .i64 0), (.int .i64 0), (.int .i64 0), (.int .i32 7), (.slice B2 0 k2), (.int .i64 0), (.int .i64 18), (.int .i64 2), (.int .i64 0), (.int .i64 1), (.int .i64 0), (.int .i64 0), (.int .i32 1), (.slice B1 0 k1), (.int .i64 0)] 37))
 refine hK.out _ _ ⟨cell_b (below_alloc (Below.refl _ _) _) (hHeld.1), cell_b (below_alloc (Below.refl _ _) _) (hHeld.2.1), cell_b (below_alloc (Below.refl _ _) _) (hHeld.2.2.1), cell_b (below_alloc (Below.refl _ _) _) (hHeld.2.2.2.1), cell_b (below_alloc (Below.refl _ _) _) (hHeld.2.2.2.2.1), cell_b (below_alloc (Below.refl _ _) _) (hHeld.2.2.2.2.2.1), cell_b (below_alloc (Below.refl _ _) _) (hHeld.2.2.2.2.2.2.1), cell_b (below_alloc (Below.refl _ _) _) (hHeld.2.2.2.2.2.2.2.1), cell_b (below_alloc (Below.refl _ _) _) (hHeld.2.2.2.2.2.2.2.2.1), cell_b (below_alloc (Below.refl _ _) _) (hHeld.2.2.2.2.2.2.2.2.2.1), cell_b (below_alloc (Below.refl _ _) _) (hHeld.2.2.2.2.2.2.2.2.2.2.1), cell_b (below_alloc (Below.refl _ _) _) (hHeld.2.2.2.2.2.2.2.2.2.2.2.1), cell_b (below_alloc (Below.refl _ _) _) (hHeld.2.2.2.2.2.2.2.2.2.2.2.2.1), cell_b (below_alloc (Below.refl _ _) _) (hHeld.2.2.2.2.2.2.2.2.2.2.2.2.2.1), cell_b (below_alloc (Below.refl _ _) _) (hHeld.2.2.2.2.2.2.2.2.2.2.2.2.2.2.1), cell_b (below_alloc (Below.refl _ _) _) (hHeld.2.2.2.2.2.2.2.2.2.2.2.2.2.2.2.1), cell_b (below_alloc (Below.refl _ _) _) (hHeld.2.2.2.2.2.2.2.2.2.2.2.2.2.2.2.2.1), cell_b (below_alloc (Below.refl _ _) _) (hHeld.2.2.2.2.2.2.2.2.2.2.2.2.2.2.2.2.2.1), cell_b (below_alloc (Below.refl _ _) _) (hHeld.2.2.2.2.2.2.2.2.2.2.2.2.2.2.2.2.2.2.1), cell_b (below_alloc (Below.refl _ _) _) (hHeld.2.2.2.2.2.2.2.2.2.2.2.2.2.2.2.2.2.2.2.1), cell_b (below_alloc (Below.refl _ _) _) (hHeld.2.2.2.2.2.2.2.2.2.2.2.2.2.2.2.2.2.2.2.2.1), cell_b (below_alloc (Below.refl _ _) _) (hHeld.2.2.2.2.2.2.2.2.2.2.2.2.2.2.2.2.2.2.2.2.2.1), cell_b (below_alloc (Below.refl _ _) _) (hHeld.2.2.2.2.2.2.2.2.2.2.2.2.2.2.2.2.2.2.2.2.2.2.1), cell_b (below_alloc (Below.refl _ _) _) (hHeld.2.2.2.2.2.2.2.2.2.2.2.2.2.2.2.2.2.2.2.2.2.2.2.1), cell_b (below_alloc (Below.refl _ _) _) (hHeld.2.2.2.2.2.2.2.2.2.2.2.2.2.2.2.2.2.2.2.2.2.2.2.2.1), cell_b (below_alloc (Below.refl _ _) _) (hHeld.2.2.2.2.2.2.2.2.2.2.2.2.2.2.2.2.2.2.2.2.2.2.2.2.2.1), cell_b (below_alloc (Below.refl _ _) _) (hHeld.2.2.2.2.2.2.2.2.2.2.2.2.2.2.2.2.2.2.2.2.2.2.2.2.2.2.1), cell_b (below_alloc (Below.refl _ _) _) (hHeld.2.2.2.2.2.2.2.2.2.2.2.2.2.2.2.2.2.2.2.2.2.2.2.2.2.2.2.1), cell_b (below_alloc (Below.refl _ _) _) (hHeld.2.2.2.2.2.2.2.2.2.2.2.2.2.2.2.2.2.2.2.2.2.2.2.2.2.2.2.2.1), cell_b (below_alloc (Below.refl _ _) _) (hHeld.2.2.2.2.2.2.2.2.2.2.2.2.2.2.2.2.2.2.2.2.2.2.2.2.2.2.2.2.2.1), cell_b (below_alloc (Below.refl _ _) _) (hHeld.2.2.2.2.2.2.2.2.2.2.2.2.2.2.2.2.2.2.2.2.2.2.2.2.2.2.2.2.2.2.1), cell_b (below_alloc (Below.refl _ _) _) (hHeld.2.2.2.2.2.2.2.2.2.2.2.2.2.2.2.2.2.2.2.2.2.2.2.2.2.2.2.2.2.2.2.1), cell_b (below_alloc (Below.refl _ _) _) (hHeld.2.2.2.2.2.2.2.2.2.2.2.2.2.2.2.2.2.2.2.2.2.2.2.2.2.2.2.2.2.2.2.2.1), cell_b (below_alloc (Below.refl _ _) _) (hHeld.2.2.2.2.2.2.2.2.2.2.2.2.2.2.2.2.2.2.2.2.2.2.2.2.2.2.2.2.2.2.2.2.2.1), cell_b (below_alloc (Below.refl _ _) _) (hHeld.2.2.2.2.2.2.2.2.2.2.2.2.2.2.2.2.2.2.2.2.2.2.2.2.2.2.2.2.2.2.2.2.2.2.1), cell_b (below_alloc (Below.refl _ _) _) (hHeld.2.2.2.2.2.2.2.2.2.2.2.2.2.2.2.2.2.2.2.2.2.2.2.2.2.2.2.2.2.2.2.2.2.2.2)⟩ (fun hHeld => ?_)
 clear hK K
 refine norm_ (a' := ?_) ?_ ?_
 rotate_left
 · show Act.put _ (some 30) _ = _; simp only [np]; rfl
 refine one_ (i := 18) (N := some 33) (bm 27 524287) rfl rfl (by kernel_rfl) (by decide) (fun K hK => ?_)
 refine goes_ Try.func10 (by kernel_rfl) rfl #[.slice (some ⟨w7.heap.size, 0, none⟩) 3 3, .agg #[(.int .i64 7), (.int .i64 0), (.int .i64 0), (.slice none 0 0), (.int .i32 0)], .agg #[(.int .i64 1), (.int .i64 1), (.int .i64 3), (.int .i64 0)]] (by rfl) rfl rfl (by simp only [List.map_toArray, List.map_cons, List.map_nil]; rfl) ?_
 with_reducible refine (HC5.out w7).mono ?_
 rintro en w8 ⟨rfl, hb⟩
 refine ⟨_, rfl, ?_⟩
 have HBn8 := Aside0.mk (below_then HBa.out HBa.out.size hb)
 clear HBn HBa; have HBn := HBn8; clear HBn8
 refine hK.out _ _ ⟨cell_b hb (hHeld.1), cell_b hb (hHeld.2.1), cell_b hb (hHeld.2.2.1), cell_b hb (hHeld.2.2.2.1), cell_b hb (hHeld.2.2.2.2.1), cell_b hb (hHeld.2.2.2.2.2.1), cell_b hb (hHeld.2.2.2.2.2.2.1), cell_b hb (hHeld.2.2.2.2.2.2.2.1), cell_b hb (hHeld.2.2.2.2.2.2.2.2.1), cell_b hb (hHeld.2.2.2.2.2.2.2.2.2.1), cell_b hb (hHeld.2.2.2.2.2.2.2.2.2.2.1), cell_b hb (hHeld.2.2.2.2.2.2.2.2.2.2.2.1), cell_b hb (hHeld.2.2.2.2.2.2.2.2.2.2.2.2.1), cell_b hb (hHeld.2.2.2.2.2.2.2.2.2.2.2.2.2.1), cell_b hb (hHeld.2.2.2.2.2.2.2.2.2.2.2.2.2.2.1), cell_b hb (hHeld.2.2.2.2.2.2.2.2.2.2.2.2.2.2.2.1), cell_b hb (hHeld.2.2.2.2.2.2.2.2.2.2.2.2.2.2.2.2.1), cell_b hb (hHeld.2.2.2.2.2.2.2.2.2.2.2.2.2.2.2.2.2.1), cell_b hb (hHeld.2.2.2.2.2.2.2.2.2.2.2.2.2.2.2.2.2.2.1), cell_b hb (hHeld.2.2.2.2.2.2.2.2.2.2.2.2.2.2.2.2.2.2.2.1), cell_b hb (hHeld.2.2.2.2.2.2.2.2.2.2.2.2.2.2.2.2.2.2.2.2.1), cell_b hb (hHeld.2.2.2.2.2.2.2.2.2.2.2.2.2.2.2.2.2.2.2.2.2.1), cell_b hb (hHeld.2.2.2.2.2.2.2.2.2.2.2.2.2.2.2.2.2.2.2.2.2.2.1), cell_b hb (hHeld.2.2.2.2.2.2.2.2.2.2.2.2.2.2.2.2.2.2.2.2.2.2.2.1), cell_b hb (hHeld.2.2.2.2.2.2.2.2.2.2.2.2.2.2.2.2.2.2.2.2.2.2.2.2.1), cell_b hb (hHeld.2.2.2.2.2.2.2.2.2.2.2.2.2.2.2.2.2.2.2.2.2.2.2.2.2.1), cell_b hb (hHeld.2.2.2.2.2.2.2.2.2.2.2.2.2.2.2.2.2.2.2.2.2.2.2.2.2.2.1), cell_b hb (hHeld.2.2.2.2.2.2.2.2.2.2.2.2.2.2.2.2.2.2.2.2.2.2.2.2.2.2.2.1), cell_b hb (hHeld.2.2.2.2.2.2.2.2.2.2.2.2.2.2.2.2.2.2.2.2.2.2.2.2.2.2.2.2.1), cell_b hb (hHeld.2.2.2.2.2.2.2.2.2.2.2.2.2.2.2.2.2.2.2.2.2.2.2.2.2.2.2.2.2.1), cell_b hb (hHeld.2.2.2.2.2.2.2.2.2.2.2.2.2.2.2.2.2.2.2.2.2.2.2.2.2.2.2.2.2.2.1), cell_b hb (hHeld.2.2.2.2.2.2.2.2.2.2.2.2.2.2.2.2.2.2.2.2.2.2.2.2.2.2.2.2.2.2.2.1), cell_b hb (hHeld.2.2.2.2.2.2.2.2.2.2.2.2.2.2.2.2.2.2.2.2.2.2.2.2.2.2.2.2.2.2.2.2.1), cell_b hb (hHeld.2.2.2.2.2.2.2.2.2.2.2.2.2.2.2.2.2.2.2.2.2.2.2.2.2.2.2.2.2.2.2.2.2.1), cell_b hb (hHeld.2.2.2.2.2.2.2.2.2.2.2.2.2.2.2.2.2.2.2.2.2.2.2.2.2.2.2.2.2.2.2.2.2.2.1), cell_b hb (hHeld.2.2.2.2.2.2.2.2.2.2.2.2.2.2.2.2.2.2.2.2.2.2.2.2.2.2.2.2.2.2.2.2.2.2.2)⟩ (fun hHeld => ?_)
 clear hK K
 refine norm_ (a' := ?_) ?_ ?_
 rotate_left
 · show Act.put _ (some 33) _ = _; simp only [np]; rfl
 refine pu 19 34 (bm 27 1048575) rfl rfl (by kernel_rfl) (fun _ _ _ h => h) (by rfl) (v := ?_) (a' := ?_) (by intro w'; go_simp; with_reducible rfl) (by simp only [np]; rfl) ?_
 refine pu 20 35 (bm 27 2097151) rfl rfl (by kernel_rfl) (fun _ _ _ h => h) (by rfl) (v := ?_) (a' := ?_) (by intro w'; go_simp; with_reducible rfl) (by simp only [np]; rfl) ?_
 refine pu 21 36 (bm 27 4194303) rfl rfl (by kernel_rfl) (fun _ _ _ h => h) (by rfl) (v := ?_) (a' := ?_) (by intro w'; go_simp; with_reducible rfl) (by simp only [np]; rfl) ?_
 refine pu 22 37 (bm 27 8388607) rfl rfl (by kernel_rfl) (fun _ _ _ h => h) (by rfl) (v := ?_) (a' := ?_) (by intro w'; go_simp; with_reducible rfl) (by simp only [np]; rfl) ?_
 refine pu 23 38 (bm 27 16777215) rfl rfl (by kernel_rfl) (fun _ _ _ h => h) (by rfl) (v := ?_) (a' := ?_) (by intro w'; go_simp; with_reducible rfl) (by simp only [np]; rfl) ?_
 refine one_ (i := 24) (N := some 39) (bm 27 33554431) rfl rfl (by kernel_rfl) (by decide) (fun K hK => ?_)
 refine goes_ Try.func16 (by kernel_rfl) rfl #[.slice (some ⟨g, 0, none⟩) 3 3, .slice Ab (blockP sL sE sD).length cb] (by rfl) rfl rfl (by simp only [List.map_toArray, List.map_cons, List.map_nil]; rfl) ?_
 with_reducible refine (HKP.out _ HBn.out).mono ?_
 rintro en w9 ⟨rfl, hb⟩
 refine ⟨_, rfl, ?_⟩
 have HBn9 := Aside0.mk (below_then HBn.out HBn.out.size hb)
 clear HBn; have HBn := HBn9; clear HBn9
 refine hK.out _ _ ⟨cell_b hb (hHeld.1), cell_b hb (hHeld.2.1), cell_b hb (hHeld.2.2.1), cell_b hb (hHeld.2.2.2.1), cell_b hb (hHeld.2.2.2.2.1), cell_b hb (hHeld.2.2.2.2.2.1), cell_b hb (hHeld.2.2.2.2.2.2.1), cell_b hb (hHeld.2.2.2.2.2.2.2.1), cell_b hb (hHeld.2.2.2.2.2.2.2.2.1), cell_b hb (hHeld.2.2.2.2.2.2.2.2.2.1), cell_b hb (hHeld.2.2.2.2.2.2.2.2.2.2.1), cell_b hb (hHeld.2.2.2.2.2.2.2.2.2.2.2.1), cell_b hb (hHeld.2.2.2.2.2.2.2.2.2.2.2.2.1), cell_b hb (hHeld.2.2.2.2.2.2.2.2.2.2.2.2.2.1), cell_b hb (hHeld.2.2.2.2.2.2.2.2.2.2.2.2.2.2.1), cell_b hb (hHeld.2.2.2.2.2.2.2.2.2.2.2.2.2.2.2.1), cell_b hb (hHeld.2.2.2.2.2.2.2.2.2.2.2.2.2.2.2.2.1), cell_b hb (hHeld.2.2.2.2.2.2.2.2.2.2.2.2.2.2.2.2.2.1), cell_b hb (hHeld.2.2.2.2.2.2.2.2.2.2.2.2.2.2.2.2.2.2.1), cell_b hb (hHeld.2.2.2.2.2.2.2.2.2.2.2.2.2.2.2.2.2.2.2.1), cell_b hb (hHeld.2.2.2.2.2.2.2.2.2.2.2.2.2.2.2.2.2.2.2.2.1), cell_b hb (hHeld.2.2.2.2.2.2.2.2.2.2.2.2.2.2.2.2.2.2.2.2.2.1), cell_b hb (hHeld.2.2.2.2.2.2.2.2.2.2.2.2.2.2.2.2.2.2.2.2.2.2.1), cell_b hb (hHeld.2.2.2.2.2.2.2.2.2.2.2.2.2.2.2.2.2.2.2.2.2.2.2.1), cell_b hb (hHeld.2.2.2.2.2.2.2.2.2.2.2.2.2.2.2.2.2.2.2.2.2.2.2.2.1), cell_b hb (hHeld.2.2.2.2.2.2.2.2.2.2.2.2.2.2.2.2.2.2.2.2.2.2.2.2.2.1), cell_b hb (hHeld.2.2.2.2.2.2.2.2.2.2.2.2.2.2.2.2.2.2.2.2.2.2.2.2.2.2.1), cell_b hb (hHeld.2.2.2.2.2.2.2.2.2.2.2.2.2.2.2.2.2.2.2.2.2.2.2.2.2.2.2.1), cell_b hb (hHeld.2.2.2.2.2.2.2.2.2.2.2.2.2.2.2.2.2.2.2.2.2.2.2.2.2.2.2.2.1), cell_b hb (hHeld.2.2.2.2.2.2.2.2.2.2.2.2.2.2.2.2.2.2.2.2.2.2.2.2.2.2.2.2.2.1), cell_b hb (hHeld.2.2.2.2.2.2.2.2.2.2.2.2.2.2.2.2.2.2.2.2.2.2.2.2.2.2.2.2.2.2.1), cell_b hb (hHeld.2.2.2.2.2.2.2.2.2.2.2.2.2.2.2.2.2.2.2.2.2.2.2.2.2.2.2.2.2.2.2.1), cell_b hb (hHeld.2.2.2.2.2.2.2.2.2.2.2.2.2.2.2.2.2.2.2.2.2.2.2.2.2.2.2.2.2.2.2.2.1), cell_b hb (hHeld.2.2.2.2.2.2.2.2.2.2.2.2.2.2.2.2.2.2.2.2.2.2.2.2.2.2.2.2.2.2.2.2.2.1), cell_b hb (hHeld.2.2.2.2.2.2.2.2.2.2.2.2.2.2.2.2.2.2.2.2.2.2.2.2.2.2.2.2.2.2.2.2.2.2.1), cell_b hb (hHeld.2.2.2.2.2.2.2.2.2.2.2.2.2.2.2.2.2.2.2.2.2.2.2.2.2.2.2.2.2.2.2.2.2.2.2)⟩ (fun hHeld => ?_)
 clear hK K
 refine norm_ (a' := ?_) ?_ ?_
 rotate_left
 · show Act.put _ (some 39) _ = _; simp only [np]; rfl
 refine pu 25 40 (bm 27 67108863) rfl rfl (by kernel_rfl) (fun _ _ _ h => h) (by rfl) (v := ?_) (a' := ?_) (by intro w'; go_simp; with_reducible rfl) (by simp only [np]; rfl) ?_
 refine pu 26 0 (bm 27 134217727) rfl rfl (by kernel_rfl) (fun _ _ _ h => h) (by rfl) (v := ?_) (a' := ?_) (by intro w'; go_simp; with_reducible rfl) (by simp only [np]; rfl) ?_
 refine done_ (by kernel_rfl) ?_
 clear hHeld; go_wp2; go_ret
 exact ⟨rfl, below_then HB1.out HB1.out.size (below_then HB5.out HB5.out.size (below_then HB6.out HB6.out.size HBn.out))⟩
end Go.Proofs.Ytocndmielggnpaa.PAll
end
section
namespace Go.Proofs.Ytocndmielggnpaa.PAll
open Go.RowKit Go.Proofs.YtocndmielggnpaaW.PrintWords Go.Proofs.YtocndmielggnpaaW.PrintLast Go.Proofs.YtocndmielggnpaaW.PrintMore
open Go.Proofs.Ytocndmielggnpaa.AMap Go.Proofs.Ytocndmielggnpaa.Env Go.Proofs.Ytocndmielggnpaa.Kind
theorem info37f : (Try.prog.info? 37).map (fun i => (i.zero, i.size, i.bytes)) = some (some (.agg #[.int .i64 0, .int .i64 0, .int .i64 0, .int .i64 0, .int .i64 0, .int .i64 0, .int .i32 0, .slice none 0 0, .int .i64 0]), 9, 88) := by kernel_rfl
def restP (x n : Int) : Int := Int.tmod (wrap64 (Int.tmod x n + n)) n
def fCells (x : S37) (v : Value) : Array Value := #[.int .i64 x.f0.f0, .int .i64 x.f0.f1, .int .i64 x.f0.f2, .int .i64 x.f0.f3, .int .i64 x.f0.f4, .int .i64 x.f0.f5, .int .i32 x.f0.f6, v, .int .i64 x.f1]
def cutX (x : S37) : S37 := ⟨⟨x.f0.f0, x.f0.f1, x.f0.f2, x.f0.f3, x.f0.f4, x.f0.f5, x.f0.f6, x.f0.f7.take 6⟩, x.f1⟩
def nearX (x : S37) : S37 :=
 ⟨⟨1 + restP x.f0.f0 31, if 1 + restP x.f0.f0 31 = 28 then 0 else bits .and .i64 x.f0.f1 7, bits .and .i64 x.f0.f2 7, bits .and .i64 x.f0.f3 7, bits .and .i64 x.f0.f4 7, bits .and .i64 x.f0.f5 7, bits .and .i32 x.f0.f6 7, if 1 + restP x.f0.f0 31 = 28 then [0, 1] else x.f0.f7⟩, x.f1⟩
def fewX (near : Bool) (x : S37) : S37 := if near = true then nearX (cutX x) else cutX x
def fewP (near : Bool) (l : List S37) : List S37 := (l.take 24).map (fewX near)
structure FS (wr wx : World) (x : S37) (v7 : Value) : Prop where
 blk : wx.heap[wr.heap.size]? = some (.cells (fCells x v7) 37 (0, 0))
 args : (Kd.int .i64).R 3 wx (wr.heap.size + 1) (fun _ => True) v7 x.f0.f7
 below : Below wr.heap.size wr wx
theorem blk_set {w : World} {b : Nat} {cs : Array Value} {t : TypeId} (h : w.heap[b]? = some (.cells cs t (0, 0))) (o : Nat) (u : Value) : (w.setCell ⟨b, o, none⟩ u).heap[b]? = some (.cells (cs.setIfInBounds o u) t (0, 0)) := by
 simp [World.setCell, Array.getElem?_modify, h]
theorem R_keep {α : Type} {d : Kd α} {e : Nat} {w w1 : World} {base : Nat} {ok : Nat → Prop} {v : Value} {xs : List α} (h : d.R e w base ok v xs) (hk : ∀ k, base ≤ k → k < w.heap.size → w1.heap[k]? = w.heap[k]?) : d.R e w1 base ok v xs :=
 Kd.R_mono (Kd.R_move (Kd.R_bound h) (fun k hk1 => hk k hk1.2.1 hk1.2.2.1)) (fun _ hk => hk.1)
section
variable {wr wx w' : World} {x : S37} {v7 : Value}
theorem FS.put (h : FS wr wx x v7) (o : Nat) (u : Value) (x' : S37) (hf : x'.f0.f7 = x.f0.f7) (hc : (fCells x v7).setIfInBounds o u = fCells x' v7) : FS wr (wx.setCell ⟨wr.heap.size, o, none⟩ u) x' v7 :=
 ⟨by rw [← hc]; exact blk_set h.blk o u, by rw [hf]; exact R_keep h.args (fun k h1 _ => Below.heap_setCell _ _ _ _ (fun e => by have : k = wr.heap.size := e; omega)), h.below.setCell (Nat.le_refl _) u⟩
theorem FS.put7 (h : FS wr wx x v7) (v : Value) (x' : S37) (hR : (Kd.int .i64).R 3 wx (wr.heap.size + 1) (fun _ => True) v x'.f0.f7) (hc : (fCells x v7).setIfInBounds 7 v = fCells x' v) : FS wr (wx.setCell ⟨wr.heap.size, 7, none⟩ v) x' v :=
 ⟨by rw [← hc]; exact blk_set h.blk 7 v, R_keep hR (fun k h1 _ => Below.heap_setCell _ _ _ _ (fun e => by have : k = wr.heap.size := e; omega)), h.below.setCell (Nat.le_refl _) v⟩
theorem FS.grow (h : FS wr wx x v7) (hb : Below wx.heap.size wx w') : FS wr w' x v7 := ⟨blk_b hb h.blk, Kd.R_below h.args hb, below_then h.below h.below.size hb⟩
theorem FS.cell (h : FS wr wx x v7) (i : Nat) : wx.cell? ⟨wr.heap.size, i, none⟩ = (fCells x v7)[i]? := blk_cell h.blk i
theorem FS.free (h : FS wr wx x v7) (i : Nat) : wx.frozen? ⟨wr.heap.size, i, none⟩ = false := by simp [World.frozen?, h.blk]
theorem FS.start (wr : World) (x : S37) (A7 : Option Addr) (c7 : Nat) {w1 : World} {v : Value} (hb : Below (wr.heap.size + 1) (wr.alloc (.cells (xCells x A7 c7) 37)) w1)
    (hR : (Kd.int .i64).R 3 w1 (wr.heap.size + 1) (fun _ => True) v (x.f0.f7.take 6)) : FS wr (w1.setCell ⟨wr.heap.size, 7, none⟩ v) (cutX x) v := by
 have h0 : w1.heap[wr.heap.size]? = some (.cells (xCells x A7 c7) 37 (0, 0)) := (hb.block _ (by omega)).trans (heap_alloc_new wr _)
 refine ⟨blk_set h0 7 v, R_keep hR (fun k h1 _ => Below.heap_setCell _ _ _ _ (fun e => by have : k = wr.heap.size := e; omega)), Below.setCell (p := ⟨wr.heap.size, 7, none⟩) ?_ (Nat.le_refl _) v⟩
 exact (below_alloc (Below.refl _ _) _).trans ⟨hb.os, hb.tape, hb.output, hb.size, fun k hk => hb.block k (by omega)⟩
theorem FS.pre {A7 : Option Addr} {c7 : Nat} {w1 : World} (hb : Below (wr.heap.size + 1) (wr.alloc (.cells (xCells x A7 c7) 37)) w1) : w1.frozen? ⟨wr.heap.size, 7, none⟩ = false ∧ w1.cell? ⟨wr.heap.size, 7, none⟩ = some (.slice A7 x.f0.f7.length c7) := by
 have h0 : w1.heap[wr.heap.size]? = some (.cells (xCells x A7 c7) 37 (0, 0)) := (hb.block _ (by omega)).trans (heap_alloc_new wr _)
 exact ⟨by simp [World.frozen?, h0], blk_cell h0 7⟩
theorem restP_bd (x : Int) : 0 ≤ restP x 31 ∧ restP x 31 ≤ 30 := by
 unfold restP
 have a1 := Int.tmod_lt_of_pos x (show (0 : Int) < 31 by decide)
 have a2 := Int.lt_tmod_of_pos x (show (0 : Int) < 31 by decide)
 have h1 : wrap64 (Int.tmod x 31 + 31) = Int.tmod x 31 + 31 := by unfold wrap64; omega
 rw [h1]
 have a3 := Int.tmod_lt_of_pos (Int.tmod x 31 + 31) (show (0 : Int) < 31 by decide)
 have a4 := Int.tmod_nonneg 31 (show 0 ≤ Int.tmod x 31 + 31 by omega)
 omega
theorem rest_calls' (x : Int) (w : World) : Calls Try.prog 21 #[.int .i64 x, .int .i64 31] w fun e w' => e = .returned (.int .i64 (restP x 31)) ∧ w = w' := by
 unfold restP
 go_enter Try.func21, Try.ntmps21
 go_wp2; go_ret
 exact ⟨rfl, rfl⟩
end
end Go.Proofs.Ytocndmielggnpaa.PAll
end
section
namespace Go.Proofs.Ytocndmielggnpaa.PAll
open Go.RowKit Go.Proofs.YtocndmielggnpaaW.PrintWords Go.Proofs.YtocndmielggnpaaW.PrintLast Go.Proofs.YtocndmielggnpaaW.PrintMore
open Go.Proofs.Ytocndmielggnpaa.AMap Go.Proofs.Ytocndmielggnpaa.Env Go.Proofs.Ytocndmielggnpaa.Kind
attribute [local go_sem] max2_int min2_int max_two min_two
set_option maxHeartbeats 4000000 in
set_option maxRecDepth 100000 in
theorem few_calls (A0 : Option Addr) (c0 : Nat) (l : List S37) (near : Bool) (w : World) (hr0 : Kd.C k37 w A0 l.length l) (hc0 : l.length ≤ c0) :
    Calls Try.prog 9 #[.slice A0 l.length c0, .bool near] w fun en w' => ∃ v, en = .returned v ∧ OutR w.heap.size w' v (fewP near l) ∧ Below w.heap.size w w' := by
 have HR0 := Aside0.mk hr0
 have HC0 := Aside0.mk hc0
 have hl9 : l.length ≤ 9223372036854775807 := hr0.2.1
 have HO0 := Aside0.mk (show OutR w.heap.size (w.alloc (.cells #[] 37)) (.slice (some ⟨w.heap.size, 0, none⟩) 0 0) [] from ⟨fun _ _ => trivial, [], by
  have h := World.ownsRow_lit (base := w.heap.size) (e := 37) (size := 9) w #[] 0 (Nat.le_refl _) (by simp [maxLen]) (by simp)
  have h2 : (w.alloc (.cells #[] 37)).ownsRow w.heap.size 37 9 (.slice (some ⟨w.heap.size, 0, none⟩) 0 0) 0 [] := by simpa using h
  exact h2, Reps.none _ _⟩)
 clear hr0 hc0
 go_enter Try.func9, Try.ntmps9
 go_wp2_with fail
 go_loopw [5, 6] (fun v5 v6 wr => ∃ k : Nat, k ≤ l.length ∧ k ≤ 24 ∧ v6 = .int .i64 k ∧ (∃ A c, v5 = .slice A k c ∧ k ≤ c) ∧ Aside0 (Below w.heap.size w wr) ∧ Aside0 (OutR w.heap.size wr v5 ((l.take k).map (fewX near)))) (fun _ v6 _ => l.length - (intOf v6).toNat)
 case atStart => exact ⟨0, Nat.zero_le _, by omega, rfl, ⟨_, _, rfl, Nat.le_refl _⟩, ⟨below_alloc (Below.refl _ _) _⟩, HO0⟩
 case round =>
  obtain ⟨k, hk, hk24, rfl, ⟨Ao, co, rfl, hco⟩, HB, HO⟩ := hrel
  clear HO0
  by_cases hlt : k < l.length ∧ k < 24
  · have hlt1 := hlt.1
    have hlt2 := hlt.2
    clear hlt
    obtain ⟨ad, A7, c7, x, eA, hx, x0, x1, x2, x3, x4, x5, x6, x7, x8, hl7, hC7⟩ := at37 HR0.out k hlt1
    subst eA
    have Hx := Aside0.mk hx
    clear hx
    replace x0 := cell_b HB.out x0
    replace x1 := cell_b HB.out x1
    replace x2 := cell_b HB.out x2
    replace x3 := cell_b HB.out x3
    replace x4 := cell_b HB.out x4
    replace x5 := cell_b HB.out x5
    replace x6 := cell_b HB.out x6
    replace x7 := cell_b HB.out x7
    replace x8 := cell_b HB.out x8
    have hlx : x.f0.f7.length ≤ 9223372036854775807 := hC7.2.1
    have HC7 := Aside0.mk (Kd.C_below hC7 HB.out)
    have HO3 := Aside0.mk (show (Kd.int .i64).R 3 ((wr.alloc (.cells (xCells x A7 c7) 37)).alloc (.cells #[] 3)) (wr.heap.size + 1) (fun _ => True) (.slice (some ⟨wr.heap.size + 1, 0, none⟩) 0 0) [] from Kd.R_of_own (by
     have h := World.ownsRow_lit (base := wr.heap.size + 1) (e := 3) (size := 1) (wr.alloc (.cells (xCells x A7 c7) 37)) #[] 0 (by simp) (by simp [maxLen]) (by simp)
     simpa [encs] using h) (fun _ _ => trivial))
    have HB3 := Aside0.mk (show Below (wr.heap.size + 1) (wr.alloc (.cells (xCells x A7 c7) 37)) ((wr.alloc (.cells (xCells x A7 c7) 37)).alloc (.cells #[] 3)) from (Below.refl _ _).alloc (by simp) _)
    clear hC7
    have hu : xCells x A7 c7 = #[.int .i64 x.f0.f0, .int .i64 x.f0.f1, .int .i64 x.f0.f2, .int .i64 x.f0.f3, .int .i64 x.f0.f4, .int .i64 x.f0.f5, .int .i32 x.f0.f6, .slice A7 x.f0.f7.length c7, .int .i64 x.f1] := rfl
    have HU := Aside0.mk hu
    clear hu
    have hd24 : decide ((k : Int) < 24) = true := decide_eq_true (by omega)
    go_upto_region 6 with fail
    go_cut [] from 23 to 35 (fun wx => Aside0 (∃ v7, FS wr wx (cutX x) v7))
    case first =>
     by_cases h6 : x.f0.f7.length ≤ 6
     · go_wp2_with (at_builtin; refine Kd.R_append_row (Value.int .i64) 0 (wr.heap.size + 1) (w0 := wr.alloc (.cells (xCells x A7 c7) 37)) rfl (.tmp 23) (.tmp 32) 23 3 (.int .i64 0) 8 rfl Try.underlying23 info3 rfl (by decide) _ [] x.f0.f7 A7 x.f0.f7.length c7 (fun _ => True) rfl rfl (fun _ _ => trivial) HO3.out (Kd.C_below HC7.out (below_alloc (below_alloc (Below.refl _ _) _) _)) HB3.out (by simp) (by simp; omega) ?_; intro v1 w1 h1 hb1 hg1 hat1; obtain ⟨Ar, cr, rfl⟩ := Kd.R_slice h1; have HR1 := Aside0.mk h1; have HB1 := Aside0.mk hb1; have fz := (FS.pre hb1).1; have fc := (FS.pre hb1).2; clear h1 hb1 hg1 hat1)
       go_meet
       case rel => exact ⟨⟨_, FS.start wr x A7 c7 HB1.out (by rw [List.take_of_length_le h6]; exact HR1.out)⟩⟩
     · obtain ⟨a7, rfl⟩ : ∃ a7, A7 = some a7 := by obtain ⟨a7, e, _⟩ := HC7.out.2.2 (by omega); exact ⟨a7, e⟩
       have hc6 : (Kd.int .i64).C wr (some a7) 6 (x.f0.f7.take 6) := by
        have := Kd.C_take (m := 6) HC7.out (by omega)
        rwa [List.length_take, Nat.min_eq_left (by omega)] at this
       have HC6 := Aside0.mk hc6
       clear hc6
       go_wp2_with (at_builtin; refine Kd.R_append_row (Value.int .i64) 0 (wr.heap.size + 1) (w0 := wr.alloc (.cells (xCells x (some a7) c7) 37)) rfl (.tmp 23) (.tmp 32) 23 3 (.int .i64 0) 8 rfl Try.underlying23 info3 rfl (by decide) _ [] (x.f0.f7.take 6) (some a7) 6 c7 (fun _ => True) rfl rfl (fun _ _ => trivial) HO3.out (Kd.C_below HC6.out (below_alloc (below_alloc (Below.refl _ _) _) _)) HB3.out (by simp) (by simp) ?_; intro v1 w1 h1 hb1 hg1 hat1; obtain ⟨Ar, cr, rfl⟩ := Kd.R_slice h1; have HR1 := Aside0.mk h1; have HB1 := Aside0.mk hb1; have fz := (FS.pre hb1).1; have fc := (FS.pre hb1).2; clear h1 hb1 hg1 hat1)
       go_meet
       case rel => exact ⟨⟨_, FS.start wr x (some a7) c7 HB1.out (by have h := HR1.out; rw [List.nil_append, List.length_take] at h; exact h)⟩⟩
    case rest =>
     clear x0 x1 x2 x3 x4 x5 x6 x7 x8 HO3 HB3 HC7 hlx
     obtain ⟨v7, HF⟩ := hcut.out
     go_upto_if 36 with fail
     go_cut [] from 37 to 88 (fun wx => Aside0 (∃ v7, FS wr wx (fewX near x) v7))
     case first =>
      cases near with
      | false =>
       go_wp2
       go_meet
       case rel => exact ⟨⟨v7, HF⟩⟩
      | true =>
       obtain ⟨y, hy⟩ : ∃ y, y = cutX x := ⟨_, rfl⟩
       rw [← hy] at HF
       have hrb := restP_bd y.f0.f0
       have HFF := Aside0.mk HF
       have HY := Aside0.mk hy
       clear HF hy
       have c0 : wc.cell? ⟨wr.heap.size, 0, none⟩ = some (.int .i64 (y.f0.f0)) := HFF.out.cell 0
       have f0 := HFF.out.free 0
       go_wp2_with fail
       refine (rest_calls' y.f0.f0 _).mono ?_
       rintro en w5 ⟨rfl, rfl⟩
       go_upto_region 9 with fail
       have hn0 := HFF.out.put 0 (.int .i64 (1 + restP y.f0.f0 31)) ⟨⟨1 + restP y.f0.f0 31, y.f0.f1, y.f0.f2, y.f0.f3, y.f0.f4, y.f0.f5, y.f0.f6, y.f0.f7⟩, y.f1⟩ rfl rfl
       clear c0 f0 HFF
       generalize wc.setCell ⟨wr.heap.size, 0, none⟩ (.int .i64 (1 + restP y.f0.f0 31)) = w100 at hn0 ⊢
       have HFF := Aside0.mk hn0
       clear hn0
       have c1 : w100.cell? ⟨wr.heap.size, 1, none⟩ = some (.int .i64 (y.f0.f1)) := HFF.out.cell 1
       have f1 := HFF.out.free 1
       go_upto_region 10 with fail
       have hn1 := HFF.out.put 1 (.int .i64 (bits .and .i64 (y.f0.f1) 7)) ⟨⟨1 + restP y.f0.f0 31, bits .and .i64 (y.f0.f1) 7, y.f0.f2, y.f0.f3, y.f0.f4, y.f0.f5, y.f0.f6, y.f0.f7⟩, y.f1⟩ rfl rfl
       clear c1 f1 HFF
       generalize w100.setCell ⟨wr.heap.size, 1, none⟩ (.int .i64 (bits .and .i64 (y.f0.f1) 7)) = w101 at hn1 ⊢
       have HFF := Aside0.mk hn1
       clear hn1
       have c2 : w101.cell? ⟨wr.heap.size, 2, none⟩ = some (.int .i64 (y.f0.f2)) := HFF.out.cell 2
       have f2 := HFF.out.free 2
       go_upto_region 11 with fail
       have hn2 := HFF.out.put 2 (.int .i64 (bits .and .i64 (y.f0.f2) 7)) ⟨⟨1 + restP y.f0.f0 31, bits .and .i64 (y.f0.f1) 7, bits .and .i64 (y.f0.f2) 7, y.f0.f3, y.f0.f4, y.f0.f5, y.f0.f6, y.f0.f7⟩, y.f1⟩ rfl rfl
       clear c2 f2 HFF
       generalize w101.setCell ⟨wr.heap.size, 2, none⟩ (.int .i64 (bits .and .i64 (y.f0.f2) 7)) = w102 at hn2 ⊢
       have HFF := Aside0.mk hn2
       clear hn2
       have c3 : w102.cell? ⟨wr.heap.size, 3, none⟩ = some (.int .i64 (y.f0.f3)) := HFF.out.cell 3
       have f3 := HFF.out.free 3
       go_upto_region 12 with fail
       have hn3 := HFF.out.put 3 (.int .i64 (bits .and .i64 (y.f0.f3) 7)) ⟨⟨1 + restP y.f0.f0 31, bits .and .i64 (y.f0.f1) 7, bits .and .i64 (y.f0.f2) 7, bits .and .i64 (y.f0.f3) 7, y.f0.f4, y.f0.f5, y.f0.f6, y.f0.f7⟩, y.f1⟩ rfl rfl
       clear c3 f3 HFF
       generalize w102.setCell ⟨wr.heap.size, 3, none⟩ (.int .i64 (bits .and .i64 (y.f0.f3) 7)) = w103 at hn3 ⊢
       have HFF := Aside0.mk hn3
       clear hn3
       have c4 : w103.cell? ⟨wr.heap.size, 4, none⟩ = some (.int .i64 (y.f0.f4)) := HFF.out.cell 4
       have f4 := HFF.out.free 4
       go_upto_region 13 with fail
       have hn4 := HFF.out.put 4 (.int .i64 (bits .and .i64 (y.f0.f4) 7)) ⟨⟨1 + restP y.f0.f0 31, bits .and .i64 (y.f0.f1) 7, bits .and .i64 (y.f0.f2) 7, bits .and .i64 (y.f0.f3) 7, bits .and .i64 (y.f0.f4) 7, y.f0.f5, y.f0.f6, y.f0.f7⟩, y.f1⟩ rfl rfl
       clear c4 f4 HFF
       generalize w103.setCell ⟨wr.heap.size, 4, none⟩ (.int .i64 (bits .and .i64 (y.f0.f4) 7)) = w104 at hn4 ⊢
       have HFF := Aside0.mk hn4
       clear hn4
       have c5 : w104.cell? ⟨wr.heap.size, 5, none⟩ = some (.int .i64 (y.f0.f5)) := HFF.out.cell 5
       have f5 := HFF.out.free 5
       go_upto_region 14 with fail
       have hn5 := HFF.out.put 5 (.int .i64 (bits .and .i64 (y.f0.f5) 7)) ⟨⟨1 + restP y.f0.f0 31, bits .and .i64 (y.f0.f1) 7, bits .and .i64 (y.f0.f2) 7, bits .and .i64 (y.f0.f3) 7, bits .and .i64 (y.f0.f4) 7, bits .and .i64 (y.f0.f5) 7, y.f0.f6, y.f0.f7⟩, y.f1⟩ rfl rfl
       clear c5 f5 HFF
       generalize w104.setCell ⟨wr.heap.size, 5, none⟩ (.int .i64 (bits .and .i64 (y.f0.f5) 7)) = w105 at hn5 ⊢
       have HFF := Aside0.mk hn5
       clear hn5
       have c6 : w105.cell? ⟨wr.heap.size, 6, none⟩ = some (.int .i32 (y.f0.f6)) := HFF.out.cell 6
       have f6 := HFF.out.free 6
       go_upto_region 15 with fail
       have hn6 := HFF.out.put 6 (.int .i32 (bits .and .i32 (y.f0.f6) 7)) ⟨⟨1 + restP y.f0.f0 31, bits .and .i64 (y.f0.f1) 7, bits .and .i64 (y.f0.f2) 7, bits .and .i64 (y.f0.f3) 7, bits .and .i64 (y.f0.f4) 7, bits .and .i64 (y.f0.f5) 7, bits .and .i32 (y.f0.f6) 7, y.f0.f7⟩, y.f1⟩ rfl rfl
       clear c6 f6 HFF
       generalize w105.setCell ⟨wr.heap.size, 6, none⟩ (.int .i32 (bits .and .i32 (y.f0.f6) 7)) = w106 at hn6 ⊢
       have HFF := Aside0.mk hn6
       clear hn6
       have c0 : w106.cell? ⟨wr.heap.size, 0, none⟩ = some (.int .i64 (1 + restP y.f0.f0 31)) := HFF.out.cell 0
       by_cases h28 : 1 + restP y.f0.f0 31 = 28
       · have hb28 : (1 + restP y.f0.f0 31 == 28) = true := by simpa using h28
         have H28 := Aside0.mk h28
         clear h28
         go_upto_region 16 with fail
         have f1 := HFF.out.free 1
         have c1 : w106.cell? ⟨wr.heap.size, 1, none⟩ = some (.int .i64 (bits .and .i64 (y.f0.f1) 7)) := HFF.out.cell 1
         clear c0 hb28
         go_upto_region 17 with fail
         have hn7 := HFF.out.put 1 (.int .i64 0) ⟨⟨1 + restP y.f0.f0 31, 0, bits .and .i64 (y.f0.f2) 7, bits .and .i64 (y.f0.f3) 7, bits .and .i64 (y.f0.f4) 7, bits .and .i64 (y.f0.f5) 7, bits .and .i32 (y.f0.f6) 7, y.f0.f7⟩, y.f1⟩ rfl rfl
         clear f1 c1 HFF
         generalize w106.setCell ⟨wr.heap.size, 1, none⟩ (.int .i64 0) = w200 at hn7 ⊢
         have HFF := Aside0.mk hn7
         have f7 : (w200.alloc (.cells #[.int .i64 0, .int .i64 1] 3)).frozen? ⟨wr.heap.size, 7, none⟩ = false := (HFF.out.grow (below_alloc (Below.refl _ _) _)).free 7
         have c7' : (w200.alloc (.cells #[.int .i64 0, .int .i64 1] 3)).cell? ⟨wr.heap.size, 7, none⟩ = some v7 := (HFF.out.grow (below_alloc (Below.refl _ _) _)).cell 7
         have HR7 := Aside0.mk (show (Kd.int .i64).R 3 (w200.alloc (.cells #[.int .i64 0, .int .i64 1] 3)) (wr.heap.size + 1) (fun _ => True) (.slice (some ⟨w200.heap.size, 0, none⟩) 2 2) [0, 1] from Kd.R_of_own (by
          have h := World.ownsRow_lit (base := wr.heap.size + 1) (e := 3) (size := 1) w200 #[.int .i64 0, .int .i64 1] 2 (by have := blk_lt HFF.out.blk; omega) (by simp [maxLen]) (by simp)
          simpa [encs] using h) (fun _ _ => trivial))
         clear hn7; go_wp2
         go_meet
         case rel =>
          have e : fewX true x = ⟨⟨1 + restP y.f0.f0 31, 0, bits .and .i64 (y.f0.f2) 7, bits .and .i64 (y.f0.f3) 7, bits .and .i64 (y.f0.f4) 7, bits .and .i64 (y.f0.f5) 7, bits .and .i32 (y.f0.f6) 7, [0, 1]⟩, y.f1⟩ := by rw [show fewX true x = nearX y by rw [HY.out]; rfl]; unfold nearX; rw [if_pos H28.out, if_pos H28.out]
          rw [e]
          exact ⟨⟨_, (HFF.out.grow (below_alloc (Below.refl _ _) _)).put7 _ _ HR7.out rfl⟩⟩
       · have hb28 : (1 + restP y.f0.f0 31 == 28) = false := by simpa using h28
         have H28 := Aside0.mk h28
         clear h28; go_wp2
         go_meet
         case rel =>
          have e : fewX true x = ⟨⟨1 + restP y.f0.f0 31, bits .and .i64 (y.f0.f1) 7, bits .and .i64 (y.f0.f2) 7, bits .and .i64 (y.f0.f3) 7, bits .and .i64 (y.f0.f4) 7, bits .and .i64 (y.f0.f5) 7, bits .and .i32 (y.f0.f6) 7, y.f0.f7⟩, y.f1⟩ := by rw [show fewX true x = nearX y by rw [HY.out]; rfl]; unfold nearX; rw [if_neg H28.out, if_neg H28.out]
          rw [e]
          exact ⟨⟨v7, HFF.out⟩⟩
     case rest =>
      clear HF
      obtain ⟨v7, HF⟩ := hcut.out
      obtain ⟨y, hy⟩ : ∃ y, y = fewX near x := ⟨_, rfl⟩
      rw [← hy] at HF
      have HY := Aside0.mk hy
      have c0 : wc.cell? ⟨wr.heap.size, 0, none⟩ = some (.int .i64 y.f0.f0) := HF.cell 0
      have c1 : wc.cell? ⟨wr.heap.size, 1, none⟩ = some (.int .i64 y.f0.f1) := HF.cell 1
      have c2 : wc.cell? ⟨wr.heap.size, 2, none⟩ = some (.int .i64 y.f0.f2) := HF.cell 2
      have c3 : wc.cell? ⟨wr.heap.size, 3, none⟩ = some (.int .i64 y.f0.f3) := HF.cell 3
      have c4 : wc.cell? ⟨wr.heap.size, 4, none⟩ = some (.int .i64 y.f0.f4) := HF.cell 4
      have c5 : wc.cell? ⟨wr.heap.size, 5, none⟩ = some (.int .i64 y.f0.f5) := HF.cell 5
      have c6 : wc.cell? ⟨wr.heap.size, 6, none⟩ = some (.int .i32 y.f0.f6) := HF.cell 6
      have c7 : wc.cell? ⟨wr.heap.size, 7, none⟩ = some (v7) := HF.cell 7
      have c8 : wc.cell? ⟨wr.heap.size, 8, none⟩ = some (.int .i64 y.f1) := HF.cell 8
      have hlo := Kd.R_lt HO.out
      have HO2 := Aside0.mk (Kd.R_below HO.out HF.below)
      have HBw := Aside0.mk (below_then HB.out HB.out.size HF.below)
      have HM := Aside0.mk (k37_mkM wc w.heap.size (fun k' => True ∧ some k' ≠ (Value.slice Ao k co).ownBlock) y (Kd.R_lower (Kd.R_mono (Kd.R_bound HF.args) (fun k' hk' => ⟨trivial, fun he => by have := hlo k' he.symm; have := hk'.2.1; omega⟩)) (by have := HB.out.size; omega)))
      have hol : ((l.take k).map (fewX near)).length = k := by rw [List.length_map, List.length_take]; omega
      have HOL := Aside0.mk hol
      clear hlo hol HF hy hcut HO
      go_wp2_with (at_builtin; refine Kd.R_append k37 (w0 := w) w.heap.size rfl (.tmp 89) (.tmp 91) 22 37 _ 88 rfl Try.underlying22 info37f rfl (by decide) (by decide) (.slice Ao k co) ((l.take k).map (fewX near)) y _ (fun _ => True) (fun k' => True ∧ some k' ≠ (Value.slice Ao k co).ownBlock) rfl rfl HM.out (fun k' hk' => hk') (fun _ _ => trivial) HO2.out HBw.out HBw.out.size (by rw [HOL.out]; omega) ?_; intro v1 w9 ho9 hb9 hg9 hat9; have HB9 := Aside0.mk hb9; have HO9 := Aside0.mk ho9; clear ho9 hb9 hg9 hat9)
      obtain ⟨Av, cv, hv1, hcv, _⟩ := Kd.R_reads HO9.out
      have hvl : ((l.take k).map (fewX near) ++ [y]).length = k + 1 := by rw [List.length_append, HOL.out]; rfl
      rw [hvl] at hv1 hcv
      go_roundw
      case rel =>
       refine ⟨k + 1, by omega, by omega, by go_num, ⟨Av, cv, hv1, hcv⟩, HB9, ⟨?_⟩⟩
       rw [List.take_succ_eq_append_getElem hlt1, List.map_append, List.map_cons, List.map_nil]
       have : l[k] = x := by rw [Hx.out, List.getD_eq_getElem?_getD, List.getElem?_eq_getElem hlt1]; rfl
       rw [this, ← HY.out]
       exact HO9.out
      case measure => simp [intOf]; omega
  · have hfin : (l.take k).map (fewX near) = fewP near l := by
     unfold fewP
     by_cases hkl : k < l.length
     · rw [show k = 24 by omega]
     · rw [List.take_of_length_le (show l.length ≤ k by omega), List.take_of_length_le (show l.length ≤ 24 by omega)]
    rw [hfin] at HO
    clear hfin
    by_cases hkl : k < l.length
    · have hk2 : ¬ k < 24 := fun h => hlt ⟨hkl, h⟩
      clear hlt; go_wp2; go_ret
      exact ⟨_, rfl, HO.out, HB.out⟩
    · clear hlt
      go_wp2; go_ret
      exact ⟨_, rfl, HO.out, HB.out⟩
end Go.Proofs.Ytocndmielggnpaa.PAll
end
section
namespace Go.Proofs.Ytocndmielggnpaa.PAll
open Go.RowKit Go.Proofs.YtocndmielggnpaaW.PrintWords Go.Proofs.YtocndmielggnpaaW.PrintLast Go.Proofs.YtocndmielggnpaaW.PrintMore
def descP (d : De) : De := ⟨wrap64 (1 + restP d.mul 20), wrap64 (1 + restP d.dv 20), wrap64 (1 + restP d.ld 20), restP d.tk 21⟩
theorem desc_c (d : De) (w : World) : Calls Try.prog 12 #[.agg #[.int .i64 d.mul, .int .i64 d.dv, .int .i64 d.ld, .int .i64 d.tk]] w fun e w' =>
    e = .returned (.agg #[.int .i64 (descP d).mul, .int .i64 (descP d).dv, .int .i64 (descP d).ld, .int .i64 (descP d).tk]) ∧ Below w.heap.size w w' :=
 jacquardlaw16_desc.calls d.mul d.dv d.ld d.tk _ _ _ _ w rfl
theorem fewX_len (near : Bool) (x : S37) : (fewX near x).f0.f7.length ≤ 6 := by
 unfold fewX
 have h : (cutX x).f0.f7.length ≤ 6 := by show (x.f0.f7.take 6).length ≤ 6; rw [List.length_take]; omega
 split
 · unfold nearX
   show (if _ then [0, 1] else (cutX x).f0.f7 : List Int).length ≤ 6
   split
   · decide
   · exact h
 · exact h
theorem few_sh (near : Bool) (l : List S37) : Sh (fewP near l) := by
 unfold fewP
 refine ⟨by rw [List.length_map, List.length_take]; omega, ?_⟩
 intro x hx
 obtain ⟨y, _, rfl⟩ := List.mem_map.1 hx
 have := fewX_len near y
 omega
theorem few_len (near : Bool) (l : List S37) : (fewP near l).length ≤ 24 := by unfold fewP; rw [List.length_map, List.length_take]; omega
/-- A row, an end, a description, as they lie in memory. -/
structure Rw (w : World) (A : Option Addr) (c : Nat) (X : List S37) : Prop where
 le : X.length ≤ c
 reads : Kd.C k37 w A X.length X
theorem Rw.below {w w' : World} {A : Option Addr} {c : Nat} {X : List S37} (h : Rw w A c X) (hb : Below w.heap.size w w') : Rw w' A c X := ⟨h.le, Kd.C_below h.reads hb⟩
structure Ew (w : World) (A : Option Addr) (c : Nat) (t : List Int) : Prop where
 le : t.length ≤ c
 reads : (Kd.int .i64).C w A t.length t
theorem Ew.below {w w' : World} {A : Option Addr} {c : Nat} {t : List Int} (h : Ew w A c t) (hb : Below w.heap.size w w') : Ew w' A c t := ⟨h.le, Kd.C_below h.reads hb⟩
theorem Rw.of {base : Nat} {w : World} {v : Value} {X : List S37} (h : OutR base w v X) : ∃ A c, v = .slice A X.length c ∧ Rw w A c X := by
 obtain ⟨A, c, e, hc, hr⟩ := Kd.R_reads h
 exact ⟨A, c, e, hc, hr⟩
section
variable {A A1 : Option Addr} {c c1 : Nat} {X : List S37} {e : En} {w : World} (d : De)
theorem cyc_at (h : Rw w A c X) (he : Ew w A1 c1 e.tos) (hs : Sh X) : ∀ w', Below w.heap.size w w' → Calls Try.prog 10 #[.slice A X.length c, .agg #[.int .i64 e.op, .int .i64 e.a, .int .i64 e.b, .slice A1 e.tos.length c1, .int .i32 e.imm], .agg #[.int .i64 d.mul, .int .i64 d.dv, .int .i64 d.ld, .int .i64 d.tk]] w' fun en w'' => en = .returned (.int .i64 (cyP X e d)) ∧ Below w'.heap.size w' w'' := by
 intro w' hb
 exact cycles_calls A c X e A1 c1 d w' (h.below hb).reads h.le (he.below hb).reads he.le (by have := hs.1; omega) (few_of hs)
theorem blk_at (h : Rw w A c X) (he : Ew w A1 c1 e.tos) (hs : Sh X) : ∀ w', Below w.heap.size w w' → Calls Try.prog 15 #[.slice A X.length c, .agg #[.int .i64 e.op, .int .i64 e.a, .int .i64 e.b, .slice A1 e.tos.length c1, .int .i32 e.imm], .agg #[.int .i64 d.mul, .int .i64 d.dv, .int .i64 d.ld, .int .i64 d.tk]] w' fun en w'' => ∃ A2 c2, en = .returned (.slice A2 (blockP X e d).length c2) ∧ OutR w'.heap.size w'' (.slice A2 (blockP X e d).length c2) (blockP X e d) ∧ Below w'.heap.size w' w'' := by
 intro w' hb
 refine (block_calls A c X e A1 c1 d w' (h.below hb).reads h.le (he.below hb).reads he.le hs (safe_of hs)).mono ?_
 rintro en w'' ⟨v, rfl, hO, hb2⟩
 obtain ⟨A2, c2, rfl, _⟩ := Rw.of hO
 exact ⟨A2, c2, rfl, hO, hb2⟩
theorem few_at (h : Rw w A c X) (near : Bool) : ∀ w', Below w.heap.size w w' → Calls Try.prog 9 #[.slice A X.length c, .bool near] w' fun en w'' => ∃ A2 c2, en = .returned (.slice A2 (fewP near X).length c2) ∧ OutR w'.heap.size w'' (.slice A2 (fewP near X).length c2) (fewP near X) ∧ Below w'.heap.size w' w'' := by
 intro w' hb
 refine (few_calls A c X near w' (h.below hb).reads h.le).mono ?_
 rintro en w'' ⟨v, rfl, hO, hb2⟩
 obtain ⟨A2, c2, rfl, _⟩ := Rw.of hO
 exact ⟨A2, c2, rfl, hO, hb2⟩
end
theorem OutR.rw {base : Nat} {w w' : World} {A : Option Addr} {n c : Nat} {X : List S37} (h : OutR base w (.slice A n c) X) (hb : Below w.heap.size w w') : Rw w' A c X := by
 obtain ⟨A', c', e, hr⟩ := Rw.of h
 injection e with e1 e2 e3
 subst e1 e3
 exact hr.below hb
end Go.Proofs.Ytocndmielggnpaa.PAll
end
section
namespace Go.Proofs.Ytocndmielggnpaa.PAll
open Go.RowKit Go.Proofs.YtocndmielggnpaaW.PrintWords Go.Proofs.YtocndmielggnpaaW.PrintLast Go.Proofs.YtocndmielggnpaaW.PrintMore
def dl (n : Int) : List Int := [(IntKind.u64.wrap (48 + Int.tmod n 10)) % 256]
/-- The digits of n ahead of s. -/
def dgl : Nat → Int → ByteArray → ByteArray
 | 0, _, s => s
 | m + 1, n, s => if 0 < n ∨ s.toList = [] then dgl m (IntKind.u64.wrap (Int.tdiv n 10)) (strOfNums (dl n) ++ s) else s
def dg (a : Int) : ByteArray :=
 (if a < 0 then (⟨#[45]⟩ : ByteArray) ++ dgl 20 (IntKind.u64.wrap (-(IntKind.u64.wrap a))) ⟨#[]⟩ else dgl 20 (IntKind.u64.wrap a) ⟨#[]⟩) ++ (⟨#[32]⟩ : ByteArray)
def jacquardref07_digits.f (a0 : Int) : Option ByteArray := some (dg a0)
theorem dl_size (n : Int) : (strOfNums (dl n)).size = 1 := (strOfNums_size (dl n)).trans (by unfold dl; rfl)
theorem bt_size (s t : ByteArray) : (s ++ t).size = s.size + t.size := ByteArray.size_append
theorem bt_nil {s : ByteArray} (h : s.toList = []) : s.size = 0 := by
 have : s.toList.length = s.size := by simp only [ByteArray.toList_eq, ByteArray.size, Array.length_toList]
 rw [← this, h]; rfl
theorem u64_bd (n : Int) : 0 ≤ IntKind.u64.wrap n ∧ IntKind.u64.wrap n < 18446744073709551616 := by
 constructor
 · exact Int.emod_nonneg _ (by decide)
 · exact Int.emod_lt_of_pos _ (by decide)
theorem dgl_end (m : Nat) (n : Int) (s : ByteArray) (h : ¬ (0 < n ∨ s.toList = [])) : dgl m n s = s := by
 cases m with
 | zero => rfl
 | succ m => simp only [dgl, if_neg h]
theorem dgl_size : ∀ (m : Nat) (n : Int) (s : ByteArray), (dgl m n s).size ≤ s.size + m
 | 0, _, _ => by simp [dgl]
 | m + 1, n, s => by
  unfold dgl; split
  · have := dgl_size m (IntKind.u64.wrap (Int.tdiv n 10)) (strOfNums (dl n) ++ s)
    rw [bt_size, dl_size] at this; omega
  · omega
theorem dg_size (a : Int) : (dg a).size ≤ 22 := by
 unfold dg; rw [bt_size]
 have e32 : (⟨#[32]⟩ : ByteArray).size = 1 := rfl
 have e45 : (⟨#[45]⟩ : ByteArray).size = 1 := rfl
 have e0 : (⟨#[]⟩ : ByteArray).size = 0 := rfl
 split
 · rw [bt_size]
   have := dgl_size 20 (IntKind.u64.wrap (-(IntKind.u64.wrap a))) ⟨#[]⟩
   omega
 · have := dgl_size 20 (IntKind.u64.wrap a) ⟨#[]⟩
   omega
structure DgI (n0 : Int) (m : Nat) (n : Int) (s : ByteArray) : Prop where
 lo : 0 ≤ n
 hi : n < (10 : Int) ^ m
 ne : s.toList = [] → 1 ≤ m
 sz : s.size + m ≤ 20
 eq : dgl m n s = dgl 20 n0 ⟨#[]⟩
theorem DgI.start {n0 : Int} (h : 0 ≤ n0 ∧ n0 < 18446744073709551616) : DgI n0 20 n0 ⟨#[]⟩ :=
 ⟨h.1, by have e : (10 : Int) ^ 20 = 100000000000000000000 := by decide
          rw [e]; omega, fun _ => by decide, by decide, rfl⟩
theorem DgI.step {n0 : Int} {m : Nat} {n : Int} {s : ByteArray} (h : DgI n0 m n s) (hc : 0 < n ∨ s.toList = []) :
    ∃ m', m = m' + 1 ∧ DgI n0 m' (IntKind.u64.wrap (Int.tdiv n 10)) (strOfNums (dl n) ++ s) := by
 obtain ⟨lo, hi, ne, sz, eq⟩ := h
 cases m with
 | zero =>
  rcases hc with hc | hc
  · simp at hi; omega
  · have := ne hc; omega
 | succ m =>
  refine ⟨m, rfl, ?_⟩
  have e10 : (10 : Int) ^ (m + 1) = 10 ^ m * 10 := Int.pow_succ _ _
  have et : Int.tdiv n 10 = n / 10 := Int.tdiv_eq_ediv_of_nonneg lo
  have hb : (10 : Int) ^ m ≤ 10 ^ 19 := by
   have : m ≤ 19 := by omega
   have := Nat.pow_le_pow_right (n := 10) (by decide) this
   exact_mod_cast this
  have e19 : (10 : Int) ^ 19 = 10000000000000000000 := by decide
  have hq : n / 10 < 10 ^ m := by rw [e10] at hi; omega
  have ew : IntKind.u64.wrap (Int.tdiv n 10) = n / 10 := by
   rw [et]; show (n / 10) % _ = _
   apply Int.emod_eq_of_lt
   · omega
   · show n / 10 < 18446744073709551616
     omega
  refine ⟨by rw [ew]; omega, by rw [ew]; exact hq, ?_, ?_, ?_⟩
  · intro hn; have := bt_nil hn; rw [bt_size, dl_size] at this; omega
  · rw [bt_size, dl_size]; omega
  · rw [← eq]; simp only [dgl, if_pos hc]
set_option maxHeartbeats 8000000 in
set_option maxRecDepth 100000 in
theorem jacquardref07_digits.calls (a0 : Int) (r : ByteArray) (w : World) (h : jacquardref07_digits.f a0 = some r) :
    Calls Try.prog 41 #[.int .i64 a0] w fun e w' => e = .returned (.string r) ∧ Below w.heap.size w w' := by
 obtain rfl := Option.some.inj h
 have HB := Aside0.mk (Below.refl w.heap.size w)
 obtain ⟨n0, hn0⟩ : ∃ n0 : Int, n0 = if a0 < 0 then IntKind.u64.wrap (-(IntKind.u64.wrap a0)) else IntKind.u64.wrap a0 := ⟨_, rfl⟩
 have hb0 : 0 ≤ n0 ∧ n0 < 18446744073709551616 := by rw [hn0]; split <;> exact u64_bd _
 go_enter Try.func41, Try.ntmps41
 go_upto_if 8 with (fail)
 go_cut [4] (fun v4 wc => v4 = .int .u64 n0 ∧ Aside0 (Below w.heap.size w wc))
 case first =>
  by_cases c3 : a0 < 0
  · have c3b0 : decide (a0 < 0) = true := decide_eq_true c3
    rw [if_pos c3] at hn0
    (first | rw [c3b0] | (simp only [i64_w, i32_w]; rw [c3b0]) | skip)
    go_wp2
    go_meet
    case rel => exact ⟨by rw [hn0], HB⟩
  · have c3b0 : decide (a0 < 0) = false := decide_eq_false c3
    rw [if_neg c3] at hn0
    (first | rw [c3b0] | (simp only [i64_w, i32_w]; rw [c3b0]) | skip)
    go_wp2
    go_meet
    case rel => exact ⟨by rw [hn0], HB⟩
 case rest =>
  obtain ⟨rfl, HB⟩ := hcut
  go_wp2
  go_loopg [3, 4] 20 (fun kq v3 v4 w' => ∃ (s : ByteArray) (n : Int), v3 = .string s ∧ v4 = .int .u64 n ∧ Aside0 (DgI n0 kq n s) ∧ Aside0 (Below w.heap.size w w'))
  case atStart => exact ⟨⟨#[]⟩, n0, rfl, rfl, ⟨DgI.start hb0⟩, HB⟩
  case round =>
   clear HB
   obtain ⟨s, n, rfl, rfl, HA, HB⟩ := hrel
   by_cases hc : 0 < n ∨ s.toList = []
   · obtain ⟨m', rfl, HI⟩ := HA.out.step hc
     have hsz : (strOfNums (dl n)).size + s.size ≤ 9223372036854775807 := by have := HI.sz; rw [bt_size] at this; omega
     have HI := Aside0.mk HI
     have Ny := Aside0.mk (show dl n = ([(IntKind.u64.wrap (48 + (Int.tmod n 10))) % 256] : List Int) from rfl)
     have c5b0 := eq_true hsz
     have c5b1 := decide_eq_true hsz
     have c5b2 : (9223372036854775807 < (strOfNums (dl n)).size + s.size) = False := eq_false (Nat.not_lt.2 hsz)
     by_cases c4 : 0 < n
     · have c4b0 : decide (0 < n) = true := decide_eq_true c4
       clear hc c4 hsz
       go_wp2_with (first | ((with_reducible refine gate_dst (N := 21) rfl ?_); refine Kd.R_lit (Kd.int .u8) _ 5 ?hg (N := 21) ?hd (xs := ([(IntKind.u64.wrap (48 + (Int.tmod n 10))) % 256] : List Int)) (inner := [.int .u8 ((IntKind.u64.wrap (48 + (Int.tmod n 10))) % 256)]) (ok := fun _ => True) (okp := fun _ => True) ?hr ?hp (fun _ hk => hk) trivial (Below.refl _ _) (Nat.le_refl _) (by simp) ?_; (case hd => rfl); (case hg => rfl); (case hr => first | (go_simp; done) | (go_simp; rfl)); (case hp => exact (Reps.one (show Kd.M (Kd.int .u8) _ _ _ ((IntKind.u64.wrap (48 + (Int.tmod n 10))) % 256) [.int .u8 ((IntKind.u64.wrap (48 + (Int.tmod n 10))) % 256)] from rfl) (Reps.none _ _))); intro v332 w11 ho12 hb hg_ hnew_; clear hg_ hnew_; (first | rw [← Ny.out] at ho12 | (simp only [Int.reduceToNat] at ho12; rw [← Ny.out] at ho12)); have n0_ := Aside0.mk (Kd.R_lower ho12 (below_size (by repeat (first | (with_reducible first | exact HB.out | apply below_alloc | apply pw_below_drewN | apply below_drew1) | exact HB.out)))); have n1_ := Aside0.mk (below_step (by repeat (first | (with_reducible first | exact HB.out | apply below_alloc | apply pw_below_drewN | apply below_drew1) | exact HB.out)) hb); clear HB; have HO333 := n0_; have HB := n1_; clear n0_ n1_; clear hb ho12; have hcv13 := own_string (P := Try.prog) Try.underlying43 Try.underlying5 Try.underlying9 (Kd.own_of_R HO333.out)))
       go_roundg m'
       case measure => omega
       case rel => exact ⟨_, _, rfl, rfl, HI, HB⟩
     · have c4b0 : decide (0 < n) = false := decide_eq_false c4
       have c9 : s.toList = [] := hc.resolve_left c4
       have c9b0 : (s.toList == ([] : List UInt8)) = true := beq_iff_eq.mpr c9
       have c9b1 : (s.toList != ([] : List UInt8)) = false := bne_eq_false_iff_eq.mpr c9
       clear c9 hc c4 hsz
       go_wp2_with (first | ((with_reducible refine gate_dst (N := 21) rfl ?_); refine Kd.R_lit (Kd.int .u8) _ 5 ?hg (N := 21) ?hd (xs := ([(IntKind.u64.wrap (48 + (Int.tmod n 10))) % 256] : List Int)) (inner := [.int .u8 ((IntKind.u64.wrap (48 + (Int.tmod n 10))) % 256)]) (ok := fun _ => True) (okp := fun _ => True) ?hr ?hp (fun _ hk => hk) trivial (Below.refl _ _) (Nat.le_refl _) (by simp) ?_; (case hd => rfl); (case hg => rfl); (case hr => first | (go_simp; done) | (go_simp; rfl)); (case hp => exact (Reps.one (show Kd.M (Kd.int .u8) _ _ _ ((IntKind.u64.wrap (48 + (Int.tmod n 10))) % 256) [.int .u8 ((IntKind.u64.wrap (48 + (Int.tmod n 10))) % 256)] from rfl) (Reps.none _ _))); intro v332 w11 ho12 hb hg_ hnew_; clear hg_ hnew_; (first | rw [← Ny.out] at ho12 | (simp only [Int.reduceToNat] at ho12; rw [← Ny.out] at ho12)); have n0_ := Aside0.mk (Kd.R_lower ho12 (below_size (by repeat (first | (with_reducible first | exact HB.out | apply below_alloc | apply pw_below_drewN | apply below_drew1) | exact HB.out)))); have n1_ := Aside0.mk (below_step (by repeat (first | (with_reducible first | exact HB.out | apply below_alloc | apply pw_below_drewN | apply below_drew1) | exact HB.out)) hb); clear HB; have HO333 := n0_; have HB := n1_; clear n0_ n1_; clear hb ho12; have hcv13 := own_string (P := Try.prog) Try.underlying43 Try.underlying5 Try.underlying9 (Kd.own_of_R HO333.out)))
       go_roundg m'
       case measure => omega
       case rel => exact ⟨_, _, rfl, rfl, HI, HB⟩
   · have hs := HA.out.eq
     rw [dgl_end _ _ _ hc] at hs
     have hz := dgl_size 20 n0 ⟨#[]⟩
     rw [← hs] at hz
     have c4b0 : decide (0 < n) = false := decide_eq_false (fun c => hc (Or.inl c))
     have c9 : ¬ s.toList = [] := fun c => hc (Or.inr c)
     have c9b0 : (s.toList == ([] : List UInt8)) = false := beq_eq_false_iff_ne.mpr c9
     have c9b1 : (s.toList != ([] : List UInt8)) = true := bne_iff_ne.mpr c9
     have hz' : s.size ≤ 20 := hz
     clear hz hc
     by_cases c14 : a0 < 0
     · have c14b0 : decide (a0 < 0) = true := decide_eq_true c14
       have hd : dg a0 = ((⟨#[45]⟩ : ByteArray) ++ s) ++ (⟨#[32]⟩ : ByteArray) := by
        unfold dg; rw [if_pos c14]; rw [if_pos c14] at hn0; rw [← hn0, ← hs]
       replace hd := Aside0.mk hd
       clear hs hn0 hb0 c14
       have c15 : (⟨#[45]⟩ : ByteArray).size + s.size ≤ 9223372036854775807 := by show 1 + s.size ≤ _; omega
       have c16 : ((⟨#[45]⟩ : ByteArray) ++ s).size + 1 ≤ 9223372036854775807 := by rw [bt_size]; show 1 + s.size + 1 ≤ _; omega
       have c15b0 := eq_true c15
       have c15b1 : decide (1 + s.size ≤ 9223372036854775807) = true := decide_eq_true c15
       have c15b2 : (9223372036854775807 < 1 + s.size) = False := eq_false (Nat.not_lt.2 c15)
       have c16b0 := eq_true c16
       have c16b1 := decide_eq_true c16
       have c16b2 : (9223372036854775807 < 1 + s.size + 1) = False := eq_false (Nat.not_lt.2 (by rw [bt_size] at c16; exact c16))
       clear hz' c9; go_wp2; go_ret
       exact ⟨by rw [hd.out]; rfl, HB.out⟩
     · have c14b0 : decide (a0 < 0) = false := decide_eq_false c14
       have hd : dg a0 = s ++ (⟨#[32]⟩ : ByteArray) := by
        unfold dg; rw [if_neg c14]; rw [if_neg c14] at hn0; rw [← hn0, ← hs]
       replace hd := Aside0.mk hd
       clear hs hn0 hb0 c14
       have c17 : s.size + 1 ≤ 9223372036854775807 := by omega
       have c17b0 := eq_true c17
       have c17b1 := decide_eq_true c17
       have c17b2 : (9223372036854775807 < s.size + 1) = False := eq_false (Nat.not_lt.2 c17)
       clear hz' c9; go_wp2; go_ret
       exact ⟨by rw [hd.out]; rfl, HB.out⟩
end Go.Proofs.Ytocndmielggnpaa.PAll
end
section
namespace Go.Proofs.Ytocndmielggnpaa.PAll
open Go.RowKit Go.Proofs.YtocndmielggnpaaW.PrintWords Go.Proofs.YtocndmielggnpaaW.PrintLast Go.Proofs.YtocndmielggnpaaW.PrintMore
attribute [local go_sem] max2_int min2_int max_two min_two max_three min_three max_four min_four   -- for this text's walks alone
def jacquardref07_row.l0 : Nat → List Int → ByteArray → Int → Option (ByteArray)
 | 0, _, _, _ => none
 | k + 1, x0, x3, x4 => if x4 < (x0.length : Int) then (if 0 ≤ x4 then ((jacquardref07_digits.f (rd x0 x4)).bind fun t103 => (if x3.size + t103.size ≤ 9223372036854775807 then (jacquardref07_row.l0 k x0 (x3 ++ t103) (wrap64 (x4 + 1))) else (none))) else (none)) else (some x3)
def jacquardref07_row.f (k : Nat) (l0 : List Int) : Option (ByteArray) := (jacquardref07_digits.f (l0.length : Int)).bind fun t101 => (jacquardref07_row.l0 k l0 t101 0)
set_option maxHeartbeats 8000000 in
set_option maxRecDepth 100000 in
theorem jacquardref07_row.calls (k : Nat) (A0 : Option Addr) (c0 : Nat) (l0 : List Int) (r : ByteArray) (w : World) (hr0 : Kd.C (Kd.int .i64) w A0 l0.length l0) (hc0 : l0.length ≤ c0) (h : jacquardref07_row.f k l0 = some r) :
    Calls Try.prog 42 #[.slice A0 l0.length c0] w fun e w' => e = .returned (.string r) ∧ Below w.heap.size w w' := by
 have HR0 := Aside0.mk hr0
 have HC0 := Aside0.mk hc0
 clear hr0 hc0
 have HB := Aside0.mk (Below.refl w.heap.size w)
 have H : ((jacquardref07_digits.f (l0.length : Int)).bind fun t101 => (jacquardref07_row.l0 k l0 t101 0)) = some r := h
 clear h
 replace H := Option.bind_eq_some_iff.mp H
 obtain ⟨t101, A20, H⟩ := H
 replace H : (jacquardref07_row.l0 k l0 t101 0) = some r := H
 have A2 := Aside0.mk A20
 clear A20
 have H' := Aside0.mk H
 clear H
 go_enter Try.func42, Try.ntmps42
 go_wp2_with (first | ((with_reducible refine gate_callee (f := 41) rfl ?_); refine goesL_ (some 7) rfl rfl Try.func41 (by kernel_rfl) rfl #[.int .i64 (l0.length : Int)] rfl (by (try simp only [List.map_toArray, List.map_cons, List.map_nil]); first | done | rfl | (simp only [List.length_drop, List.length_take]; rfl)) ?_; (with_reducible refine (jacquardref07_digits.calls (l0.length : Int) t101 _ A2.out).mono ?_); rintro e w3 ⟨rfl, hb⟩; refine ⟨_, rfl, ?_⟩; have n0_ := Aside0.mk (below_step (by repeat (first | (with_reducible first | exact HB.out | apply below_alloc | apply pw_below_drewN | apply below_drew1) | exact HB.out)) hb); clear HB; have HB := n0_; clear n0_; (try clear hb); (try clear hb2); (try clear hk); (try clear hi)))
 go_loopg [3, 4] k (fun kq v3 v4 w' => ∃ (x3_1 : ByteArray) (x4_1 : Int), v3 = .string x3_1 ∧ v4 = .int .i64 x4_1 ∧ Aside0 (jacquardref07_row.l0 kq l0 x3_1 x4_1 = some r) ∧ Aside0 (kq ≤ k) ∧ Aside0 (Below w.heap.size w w'))
 case atStart => exact ⟨(t101), (0), (by first | rfl | (simp; done) | (simp [*]; done)), (by first | rfl | (simp; done) | (simp [*]; done)), H', ⟨Nat.le_refl _⟩, ⟨by repeat (first | (with_reducible first | exact HB.out | apply below_alloc | apply pw_below_drewN | apply below_drew1) | exact HB.out)⟩⟩
 case round =>
  clear H'
  (try clear p2)
  obtain ⟨x3_1, x4_1, rfl, rfl, HA, HK1, HB⟩ := hrel
  cases gk with
  | zero => exact absurd HA.out (by simp [jacquardref07_row.l0])
  | succ k1 =>
   have H := HA.out
   clear HA
   simp only [jacquardref07_row.l0] at H
   by_cases c4 : x4_1 < (l0.length : Int)
   · rw [if_pos c4] at H
     have c4b0 : decide (x4_1 < (l0.length : Int)) = true := decide_eq_true c4
     clear c4
     by_cases c5 : 0 ≤ x4_1
     · rw [if_pos c5] at H
       have c5b0 : decide (0 ≤ x4_1) = true := decide_eq_true c5
       clear c5
       replace H := Option.bind_eq_some_iff.mp H
       obtain ⟨t103, A60, H⟩ := H
       replace H : (if x3_1.size + t103.size ≤ 9223372036854775807 then (jacquardref07_row.l0 k1 l0 (x3_1 ++ t103) (wrap64 (x4_1 + 1))) else (none)) = some r := H
       have A6 := Aside0.mk A60
       clear A60
       by_cases c7 : x3_1.size + t103.size ≤ 9223372036854775807
       · rw [if_pos c7] at H
         have c7b0 := eq_true c7
         have c7b1 : decide (x3_1.size + t103.size ≤ 9223372036854775807) = true := decide_eq_true c7
         try have c7b2 : (9223372036854775807 < x3_1.size + t103.size) = False := eq_false (Nat.not_lt.2 c7)
         have H' := Aside0.mk H
         clear H
         have p102 : 0 ≤ (x4_1 : Int) := of_decide_eq_true (by first | (with_reducible assumption) | assumption)
         have q102 : x4_1 < (l0.length : Int) := of_decide_eq_true (by first | (with_reducible assumption) | assumption)
         obtain ⟨ad102, e102, hx102_0⟩ := Kd.at_int HR0.out x4_1 p102 q102
         cases e102
         replace hx102_0 := (HB.out.cell (World.block_lt_of_cell? w _ hx102_0)).trans hx102_0
         replace p102 := eq_true p102
         replace q102 := eq_true q102
         go_wp2_with (first | ((with_reducible refine gate_callee (f := 41) rfl ?_); refine goesL_ (some 19) rfl rfl Try.func41 (by kernel_rfl) rfl #[.int .i64 (rd l0 x4_1)] rfl (by (try simp only [List.map_toArray, List.map_cons, List.map_nil]); first | done | rfl | (simp only [List.length_drop, List.length_take]; rfl)) ?_; (with_reducible refine (jacquardref07_digits.calls (rd l0 x4_1) t103 _ A6.out).mono ?_); rintro e w8 ⟨rfl, hb⟩; refine ⟨_, rfl, ?_⟩; have n0_ := Aside0.mk (below_step (by repeat (first | (with_reducible first | exact HB.out | apply below_alloc | apply pw_below_drewN | apply below_drew1) | exact HB.out)) hb); clear HB; have HB := n0_; clear n0_; (try clear hb); (try clear hb2); (try clear hk); (try clear hi)))
         go_roundg k1
         case measure => have := HK1.out; omega
         case rel => exact ⟨(x3_1 ++ t103), (wrap64 (x4_1 + 1)), (by first | rfl | (simp; done) | (simp [*]; done)), (by first | rfl | (simp; done) | (simp [*]; done)), H', ⟨by have := HK1.out; omega⟩, ⟨by repeat (first | (with_reducible first | exact HB.out | apply below_alloc | apply pw_below_drewN | apply below_drew1) | exact HB.out)⟩⟩
       · rw [if_neg c7] at H
         exact absurd H (by simp)
     · rw [if_neg c5] at H
       exact absurd H (by simp)
   · rw [if_neg c4] at H
     have c4b0 : decide (x4_1 < (l0.length : Int)) = false := decide_eq_false c4
     clear c4
     obtain rfl := Option.some.inj H
     go_wp2; go_ret
     exact ⟨by first | rfl | (simp [errW_none, errW_some] <;> rfl) | (simp [*, errW_none, errW_some] <;> rfl), by repeat (first | (with_reducible first | exact HB.out | apply below_alloc | apply pw_below_drewN | apply below_drew1) | exact HB.out)⟩
def jacquardref07_PrintIns.f (k : Nat) (a0_0 : Int) (a0_1 : Int) (a0_2 : Int) (a0_3 : Int) (a0_4 : Int) (a0_5 : Int) (a0_6 : Int) (l0_7 : List Int) : Option (ByteArray) := (jacquardref07_digits.f a0_0).bind fun t105 => ((jacquardref07_digits.f a0_1).bind fun t106 => (if t105.size + t106.size ≤ 9223372036854775807 then ((jacquardref07_digits.f a0_2).bind fun t107 => (if (t105 ++ t106).size + t107.size ≤ 9223372036854775807 then ((jacquardref07_digits.f a0_3).bind fun t108 => (if ((t105 ++ t106) ++ t107).size + t108.size ≤ 9223372036854775807 then ((jacquardref07_digits.f a0_4).bind fun t109 => (if (((t105 ++ t106) ++ t107) ++ t108).size + t109.size ≤ 9223372036854775807 then ((jacquardref07_digits.f a0_5).bind fun t110 => (if ((((t105 ++ t106) ++ t107) ++ t108) ++ t109).size + t110.size ≤ 9223372036854775807 then ((jacquardref07_digits.f (wrap64 (a0_6))).bind fun t111 => (if (((((t105 ++ t106) ++ t107) ++ t108) ++ t109) ++ t110).size + t111.size ≤ 9223372036854775807 then ((jacquardref07_row.f k l0_7).bind fun t112 => (if ((((((t105 ++ t106) ++ t107) ++ t108) ++ t109) ++ t110) ++ t111).size + t112.size ≤ 9223372036854775807 then (some (((((((t105 ++ t106) ++ t107) ++ t108) ++ t109) ++ t110) ++ t111) ++ t112)) else (none))) else (none))) else (none))) else (none))) else (none))) else (none))) else (none)))
def jacquardref07_PrintIns.T1 : Bool × List (List Nat × List Nat) := (true, [([], []), ([0], [0]), ([1], [1]), ([], []), ([3], [3]), ([4, 2], [4]), ([2, 5], [2, 5]), ([], []), ([7], [7]), ([8, 5], [8]), ([6, 9], [6, 9]), ([], []), ([11], [11]), ([12, 9], [12]), ([10, 13], [10, 13]), ([], []), ([15], [15]), ([16, 13], [16]), ([14, 17], [14, 17]), ([], []), ([19], [19]), ([20, 17], [20]), ([18, 21], [18, 21]), ([], []), ([23], [23]), ([24], [24]), ([25, 21], [25]), ([22, 26], [22, 26]), ([], []), ([28], [28]), ([29, 26], [29]), ([27, 30], [27, 30]), ([31, 30, 0, 1, 2, 3, 4, 5, 6, 7, 8, 9, 10, 11, 12, 13, 14, 15, 16, 17, 18, 19, 20, 21, 22, 23, 24, 25, 26, 27, 28, 29, 30, 31], [31])])
def jacquardref07_PrintIns.B1 : List Nat := [0, 1, 3, 0, 8, 31, 63, 0, 128, 447, 1023, 0, 2048, 7103, 16383, 0, 32768, 113599, 262143, 0, 524288, 1817535, 4194303, 0, 8388608, 25165824, 62634943, 134217727, 0, 268435456, 935050175, 2147483647, 4294967295]
theorem jacquardref07_PrintIns.tab1 : rtab .any (opsOf Try.f17 1) = jacquardref07_PrintIns.T1 := by kernel_rfl
theorem jacquardref07_PrintIns.bits1 : waitsOk jacquardref07_PrintIns.T1.2 jacquardref07_PrintIns.B1 = true := by kernel_rfl
set_option maxHeartbeats 8000000 in
set_option maxRecDepth 100000 in
theorem jacquardref07_PrintIns.calls (k : Nat) (a0_0 : Int) (a0_1 : Int) (a0_2 : Int) (a0_3 : Int) (a0_4 : Int) (a0_5 : Int) (a0_6 : Int) (A0_7 : Option Addr) (c0_7 : Nat) (l0_7 : List Int) (r : ByteArray) (w : World) (hr0_7 : Kd.C (Kd.int .i64) w A0_7 l0_7.length l0_7) (hc0_7 : l0_7.length ≤ c0_7) (h : jacquardref07_PrintIns.f k a0_0 a0_1 a0_2 a0_3 a0_4 a0_5 a0_6 l0_7 = some r) :
    Calls Try.prog 17 #[.agg #[.int .i64 a0_0, .int .i64 a0_1, .int .i64 a0_2, .int .i64 a0_3, .int .i64 a0_4, .int .i64 a0_5, .int .i32 a0_6, .slice A0_7 l0_7.length c0_7]] w fun e w' => e = .returned (.string r) ∧ Below w.heap.size w w' := by
 have hu35 := Try.underlying35
 have HR0_7 := Aside0.mk hr0_7
 have HC0_7 := Aside0.mk hc0_7
 clear hr0_7 hc0_7
 have HB := Aside0.mk (Below.refl w.heap.size w)
 have H : ((jacquardref07_digits.f a0_0).bind fun t105 => ((jacquardref07_digits.f a0_1).bind fun t106 => (if t105.size + t106.size ≤ 9223372036854775807 then ((jacquardref07_digits.f a0_2).bind fun t107 => (if (t105 ++ t106).size + t107.size ≤ 9223372036854775807 then ((jacquardref07_digits.f a0_3).bind fun t108 => (if ((t105 ++ t106) ++ t107).size + t108.size ≤ 9223372036854775807 then ((jacquardref07_digits.f a0_4).bind fun t109 => (if (((t105 ++ t106) ++ t107) ++ t108).size + t109.size ≤ 9223372036854775807 then ((jacquardref07_digits.f a0_5).bind fun t110 => (if ((((t105 ++ t106) ++ t107) ++ t108) ++ t109).size + t110.size ≤ 9223372036854775807 then ((jacquardref07_digits.f (wrap64 (a0_6))).bind fun t111 => (if (((((t105 ++ t106) ++ t107) ++ t108) ++ t109) ++ t110).size + t111.size ≤ 9223372036854775807 then ((jacquardref07_row.f k l0_7).bind fun t112 => (if ((((((t105 ++ t106) ++ t107) ++ t108) ++ t109) ++ t110) ++ t111).size + t112.size ≤ 9223372036854775807 then (some (((((((t105 ++ t106) ++ t107) ++ t108) ++ t109) ++ t110) ++ t111) ++ t112)) else (none))) else (none))) else (none))) else (none))) else (none))) else (none))) else (none)))) = some r := h
 clear h
 replace H := Option.bind_eq_some_iff.mp H
 obtain ⟨t105, A20, H⟩ := H
 replace H : ((jacquardref07_digits.f a0_1).bind fun t106 => (if t105.size + t106.size ≤ 9223372036854775807 then ((jacquardref07_digits.f a0_2).bind fun t107 => (if (t105 ++ t106).size + t107.size ≤ 9223372036854775807 then ((jacquardref07_digits.f a0_3).bind fun t108 => (if ((t105 ++ t106) ++ t107).size + t108.size ≤ 9223372036854775807 then ((jacquardref07_digits.f a0_4).bind fun t109 => (if (((t105 ++ t106) ++ t107) ++ t108).size + t109.size ≤ 9223372036854775807 then ((jacquardref07_digits.f a0_5).bind fun t110 => (if ((((t105 ++ t106) ++ t107) ++ t108) ++ t109).size + t110.size ≤ 9223372036854775807 then ((jacquardref07_digits.f (wrap64 (a0_6))).bind fun t111 => (if (((((t105 ++ t106) ++ t107) ++ t108) ++ t109) ++ t110).size + t111.size ≤ 9223372036854775807 then ((jacquardref07_row.f k l0_7).bind fun t112 => (if ((((((t105 ++ t106) ++ t107) ++ t108) ++ t109) ++ t110) ++ t111).size + t112.size ≤ 9223372036854775807 then (some (((((((t105 ++ t106) ++ t107) ++ t108) ++ t109) ++ t110) ++ t111) ++ t112)) else (none))) else (none))) else (none))) else (none))) else (none))) else (none))) else (none))) = some r := H
 have A2 := Aside0.mk A20
 clear A20
 replace H := Option.bind_eq_some_iff.mp H
 obtain ⟨t106, A30, H⟩ := H
 replace H : (if t105.size + t106.size ≤ 9223372036854775807 then ((jacquardref07_digits.f a0_2).bind fun t107 => (if (t105 ++ t106).size + t107.size ≤ 9223372036854775807 then ((jacquardref07_digits.f a0_3).bind fun t108 => (if ((t105 ++ t106) ++ t107).size + t108.size ≤ 9223372036854775807 then ((jacquardref07_digits.f a0_4).bind fun t109 => (if (((t105 ++ t106) ++ t107) ++ t108).size + t109.size ≤ 9223372036854775807 then ((jacquardref07_digits.f a0_5).bind fun t110 => (if ((((t105 ++ t106) ++ t107) ++ t108) ++ t109).size + t110.size ≤ 9223372036854775807 then ((jacquardref07_digits.f (wrap64 (a0_6))).bind fun t111 => (if (((((t105 ++ t106) ++ t107) ++ t108) ++ t109) ++ t110).size + t111.size ≤ 9223372036854775807 then ((jacquardref07_row.f k l0_7).bind fun t112 => (if ((((((t105 ++ t106) ++ t107) ++ t108) ++ t109) ++ t110) ++ t111).size + t112.size ≤ 9223372036854775807 then (some (((((((t105 ++ t106) ++ t107) ++ t108) ++ t109) ++ t110) ++ t111) ++ t112)) else (none))) else (none))) else (none))) else (none))) else (none))) else (none))) else (none)) = some r := H
 have A3 := Aside0.mk A30
 clear A30
 by_cases c4 : t105.size + t106.size ≤ 9223372036854775807
 · rw [if_pos c4] at H
   have c4b0 := eq_true c4
   have c4b1 : decide (t105.size + t106.size ≤ 9223372036854775807) = true := decide_eq_true c4
   try have c4b2 : (9223372036854775807 < t105.size + t106.size) = False := eq_false (Nat.not_lt.2 c4)
   replace H := Option.bind_eq_some_iff.mp H
   obtain ⟨t107, A50, H⟩ := H
   replace H : (if (t105 ++ t106).size + t107.size ≤ 9223372036854775807 then ((jacquardref07_digits.f a0_3).bind fun t108 => (if ((t105 ++ t106) ++ t107).size + t108.size ≤ 9223372036854775807 then ((jacquardref07_digits.f a0_4).bind fun t109 => (if (((t105 ++ t106) ++ t107) ++ t108).size + t109.size ≤ 9223372036854775807 then ((jacquardref07_digits.f a0_5).bind fun t110 => (if ((((t105 ++ t106) ++ t107) ++ t108) ++ t109).size + t110.size ≤ 9223372036854775807 then ((jacquardref07_digits.f (wrap64 (a0_6))).bind fun t111 => (if (((((t105 ++ t106) ++ t107) ++ t108) ++ t109) ++ t110).size + t111.size ≤ 9223372036854775807 then ((jacquardref07_row.f k l0_7).bind fun t112 => (if ((((((t105 ++ t106) ++ t107) ++ t108) ++ t109) ++ t110) ++ t111).size + t112.size ≤ 9223372036854775807 then (some (((((((t105 ++ t106) ++ t107) ++ t108) ++ t109) ++ t110) ++ t111) ++ t112)) else (none))) else (none))) else (none))) else (none))) else (none))) else (none)) = some r := H
   have A5 := Aside0.mk A50
   clear A50
   by_cases c6 : (t105 ++ t106).size + t107.size ≤ 9223372036854775807
   · rw [if_pos c6] at H
     have c6b0 := eq_true c6
     have c6b1 : decide ((t105 ++ t106).size + t107.size ≤ 9223372036854775807) = true := decide_eq_true c6
     try have c6b2 : (9223372036854775807 < (t105 ++ t106).size + t107.size) = False := eq_false (Nat.not_lt.2 c6)
     have c6b3 := c6b2
     simp only [ByteArray.size_append] at c6b3
     replace H := Option.bind_eq_some_iff.mp H
     obtain ⟨t108, A70, H⟩ := H
     replace H : (if ((t105 ++ t106) ++ t107).size + t108.size ≤ 9223372036854775807 then ((jacquardref07_digits.f a0_4).bind fun t109 => (if (((t105 ++ t106) ++ t107) ++ t108).size + t109.size ≤ 9223372036854775807 then ((jacquardref07_digits.f a0_5).bind fun t110 => (if ((((t105 ++ t106) ++ t107) ++ t108) ++ t109).size + t110.size ≤ 9223372036854775807 then ((jacquardref07_digits.f (wrap64 (a0_6))).bind fun t111 => (if (((((t105 ++ t106) ++ t107) ++ t108) ++ t109) ++ t110).size + t111.size ≤ 9223372036854775807 then ((jacquardref07_row.f k l0_7).bind fun t112 => (if ((((((t105 ++ t106) ++ t107) ++ t108) ++ t109) ++ t110) ++ t111).size + t112.size ≤ 9223372036854775807 then (some (((((((t105 ++ t106) ++ t107) ++ t108) ++ t109) ++ t110) ++ t111) ++ t112)) else (none))) else (none))) else (none))) else (none))) else (none)) = some r := H
     have A7 := Aside0.mk A70
     clear A70
     by_cases c8 : ((t105 ++ t106) ++ t107).size + t108.size ≤ 9223372036854775807
     · rw [if_pos c8] at H
       have c8b0 := eq_true c8
       have c8b1 : decide (((t105 ++ t106) ++ t107).size + t108.size ≤ 9223372036854775807) = true := decide_eq_true c8
       try have c8b2 : (9223372036854775807 < ((t105 ++ t106) ++ t107).size + t108.size) = False := eq_false (Nat.not_lt.2 c8)
       have c8b3 := c8b2
       simp only [ByteArray.size_append] at c8b3
       replace H := Option.bind_eq_some_iff.mp H
       obtain ⟨t109, A90, H⟩ := H
       replace H : (if (((t105 ++ t106) ++ t107) ++ t108).size + t109.size ≤ 9223372036854775807 then ((jacquardref07_digits.f a0_5).bind fun t110 => (if ((((t105 ++ t106) ++ t107) ++ t108) ++ t109).size + t110.size ≤ 9223372036854775807 then ((jacquardref07_digits.f (wrap64 (a0_6))).bind fun t111 => (if (((((t105 ++ t106) ++ t107) ++ t108) ++ t109) ++ t110).size + t111.size ≤ 9223372036854775807 then ((jacquardref07_row.f k l0_7).bind fun t112 => (if ((((((t105 ++ t106) ++ t107) ++ t108) ++ t109) ++ t110) ++ t111).size + t112.size ≤ 9223372036854775807 then (some (((((((t105 ++ t106) ++ t107) ++ t108) ++ t109) ++ t110) ++ t111) ++ t112)) else (none))) else (none))) else (none))) else (none)) = some r := H
       have A9 := Aside0.mk A90
       clear A90
       by_cases c10 : (((t105 ++ t106) ++ t107) ++ t108).size + t109.size ≤ 9223372036854775807
       · rw [if_pos c10] at H
         have c10b0 := eq_true c10
         have c10b1 : decide ((((t105 ++ t106) ++ t107) ++ t108).size + t109.size ≤ 9223372036854775807) = true := decide_eq_true c10
         try have c10b2 : (9223372036854775807 < (((t105 ++ t106) ++ t107) ++ t108).size + t109.size) = False := eq_false (Nat.not_lt.2 c10)
         have c10b3 := c10b2
         simp only [ByteArray.size_append] at c10b3
         replace H := Option.bind_eq_some_iff.mp H
         obtain ⟨t110, A110, H⟩ := H
         replace H : (if ((((t105 ++ t106) ++ t107) ++ t108) ++ t109).size + t110.size ≤ 9223372036854775807 then ((jacquardref07_digits.f (wrap64 (a0_6))).bind fun t111 => (if (((((t105 ++ t106) ++ t107) ++ t108) ++ t109) ++ t110).size + t111.size ≤ 9223372036854775807 then ((jacquardref07_row.f k l0_7).bind fun t112 => (if ((((((t105 ++ t106) ++ t107) ++ t108) ++ t109) ++ t110) ++ t111).size + t112.size ≤ 9223372036854775807 then (some (((((((t105 ++ t106) ++ t107) ++ t108) ++ t109) ++ t110) ++ t111) ++ t112)) else (none))) else (none))) else (none)) = some r := H
         have A11 := Aside0.mk A110
         clear A110
         by_cases c12 : ((((t105 ++ t106) ++ t107) ++ t108) ++ t109).size + t110.size ≤ 9223372036854775807
         · rw [if_pos c12] at H
           have c12b0 := eq_true c12
           have c12b1 : decide (((((t105 ++ t106) ++ t107) ++ t108) ++ t109).size + t110.size ≤ 9223372036854775807) = true := decide_eq_true c12
           try have c12b2 : (9223372036854775807 < ((((t105 ++ t106) ++ t107) ++ t108) ++ t109).size + t110.size) = False := eq_false (Nat.not_lt.2 c12)
           have c12b3 := c12b2
           simp only [ByteArray.size_append] at c12b3
           replace H := Option.bind_eq_some_iff.mp H
           obtain ⟨t111, A130, H⟩ := H
           replace H : (if (((((t105 ++ t106) ++ t107) ++ t108) ++ t109) ++ t110).size + t111.size ≤ 9223372036854775807 then ((jacquardref07_row.f k l0_7).bind fun t112 => (if ((((((t105 ++ t106) ++ t107) ++ t108) ++ t109) ++ t110) ++ t111).size + t112.size ≤ 9223372036854775807 then (some (((((((t105 ++ t106) ++ t107) ++ t108) ++ t109) ++ t110) ++ t111) ++ t112)) else (none))) else (none)) = some r := H
           have A13 := Aside0.mk A130
           clear A130
           by_cases c14 : (((((t105 ++ t106) ++ t107) ++ t108) ++ t109) ++ t110).size + t111.size ≤ 9223372036854775807
           · rw [if_pos c14] at H
             have c14b0 := eq_true c14
             have c14b1 : decide ((((((t105 ++ t106) ++ t107) ++ t108) ++ t109) ++ t110).size + t111.size ≤ 9223372036854775807) = true := decide_eq_true c14
             try have c14b2 : (9223372036854775807 < (((((t105 ++ t106) ++ t107) ++ t108) ++ t109) ++ t110).size + t111.size) = False := eq_false (Nat.not_lt.2 c14)
             have c14b3 := c14b2
             simp only [ByteArray.size_append] at c14b3
             replace H := Option.bind_eq_some_iff.mp H
             obtain ⟨t112, A150, H⟩ := H
             replace H : (if ((((((t105 ++ t106) ++ t107) ++ t108) ++ t109) ++ t110) ++ t111).size + t112.size ≤ 9223372036854775807 then (some (((((((t105 ++ t106) ++ t107) ++ t108) ++ t109) ++ t110) ++ t111) ++ t112)) else (none)) = some r := H
             have A15 := Aside0.mk A150
             clear A150
             by_cases c16 : ((((((t105 ++ t106) ++ t107) ++ t108) ++ t109) ++ t110) ++ t111).size + t112.size ≤ 9223372036854775807
             · rw [if_pos c16] at H
               have c16b0 := eq_true c16
               have c16b1 : decide (((((((t105 ++ t106) ++ t107) ++ t108) ++ t109) ++ t110) ++ t111).size + t112.size ≤ 9223372036854775807) = true := decide_eq_true c16
               try have c16b2 : (9223372036854775807 < ((((((t105 ++ t106) ++ t107) ++ t108) ++ t109) ++ t110) ++ t111).size + t112.size) = False := eq_false (Nat.not_lt.2 c16)
               have c16b3 := c16b2
               simp only [ByteArray.size_append] at c16b3
               obtain rfl := Option.some.inj H
               go_enter Try.func17, Try.ntmps17
               try go_wp2_with (first | ((with_reducible refine gate_dst (N := 1) rfl ?_); refine box_event ?hg (N := 1) ?hd (cs := #[.int .i64 a0_0, .int .i64 a0_1, .int .i64 a0_2, .int .i64 a0_3, .int .i64 a0_4, .int .i64 a0_5, .int .i32 a0_6, .slice A0_7 l0_7.length c0_7]) (t := 35) ?hr ?_; (case hd => rfl); (case hg => rfl); (case hr => first | (go_simp; done) | (go_simp; rfl)); intro gb104 hg w17 hbox hb; have n0_ := Aside0.mk (below_step (by repeat (first | (with_reducible first | exact HB.out | apply below_alloc | apply pw_below_drewN | apply below_drew1) | exact HB.out)) hb); have n1_ := Aside0.mk (hbox); have n2_ := Aside0.mk ((by rw [hg]; exact (below_size (by repeat (first | (with_reducible first | exact HB.out | apply below_alloc | apply pw_below_drewN | apply below_drew1) | exact HB.out))) : w.heap.size ≤ gb104)); have n3_ := Aside0.mk ((by rw [hg]; exact (below_size (by repeat (first | (with_reducible first | exact HB.out | apply below_alloc | apply pw_below_drewN | apply below_drew1) | exact HB.out))) : w.heap.size ≤ gb104)); clear HB; have HB := n0_; have BK104 := n1_; have GW104 := n2_; have GE104 := n3_; clear n0_ n1_ n2_ n3_; clear hb hbox hg))
               have n0_ := Aside0.mk (blk_drew BK104.out)
               have n1_ := Aside0.mk (below_drew1 HB.out)
               clear BK104; clear HB
               have BK104 := n0_
               have HB := n1_
               clear n0_ n1_
               refine start_ (n := 33) (S := fun w' => w'.cell? ⟨gb104, 0, none⟩ = some (.int .i64 a0_0) ∧ w'.cell? ⟨gb104, 1, none⟩ = some (.int .i64 a0_1) ∧ w'.cell? ⟨gb104, 2, none⟩ = some (.int .i64 a0_2) ∧ w'.cell? ⟨gb104, 3, none⟩ = some (.int .i64 a0_3) ∧ w'.cell? ⟨gb104, 4, none⟩ = some (.int .i64 a0_4) ∧ w'.cell? ⟨gb104, 5, none⟩ = some (.int .i64 a0_5) ∧ w'.cell? ⟨gb104, 6, none⟩ = some (.int .i32 a0_6) ∧ w'.cell? ⟨gb104, 7, none⟩ = some (.slice A0_7 l0_7.length c0_7)) (ds := []) (bm 33 0) (by kernel_rfl) rfl rfl ⟨(blk_cell BK104.out 0).trans rfl, (blk_cell BK104.out 1).trans rfl, (blk_cell BK104.out 2).trans rfl, (blk_cell BK104.out 3).trans rfl, (blk_cell BK104.out 4).trans rfl, (blk_cell BK104.out 5).trans rfl, (blk_cell BK104.out 6).trans rfl, (blk_cell BK104.out 7).trans rfl⟩ (fun hHeld => ?_); refine with_tabW jacquardref07_PrintIns.tab1 jacquardref07_PrintIns.bits1 (fun HT_ HW_ => ?_)
               generalize w17.drew = w18 at BK104 HB hHeld ⊢
               refine pu 0 3 (bm 33 1) rfl rfl (any_of HT_.out (by kernel_rfl)) (fun _ _ _ h => h) (by rfl) (v := ?_) (a' := ?_) (by intro w'; go_simp; with_reducible rfl) (by simp only [np]; rfl) ?_
               refine pu 3 6 (bm 33 9) rfl rfl (any_of HT_.out (by kernel_rfl)) (fun _ _ _ h => h) (by rfl) (v := ?_) (a' := ?_) (by intro w'; go_simp; with_reducible rfl) (by simp only [np]; rfl) ?_
               refine pu 7 10 (bm 33 137) rfl rfl (any_of HT_.out (by kernel_rfl)) (fun _ _ _ h => h) (by rfl) (v := ?_) (a' := ?_) (by intro w'; go_simp; with_reducible rfl) (by simp only [np]; rfl) ?_
               refine pu 11 14 (bm 33 2185) rfl rfl (any_of HT_.out (by kernel_rfl)) (fun _ _ _ h => h) (by rfl) (v := ?_) (a' := ?_) (by intro w'; go_simp; with_reducible rfl) (by simp only [np]; rfl) ?_
               refine pu 15 18 (bm 33 34953) rfl rfl (any_of HT_.out (by kernel_rfl)) (fun _ _ _ h => h) (by rfl) (v := ?_) (a' := ?_) (by intro w'; go_simp; with_reducible rfl) (by simp only [np]; rfl) ?_
               refine pu 19 22 (bm 33 559241) rfl rfl (any_of HT_.out (by kernel_rfl)) (fun _ _ _ h => h) (by rfl) (v := ?_) (a' := ?_) (by intro w'; go_simp; with_reducible rfl) (by simp only [np]; rfl) ?_
               refine pu 23 26 (bm 33 8947849) rfl rfl (any_of HT_.out (by kernel_rfl)) (fun _ _ _ h => h) (by rfl) (v := ?_) (a' := ?_) (by intro w'; go_simp; with_reducible rfl) (by simp only [np]; rfl) ?_
               refine pu 28 31 (bm 33 277383305) rfl rfl (any_of HT_.out (by kernel_rfl)) (fun _ _ _ h => h) (by rfl) (v := ?_) (a' := ?_) (by intro w'; go_simp; with_reducible rfl) (by simp only [np]; rfl) ?_
               refine take_ (i := 1) (N := some 4) (v := ?_) (a' := ?_) (bm 33 277383307) rfl rfl (take_ofW HT_.out HW_.out (by kernel_rfl)) (fun _ _ _ h => h) (Or.inl ⟨by rfl, ?_⟩) hHeld ?_ ?_
               rotate_left
               · rintro w' ⟨s0, s1, s2, s3, s4, s5, s6, s7⟩; go_simp; with_reducible rfl
               rotate_left
               · simp only [np]; rfl
               refine take_ (i := 4) (N := some 7) (v := ?_) (a' := ?_) (bm 33 277383323) rfl rfl (take_ofW HT_.out HW_.out (by kernel_rfl)) (fun _ _ _ h => h) (Or.inl ⟨by rfl, ?_⟩) hHeld ?_ ?_
               rotate_left
               · rintro w' ⟨s0, s1, s2, s3, s4, s5, s6, s7⟩; go_simp; with_reducible rfl
               rotate_left
               · simp only [np]; rfl
               refine take_ (i := 8) (N := some 11) (v := ?_) (a' := ?_) (bm 33 277383579) rfl rfl (take_ofW HT_.out HW_.out (by kernel_rfl)) (fun _ _ _ h => h) (Or.inl ⟨by rfl, ?_⟩) hHeld ?_ ?_
               rotate_left
               · rintro w' ⟨s0, s1, s2, s3, s4, s5, s6, s7⟩; go_simp; with_reducible rfl
               rotate_left
               · simp only [np]; rfl
               refine take_ (i := 12) (N := some 15) (v := ?_) (a' := ?_) (bm 33 277387675) rfl rfl (take_ofW HT_.out HW_.out (by kernel_rfl)) (fun _ _ _ h => h) (Or.inl ⟨by rfl, ?_⟩) hHeld ?_ ?_
               rotate_left
               · rintro w' ⟨s0, s1, s2, s3, s4, s5, s6, s7⟩; go_simp; with_reducible rfl
               rotate_left
               · simp only [np]; rfl
               refine take_ (i := 16) (N := some 19) (v := ?_) (a' := ?_) (bm 33 277453211) rfl rfl (take_ofW HT_.out HW_.out (by kernel_rfl)) (fun _ _ _ h => h) (Or.inl ⟨by rfl, ?_⟩) hHeld ?_ ?_
               rotate_left
               · rintro w' ⟨s0, s1, s2, s3, s4, s5, s6, s7⟩; go_simp; with_reducible rfl
               rotate_left
               · simp only [np]; rfl
               refine take_ (i := 20) (N := some 23) (v := ?_) (a' := ?_) (bm 33 278501787) rfl rfl (take_ofW HT_.out HW_.out (by kernel_rfl)) (fun _ _ _ h => h) (Or.inl ⟨by rfl, ?_⟩) hHeld ?_ ?_
               rotate_left
               · rintro w' ⟨s0, s1, s2, s3, s4, s5, s6, s7⟩; go_simp; with_reducible rfl
               rotate_left
               · simp only [np]; rfl
               refine take_ (i := 24) (N := some 27) (v := ?_) (a' := ?_) (bm 33 295279003) rfl rfl (take_ofW HT_.out HW_.out (by kernel_rfl)) (fun _ _ _ h => h) (Or.inl ⟨by rfl, ?_⟩) hHeld ?_ ?_
               rotate_left
               · rintro w' ⟨s0, s1, s2, s3, s4, s5, s6, s7⟩; go_simp; with_reducible rfl
               rotate_left
               · simp only [np]; rfl
               refine pu 25 28 (bm 33 328833435) rfl rfl (any_of HT_.out (by kernel_rfl)) (fun _ _ _ h => h) (by rfl) (v := ?_) (a' := ?_) (by intro w'; go_simp; with_reducible rfl) (by simp only [np]; rfl) ?_
               refine take_ (i := 29) (N := some 32) (v := ?_) (a' := ?_) (bm 33 865704347) rfl rfl (take_ofW HT_.out HW_.out (by kernel_rfl)) (fun _ _ _ h => h) (Or.inl ⟨by rfl, ?_⟩) hHeld ?_ ?_
               rotate_left
               · rintro w' ⟨s0, s1, s2, s3, s4, s5, s6, s7⟩; go_simp; with_reducible rfl
               rotate_left
               · simp only [np]; rfl
               refine one_ (i := 2) (N := some 5) (bm 33 865704351) rfl rfl (one_of HT_.out (by kernel_rfl)) (by decide) (fun K hK => ?_)
               refine goes_ Try.func41 (by kernel_rfl) rfl #[.int .i64 a0_0] (by rfl) rfl rfl (by (try simp only [List.map_toArray, List.map_cons, List.map_nil]); first | done | rfl | (simp only [List.length_drop, List.length_take]; rfl)) ?_
               with_reducible refine (jacquardref07_digits.calls a0_0 t105 _ A2.out).mono ?_
               rintro e w19 ⟨rfl, hb⟩
               refine ⟨_, rfl, ?_⟩
               have n0_ := Aside0.mk (blk_below (g := gb104) (o := .cells #[.int .i64 a0_0, .int .i64 a0_1, .int .i64 a0_2, .int .i64 a0_3, .int .i64 a0_4, .int .i64 a0_5, .int .i32 a0_6, .slice A0_7 l0_7.length c0_7] 35 (0, 0)) (by (with_reducible repeat (first | refine blk_drewN ?_ _ | refine blk_drew ?_ | refine blk_alloc ?_ _)); exact BK104.out) hb)
               have n1_ := Aside0.mk (below_step (by repeat (first | (with_reducible first | exact HB.out | apply below_alloc | apply pw_below_drewN | apply below_drew1 | refine below_set ?_ GE104.out) | exact HB.out)) hb)
               clear BK104; clear HB
               have BK104 := n0_
               have HB := n1_
               clear n0_ n1_
               (try clear hb)
               (try clear hb2)
               (try clear hk)
               (try clear hi)
               refine hK.out _ _ ⟨(blk_cell BK104.out 0).trans rfl, (blk_cell BK104.out 1).trans rfl, (blk_cell BK104.out 2).trans rfl, (blk_cell BK104.out 3).trans rfl, (blk_cell BK104.out 4).trans rfl, (blk_cell BK104.out 5).trans rfl, (blk_cell BK104.out 6).trans rfl, (blk_cell BK104.out 7).trans rfl⟩ (fun hHeld => ?_)
               clear hK K
               refine norm_ (a' := ?_) ?_ ?_
               rotate_left
               · show Act.put _ (some 5) _ = _; simp only [np]; rfl
               refine one_ (i := 5) (N := some 8) (bm 33 865704383) rfl rfl (one_of HT_.out (by kernel_rfl)) (by decide) (fun K hK => ?_)
               refine goes_ Try.func41 (by kernel_rfl) rfl #[.int .i64 a0_1] (by rfl) rfl rfl (by (try simp only [List.map_toArray, List.map_cons, List.map_nil]); first | done | rfl | (simp only [List.length_drop, List.length_take]; rfl)) ?_
               with_reducible refine (jacquardref07_digits.calls a0_1 t106 _ A3.out).mono ?_
               rintro e w20 ⟨rfl, hb⟩
               refine ⟨_, rfl, ?_⟩
               have n0_ := Aside0.mk (blk_below (g := gb104) (o := .cells #[.int .i64 a0_0, .int .i64 a0_1, .int .i64 a0_2, .int .i64 a0_3, .int .i64 a0_4, .int .i64 a0_5, .int .i32 a0_6, .slice A0_7 l0_7.length c0_7] 35 (0, 0)) (by (with_reducible repeat (first | refine blk_drewN ?_ _ | refine blk_drew ?_ | refine blk_alloc ?_ _)); exact BK104.out) hb)
               have n1_ := Aside0.mk (below_step (by repeat (first | (with_reducible first | exact HB.out | apply below_alloc | apply pw_below_drewN | apply below_drew1 | refine below_set ?_ GE104.out) | exact HB.out)) hb)
               clear BK104; clear HB
               have BK104 := n0_
               have HB := n1_
               clear n0_ n1_
               (try clear hb)
               (try clear hb2)
               (try clear hk)
               (try clear hi)
               refine hK.out _ _ ⟨(blk_cell BK104.out 0).trans rfl, (blk_cell BK104.out 1).trans rfl, (blk_cell BK104.out 2).trans rfl, (blk_cell BK104.out 3).trans rfl, (blk_cell BK104.out 4).trans rfl, (blk_cell BK104.out 5).trans rfl, (blk_cell BK104.out 6).trans rfl, (blk_cell BK104.out 7).trans rfl⟩ (fun hHeld => ?_)
               clear hK K
               refine norm_ (a' := ?_) ?_ ?_
               rotate_left
               · show Act.put _ (some 8) _ = _; simp only [np]; rfl
               refine pu 6 9 (bm 33 865704447) rfl rfl (any_of HT_.out (by kernel_rfl)) (fun _ _ _ h => h) (by rfl) (v := ?_) (a' := ?_) (by intro w'; go_simp; with_reducible rfl) (by simp only [np]; rfl) ?_
               refine one_ (i := 9) (N := some 12) (bm 33 865704959) rfl rfl (one_of HT_.out (by kernel_rfl)) (by decide) (fun K hK => ?_)
               refine goes_ Try.func41 (by kernel_rfl) rfl #[.int .i64 a0_2] (by rfl) rfl rfl (by (try simp only [List.map_toArray, List.map_cons, List.map_nil]); first | done | rfl | (simp only [List.length_drop, List.length_take]; rfl)) ?_
               with_reducible refine (jacquardref07_digits.calls a0_2 t107 _ A5.out).mono ?_
               rintro e w21 ⟨rfl, hb⟩
               refine ⟨_, rfl, ?_⟩
               have n0_ := Aside0.mk (blk_below (g := gb104) (o := .cells #[.int .i64 a0_0, .int .i64 a0_1, .int .i64 a0_2, .int .i64 a0_3, .int .i64 a0_4, .int .i64 a0_5, .int .i32 a0_6, .slice A0_7 l0_7.length c0_7] 35 (0, 0)) (by (with_reducible repeat (first | refine blk_drewN ?_ _ | refine blk_drew ?_ | refine blk_alloc ?_ _)); exact BK104.out) hb)
               have n1_ := Aside0.mk (below_step (by repeat (first | (with_reducible first | exact HB.out | apply below_alloc | apply pw_below_drewN | apply below_drew1 | refine below_set ?_ GE104.out) | exact HB.out)) hb)
               clear BK104; clear HB
               have BK104 := n0_
               have HB := n1_
               clear n0_ n1_
               (try clear hb)
               (try clear hb2)
               (try clear hk)
               (try clear hi)
               refine hK.out _ _ ⟨(blk_cell BK104.out 0).trans rfl, (blk_cell BK104.out 1).trans rfl, (blk_cell BK104.out 2).trans rfl, (blk_cell BK104.out 3).trans rfl, (blk_cell BK104.out 4).trans rfl, (blk_cell BK104.out 5).trans rfl, (blk_cell BK104.out 6).trans rfl, (blk_cell BK104.out 7).trans rfl⟩ (fun hHeld => ?_)
               clear hK K
               refine norm_ (a' := ?_) ?_ ?_
               rotate_left
               · show Act.put _ (some 12) _ = _; simp only [np]; rfl
               refine pu 10 13 (bm 33 865705983) rfl rfl (any_of HT_.out (by kernel_rfl)) (fun _ _ _ h => h) (by rfl) (v := ?_) (a' := ?_) (by intro w'; go_simp; with_reducible rfl) (by simp only [np]; rfl) ?_
               refine one_ (i := 13) (N := some 16) (bm 33 865714175) rfl rfl (one_of HT_.out (by kernel_rfl)) (by decide) (fun K hK => ?_)
               refine goes_ Try.func41 (by kernel_rfl) rfl #[.int .i64 a0_3] (by rfl) rfl rfl (by (try simp only [List.map_toArray, List.map_cons, List.map_nil]); first | done | rfl | (simp only [List.length_drop, List.length_take]; rfl)) ?_
               with_reducible refine (jacquardref07_digits.calls a0_3 t108 _ A7.out).mono ?_
               rintro e w22 ⟨rfl, hb⟩
               refine ⟨_, rfl, ?_⟩
               have n0_ := Aside0.mk (blk_below (g := gb104) (o := .cells #[.int .i64 a0_0, .int .i64 a0_1, .int .i64 a0_2, .int .i64 a0_3, .int .i64 a0_4, .int .i64 a0_5, .int .i32 a0_6, .slice A0_7 l0_7.length c0_7] 35 (0, 0)) (by (with_reducible repeat (first | refine blk_drewN ?_ _ | refine blk_drew ?_ | refine blk_alloc ?_ _)); exact BK104.out) hb)
               have n1_ := Aside0.mk (below_step (by repeat (first | (with_reducible first | exact HB.out | apply below_alloc | apply pw_below_drewN | apply below_drew1 | refine below_set ?_ GE104.out) | exact HB.out)) hb)
               clear BK104; clear HB
               have BK104 := n0_
               have HB := n1_
               clear n0_ n1_
               (try clear hb)
               (try clear hb2)
               (try clear hk)
               (try clear hi)
               refine hK.out _ _ ⟨(blk_cell BK104.out 0).trans rfl, (blk_cell BK104.out 1).trans rfl, (blk_cell BK104.out 2).trans rfl, (blk_cell BK104.out 3).trans rfl, (blk_cell BK104.out 4).trans rfl, (blk_cell BK104.out 5).trans rfl, (blk_cell BK104.out 6).trans rfl, (blk_cell BK104.out 7).trans rfl⟩ (fun hHeld => ?_)
               clear hK K
               refine norm_ (a' := ?_) ?_ ?_
               rotate_left
               · show Act.put _ (some 16) _ = _; simp only [np]; rfl
               refine pu 14 17 (bm 33 865730559) rfl rfl (any_of HT_.out (by kernel_rfl)) (fun _ _ _ h => h) (by rfl) (v := ?_) (a' := ?_) (by intro w'; go_simp; with_reducible rfl) (by simp only [np]; rfl) ?_
               refine one_ (i := 17) (N := some 20) (bm 33 865861631) rfl rfl (one_of HT_.out (by kernel_rfl)) (by decide) (fun K hK => ?_)
               refine goes_ Try.func41 (by kernel_rfl) rfl #[.int .i64 a0_4] (by rfl) rfl rfl (by (try simp only [List.map_toArray, List.map_cons, List.map_nil]); first | done | rfl | (simp only [List.length_drop, List.length_take]; rfl)) ?_
               with_reducible refine (jacquardref07_digits.calls a0_4 t109 _ A9.out).mono ?_
               rintro e w23 ⟨rfl, hb⟩
               refine ⟨_, rfl, ?_⟩
               have n0_ := Aside0.mk (blk_below (g := gb104) (o := .cells #[.int .i64 a0_0, .int .i64 a0_1, .int .i64 a0_2, .int .i64 a0_3, .int .i64 a0_4, .int .i64 a0_5, .int .i32 a0_6, .slice A0_7 l0_7.length c0_7] 35 (0, 0)) (by (with_reducible repeat (first | refine blk_drewN ?_ _ | refine blk_drew ?_ | refine blk_alloc ?_ _)); exact BK104.out) hb)
               have n1_ := Aside0.mk (below_step (by repeat (first | (with_reducible first | exact HB.out | apply below_alloc | apply pw_below_drewN | apply below_drew1 | refine below_set ?_ GE104.out) | exact HB.out)) hb)
               clear BK104; clear HB
               have BK104 := n0_
               have HB := n1_
               clear n0_ n1_
               (try clear hb)
               (try clear hb2)
               (try clear hk)
               (try clear hi)
               refine hK.out _ _ ⟨(blk_cell BK104.out 0).trans rfl, (blk_cell BK104.out 1).trans rfl, (blk_cell BK104.out 2).trans rfl, (blk_cell BK104.out 3).trans rfl, (blk_cell BK104.out 4).trans rfl, (blk_cell BK104.out 5).trans rfl, (blk_cell BK104.out 6).trans rfl, (blk_cell BK104.out 7).trans rfl⟩ (fun hHeld => ?_)
               clear hK K
               refine norm_ (a' := ?_) ?_ ?_
               rotate_left
               · show Act.put _ (some 20) _ = _; simp only [np]; rfl
               refine pu 18 21 (bm 33 866123775) rfl rfl (any_of HT_.out (by kernel_rfl)) (fun _ _ _ h => h) (by rfl) (v := ?_) (a' := ?_) (by intro w'; go_simp; with_reducible rfl) (by simp only [np]; rfl) ?_
               refine one_ (i := 21) (N := some 24) (bm 33 868220927) rfl rfl (one_of HT_.out (by kernel_rfl)) (by decide) (fun K hK => ?_)
               refine goes_ Try.func41 (by kernel_rfl) rfl #[.int .i64 a0_5] (by rfl) rfl rfl (by (try simp only [List.map_toArray, List.map_cons, List.map_nil]); first | done | rfl | (simp only [List.length_drop, List.length_take]; rfl)) ?_
               with_reducible refine (jacquardref07_digits.calls a0_5 t110 _ A11.out).mono ?_
               rintro e w24 ⟨rfl, hb⟩
               refine ⟨_, rfl, ?_⟩
               have n0_ := Aside0.mk (blk_below (g := gb104) (o := .cells #[.int .i64 a0_0, .int .i64 a0_1, .int .i64 a0_2, .int .i64 a0_3, .int .i64 a0_4, .int .i64 a0_5, .int .i32 a0_6, .slice A0_7 l0_7.length c0_7] 35 (0, 0)) (by (with_reducible repeat (first | refine blk_drewN ?_ _ | refine blk_drew ?_ | refine blk_alloc ?_ _)); exact BK104.out) hb)
               have n1_ := Aside0.mk (below_step (by repeat (first | (with_reducible first | exact HB.out | apply below_alloc | apply pw_below_drewN | apply below_drew1 | refine below_set ?_ GE104.out) | exact HB.out)) hb)
               clear BK104; clear HB
               have BK104 := n0_
               have HB := n1_
               clear n0_ n1_
               (try clear hb)
               (try clear hb2)
               (try clear hk)
               (try clear hi)
               refine hK.out _ _ ⟨(blk_cell BK104.out 0).trans rfl, (blk_cell BK104.out 1).trans rfl, (blk_cell BK104.out 2).trans rfl, (blk_cell BK104.out 3).trans rfl, (blk_cell BK104.out 4).trans rfl, (blk_cell BK104.out 5).trans rfl, (blk_cell BK104.out 6).trans rfl, (blk_cell BK104.out 7).trans rfl⟩ (fun hHeld => ?_)
               clear hK K
               refine norm_ (a' := ?_) ?_ ?_
               rotate_left
               · show Act.put _ (some 24) _ = _; simp only [np]; rfl
               refine pu 22 25 (bm 33 872415231) rfl rfl (any_of HT_.out (by kernel_rfl)) (fun _ _ _ h => h) (by rfl) (v := ?_) (a' := ?_) (by intro w'; go_simp; with_reducible rfl) (by simp only [np]; rfl) ?_
               refine one_ (i := 26) (N := some 29) (bm 33 939524095) rfl rfl (one_of HT_.out (by kernel_rfl)) (by decide) (fun K hK => ?_)
               refine goes_ Try.func41 (by kernel_rfl) rfl #[.int .i64 (wrap64 (a0_6))] (by rfl) rfl rfl (by (try simp only [List.map_toArray, List.map_cons, List.map_nil]); first | done | rfl | (simp only [List.length_drop, List.length_take]; rfl)) ?_
               with_reducible refine (jacquardref07_digits.calls (wrap64 (a0_6)) t111 _ A13.out).mono ?_
               rintro e w25 ⟨rfl, hb⟩
               refine ⟨_, rfl, ?_⟩
               have n0_ := Aside0.mk (blk_below (g := gb104) (o := .cells #[.int .i64 a0_0, .int .i64 a0_1, .int .i64 a0_2, .int .i64 a0_3, .int .i64 a0_4, .int .i64 a0_5, .int .i32 a0_6, .slice A0_7 l0_7.length c0_7] 35 (0, 0)) (by (with_reducible repeat (first | refine blk_drewN ?_ _ | refine blk_drew ?_ | refine blk_alloc ?_ _)); exact BK104.out) hb)
               have n1_ := Aside0.mk (below_step (by repeat (first | (with_reducible first | exact HB.out | apply below_alloc | apply pw_below_drewN | apply below_drew1 | refine below_set ?_ GE104.out) | exact HB.out)) hb)
               clear BK104; clear HB
               have BK104 := n0_
               have HB := n1_
               clear n0_ n1_
               (try clear hb)
               (try clear hb2)
               (try clear hk)
               (try clear hi)
               refine hK.out _ _ ⟨(blk_cell BK104.out 0).trans rfl, (blk_cell BK104.out 1).trans rfl, (blk_cell BK104.out 2).trans rfl, (blk_cell BK104.out 3).trans rfl, (blk_cell BK104.out 4).trans rfl, (blk_cell BK104.out 5).trans rfl, (blk_cell BK104.out 6).trans rfl, (blk_cell BK104.out 7).trans rfl⟩ (fun hHeld => ?_)
               clear hK K
               refine norm_ (a' := ?_) ?_ ?_
               rotate_left
               · show Act.put _ (some 29) _ = _; simp only [np]; rfl
               refine pu 27 30 (bm 33 1073741823) rfl rfl (any_of HT_.out (by kernel_rfl)) (fun _ _ _ h => h) (by rfl) (v := ?_) (a' := ?_) (by intro w'; go_simp; with_reducible rfl) (by simp only [np]; rfl) ?_
               refine one_ (i := 30) (N := some 33) (bm 33 2147483647) rfl rfl (one_of HT_.out (by kernel_rfl)) (by decide) (fun K hK => ?_)
               refine goes_ Try.func42 (by kernel_rfl) rfl #[.slice A0_7 l0_7.length c0_7] (by rfl) rfl rfl (by (try simp only [List.map_toArray, List.map_cons, List.map_nil]); first | done | rfl | (simp only [List.length_drop, List.length_take]; rfl)) ?_
               with_reducible refine (jacquardref07_row.calls k _ _ l0_7 t112 _ ?side1 ?side2 A15.out).mono ?_
               (case side1 => repeat (first | exact (Kd.C_below HR0_7.out HB.out) | (with_reducible refine Kd.C_alloc ?_ _) | (with_reducible refine Kd.C_drewN ?_ _) | (with_reducible refine Kd.C_drew ?_)))
               (case side2 => exact HC0_7.out)
               rintro e w26 ⟨rfl, hb⟩
               refine ⟨_, rfl, ?_⟩
               have n0_ := Aside0.mk (blk_below (g := gb104) (o := .cells #[.int .i64 a0_0, .int .i64 a0_1, .int .i64 a0_2, .int .i64 a0_3, .int .i64 a0_4, .int .i64 a0_5, .int .i32 a0_6, .slice A0_7 l0_7.length c0_7] 35 (0, 0)) (by (with_reducible repeat (first | refine blk_drewN ?_ _ | refine blk_drew ?_ | refine blk_alloc ?_ _)); exact BK104.out) hb)
               have n1_ := Aside0.mk (below_step (by repeat (first | (with_reducible first | exact HB.out | apply below_alloc | apply pw_below_drewN | apply below_drew1 | refine below_set ?_ GE104.out) | exact HB.out)) hb)
               clear BK104; clear HB
               have BK104 := n0_
               have HB := n1_
               clear n0_ n1_
               (try clear hb)
               (try clear hb2)
               (try clear hk)
               (try clear hi)
               refine hK.out _ _ ⟨(blk_cell BK104.out 0).trans rfl, (blk_cell BK104.out 1).trans rfl, (blk_cell BK104.out 2).trans rfl, (blk_cell BK104.out 3).trans rfl, (blk_cell BK104.out 4).trans rfl, (blk_cell BK104.out 5).trans rfl, (blk_cell BK104.out 6).trans rfl, (blk_cell BK104.out 7).trans rfl⟩ (fun hHeld => ?_)
               clear hK K
               refine norm_ (a' := ?_) ?_ ?_
               rotate_left
               · show Act.put _ (some 33) _ = _; simp only [np]; rfl
               refine pu 31 34 (bm 33 4294967295) rfl rfl (any_of HT_.out (by kernel_rfl)) (fun _ _ _ h => h) (by rfl) (v := ?_) (a' := ?_) (by intro w'; go_simp; with_reducible rfl) (by simp only [np]; rfl) ?_
               refine pu 32 2 (bm 33 8589934591) rfl rfl (any_of HT_.out (by kernel_rfl)) (fun _ _ _ h => h) (by rfl) (v := ?_) (a' := ?_) (by intro w'; go_simp; with_reducible rfl) (by simp only [np]; rfl) ?_
               refine done_ (done_of HT_.out (by kernel_rfl)) ?_
               try go_wp2
               go_ret
               exact ⟨by first | rfl | (simp [errW_none, errW_some] <;> rfl) | (simp [*, errW_none, errW_some] <;> rfl), by repeat (first | (with_reducible first | exact HB.out | apply below_alloc | apply pw_below_drewN | apply below_drew1 | refine below_set ?_ GE104.out) | exact HB.out)⟩
             · rw [if_neg c16] at H
               exact absurd H (by simp)
           · rw [if_neg c14] at H
             exact absurd H (by simp)
         · rw [if_neg c12] at H
           exact absurd H (by simp)
       · rw [if_neg c10] at H
         exact absurd H (by simp)
     · rw [if_neg c8] at H
       exact absurd H (by simp)
   · rw [if_neg c6] at H
     exact absurd H (by simp)
 · rw [if_neg c4] at H
   exact absurd H (by simp)
end Go.Proofs.Ytocndmielggnpaa.PAll
end
section
namespace Go.Proofs.Ytocndmielggnpaa.PAll
open Go.RowKit Go.Proofs.YtocndmielggnpaaW.PrintWords Go.Proofs.YtocndmielggnpaaW.PrintLast Go.Proofs.YtocndmielggnpaaW.PrintMore
theorem row_l0 (l : List Int) (hl : l.length ≤ 1000) : ∀ (k i : Nat) (s : ByteArray), i ≤ l.length → l.length < k + i → s.size + 22 * (l.length - i) ≤ 30000 →
    ∃ r, jacquardref07_row.l0 k l s i = some r ∧ r.size ≤ s.size + 22 * (l.length - i)
 | 0, i, s, h0, h1, _ => by omega
 | k + 1, i, s, h0, h1, hz => by
  unfold jacquardref07_row.l0
  by_cases h : (i : Int) < (l.length : Int)
  · have hg := dg_size (rd l i)
    have hw : wrap64 ((i : Int) + 1) = ((i + 1 : Nat) : Int) := by unfold wrap64; omega
    obtain ⟨r, hr, hrz⟩ := row_l0 l hl k (i + 1) (s ++ dg (rd l i)) (by omega) (by omega) (by rw [bt_size]; omega)
    refine ⟨r, ?_, by rw [bt_size] at hrz; omega⟩
    rw [if_pos h, if_pos (Int.natCast_nonneg i)]
    show (if s.size + (dg (rd l i)).size ≤ 9223372036854775807 then _ else _) = _
    rw [if_pos (by omega), hw]; exact hr
  · exact ⟨s, by rw [if_neg h], by omega⟩
theorem row_f (l : List Int) (hl : l.length ≤ 1000) : ∃ r, jacquardref07_row.f 1001 l = some r ∧ r.size ≤ 30000 := by
 have hg := dg_size (l.length : Int)
 obtain ⟨r, hr, hz⟩ := row_l0 l hl 1001 0 (dg l.length) (by omega) (by omega) (by omega)
 exact ⟨r, hr, by omega⟩
/-- All of an instruction, as a text. -/
def piP (x : S35) : ByteArray := (jacquardref07_PrintIns.f 1001 x.f0 x.f1 x.f2 x.f3 x.f4 x.f5 x.f6 x.f7).getD ⟨#[]⟩
theorem pi_f (x : S35) (hl : x.f7.length ≤ 1000) : jacquardref07_PrintIns.f 1001 x.f0 x.f1 x.f2 x.f3 x.f4 x.f5 x.f6 x.f7 = some (piP x) := by
 obtain ⟨r, hr, hz⟩ := row_f x.f7 hl
 have : ∃ s, jacquardref07_PrintIns.f 1001 x.f0 x.f1 x.f2 x.f3 x.f4 x.f5 x.f6 x.f7 = some s := by
  unfold jacquardref07_PrintIns.f
  simp only [jacquardref07_digits.f, Option.bind_some, hr]
  have h0 := dg_size x.f0
  have h1 := dg_size x.f1
  have h2 := dg_size x.f2
  have h3 := dg_size x.f3
  have h4 := dg_size x.f4
  have h5 := dg_size x.f5
  have h6 := dg_size (wrap64 x.f6)
  simp only [bt_size]
  iterate 7 rw [if_pos (by omega)]
  exact ⟨_, rfl⟩
 obtain ⟨s, hs⟩ := this
 unfold piP; rw [hs]; rfl
theorem pi_calls (x : S35) (w : World) {A : Option Addr} {c : Nat} (hr : Kd.C (Kd.int .i64) w A x.f7.length x.f7) (hc : x.f7.length ≤ c) (hl : x.f7.length ≤ 1000) :
    Calls Try.prog 17 #[.agg #[.int .i64 x.f0, .int .i64 x.f1, .int .i64 x.f2, .int .i64 x.f3, .int .i64 x.f4, .int .i64 x.f5, .int .i32 x.f6, .slice A x.f7.length c]] w fun e w' => e = .returned (.string (piP x)) ∧ Below w.heap.size w w' :=
 jacquardref07_PrintIns.calls 1001 _ _ _ _ _ _ _ A c x.f7 _ w hr hc (pi_f x hl)
end Go.Proofs.Ytocndmielggnpaa.PAll
end
section
namespace Go.Proofs.Ytocndmielggnpaa.PAll
open Go.RowKit Go.Proofs.YtocndmielggnpaaW.PrintWords Go.Proofs.YtocndmielggnpaaW.PrintLast Go.Proofs.YtocndmielggnpaaW.PrintMore
open Go.ChangeShapes Go.WideShapes Go.ChangeAt Go.Deep
section
variable {H : Type} {enc : TypeId × Value → H} {W : World}
theorem cells3 : Try.prog.cellsOf 3 = 1 := by kernel_rfl
theorem cells21 : Try.prog.cellsOf 21 = 1 := by kernel_rfl
theorem cells23 : Try.prog.cellsOf 23 = 1 := by kernel_rfl
theorem cells35 : Try.prog.cellsOf 35 = 8 := by kernel_rfl
theorem cells37 : Try.prog.cellsOf 37 = 9 := by kernel_rfl
theorem cells25 : Try.prog.cellsOf 25 = 5 := by kernel_rfl
theorem cells27 : Try.prog.cellsOf 27 = 4 := by kernel_rfl
theorem arg23 {fuel : Nat} {cs : List Value} {x : DataW H × List MemPlace} (h : DataW.trod enc Try.prog W 0 (fun _ => true) true fuel 23 cs = some x) : ∃ (A : Option Addr) (c : Nat) (l : List Int), cs = [.slice A l.length c] ∧ l.length ≤ c ∧ (Kd.int .i64).C W A l.length l := by
 have key : ∃ (A : Option Addr) (len cap : Nat) (zs : List Int), cs = [.slice A len cap] ∧ ((A = none ∧ len = 0 ∧ cap = 0 ∧ zs = []) ∨ ∃ x, A = some x ∧ len ≤ cap ∧ cap ≤ maxLen ∧ zs.length = cap ∧ (∀ i, i < zs.length → W.cell? (x.add i) = some (.int .i64 (zs.getD i 0))) ∧ ∀ n ∈ zs, (Lit.int .i64 n).wf = true) := by
  rcases open_ints Try.underlying23 Try.underlying3 cells3 h with ⟨hcs, _⟩ | ⟨x, l, c, zs, hcs, _, hl, hm, hz, _, hcell, hwz⟩
  · exact ⟨none, 0, 0, [], hcs, .inl ⟨rfl, rfl, rfl, rfl⟩⟩
  · exact ⟨some x, l, c, zs, hcs, .inr ⟨_, rfl, hl, hm, by simpa using hz, hcell, hwz⟩⟩
 obtain ⟨A, len, cap, zs, hcs, hR⟩ := key
 obtain ⟨l, hl, hr, hm, hw, hc⟩ := ReadsInt.ofRowC hR
 subst hl
 exact ⟨A, cap, l, hcs, hc, Kd.C_of_reads (d := (0 : Int)) (h1 := fun _ => rfl) hr⟩
theorem one_of {cs : List Value} {t : TypeId} (ht : Try.prog.cellsOf t = 1) (i : Nat) (hi : i < cs.length) : (cs.drop i).take (Try.prog.cellsOf t) = [cs[i]] := by
 rw [ht, List.drop_eq_getElem_cons hi]; rfl
theorem int_at {fuel : Nat} {cs : List Value} {y : DataW H × List MemPlace} (h : DataW.trod enc Try.prog W 0 (fun _ => true) true fuel 3 cs = some y) : ∃ n, cs = [.int .i64 n] := by
 obtain ⟨n, h1, _⟩ := DataW.trod_int Try.underlying3 h
 exact ⟨n, h1⟩
theorem int32_at {fuel : Nat} {cs : List Value} {y : DataW H × List MemPlace} (h : DataW.trod enc Try.prog W 0 (fun _ => true) true fuel 21 cs = some y) : ∃ n, cs = [.int .i32 n] := by
 obtain ⟨n, h1, _⟩ := DataW.trod_int Try.underlying21 h
 exact ⟨n, h1⟩
theorem some_of {α : Type} {xs : List α} {o : Option α} {j : Nat} (hj : j < xs.length) (h : o = xs[j]?) : ∃ y, o = some y := ⟨xs[j], by rw [h, List.getElem?_eq_getElem hj]⟩
set_option maxRecDepth 100000 in
theorem arg35 {fuel : Nat} {cs : List Value} {x : DataW H × List MemPlace} (h : DataW.trod enc Try.prog W 0 (fun _ => true) true fuel 35 cs = some x) :
    ∃ (y : S35) (A7 : Option Addr) (c7 : Nat), cs = [.int .i64 y.f0, .int .i64 y.f1, .int .i64 y.f2, .int .i64 y.f3, .int .i64 y.f4, .int .i64 y.f5, .int .i32 y.f6, .slice A7 y.f7.length c7] ∧ y.f7.length ≤ c7 ∧ (Kd.int .i64).C W A7 y.f7.length y.f7 := by
 obtain ⟨xs, n, _, _, hlen, hxl, hf⟩ := DataW.trod_struct Try.underlying35 h
 rw [cells35] at hlen
 have hxl : xs.length = 8 := hxl
 obtain ⟨v0, v1, v2, v3, v4, v5, v6, v7, rfl⟩ : ∃ v0 v1 v2 v3 v4 v5 v6 v7, cs = [v0, v1, v2, v3, v4, v5, v6, v7] := by
  match cs, hlen with
  | [v0, v1, v2, v3, v4, v5, v6, v7], _ => exact ⟨v0, v1, v2, v3, v4, v5, v6, v7, rfl⟩
 obtain ⟨y0, e0⟩ := some_of (j := 0) (by omega) (hf 0 _ rfl)
 have g0 : DataW.trod enc Try.prog W 0 (fun _ => true) true n 3 (([v0, v1, v2, v3, v4, v5, v6, v7].drop 0).take (Try.prog.cellsOf 3)) = some y0 := e0
 rw [cells3] at g0
 replace g0 : DataW.trod enc Try.prog W 0 (fun _ => true) true n 3 [v0] = some y0 := g0
 obtain ⟨y1, e1⟩ := some_of (j := 1) (by omega) (hf 1 _ rfl)
 have g1 : DataW.trod enc Try.prog W 0 (fun _ => true) true n 3 (([v0, v1, v2, v3, v4, v5, v6, v7].drop 1).take (Try.prog.cellsOf 3)) = some y1 := e1
 rw [cells3] at g1
 replace g1 : DataW.trod enc Try.prog W 0 (fun _ => true) true n 3 [v1] = some y1 := g1
 obtain ⟨y2, e2⟩ := some_of (j := 2) (by omega) (hf 2 _ rfl)
 have g2 : DataW.trod enc Try.prog W 0 (fun _ => true) true n 3 (([v0, v1, v2, v3, v4, v5, v6, v7].drop 2).take (Try.prog.cellsOf 3)) = some y2 := e2
 rw [cells3] at g2
 replace g2 : DataW.trod enc Try.prog W 0 (fun _ => true) true n 3 [v2] = some y2 := g2
 obtain ⟨y3, e3⟩ := some_of (j := 3) (by omega) (hf 3 _ rfl)
 have g3 : DataW.trod enc Try.prog W 0 (fun _ => true) true n 3 (([v0, v1, v2, v3, v4, v5, v6, v7].drop 3).take (Try.prog.cellsOf 3)) = some y3 := e3
 rw [cells3] at g3
 replace g3 : DataW.trod enc Try.prog W 0 (fun _ => true) true n 3 [v3] = some y3 := g3
 obtain ⟨y4, e4⟩ := some_of (j := 4) (by omega) (hf 4 _ rfl)
 have g4 : DataW.trod enc Try.prog W 0 (fun _ => true) true n 3 (([v0, v1, v2, v3, v4, v5, v6, v7].drop 4).take (Try.prog.cellsOf 3)) = some y4 := e4
 rw [cells3] at g4
 replace g4 : DataW.trod enc Try.prog W 0 (fun _ => true) true n 3 [v4] = some y4 := g4
 obtain ⟨y5, e5⟩ := some_of (j := 5) (by omega) (hf 5 _ rfl)
 have g5 : DataW.trod enc Try.prog W 0 (fun _ => true) true n 3 (([v0, v1, v2, v3, v4, v5, v6, v7].drop 5).take (Try.prog.cellsOf 3)) = some y5 := e5
 rw [cells3] at g5
 replace g5 : DataW.trod enc Try.prog W 0 (fun _ => true) true n 3 [v5] = some y5 := g5
 obtain ⟨y6, e6⟩ := some_of (j := 6) (by omega) (hf 6 _ rfl)
 have g6 : DataW.trod enc Try.prog W 0 (fun _ => true) true n 21 (([v0, v1, v2, v3, v4, v5, v6, v7].drop 6).take (Try.prog.cellsOf 21)) = some y6 := e6
 rw [cells21] at g6
 replace g6 : DataW.trod enc Try.prog W 0 (fun _ => true) true n 21 [v6] = some y6 := g6
 obtain ⟨y7, e7⟩ := some_of (j := 7) (by omega) (hf 7 _ rfl)
 have g7 : DataW.trod enc Try.prog W 0 (fun _ => true) true n 23 (([v0, v1, v2, v3, v4, v5, v6, v7].drop 7).take (Try.prog.cellsOf 23)) = some y7 := e7
 rw [cells23] at g7
 replace g7 : DataW.trod enc Try.prog W 0 (fun _ => true) true n 23 [v7] = some y7 := g7
 obtain ⟨a0, h0⟩ := int_at g0
 obtain ⟨a1, h1⟩ := int_at g1
 obtain ⟨a2, h2⟩ := int_at g2
 obtain ⟨a3, h3⟩ := int_at g3
 obtain ⟨a4, h4⟩ := int_at g4
 obtain ⟨a5, h5⟩ := int_at g5
 obtain ⟨a6, h6⟩ := int32_at g6
 obtain ⟨A7, c7, l, h7, hc, hr⟩ := arg23 g7
 simp only [List.cons.injEq, and_true] at h0 h1 h2 h3 h4 h5 h6 h7
 subst h0 h1 h2 h3 h4 h5 h6 h7
 exact ⟨⟨a0, a1, a2, a3, a4, a5, a6, l⟩, A7, c7, rfl, hc, hr⟩
set_option maxRecDepth 100000 in
theorem arg37 {fuel : Nat} {cs : List Value} {x : DataW H × List MemPlace} (h : DataW.trod enc Try.prog W 0 (fun _ => true) true fuel 37 cs = some x) : ∃ y : S37, k37.K W y cs ∧ cs.length = 9 := by
 obtain ⟨xs, n, _, _, hlen, hxl, hf⟩ := DataW.trod_struct Try.underlying37 h
 rw [cells37] at hlen
 have hxl : xs.length = 2 := hxl
 obtain ⟨v0, v1, v2, v3, v4, v5, v6, v7, v8, rfl⟩ : ∃ v0 v1 v2 v3 v4 v5 v6 v7 v8, cs = [v0, v1, v2, v3, v4, v5, v6, v7, v8] := by
  match cs, hlen with
  | [v0, v1, v2, v3, v4, v5, v6, v7, v8], _ => exact ⟨v0, v1, v2, v3, v4, v5, v6, v7, v8, rfl⟩
 obtain ⟨y0, e0⟩ := some_of (j := 0) (by omega) (hf 0 _ rfl)
 obtain ⟨y1, e1⟩ := some_of (j := 1) (by omega) (hf 1 _ rfl)
 have g0 : DataW.trod enc Try.prog W 0 (fun _ => true) true n 35 (([v0, v1, v2, v3, v4, v5, v6, v7, v8].drop 0).take (Try.prog.cellsOf 35)) = some y0 := e0
 have g1 : DataW.trod enc Try.prog W 0 (fun _ => true) true n 3 (([v0, v1, v2, v3, v4, v5, v6, v7, v8].drop 8).take (Try.prog.cellsOf 3)) = some y1 := e1
 rw [cells35] at g0
 rw [cells3] at g1
 replace g0 : DataW.trod enc Try.prog W 0 (fun _ => true) true n 35 [v0, v1, v2, v3, v4, v5, v6, v7] = some y0 := g0
 replace g1 : DataW.trod enc Try.prog W 0 (fun _ => true) true n 3 [v8] = some y1 := g1
 obtain ⟨y, A7, c7, hy, hc, hr⟩ := arg35 g0
 obtain ⟨a8, h8⟩ := int_at g1
 simp only [List.cons.injEq, and_true] at hy h8
 obtain ⟨rfl, rfl, rfl, rfl, rfl, rfl, rfl, rfl⟩ := hy
 subst h8
 exact ⟨⟨y, a8⟩, k37_mk W ⟨y, a8⟩ hc hr, rfl⟩
instance : Inhabited S37 := ⟨z37⟩
theorem arg22 {A : Option Addr} {len cap : Nat} {d : DataW H} {p : List MemPlace} (h : DataW.Trod enc Try.prog W 0 (fun _ => true) true 22 (.slice A len cap) d p) : ∃ (l : List S37), len = l.length ∧ l.length ≤ cap ∧ k37.C W A l.length l := by
 obtain ⟨fuel, hf⟩ := h
 rcases open_slice Try.underlying22 hf with ⟨hcs, _⟩ | ⟨a, len', cap', m, n, D, Pl, hcs, _, hl, hm, hmm, _, hx⟩
 · simp [Value.cells] at hcs
   obtain ⟨rfl, rfl, rfl⟩ := hcs
   exact ⟨[], rfl, Nat.le_refl _, ⟨rfl, by decide, fun h => by simp at h⟩⟩
 · simp [Value.cells] at hcs
   obtain ⟨rfl, rfl, rfl⟩ := hcs
   simp only [if_true] at hmm
   subst hmm
   obtain ⟨F, hF⟩ := choose_lt (p := fun i (y : S37) => ∃ cs', W.cells? 0 (a.add (i * Try.prog.cellsOf 37)) (Try.prog.cellsOf 37) = some cs' ∧ k37.K W y cs' ∧ cs'.length = 9) (fun i hi => by
    obtain ⟨cs', h1, h2⟩ := hx i hi
    obtain ⟨y, hy, hl9⟩ := arg37 h2
    exact ⟨y, cs', h1, hy, hl9⟩)
   refine ⟨(List.range len).map F, by simp, by simpa using hl, ?_⟩
   refine ⟨rfl, by unfold maxLen at hm; simp; omega, fun h0 => ⟨a, rfl, fun j y hj => ?_⟩⟩
   have hjl : j < len := by
    have := (List.getElem?_eq_some_iff.1 hj).1
    simpa using this
   rw [List.getElem?_map, List.getElem?_range hjl] at hj
   simp only [Option.map_some, Option.some.injEq] at hj
   subst hj
   obtain ⟨cs', h1, h2, h3⟩ := hF j (by omega)
   rw [cells37] at h1
   obtain ⟨_, _, hat⟩ := World.cells?_some h1
   refine ⟨cs', h3, h2, fun i u hu => ?_⟩
   have hi : i < 9 := by
    have := (List.getElem?_eq_some_iff.1 hu).1
    omega
   have := hat i hi
   rw [Deep.add_add] at this
   show W.cell? (a.add (j * 9 + i)) = some u
   rw [this, hu]
set_option maxRecDepth 100000 in
theorem arg25 {v : Value} {d : DataW H} {p : List MemPlace} {r : Reach} {b0 : Nat} (hv : Value.okWide Try.prog W r b0 25 v) (h : DataW.Trod enc Try.prog W 0 (fun _ => true) true 25 v d p) :
    ∃ (e : En) (A1 : Option Addr) (c1 : Nat), v = .agg (eCells e A1 c1) ∧ e.tos.length ≤ c1 ∧ (Kd.int .i64).C W A1 e.tos.length e.tos := by
 obtain ⟨cs, rfl, hsz⟩ := okWide_struct Try.underlying25 hv
 obtain ⟨l⟩ := cs
 rw [cells25] at hsz
 obtain ⟨v0, v1, v2, v3, v4, rfl⟩ : ∃ v0 v1 v2 v3 v4, l = [v0, v1, v2, v3, v4] := by
  match l, hsz with
  | [v0, v1, v2, v3, v4], _ => exact ⟨v0, v1, v2, v3, v4, rfl⟩
 obtain ⟨fuel, hf⟩ := h
 obtain ⟨xs, n, _, _, hlen, hxl, hf⟩ := DataW.trod_struct Try.underlying25 hf
 have hxl : xs.length = 5 := hxl
 obtain ⟨y0, e0⟩ := some_of (j := 0) (by omega) (hf 0 _ rfl)
 have g0 : DataW.trod enc Try.prog W 0 (fun _ => true) true n 3 (([v0, v1, v2, v3, v4].drop 0).take (Try.prog.cellsOf 3)) = some y0 := e0
 rw [cells3] at g0
 replace g0 : DataW.trod enc Try.prog W 0 (fun _ => true) true n 3 [v0] = some y0 := g0
 obtain ⟨y1, e1⟩ := some_of (j := 1) (by omega) (hf 1 _ rfl)
 have g1 : DataW.trod enc Try.prog W 0 (fun _ => true) true n 3 (([v0, v1, v2, v3, v4].drop 1).take (Try.prog.cellsOf 3)) = some y1 := e1
 rw [cells3] at g1
 replace g1 : DataW.trod enc Try.prog W 0 (fun _ => true) true n 3 [v1] = some y1 := g1
 obtain ⟨y2, e2⟩ := some_of (j := 2) (by omega) (hf 2 _ rfl)
 have g2 : DataW.trod enc Try.prog W 0 (fun _ => true) true n 3 (([v0, v1, v2, v3, v4].drop 2).take (Try.prog.cellsOf 3)) = some y2 := e2
 rw [cells3] at g2
 replace g2 : DataW.trod enc Try.prog W 0 (fun _ => true) true n 3 [v2] = some y2 := g2
 obtain ⟨y3, e3⟩ := some_of (j := 3) (by omega) (hf 3 _ rfl)
 have g3 : DataW.trod enc Try.prog W 0 (fun _ => true) true n 23 (([v0, v1, v2, v3, v4].drop 3).take (Try.prog.cellsOf 23)) = some y3 := e3
 rw [cells23] at g3
 replace g3 : DataW.trod enc Try.prog W 0 (fun _ => true) true n 23 [v3] = some y3 := g3
 obtain ⟨y4, e4⟩ := some_of (j := 4) (by omega) (hf 4 _ rfl)
 have g4 : DataW.trod enc Try.prog W 0 (fun _ => true) true n 21 (([v0, v1, v2, v3, v4].drop 4).take (Try.prog.cellsOf 21)) = some y4 := e4
 rw [cells21] at g4
 replace g4 : DataW.trod enc Try.prog W 0 (fun _ => true) true n 21 [v4] = some y4 := g4
 obtain ⟨a0, h0⟩ := int_at g0
 obtain ⟨a1, h1⟩ := int_at g1
 obtain ⟨a2, h2⟩ := int_at g2
 obtain ⟨A1, c1, l, h3, hc, hr⟩ := arg23 g3
 obtain ⟨a4, h4⟩ := int32_at g4
 simp only [List.cons.injEq, and_true] at h0 h1 h2 h3 h4
 subst h0 h1 h2 h3 h4
 exact ⟨⟨a0, a1, a2, l, a4⟩, A1, c1, rfl, hc, hr⟩
set_option maxRecDepth 100000 in
theorem arg27c {fuel : Nat} {cs : List Value} {x : DataW H × List MemPlace} (h : DataW.trod enc Try.prog W 0 (fun _ => true) true fuel 27 cs = some x) : ∃ y : De, cs = [.int .i64 y.mul, .int .i64 y.dv, .int .i64 y.ld, .int .i64 y.tk] := by
 obtain ⟨xs, n, _, _, hlen, hxl, hf⟩ := DataW.trod_struct Try.underlying27 h
 rw [cells27] at hlen
 have hxl : xs.length = 4 := hxl
 obtain ⟨v0, v1, v2, v3, rfl⟩ : ∃ v0 v1 v2 v3, cs = [v0, v1, v2, v3] := by
  match cs, hlen with
  | [v0, v1, v2, v3], _ => exact ⟨v0, v1, v2, v3, rfl⟩
 obtain ⟨y0, e0⟩ := some_of (j := 0) (by omega) (hf 0 _ rfl)
 have g0 : DataW.trod enc Try.prog W 0 (fun _ => true) true n 3 (([v0, v1, v2, v3].drop 0).take (Try.prog.cellsOf 3)) = some y0 := e0
 rw [cells3] at g0
 replace g0 : DataW.trod enc Try.prog W 0 (fun _ => true) true n 3 [v0] = some y0 := g0
 obtain ⟨y1, e1⟩ := some_of (j := 1) (by omega) (hf 1 _ rfl)
 have g1 : DataW.trod enc Try.prog W 0 (fun _ => true) true n 3 (([v0, v1, v2, v3].drop 1).take (Try.prog.cellsOf 3)) = some y1 := e1
 rw [cells3] at g1
 replace g1 : DataW.trod enc Try.prog W 0 (fun _ => true) true n 3 [v1] = some y1 := g1
 obtain ⟨y2, e2⟩ := some_of (j := 2) (by omega) (hf 2 _ rfl)
 have g2 : DataW.trod enc Try.prog W 0 (fun _ => true) true n 3 (([v0, v1, v2, v3].drop 2).take (Try.prog.cellsOf 3)) = some y2 := e2
 rw [cells3] at g2
 replace g2 : DataW.trod enc Try.prog W 0 (fun _ => true) true n 3 [v2] = some y2 := g2
 obtain ⟨y3, e3⟩ := some_of (j := 3) (by omega) (hf 3 _ rfl)
 have g3 : DataW.trod enc Try.prog W 0 (fun _ => true) true n 3 (([v0, v1, v2, v3].drop 3).take (Try.prog.cellsOf 3)) = some y3 := e3
 rw [cells3] at g3
 replace g3 : DataW.trod enc Try.prog W 0 (fun _ => true) true n 3 [v3] = some y3 := g3
 obtain ⟨a0, h0⟩ := int_at g0
 obtain ⟨a1, h1⟩ := int_at g1
 obtain ⟨a2, h2⟩ := int_at g2
 obtain ⟨a3, h3⟩ := int_at g3
 simp only [List.cons.injEq, and_true] at h0 h1 h2 h3
 subst h0 h1 h2 h3
 exact ⟨⟨a0, a1, a2, a3⟩, rfl⟩
theorem arg27 {v : Value} {d : DataW H} {p : List MemPlace} {r : Reach} {b0 : Nat} (hv : Value.okWide Try.prog W r b0 27 v) (h : DataW.Trod enc Try.prog W 0 (fun _ => true) true 27 v d p) : ∃ y : De, v = .agg (dCells y) := by
 obtain ⟨cs, rfl, hsz⟩ := okWide_struct Try.underlying27 hv
 obtain ⟨fuel, hf⟩ := h
 obtain ⟨y, hy⟩ := arg27c hf
 refine ⟨y, ?_⟩
 congr 1
 have hy : cs.toList = [.int .i64 y.mul, .int .i64 y.dv, .int .i64 y.ld, .int .i64 y.tk] := hy
 apply Array.ext'
 rw [hy]; rfl
end
end Go.Proofs.Ytocndmielggnpaa.PAll
end
