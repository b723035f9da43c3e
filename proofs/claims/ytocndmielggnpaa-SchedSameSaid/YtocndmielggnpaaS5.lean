/- What the rows of chapter 16 lean on, part 6. -/
import Derived.Test.YtocndmielggnpaaS4
set_option linter.unusedSimpArgs false
set_option linter.unusedVariables false
section
namespace Go.Proofs.Ytocndmielggnpaa.PAll
open Go.RowKit Go.Proofs.YtocndmielggnpaaW.PrintWords Go.Proofs.YtocndmielggnpaaW.PrintLast Go.Proofs.YtocndmielggnpaaW.PrintMore
open Go.Proofs.Ytocndmielggnpaa.Kind Go.Proofs.Ytocndmielggnpaa.AMap
attribute [local go_sem] max2_int min2_int max_two min_two
theorem lit_R (W : World) (base n : Nat) (hn : n = W.heap.size) (hb : base ≤ n) (xs : List Int) (hl : xs.length ≤ 1000) : (Kd.int .i64).R 3 (W.alloc (.cells (xs.map (Value.int .i64)).toArray 3)) base (fun _ => True) (.slice (some ⟨n, 0, none⟩) xs.length xs.length) xs := by
 subst hn
 refine Kd.R_of_own ?_ (fun _ _ => trivial)
 have h := World.ownsRow_lit (base := base) (e := 3) (size := 1) W (xs.map (Value.int .i64)).toArray xs.length hb (by unfold maxLen; omega) (by simp)
 exact h
def mach_kindOf_1.f (a0_0 a0_1 a0_2 a0_3 a0_4 a0_5 a0_6 : Int) (l0_7 : List Int) : Option (List Int) := some []
set_option maxHeartbeats 4000000 in
theorem mach_kindOf_1.calls (a0_0 a0_1 a0_2 a0_3 a0_4 a0_5 a0_6 : Int) (A0_7 : Option Addr) (c0_7 : Nat) (l0_7 : List Int) (r : List Int) (w : World) (hr0_7 : Kd.C (Kd.int .i64) w A0_7 l0_7.length l0_7) (hc0_7 : l0_7.length ≤ c0_7) (h : mach_kindOf_1.f a0_0 a0_1 a0_2 a0_3 a0_4 a0_5 a0_6 l0_7 = some r) :
    Calls Try.prog 68 #[.agg #[.int .i64 a0_0, .int .i64 a0_1, .int .i64 a0_2, .int .i64 a0_3, .int .i64 a0_4, .int .i64 a0_5, .int .i32 a0_6, .slice A0_7 l0_7.length c0_7]] w fun e w' => ∃ v0_ : Value, e = .returned (v0_) ∧ Kd.R (Kd.int .i64) 3 w' w.heap.size (fun _ => True) v0_ r ∧ Below w.heap.size w w' := by
 obtain rfl := Option.some.inj h
 clear h hr0_7
 go_enter Try.func68, Try.ntmps68
 go_wp2; go_ret
 exact ⟨_, rfl, Kd.R_nil _ _ _ _ _, below_alloc (Below.refl _ _) _⟩
def mach_kindOf_2.f (a0_0 a0_1 a0_2 a0_3 a0_4 a0_5 a0_6 : Int) (l0_7 : List Int) : Option (List Int) := some [a0_1]
set_option maxHeartbeats 4000000 in
theorem mach_kindOf_2.calls (a0_0 a0_1 a0_2 a0_3 a0_4 a0_5 a0_6 : Int) (A0_7 : Option Addr) (c0_7 : Nat) (l0_7 : List Int) (r : List Int) (w : World) (hr0_7 : Kd.C (Kd.int .i64) w A0_7 l0_7.length l0_7) (hc0_7 : l0_7.length ≤ c0_7) (h : mach_kindOf_2.f a0_0 a0_1 a0_2 a0_3 a0_4 a0_5 a0_6 l0_7 = some r) :
    Calls Try.prog 69 #[.agg #[.int .i64 a0_0, .int .i64 a0_1, .int .i64 a0_2, .int .i64 a0_3, .int .i64 a0_4, .int .i64 a0_5, .int .i32 a0_6, .slice A0_7 l0_7.length c0_7]] w fun e w' => ∃ v0_ : Value, e = .returned (v0_) ∧ Kd.R (Kd.int .i64) 3 w' w.heap.size (fun _ => True) v0_ r ∧ Below w.heap.size w w' := by
 obtain rfl : [a0_1] = r := by simpa [mach_kindOf_2.f] using h
 clear h hr0_7
 go_enter Try.func69, Try.ntmps69
 go_wp2; go_ret
 exact ⟨_, rfl, lit_R _ _ _ (by simp) (by simp) [a0_1] (by simp), below_alloc (below_alloc (Below.refl _ _) _) _⟩
def mach_kindOf_3.f (a0_0 a0_1 a0_2 a0_3 a0_4 a0_5 a0_6 : Int) (l0_7 : List Int) : Option (List Int) := some [a0_3]
set_option maxHeartbeats 4000000 in
theorem mach_kindOf_3.calls (a0_0 a0_1 a0_2 a0_3 a0_4 a0_5 a0_6 : Int) (A0_7 : Option Addr) (c0_7 : Nat) (l0_7 : List Int) (r : List Int) (w : World) (hr0_7 : Kd.C (Kd.int .i64) w A0_7 l0_7.length l0_7) (hc0_7 : l0_7.length ≤ c0_7) (h : mach_kindOf_3.f a0_0 a0_1 a0_2 a0_3 a0_4 a0_5 a0_6 l0_7 = some r) :
    Calls Try.prog 70 #[.agg #[.int .i64 a0_0, .int .i64 a0_1, .int .i64 a0_2, .int .i64 a0_3, .int .i64 a0_4, .int .i64 a0_5, .int .i32 a0_6, .slice A0_7 l0_7.length c0_7]] w fun e w' => ∃ v0_ : Value, e = .returned (v0_) ∧ Kd.R (Kd.int .i64) 3 w' w.heap.size (fun _ => True) v0_ r ∧ Below w.heap.size w w' := by
 obtain rfl : [a0_3] = r := by simpa [mach_kindOf_3.f] using h
 clear h hr0_7
 go_enter Try.func70, Try.ntmps70
 go_wp2; go_ret
 exact ⟨_, rfl, lit_R _ _ _ (by simp) (by simp) [a0_3] (by simp), below_alloc (below_alloc (Below.refl _ _) _) _⟩
def mach_kindOf_4.f (a0_0 a0_1 a0_2 a0_3 a0_4 a0_5 a0_6 : Int) (l0_7 : List Int) : Option (List Int) := some [a0_3, a0_4]
set_option maxHeartbeats 4000000 in
theorem mach_kindOf_4.calls (a0_0 a0_1 a0_2 a0_3 a0_4 a0_5 a0_6 : Int) (A0_7 : Option Addr) (c0_7 : Nat) (l0_7 : List Int) (r : List Int) (w : World) (hr0_7 : Kd.C (Kd.int .i64) w A0_7 l0_7.length l0_7) (hc0_7 : l0_7.length ≤ c0_7) (h : mach_kindOf_4.f a0_0 a0_1 a0_2 a0_3 a0_4 a0_5 a0_6 l0_7 = some r) :
    Calls Try.prog 71 #[.agg #[.int .i64 a0_0, .int .i64 a0_1, .int .i64 a0_2, .int .i64 a0_3, .int .i64 a0_4, .int .i64 a0_5, .int .i32 a0_6, .slice A0_7 l0_7.length c0_7]] w fun e w' => ∃ v0_ : Value, e = .returned (v0_) ∧ Kd.R (Kd.int .i64) 3 w' w.heap.size (fun _ => True) v0_ r ∧ Below w.heap.size w w' := by
 obtain rfl : [a0_3, a0_4] = r := by simpa [mach_kindOf_4.f] using h
 clear h hr0_7
 go_enter Try.func71, Try.ntmps71
 go_wp2; go_ret
 exact ⟨_, rfl, lit_R _ _ _ (by simp) (by simp) [a0_3, a0_4] (by simp), below_alloc (below_alloc (Below.refl _ _) _) _⟩
def mach_kindOf_5.f (a0_0 a0_1 a0_2 a0_3 a0_4 a0_5 a0_6 : Int) (l0_7 : List Int) : Option (List Int) := some [a0_3, a0_4, a0_5]
set_option maxHeartbeats 4000000 in
theorem mach_kindOf_5.calls (a0_0 a0_1 a0_2 a0_3 a0_4 a0_5 a0_6 : Int) (A0_7 : Option Addr) (c0_7 : Nat) (l0_7 : List Int) (r : List Int) (w : World) (hr0_7 : Kd.C (Kd.int .i64) w A0_7 l0_7.length l0_7) (hc0_7 : l0_7.length ≤ c0_7) (h : mach_kindOf_5.f a0_0 a0_1 a0_2 a0_3 a0_4 a0_5 a0_6 l0_7 = some r) :
    Calls Try.prog 72 #[.agg #[.int .i64 a0_0, .int .i64 a0_1, .int .i64 a0_2, .int .i64 a0_3, .int .i64 a0_4, .int .i64 a0_5, .int .i32 a0_6, .slice A0_7 l0_7.length c0_7]] w fun e w' => ∃ v0_ : Value, e = .returned (v0_) ∧ Kd.R (Kd.int .i64) 3 w' w.heap.size (fun _ => True) v0_ r ∧ Below w.heap.size w w' := by
 obtain rfl : [a0_3, a0_4, a0_5] = r := by simpa [mach_kindOf_5.f] using h
 clear h hr0_7
 go_enter Try.func72, Try.ntmps72
 go_wp2; go_ret
 exact ⟨_, rfl, lit_R _ _ _ (by simp) (by simp) [a0_3, a0_4, a0_5] (by simp), below_alloc (below_alloc (Below.refl _ _) _) _⟩
def mach_kindOf_7.f (a0_0 a0_1 a0_2 a0_3 a0_4 a0_5 a0_6 : Int) (l0_7 : List Int) : Option (List Int) := some [a0_1, a0_2]
set_option maxHeartbeats 4000000 in
theorem mach_kindOf_7.calls (a0_0 a0_1 a0_2 a0_3 a0_4 a0_5 a0_6 : Int) (A0_7 : Option Addr) (c0_7 : Nat) (l0_7 : List Int) (r : List Int) (w : World) (hr0_7 : Kd.C (Kd.int .i64) w A0_7 l0_7.length l0_7) (hc0_7 : l0_7.length ≤ c0_7) (h : mach_kindOf_7.f a0_0 a0_1 a0_2 a0_3 a0_4 a0_5 a0_6 l0_7 = some r) :
    Calls Try.prog 74 #[.agg #[.int .i64 a0_0, .int .i64 a0_1, .int .i64 a0_2, .int .i64 a0_3, .int .i64 a0_4, .int .i64 a0_5, .int .i32 a0_6, .slice A0_7 l0_7.length c0_7]] w fun e w' => ∃ v0_ : Value, e = .returned (v0_) ∧ Kd.R (Kd.int .i64) 3 w' w.heap.size (fun _ => True) v0_ r ∧ Below w.heap.size w w' := by
 obtain rfl : [a0_1, a0_2] = r := by simpa [mach_kindOf_7.f] using h
 clear h hr0_7
 go_enter Try.func74, Try.ntmps74
 go_wp2; go_ret
 exact ⟨_, rfl, lit_R _ _ _ (by simp) (by simp) [a0_1, a0_2] (by simp), below_alloc (below_alloc (Below.refl _ _) _) _⟩
def mach_kindOf_6.f (a0_0 a0_1 a0_2 a0_3 a0_4 a0_5 a0_6 : Int) (l0_7 : List Int) : Option (List Int) := slices_Clone_int_int.f l0_7
set_option maxHeartbeats 4000000 in
theorem mach_kindOf_6.calls (a0_0 a0_1 a0_2 a0_3 a0_4 a0_5 a0_6 : Int) (A0_7 : Option Addr) (c0_7 : Nat) (l0_7 : List Int) (r : List Int) (w : World) (hr0_7 : Kd.C (Kd.int .i64) w A0_7 l0_7.length l0_7) (hc0_7 : l0_7.length ≤ c0_7) (h : mach_kindOf_6.f a0_0 a0_1 a0_2 a0_3 a0_4 a0_5 a0_6 l0_7 = some r) :
    Calls Try.prog 73 #[.agg #[.int .i64 a0_0, .int .i64 a0_1, .int .i64 a0_2, .int .i64 a0_3, .int .i64 a0_4, .int .i64 a0_5, .int .i32 a0_6, .slice A0_7 l0_7.length c0_7]] w fun e w' => ∃ v0_ : Value, e = .returned (v0_) ∧ Kd.R (Kd.int .i64) 3 w' w.heap.size (fun _ => True) v0_ r ∧ Below w.heap.size w w' := by
 have HCL : Aside0 (∀ o, Calls Try.prog 58 #[.slice A0_7 l0_7.length c0_7] (w.alloc o) fun e w' => ∃ v0_ : Value, e = .returned (v0_) ∧ Kd.R (Kd.int .i64) 3 w' (w.alloc o).heap.size (fun _ => True) v0_ r ∧ Below (w.alloc o).heap.size (w.alloc o) w') := ⟨fun o => slices_Clone_int_int.calls A0_7 c0_7 l0_7 r _ (Kd.C_alloc hr0_7 _) hc0_7 h⟩
 clear h hr0_7
 go_enter Try.func73, Try.ntmps73
 go_wp2_with fail
 refine (HCL.out _).mono ?_
 rintro e w' ⟨v, rfl, hR, hb⟩
 have HR := Aside0.mk (Kd.R_lower hR (show w.heap.size ≤ _ by simp))
 have HB := Aside0.mk (below_then (below_alloc (Below.refl _ _) _) (by simp) hb)
 clear hR hb HCL; go_wp2; go_ret
 exact ⟨_, rfl, HR.out, HB.out⟩
def jacquardref07_Makes.f (a0_0 a0_1 a0_2 a0_3 a0_4 a0_5 a0_6 : Int) (l0_7 : List Int) : Option (List Int) := some (if a0_0 = 2 then [a0_3, a0_4] else if a0_0 = 29 then [a0_1, a0_2] else if a0_0 = 26 ∨ a0_0 = 27 ∨ a0_0 = 31 ∨ a0_0 < 1 ∨ 31 < a0_0 then [] else [a0_1])
set_option maxHeartbeats 4000000 in
theorem jacquardref07_Makes.calls (a0_0 a0_1 a0_2 a0_3 a0_4 a0_5 a0_6 : Int) (A0_7 : Option Addr) (c0_7 : Nat) (l0_7 : List Int) (r : List Int) (w : World) (hr0_7 : Kd.C (Kd.int .i64) w A0_7 l0_7.length l0_7) (hc0_7 : l0_7.length ≤ c0_7) (h : jacquardref07_Makes.f a0_0 a0_1 a0_2 a0_3 a0_4 a0_5 a0_6 l0_7 = some r) :
    Calls Try.prog 75 #[.agg #[.int .i64 a0_0, .int .i64 a0_1, .int .i64 a0_2, .int .i64 a0_3, .int .i64 a0_4, .int .i64 a0_5, .int .i32 a0_6, .slice A0_7 l0_7.length c0_7]] w fun e w' => ∃ v0_ : Value, e = .returned (v0_) ∧ Kd.R (Kd.int .i64) 3 w' w.heap.size (fun _ => True) v0_ r ∧ Below w.heap.size w w' := by
 rcases (show a0_0 = 2 ∨ a0_0 = 29 ∨ a0_0 = 26 ∨ a0_0 = 27 ∨ a0_0 = 31 ∨ a0_0 < 1 ∨ 31 < a0_0 ∨ (1 ≤ a0_0 ∧ a0_0 ≤ 31 ∧ a0_0 ≠ 2 ∧ a0_0 ≠ 29 ∧ a0_0 ≠ 26 ∧ a0_0 ≠ 27 ∧ a0_0 ≠ 31) from by omega) with rfl | rfl | rfl | rfl | rfl | hq | hq | hq
 · obtain rfl : [a0_3, a0_4] = r := by simpa [jacquardref07_Makes.f] using h
   clear h hr0_7
   go_enter Try.func75, Try.ntmps75
   go_wp2; go_ret
   exact ⟨_, rfl, lit_R _ _ _ (by simp) (by simp) [a0_3, a0_4] (by simp), below_alloc (below_alloc (Below.refl _ _) _) _⟩
 · obtain rfl : [a0_1, a0_2] = r := by simpa [jacquardref07_Makes.f] using h
   clear h hr0_7
   go_enter Try.func75, Try.ntmps75
   go_wp2; go_ret
   exact ⟨_, rfl, lit_R _ _ _ (by simp) (by simp) [a0_1, a0_2] (by simp), below_alloc (below_alloc (Below.refl _ _) _) _⟩
 · obtain rfl : [] = r := by simpa [jacquardref07_Makes.f] using h
   clear h hr0_7
   go_enter Try.func75, Try.ntmps75
   go_wp2; go_ret
   exact ⟨_, rfl, Kd.R_nil _ _ _ _ _, below_alloc (Below.refl _ _) _⟩
 · obtain rfl : [] = r := by simpa [jacquardref07_Makes.f] using h
   clear h hr0_7
   go_enter Try.func75, Try.ntmps75
   go_wp2; go_ret
   exact ⟨_, rfl, Kd.R_nil _ _ _ _ _, below_alloc (Below.refl _ _) _⟩
 · obtain rfl : [] = r := by simpa [jacquardref07_Makes.f] using h
   clear h hr0_7
   go_enter Try.func75, Try.ntmps75
   go_wp2; go_ret
   exact ⟨_, rfl, Kd.R_nil _ _ _ _ _, below_alloc (Below.refl _ _) _⟩
 · have n2 : ¬ a0_0 = 2 := by omega
   have n29 : ¬ a0_0 = 29 := by omega
   have n26 : ¬ a0_0 = 26 := by omega
   have n27 : ¬ a0_0 = 27 := by omega
   have n31 : ¬ a0_0 = 31 := by omega
   have m0 : a0_0 < 1 := by omega
   obtain rfl : [] = r := by simpa [jacquardref07_Makes.f, n2, n29, n26, n27, n31, m0] using h
   have b2 : (a0_0 == 2) = false := beq_eq_false_iff_ne.mpr n2
   have b29 : (a0_0 == 29) = false := beq_eq_false_iff_ne.mpr n29
   have b26 : (a0_0 == 26) = false := beq_eq_false_iff_ne.mpr n26
   have b27 : (a0_0 == 27) = false := beq_eq_false_iff_ne.mpr n27
   have b31 : (a0_0 == 31) = false := beq_eq_false_iff_ne.mpr n31
   clear h hr0_7 n2 n29 n26 n27 n31
   go_enter Try.func75, Try.ntmps75
   go_wp2; go_ret
   exact ⟨_, rfl, Kd.R_nil _ _ _ _ _, below_alloc (Below.refl _ _) _⟩
 · have n2 : ¬ a0_0 = 2 := by omega
   have n29 : ¬ a0_0 = 29 := by omega
   have n26 : ¬ a0_0 = 26 := by omega
   have n27 : ¬ a0_0 = 27 := by omega
   have n31 : ¬ a0_0 = 31 := by omega
   have m0 : 31 < a0_0 := by omega
   obtain rfl : [] = r := by simpa [jacquardref07_Makes.f, n2, n29, n26, n27, n31, m0] using h
   have b2 : (a0_0 == 2) = false := beq_eq_false_iff_ne.mpr n2
   have b29 : (a0_0 == 29) = false := beq_eq_false_iff_ne.mpr n29
   have b26 : (a0_0 == 26) = false := beq_eq_false_iff_ne.mpr n26
   have b27 : (a0_0 == 27) = false := beq_eq_false_iff_ne.mpr n27
   have b31 : (a0_0 == 31) = false := beq_eq_false_iff_ne.mpr n31
   clear h hr0_7 n2 n29 n26 n27 n31
   go_enter Try.func75, Try.ntmps75
   go_wp2; go_ret
   exact ⟨_, rfl, Kd.R_nil _ _ _ _ _, below_alloc (Below.refl _ _) _⟩
 · have n2 : ¬ a0_0 = 2 := by omega
   have n29 : ¬ a0_0 = 29 := by omega
   have n26 : ¬ a0_0 = 26 := by omega
   have n27 : ¬ a0_0 = 27 := by omega
   have n31 : ¬ a0_0 = 31 := by omega
   have m0 : ¬ a0_0 < 1 := by omega
   have m1 : ¬ 31 < a0_0 := by omega
   obtain rfl : [a0_1] = r := by simpa [jacquardref07_Makes.f, n2, n29, n26, n27, n31, m0, m1] using h
   have b2 : (a0_0 == 2) = false := beq_eq_false_iff_ne.mpr n2
   have b29 : (a0_0 == 29) = false := beq_eq_false_iff_ne.mpr n29
   have b26 : (a0_0 == 26) = false := beq_eq_false_iff_ne.mpr n26
   have b27 : (a0_0 == 27) = false := beq_eq_false_iff_ne.mpr n27
   have b31 : (a0_0 == 31) = false := beq_eq_false_iff_ne.mpr n31
   clear h hr0_7 n2 n29 n26 n27 n31
   go_enter Try.func75, Try.ntmps75
   go_wp2; go_ret
   exact ⟨_, rfl, lit_R _ _ _ (by simp) (by simp) [a0_1] (by simp), below_alloc (below_alloc (Below.refl _ _) _) _⟩
def jacquardref12_Spoils.f (a0_0 a0_1 a0_2 a0_3 a0_4 a0_5 a0_6 : Int) (l0_7 : List Int) : Option (List Int) := some (if a0_0 = 28 then [1, 2, 3] else [])
set_option maxHeartbeats 4000000 in
theorem jacquardref12_Spoils.calls (a0_0 a0_1 a0_2 a0_3 a0_4 a0_5 a0_6 : Int) (A0_7 : Option Addr) (c0_7 : Nat) (l0_7 : List Int) (r : List Int) (w : World) (hr0_7 : Kd.C (Kd.int .i64) w A0_7 l0_7.length l0_7) (hc0_7 : l0_7.length ≤ c0_7) (h : jacquardref12_Spoils.f a0_0 a0_1 a0_2 a0_3 a0_4 a0_5 a0_6 l0_7 = some r) :
    Calls Try.prog 65 #[.agg #[.int .i64 a0_0, .int .i64 a0_1, .int .i64 a0_2, .int .i64 a0_3, .int .i64 a0_4, .int .i64 a0_5, .int .i32 a0_6, .slice A0_7 l0_7.length c0_7]] w fun e w' => ∃ v0_ : Value, e = .returned (v0_) ∧ Kd.R (Kd.int .i64) 3 w' w.heap.size (fun _ => True) v0_ r ∧ Below w.heap.size w w' := by
 rcases (show a0_0 = 28 ∨ a0_0 ≠ 28 from by omega) with rfl | hq
 · obtain rfl : [1, 2, 3] = r := by simpa [jacquardref12_Spoils.f] using h
   clear h hr0_7
   go_enter Try.func65, Try.ntmps65
   go_wp2; go_ret
   exact ⟨_, rfl, lit_R _ _ _ (by simp) (by simp) [1, 2, 3] (by simp), below_alloc (below_alloc (Below.refl _ _) _) _⟩
 · have n28 : ¬ a0_0 = 28 := by omega
   obtain rfl : [] = r := by simpa [jacquardref12_Spoils.f, n28] using h
   have b28 : (a0_0 == 28) = false := beq_eq_false_iff_ne.mpr n28
   clear h hr0_7 n28
   go_enter Try.func65, Try.ntmps65
   go_wp2; go_ret
   exact ⟨_, rfl, Kd.R_nil _ _ _ _ _, below_alloc (Below.refl _ _) _⟩
def phys_Spoils.f (a0_0 a0_1 a0_2 a0_3 a0_4 a0_5 a0_6 : Int) (l0_7 : List Int) : Option (List Int) := some (if a0_0 = 28 then [1, 2, 3] else [])
set_option maxHeartbeats 4000000 in
theorem phys_Spoils.calls (a0_0 a0_1 a0_2 a0_3 a0_4 a0_5 a0_6 : Int) (A0_7 : Option Addr) (c0_7 : Nat) (l0_7 : List Int) (r : List Int) (w : World) (hr0_7 : Kd.C (Kd.int .i64) w A0_7 l0_7.length l0_7) (hc0_7 : l0_7.length ≤ c0_7) (h : phys_Spoils.f a0_0 a0_1 a0_2 a0_3 a0_4 a0_5 a0_6 l0_7 = some r) :
    Calls Try.prog 45 #[.agg #[.int .i64 a0_0, .int .i64 a0_1, .int .i64 a0_2, .int .i64 a0_3, .int .i64 a0_4, .int .i64 a0_5, .int .i32 a0_6, .slice A0_7 l0_7.length c0_7]] w fun e w' => ∃ v0_ : Value, e = .returned (v0_) ∧ Kd.R (Kd.int .i64) 3 w' w.heap.size (fun _ => True) v0_ r ∧ Below w.heap.size w w' := by
 rcases (show a0_0 = 28 ∨ a0_0 ≠ 28 from by omega) with rfl | hq
 · obtain rfl : [1, 2, 3] = r := by simpa [phys_Spoils.f] using h
   clear h hr0_7
   go_enter Try.func45, Try.ntmps45
   go_wp2; go_ret
   exact ⟨_, rfl, lit_R _ _ _ (by simp) (by simp) [1, 2, 3] (by simp), below_alloc (below_alloc (Below.refl _ _) _) _⟩
 · have n28 : ¬ a0_0 = 28 := by omega
   obtain rfl : [] = r := by simpa [phys_Spoils.f, n28] using h
   have b28 : (a0_0 == 28) = false := beq_eq_false_iff_ne.mpr n28
   clear h hr0_7 n28
   go_enter Try.func45, Try.ntmps45
   go_wp2; go_ret
   exact ⟨_, rfl, Kd.R_nil _ _ _ _ _, below_alloc (Below.refl _ _) _⟩
def tk07 (a0_0 a0_3 a0_4 a0_5 : Int) (l0_7 : List Int) : List Int := if a0_0 = 1 ∨ (18 ≤ a0_0 ∧ a0_0 ≤ 22) ∨ a0_0 = 24 ∨ a0_0 = 31 then [a0_3] else if a0_0 = 2 ∨ (5 ≤ a0_0 ∧ a0_0 ≤ 17) ∨ a0_0 = 25 ∨ a0_0 = 26 ∨ a0_0 = 29 then [a0_3, a0_4] else if a0_0 = 23 ∨ a0_0 = 27 then [a0_3, a0_4, a0_5] else if a0_0 = 28 then l0_7 else []
def jacquardref07_Takes.f (a0_0 a0_1 a0_2 a0_3 a0_4 a0_5 a0_6 : Int) (l0_7 : List Int) : Option (List Int) := if l0_7.length < 17592186044416 then some (tk07 a0_0 a0_3 a0_4 a0_5 l0_7) else none
set_option maxHeartbeats 4000000 in
theorem jacquardref07_Takes.calls (a0_0 a0_1 a0_2 a0_3 a0_4 a0_5 a0_6 : Int) (A0_7 : Option Addr) (c0_7 : Nat) (l0_7 : List Int) (r : List Int) (w : World) (hr0_7 : Kd.C (Kd.int .i64) w A0_7 l0_7.length l0_7) (hc0_7 : l0_7.length ≤ c0_7) (h : jacquardref07_Takes.f a0_0 a0_1 a0_2 a0_3 a0_4 a0_5 a0_6 l0_7 = some r) :
    Calls Try.prog 49 #[.agg #[.int .i64 a0_0, .int .i64 a0_1, .int .i64 a0_2, .int .i64 a0_3, .int .i64 a0_4, .int .i64 a0_5, .int .i32 a0_6, .slice A0_7 l0_7.length c0_7]] w fun e w' => ∃ v0_ : Value, e = .returned (v0_) ∧ Kd.R (Kd.int .i64) 3 w' w.heap.size (fun _ => True) v0_ r ∧ Below w.heap.size w w' := by
 rcases (show a0_0 < 1 ∨ a0_0 = 1 ∨ a0_0 = 2 ∨ (3 ≤ a0_0 ∧ a0_0 ≤ 4) ∨ (5 ≤ a0_0 ∧ a0_0 ≤ 17) ∨ (18 ≤ a0_0 ∧ a0_0 ≤ 22) ∨ a0_0 = 23 ∨ a0_0 = 24 ∨ a0_0 = 25 ∨ a0_0 = 26 ∨ a0_0 = 27 ∨ a0_0 = 28 ∨ a0_0 = 29 ∨ a0_0 = 30 ∨ a0_0 = 31 ∨ 31 < a0_0 from by omega) with hq | rfl | rfl | hq | hq | hq | rfl | rfl | rfl | rfl | rfl | rfl | rfl | rfl | rfl | hq
 · have n1 : ¬ a0_0 = 1 := by omega
   have n24 : ¬ a0_0 = 24 := by omega
   have n31 : ¬ a0_0 = 31 := by omega
   have n2 : ¬ a0_0 = 2 := by omega
   have n25 : ¬ a0_0 = 25 := by omega
   have n26 : ¬ a0_0 = 26 := by omega
   have n29 : ¬ a0_0 = 29 := by omega
   have n23 : ¬ a0_0 = 23 := by omega
   have n27 : ¬ a0_0 = 27 := by omega
   have n28 : ¬ a0_0 = 28 := by omega
   have m0 : ¬ (18 ≤ a0_0 ∧ a0_0 ≤ 22) := by omega
   have m1 : ¬ (5 ≤ a0_0 ∧ a0_0 ≤ 17) := by omega
   obtain rfl : [] = r := by
    unfold jacquardref07_Takes.f at h
    split at h
    · simpa [tk07, n1, n24, n31, n2, n25, n26, n29, n23, n27, n28, m0, m1] using h
    · simp at h
   have b1 : (a0_0 == 1) = false := beq_eq_false_iff_ne.mpr n1
   have b24 : (a0_0 == 24) = false := beq_eq_false_iff_ne.mpr n24
   have b31 : (a0_0 == 31) = false := beq_eq_false_iff_ne.mpr n31
   have b2 : (a0_0 == 2) = false := beq_eq_false_iff_ne.mpr n2
   have b25 : (a0_0 == 25) = false := beq_eq_false_iff_ne.mpr n25
   have b26 : (a0_0 == 26) = false := beq_eq_false_iff_ne.mpr n26
   have b29 : (a0_0 == 29) = false := beq_eq_false_iff_ne.mpr n29
   have b23 : (a0_0 == 23) = false := beq_eq_false_iff_ne.mpr n23
   have b27 : (a0_0 == 27) = false := beq_eq_false_iff_ne.mpr n27
   have b28 : (a0_0 == 28) = false := beq_eq_false_iff_ne.mpr n28
   clear m0 m1 n1 n24 n31 n2 n25 n26 n29 n23 n27 n28; clear h hr0_7
   go_enter Try.func49, Try.ntmps49
   go_wp2; go_ret
   exact ⟨_, rfl, Kd.R_nil _ _ _ _ _, below_alloc (Below.refl _ _) _⟩
 · obtain rfl : [a0_3] = r := by
    unfold jacquardref07_Takes.f at h
    split at h
    · simpa [tk07] using h
    · simp at h
   clear h hr0_7
   go_enter Try.func49, Try.ntmps49
   go_wp2; go_ret
   exact ⟨_, rfl, lit_R _ _ _ (by simp) (by simp) [a0_3] (by simp), below_alloc (below_alloc (Below.refl _ _) _) _⟩
 · obtain rfl : [a0_3, a0_4] = r := by
    unfold jacquardref07_Takes.f at h
    split at h
    · simpa [tk07] using h
    · simp at h
   clear h hr0_7
   go_enter Try.func49, Try.ntmps49
   go_wp2; go_ret
   exact ⟨_, rfl, lit_R _ _ _ (by simp) (by simp) [a0_3, a0_4] (by simp), below_alloc (below_alloc (Below.refl _ _) _) _⟩
 · have n1 : ¬ a0_0 = 1 := by omega
   have n24 : ¬ a0_0 = 24 := by omega
   have n31 : ¬ a0_0 = 31 := by omega
   have n2 : ¬ a0_0 = 2 := by omega
   have n25 : ¬ a0_0 = 25 := by omega
   have n26 : ¬ a0_0 = 26 := by omega
   have n29 : ¬ a0_0 = 29 := by omega
   have n23 : ¬ a0_0 = 23 := by omega
   have n27 : ¬ a0_0 = 27 := by omega
   have n28 : ¬ a0_0 = 28 := by omega
   have m0 : ¬ (18 ≤ a0_0 ∧ a0_0 ≤ 22) := by omega
   have m1 : ¬ (5 ≤ a0_0 ∧ a0_0 ≤ 17) := by omega
   obtain rfl : [] = r := by
    unfold jacquardref07_Takes.f at h
    split at h
    · simpa [tk07, n1, n24, n31, n2, n25, n26, n29, n23, n27, n28, m0, m1] using h
    · simp at h
   have b1 : (a0_0 == 1) = false := beq_eq_false_iff_ne.mpr n1
   have b24 : (a0_0 == 24) = false := beq_eq_false_iff_ne.mpr n24
   have b31 : (a0_0 == 31) = false := beq_eq_false_iff_ne.mpr n31
   have b2 : (a0_0 == 2) = false := beq_eq_false_iff_ne.mpr n2
   have b25 : (a0_0 == 25) = false := beq_eq_false_iff_ne.mpr n25
   have b26 : (a0_0 == 26) = false := beq_eq_false_iff_ne.mpr n26
   have b29 : (a0_0 == 29) = false := beq_eq_false_iff_ne.mpr n29
   have b23 : (a0_0 == 23) = false := beq_eq_false_iff_ne.mpr n23
   have b27 : (a0_0 == 27) = false := beq_eq_false_iff_ne.mpr n27
   have b28 : (a0_0 == 28) = false := beq_eq_false_iff_ne.mpr n28
   clear m0 m1 n1 n24 n31 n2 n25 n26 n29 n23 n27 n28; clear h hr0_7
   go_enter Try.func49, Try.ntmps49
   go_wp2; go_ret
   exact ⟨_, rfl, Kd.R_nil _ _ _ _ _, below_alloc (Below.refl _ _) _⟩
 · have n1 : ¬ a0_0 = 1 := by omega
   have n24 : ¬ a0_0 = 24 := by omega
   have n31 : ¬ a0_0 = 31 := by omega
   have n2 : ¬ a0_0 = 2 := by omega
   have n25 : ¬ a0_0 = 25 := by omega
   have n26 : ¬ a0_0 = 26 := by omega
   have n29 : ¬ a0_0 = 29 := by omega
   have n23 : ¬ a0_0 = 23 := by omega
   have n27 : ¬ a0_0 = 27 := by omega
   have n28 : ¬ a0_0 = 28 := by omega
   have m0 : ¬ (18 ≤ a0_0 ∧ a0_0 ≤ 22) := by omega
   have m1 : (5 ≤ a0_0 ∧ a0_0 ≤ 17) := by omega
   obtain rfl : [a0_3, a0_4] = r := by
    unfold jacquardref07_Takes.f at h
    split at h
    · simpa [tk07, n1, n24, n31, n2, n25, n26, n29, n23, n27, n28, m0, m1] using h
    · simp at h
   have b1 : (a0_0 == 1) = false := beq_eq_false_iff_ne.mpr n1
   have b24 : (a0_0 == 24) = false := beq_eq_false_iff_ne.mpr n24
   have b31 : (a0_0 == 31) = false := beq_eq_false_iff_ne.mpr n31
   have b2 : (a0_0 == 2) = false := beq_eq_false_iff_ne.mpr n2
   have b25 : (a0_0 == 25) = false := beq_eq_false_iff_ne.mpr n25
   have b26 : (a0_0 == 26) = false := beq_eq_false_iff_ne.mpr n26
   have b29 : (a0_0 == 29) = false := beq_eq_false_iff_ne.mpr n29
   have b23 : (a0_0 == 23) = false := beq_eq_false_iff_ne.mpr n23
   have b27 : (a0_0 == 27) = false := beq_eq_false_iff_ne.mpr n27
   have b28 : (a0_0 == 28) = false := beq_eq_false_iff_ne.mpr n28
   clear m0 m1 n1 n24 n31 n2 n25 n26 n29 n23 n27 n28; clear h hr0_7
   go_enter Try.func49, Try.ntmps49
   go_wp2; go_ret
   exact ⟨_, rfl, lit_R _ _ _ (by simp) (by simp) [a0_3, a0_4] (by simp), below_alloc (below_alloc (Below.refl _ _) _) _⟩
 · have n1 : ¬ a0_0 = 1 := by omega
   have n24 : ¬ a0_0 = 24 := by omega
   have n31 : ¬ a0_0 = 31 := by omega
   have n2 : ¬ a0_0 = 2 := by omega
   have n25 : ¬ a0_0 = 25 := by omega
   have n26 : ¬ a0_0 = 26 := by omega
   have n29 : ¬ a0_0 = 29 := by omega
   have n23 : ¬ a0_0 = 23 := by omega
   have n27 : ¬ a0_0 = 27 := by omega
   have n28 : ¬ a0_0 = 28 := by omega
   have m0 : (18 ≤ a0_0 ∧ a0_0 ≤ 22) := by omega
   have m1 : ¬ (5 ≤ a0_0 ∧ a0_0 ≤ 17) := by omega
   obtain rfl : [a0_3] = r := by
    unfold jacquardref07_Takes.f at h
    split at h
    · simpa [tk07, n1, n24, n31, n2, n25, n26, n29, n23, n27, n28, m0, m1] using h
    · simp at h
   have b1 : (a0_0 == 1) = false := beq_eq_false_iff_ne.mpr n1
   have b24 : (a0_0 == 24) = false := beq_eq_false_iff_ne.mpr n24
   have b31 : (a0_0 == 31) = false := beq_eq_false_iff_ne.mpr n31
   have b2 : (a0_0 == 2) = false := beq_eq_false_iff_ne.mpr n2
   have b25 : (a0_0 == 25) = false := beq_eq_false_iff_ne.mpr n25
   have b26 : (a0_0 == 26) = false := beq_eq_false_iff_ne.mpr n26
   have b29 : (a0_0 == 29) = false := beq_eq_false_iff_ne.mpr n29
   have b23 : (a0_0 == 23) = false := beq_eq_false_iff_ne.mpr n23
   have b27 : (a0_0 == 27) = false := beq_eq_false_iff_ne.mpr n27
   have b28 : (a0_0 == 28) = false := beq_eq_false_iff_ne.mpr n28
   clear m0 m1 n1 n24 n31 n2 n25 n26 n29 n23 n27 n28; clear h hr0_7
   go_enter Try.func49, Try.ntmps49
   go_wp2; go_ret
   exact ⟨_, rfl, lit_R _ _ _ (by simp) (by simp) [a0_3] (by simp), below_alloc (below_alloc (Below.refl _ _) _) _⟩
 · obtain rfl : [a0_3, a0_4, a0_5] = r := by
    unfold jacquardref07_Takes.f at h
    split at h
    · simpa [tk07] using h
    · simp at h
   clear h hr0_7
   go_enter Try.func49, Try.ntmps49
   go_wp2; go_ret
   exact ⟨_, rfl, lit_R _ _ _ (by simp) (by simp) [a0_3, a0_4, a0_5] (by simp), below_alloc (below_alloc (Below.refl _ _) _) _⟩
 · obtain rfl : [a0_3] = r := by
    unfold jacquardref07_Takes.f at h
    split at h
    · simpa [tk07] using h
    · simp at h
   clear h hr0_7
   go_enter Try.func49, Try.ntmps49
   go_wp2; go_ret
   exact ⟨_, rfl, lit_R _ _ _ (by simp) (by simp) [a0_3] (by simp), below_alloc (below_alloc (Below.refl _ _) _) _⟩
 · obtain rfl : [a0_3, a0_4] = r := by
    unfold jacquardref07_Takes.f at h
    split at h
    · simpa [tk07] using h
    · simp at h
   clear h hr0_7
   go_enter Try.func49, Try.ntmps49
   go_wp2; go_ret
   exact ⟨_, rfl, lit_R _ _ _ (by simp) (by simp) [a0_3, a0_4] (by simp), below_alloc (below_alloc (Below.refl _ _) _) _⟩
 · obtain rfl : [a0_3, a0_4] = r := by
    unfold jacquardref07_Takes.f at h
    split at h
    · simpa [tk07] using h
    · simp at h
   clear h hr0_7
   go_enter Try.func49, Try.ntmps49
   go_wp2; go_ret
   exact ⟨_, rfl, lit_R _ _ _ (by simp) (by simp) [a0_3, a0_4] (by simp), below_alloc (below_alloc (Below.refl _ _) _) _⟩
 · obtain rfl : [a0_3, a0_4, a0_5] = r := by
    unfold jacquardref07_Takes.f at h
    split at h
    · simpa [tk07] using h
    · simp at h
   clear h hr0_7
   go_enter Try.func49, Try.ntmps49
   go_wp2; go_ret
   exact ⟨_, rfl, lit_R _ _ _ (by simp) (by simp) [a0_3, a0_4, a0_5] (by simp), below_alloc (below_alloc (Below.refl _ _) _) _⟩
 · obtain ⟨hlen, rfl⟩ : l0_7.length < 17592186044416 ∧ l0_7 = r := by
    unfold jacquardref07_Takes.f at h
    split at h
    · exact ⟨by assumption, by simpa [tk07] using h⟩
    · simp at h
   clear h
   have HC := Aside0.mk hr0_7
   clear hr0_7
   have HO3 := Aside0.mk (show (Kd.int .i64).R 3 ((w.alloc (.cells #[.int .i64 28, .int .i64 a0_1, .int .i64 a0_2, .int .i64 a0_3, .int .i64 a0_4, .int .i64 a0_5, .int .i32 a0_6, .slice A0_7 l0_7.length c0_7] 35)).alloc (.cells #[] 3)) w.heap.size (fun _ => True) (.slice (some ⟨w.heap.size + 1, 0, none⟩) 0 0) [] from lit_R _ _ _ (by simp) (by simp) [] (by simp))
   have HB3 := Aside0.mk (show Below w.heap.size w ((w.alloc (.cells #[.int .i64 28, .int .i64 a0_1, .int .i64 a0_2, .int .i64 a0_3, .int .i64 a0_4, .int .i64 a0_5, .int .i32 a0_6, .slice A0_7 l0_7.length c0_7] 35)).alloc (.cells #[] 3)) from below_alloc (below_alloc (Below.refl _ _) _) _)
   go_enter Try.func49, Try.ntmps49
   go_wp2_with (at_builtin; refine Kd.R_append_row (Value.int .i64) 0 w.heap.size (w0 := w) rfl (.tmp 84) (.tmp 86) 23 3 (.int .i64 0) 8 rfl Try.underlying23 info3 rfl (by decide) _ [] l0_7 A0_7 l0_7.length c0_7 (fun _ => True) rfl rfl (fun _ _ => trivial) HO3.out (Kd.C_below HC.out (below_alloc (below_alloc (Below.refl _ _) _) _)) HB3.out (by simp; omega) (by simp; omega) ?_; intro v1 w1 h1 hb1 hg1 hat1; have HR1 := Aside0.mk h1; have HB1 := Aside0.mk hb1; clear h1 hb1 hg1 hat1)
   go_ret
   exact ⟨_, rfl, HR1.out, HB1.out⟩
 · obtain rfl : [a0_3, a0_4] = r := by
    unfold jacquardref07_Takes.f at h
    split at h
    · simpa [tk07] using h
    · simp at h
   clear h hr0_7
   go_enter Try.func49, Try.ntmps49
   go_wp2; go_ret
   exact ⟨_, rfl, lit_R _ _ _ (by simp) (by simp) [a0_3, a0_4] (by simp), below_alloc (below_alloc (Below.refl _ _) _) _⟩
 · obtain rfl : [] = r := by
    unfold jacquardref07_Takes.f at h
    split at h
    · simpa [tk07] using h
    · simp at h
   clear h hr0_7
   go_enter Try.func49, Try.ntmps49
   go_wp2; go_ret
   exact ⟨_, rfl, Kd.R_nil _ _ _ _ _, below_alloc (Below.refl _ _) _⟩
 · obtain rfl : [a0_3] = r := by
    unfold jacquardref07_Takes.f at h
    split at h
    · simpa [tk07] using h
    · simp at h
   clear h hr0_7
   go_enter Try.func49, Try.ntmps49
   go_wp2; go_ret
   exact ⟨_, rfl, lit_R _ _ _ (by simp) (by simp) [a0_3] (by simp), below_alloc (below_alloc (Below.refl _ _) _) _⟩
 · have n1 : ¬ a0_0 = 1 := by omega
   have n24 : ¬ a0_0 = 24 := by omega
   have n31 : ¬ a0_0 = 31 := by omega
   have n2 : ¬ a0_0 = 2 := by omega
   have n25 : ¬ a0_0 = 25 := by omega
   have n26 : ¬ a0_0 = 26 := by omega
   have n29 : ¬ a0_0 = 29 := by omega
   have n23 : ¬ a0_0 = 23 := by omega
   have n27 : ¬ a0_0 = 27 := by omega
   have n28 : ¬ a0_0 = 28 := by omega
   have m0 : ¬ (18 ≤ a0_0 ∧ a0_0 ≤ 22) := by omega
   have m1 : ¬ (5 ≤ a0_0 ∧ a0_0 ≤ 17) := by omega
   obtain rfl : [] = r := by
    unfold jacquardref07_Takes.f at h
    split at h
    · simpa [tk07, n1, n24, n31, n2, n25, n26, n29, n23, n27, n28, m0, m1] using h
    · simp at h
   have b1 : (a0_0 == 1) = false := beq_eq_false_iff_ne.mpr n1
   have b24 : (a0_0 == 24) = false := beq_eq_false_iff_ne.mpr n24
   have b31 : (a0_0 == 31) = false := beq_eq_false_iff_ne.mpr n31
   have b2 : (a0_0 == 2) = false := beq_eq_false_iff_ne.mpr n2
   have b25 : (a0_0 == 25) = false := beq_eq_false_iff_ne.mpr n25
   have b26 : (a0_0 == 26) = false := beq_eq_false_iff_ne.mpr n26
   have b29 : (a0_0 == 29) = false := beq_eq_false_iff_ne.mpr n29
   have b23 : (a0_0 == 23) = false := beq_eq_false_iff_ne.mpr n23
   have b27 : (a0_0 == 27) = false := beq_eq_false_iff_ne.mpr n27
   have b28 : (a0_0 == 28) = false := beq_eq_false_iff_ne.mpr n28
   clear m0 m1 n1 n24 n31 n2 n25 n26 n29 n23 n27 n28; clear h hr0_7
   go_enter Try.func49, Try.ntmps49
   go_wp2; go_ret
   exact ⟨_, rfl, Kd.R_nil _ _ _ _ _, below_alloc (Below.refl _ _) _⟩
def jacquardref12_Takes.f (a0_0 a0_1 a0_2 a0_3 a0_4 a0_5 a0_6 : Int) (l0_7 : List Int) : Option (List Int) := if a0_0 = 2 then some [a0_3, a0_4] else if a0_0 = 30 then some [wrap64 (16 + wrap64 a0_6)] else jacquardref07_Takes.f a0_0 a0_1 a0_2 a0_3 a0_4 a0_5 a0_6 l0_7
set_option maxHeartbeats 4000000 in
theorem jacquardref12_Takes.calls (a0_0 a0_1 a0_2 a0_3 a0_4 a0_5 a0_6 : Int) (A0_7 : Option Addr) (c0_7 : Nat) (l0_7 : List Int) (r : List Int) (w : World) (hr0_7 : Kd.C (Kd.int .i64) w A0_7 l0_7.length l0_7) (hc0_7 : l0_7.length ≤ c0_7) (h : jacquardref12_Takes.f a0_0 a0_1 a0_2 a0_3 a0_4 a0_5 a0_6 l0_7 = some r) :
    Calls Try.prog 27 #[.agg #[.int .i64 a0_0, .int .i64 a0_1, .int .i64 a0_2, .int .i64 a0_3, .int .i64 a0_4, .int .i64 a0_5, .int .i32 a0_6, .slice A0_7 l0_7.length c0_7]] w fun e w' => ∃ v0_ : Value, e = .returned (v0_) ∧ Kd.R (Kd.int .i64) 3 w' w.heap.size (fun _ => True) v0_ r ∧ Below w.heap.size w w' := by
 rcases (show a0_0 = 2 ∨ a0_0 = 30 ∨ (a0_0 ≠ 2 ∧ a0_0 ≠ 30) from by omega) with rfl | rfl | hq
 · obtain rfl : [a0_3, a0_4] = r := by simpa [jacquardref12_Takes.f] using h
   clear h hr0_7
   go_enter Try.func27, Try.ntmps27
   go_wp2; go_ret
   exact ⟨_, rfl, lit_R _ _ _ (by simp) (by simp) [a0_3, a0_4] (by simp), below_alloc (below_alloc (Below.refl _ _) _) _⟩
 · obtain rfl : [wrap64 (16 + wrap64 a0_6)] = r := by simpa [jacquardref12_Takes.f] using h
   clear h hr0_7
   go_enter Try.func27, Try.ntmps27
   go_wp2; go_ret
   exact ⟨_, rfl, lit_R _ _ _ (by simp) (by simp) [wrap64 (16 + wrap64 a0_6)] (by simp), below_alloc (below_alloc (Below.refl _ _) _) _⟩
 · have n2 : ¬ a0_0 = 2 := hq.1
   have n3 : ¬ a0_0 = 30 := hq.2
   have HCL : Aside0 (∀ o, Calls Try.prog 49 #[.agg #[.int .i64 a0_0, .int .i64 a0_1, .int .i64 a0_2, .int .i64 a0_3, .int .i64 a0_4, .int .i64 a0_5, .int .i32 a0_6, .slice A0_7 l0_7.length c0_7]] (w.alloc o) fun e w' => ∃ v0_ : Value, e = .returned (v0_) ∧ Kd.R (Kd.int .i64) 3 w' (w.alloc o).heap.size (fun _ => True) v0_ r ∧ Below (w.alloc o).heap.size (w.alloc o) w') := ⟨fun o => jacquardref07_Takes.calls a0_0 a0_1 a0_2 a0_3 a0_4 a0_5 a0_6 A0_7 c0_7 l0_7 r _ (Kd.C_alloc hr0_7 _) hc0_7 (by simpa [jacquardref12_Takes.f, n2, n3] using h)⟩
   clear h hr0_7
   go_enter Try.func27, Try.ntmps27
   go_wp2_with fail
   refine (HCL.out _).mono ?_
   rintro e w' ⟨v, rfl, hR, hb⟩
   have HR := Aside0.mk (Kd.R_lower hR (show w.heap.size ≤ _ by simp))
   have HB := Aside0.mk (below_then (below_alloc (Below.refl _ _) _) (by simp) hb)
   clear hR hb HCL; go_wp2; go_ret
   exact ⟨_, rfl, HR.out, HB.out⟩
def jacquardref12_Makes.f (a0_0 a0_1 a0_2 a0_3 a0_4 a0_5 a0_6 : Int) (l0_7 : List Int) : Option (List Int) := if a0_0 = 2 then some [a0_3, a0_4] else if a0_0 = 31 then some [wrap64 (16 + wrap64 a0_6)] else jacquardref07_Makes.f a0_0 a0_1 a0_2 a0_3 a0_4 a0_5 a0_6 l0_7
set_option maxHeartbeats 4000000 in
theorem jacquardref12_Makes.calls (a0_0 a0_1 a0_2 a0_3 a0_4 a0_5 a0_6 : Int) (A0_7 : Option Addr) (c0_7 : Nat) (l0_7 : List Int) (r : List Int) (w : World) (hr0_7 : Kd.C (Kd.int .i64) w A0_7 l0_7.length l0_7) (hc0_7 : l0_7.length ≤ c0_7) (h : jacquardref12_Makes.f a0_0 a0_1 a0_2 a0_3 a0_4 a0_5 a0_6 l0_7 = some r) :
    Calls Try.prog 64 #[.agg #[.int .i64 a0_0, .int .i64 a0_1, .int .i64 a0_2, .int .i64 a0_3, .int .i64 a0_4, .int .i64 a0_5, .int .i32 a0_6, .slice A0_7 l0_7.length c0_7]] w fun e w' => ∃ v0_ : Value, e = .returned (v0_) ∧ Kd.R (Kd.int .i64) 3 w' w.heap.size (fun _ => True) v0_ r ∧ Below w.heap.size w w' := by
 rcases (show a0_0 = 2 ∨ a0_0 = 31 ∨ (a0_0 ≠ 2 ∧ a0_0 ≠ 31) from by omega) with rfl | rfl | hq
 · obtain rfl : [a0_3, a0_4] = r := by simpa [jacquardref12_Makes.f] using h
   clear h hr0_7
   go_enter Try.func64, Try.ntmps64
   go_wp2; go_ret
   exact ⟨_, rfl, lit_R _ _ _ (by simp) (by simp) [a0_3, a0_4] (by simp), below_alloc (below_alloc (Below.refl _ _) _) _⟩
 · obtain rfl : [wrap64 (16 + wrap64 a0_6)] = r := by simpa [jacquardref12_Makes.f] using h
   clear h hr0_7
   go_enter Try.func64, Try.ntmps64
   go_wp2; go_ret
   exact ⟨_, rfl, lit_R _ _ _ (by simp) (by simp) [wrap64 (16 + wrap64 a0_6)] (by simp), below_alloc (below_alloc (Below.refl _ _) _) _⟩
 · have n2 : ¬ a0_0 = 2 := hq.1
   have n3 : ¬ a0_0 = 31 := hq.2
   have HCL : Aside0 (∀ o, Calls Try.prog 75 #[.agg #[.int .i64 a0_0, .int .i64 a0_1, .int .i64 a0_2, .int .i64 a0_3, .int .i64 a0_4, .int .i64 a0_5, .int .i32 a0_6, .slice A0_7 l0_7.length c0_7]] (w.alloc o) fun e w' => ∃ v0_ : Value, e = .returned (v0_) ∧ Kd.R (Kd.int .i64) 3 w' (w.alloc o).heap.size (fun _ => True) v0_ r ∧ Below (w.alloc o).heap.size (w.alloc o) w') := ⟨fun o => jacquardref07_Makes.calls a0_0 a0_1 a0_2 a0_3 a0_4 a0_5 a0_6 A0_7 c0_7 l0_7 r _ (Kd.C_alloc hr0_7 _) hc0_7 (by simpa [jacquardref12_Makes.f, n2, n3] using h)⟩
   clear h hr0_7
   go_enter Try.func64, Try.ntmps64
   go_wp2_with fail
   refine (HCL.out _).mono ?_
   rintro e w' ⟨v, rfl, hR, hb⟩
   have HR := Aside0.mk (Kd.R_lower hR (show w.heap.size ≤ _ by simp))
   have HB := Aside0.mk (below_then (below_alloc (Below.refl _ _) _) (by simp) hb)
   clear hR hb HCL; go_wp2; go_ret
   exact ⟨_, rfl, HR.out, HB.out⟩
def lateP (a0_0 a1_0 a1_1 a1_2 : Int) : Int := if a0_0 = 7 ∨ a0_0 = 23 ∨ a0_0 = 29 then mx 1 (mn a1_0 20) else if a0_0 = 17 then mx 1 (mn a1_1 20) else if a0_0 = 24 ∨ a0_0 = 25 ∨ a0_0 = 30 then mx 1 (mn a1_2 20) else 1
theorem ret_i {k : IntKind} {a b : Int} (h : a = b) : Ending.returned (.int k a) = .returned (.int k b) := by rw [h]
theorem late_c (a : Int) (w : World) : Calls Try.prog 29 #[.int .i64 a] w fun e w' => e = .returned (.int .i64 (mx 1 (mn a 20))) ∧ w = w' := by
 go_enter Try.func29, Try.ntmps29
 go_wp2 <;> (go_ret; exact ⟨ret_i (by unfold mx mn; (repeat' split) <;> omega), rfl⟩)
def jacquardref16_Late.f (a0_0 a0_1 a0_2 a0_3 a0_4 a0_5 a0_6 : Int) (l0_7 : List Int) (a1_0 a1_1 a1_2 a1_3 : Int) : Option Int := some (lateP a0_0 a1_0 a1_1 a1_2)
set_option maxHeartbeats 4000000 in
theorem jacquardref16_Late.calls (a0_0 a0_1 a0_2 a0_3 a0_4 a0_5 a0_6 : Int) (A0_7 : Option Addr) (c0_7 : Nat) (l0_7 : List Int) (a1_0 a1_1 a1_2 a1_3 : Int) (r : Int) (w : World) (hr0_7 : Kd.C (Kd.int .i64) w A0_7 l0_7.length l0_7) (hc0_7 : l0_7.length ≤ c0_7) (h : jacquardref16_Late.f a0_0 a0_1 a0_2 a0_3 a0_4 a0_5 a0_6 l0_7 a1_0 a1_1 a1_2 a1_3 = some r) :
    Calls Try.prog 14 #[.agg #[.int .i64 a0_0, .int .i64 a0_1, .int .i64 a0_2, .int .i64 a0_3, .int .i64 a0_4, .int .i64 a0_5, .int .i32 a0_6, .slice A0_7 l0_7.length c0_7], .agg #[.int .i64 a1_0, .int .i64 a1_1, .int .i64 a1_2, .int .i64 a1_3]] w fun e w' => e = .returned (.int .i64 r) ∧ Below w.heap.size w w' := by
 clear hr0_7
 rcases (show a0_0 = 7 ∨ a0_0 = 23 ∨ a0_0 = 29 ∨ a0_0 = 17 ∨ a0_0 = 24 ∨ a0_0 = 25 ∨ a0_0 = 30 ∨ (a0_0 ≠ 7 ∧ a0_0 ≠ 23 ∧ a0_0 ≠ 29 ∧ a0_0 ≠ 17 ∧ a0_0 ≠ 24 ∧ a0_0 ≠ 25 ∧ a0_0 ≠ 30) from by omega) with rfl | rfl | rfl | rfl | rfl | rfl | rfl | hq
 · obtain rfl : mx 1 (mn a1_0 20) = r := by simpa [jacquardref16_Late.f, lateP] using h
   clear h
   go_enter Try.func14, Try.ntmps14
   go_wp2_with fail
   refine (late_c _ _).mono ?_
   rintro e w' ⟨rfl, rfl⟩
   go_wp2; go_ret
   exact ⟨rfl, below_alloc (below_alloc (Below.refl _ _) _) _⟩
 · obtain rfl : mx 1 (mn a1_0 20) = r := by simpa [jacquardref16_Late.f, lateP] using h
   clear h
   go_enter Try.func14, Try.ntmps14
   go_wp2_with fail
   refine (late_c _ _).mono ?_
   rintro e w' ⟨rfl, rfl⟩
   go_wp2; go_ret
   exact ⟨rfl, below_alloc (below_alloc (Below.refl _ _) _) _⟩
 · obtain rfl : mx 1 (mn a1_0 20) = r := by simpa [jacquardref16_Late.f, lateP] using h
   clear h
   go_enter Try.func14, Try.ntmps14
   go_wp2_with fail
   refine (late_c _ _).mono ?_
   rintro e w' ⟨rfl, rfl⟩
   go_wp2; go_ret
   exact ⟨rfl, below_alloc (below_alloc (Below.refl _ _) _) _⟩
 · obtain rfl : mx 1 (mn a1_1 20) = r := by simpa [jacquardref16_Late.f, lateP] using h
   clear h
   go_enter Try.func14, Try.ntmps14
   go_wp2_with fail
   refine (late_c _ _).mono ?_
   rintro e w' ⟨rfl, rfl⟩
   go_wp2; go_ret
   exact ⟨rfl, below_alloc (below_alloc (Below.refl _ _) _) _⟩
 · obtain rfl : mx 1 (mn a1_2 20) = r := by simpa [jacquardref16_Late.f, lateP] using h
   clear h
   go_enter Try.func14, Try.ntmps14
   go_wp2_with fail
   refine (late_c _ _).mono ?_
   rintro e w' ⟨rfl, rfl⟩
   go_wp2; go_ret
   exact ⟨rfl, below_alloc (below_alloc (Below.refl _ _) _) _⟩
 · obtain rfl : mx 1 (mn a1_2 20) = r := by simpa [jacquardref16_Late.f, lateP] using h
   clear h
   go_enter Try.func14, Try.ntmps14
   go_wp2_with fail
   refine (late_c _ _).mono ?_
   rintro e w' ⟨rfl, rfl⟩
   go_wp2; go_ret
   exact ⟨rfl, below_alloc (below_alloc (Below.refl _ _) _) _⟩
 · obtain rfl : mx 1 (mn a1_2 20) = r := by simpa [jacquardref16_Late.f, lateP] using h
   clear h
   go_enter Try.func14, Try.ntmps14
   go_wp2_with fail
   refine (late_c _ _).mono ?_
   rintro e w' ⟨rfl, rfl⟩
   go_wp2; go_ret
   exact ⟨rfl, below_alloc (below_alloc (Below.refl _ _) _) _⟩
 · obtain rfl : 1 = r := by simpa [jacquardref16_Late.f, lateP, hq] using h
   have q1 := hq.1; have q2 := hq.2.1; have q3 := hq.2.2.1; have q4 := hq.2.2.2.1; have q5 := hq.2.2.2.2.1; have q6 := hq.2.2.2.2.2.1; have q7 := hq.2.2.2.2.2.2
   clear h hq
   go_enter Try.func14, Try.ntmps14
   go_wp2; go_ret
   exact ⟨rfl, below_alloc (below_alloc (Below.refl _ _) _) _⟩
def sched_Late.f (a0_0 a0_1 a0_2 a0_3 a0_4 a0_5 a0_6 : Int) (l0_7 : List Int) (a1_0 a1_1 a1_2 a1_3 : Int) : Option Int := some (lateP a0_0 a1_0 a1_1 a1_2)
set_option maxHeartbeats 4000000 in
theorem sched_Late.calls (a0_0 a0_1 a0_2 a0_3 a0_4 a0_5 a0_6 : Int) (A0_7 : Option Addr) (c0_7 : Nat) (l0_7 : List Int) (a1_0 a1_1 a1_2 a1_3 : Int) (r : Int) (w : World) (hr0_7 : Kd.C (Kd.int .i64) w A0_7 l0_7.length l0_7) (hc0_7 : l0_7.length ≤ c0_7) (h : sched_Late.f a0_0 a0_1 a0_2 a0_3 a0_4 a0_5 a0_6 l0_7 a1_0 a1_1 a1_2 a1_3 = some r) :
    Calls Try.prog 13 #[.agg #[.int .i64 a0_0, .int .i64 a0_1, .int .i64 a0_2, .int .i64 a0_3, .int .i64 a0_4, .int .i64 a0_5, .int .i32 a0_6, .slice A0_7 l0_7.length c0_7], .agg #[.int .i64 a1_0, .int .i64 a1_1, .int .i64 a1_2, .int .i64 a1_3]] w fun e w' => e = .returned (.int .i64 r) ∧ Below w.heap.size w w' := by
 clear hr0_7
 rcases (show a0_0 = 7 ∨ a0_0 = 23 ∨ a0_0 = 29 ∨ a0_0 = 17 ∨ a0_0 = 24 ∨ a0_0 = 25 ∨ a0_0 = 30 ∨ (a0_0 ≠ 7 ∧ a0_0 ≠ 23 ∧ a0_0 ≠ 29 ∧ a0_0 ≠ 17 ∧ a0_0 ≠ 24 ∧ a0_0 ≠ 25 ∧ a0_0 ≠ 30) from by omega) with rfl | rfl | rfl | rfl | rfl | rfl | rfl | hq
 · obtain rfl : mx 1 (mn a1_0 20) = r := by simpa [sched_Late.f, lateP] using h
   clear h
   go_enter Try.func13, Try.ntmps13
   go_wp2 <;> (go_ret; exact ⟨ret_i (by first | rfl | (unfold mx mn; (repeat' split) <;> omega)), below_alloc (below_alloc (Below.refl _ _) _) _⟩)
 · obtain rfl : mx 1 (mn a1_0 20) = r := by simpa [sched_Late.f, lateP] using h
   clear h
   go_enter Try.func13, Try.ntmps13
   go_wp2 <;> (go_ret; exact ⟨ret_i (by first | rfl | (unfold mx mn; (repeat' split) <;> omega)), below_alloc (below_alloc (Below.refl _ _) _) _⟩)
 · obtain rfl : mx 1 (mn a1_0 20) = r := by simpa [sched_Late.f, lateP] using h
   clear h
   go_enter Try.func13, Try.ntmps13
   go_wp2 <;> (go_ret; exact ⟨ret_i (by first | rfl | (unfold mx mn; (repeat' split) <;> omega)), below_alloc (below_alloc (Below.refl _ _) _) _⟩)
 · obtain rfl : mx 1 (mn a1_1 20) = r := by simpa [sched_Late.f, lateP] using h
   clear h
   go_enter Try.func13, Try.ntmps13
   go_wp2 <;> (go_ret; exact ⟨ret_i (by first | rfl | (unfold mx mn; (repeat' split) <;> omega)), below_alloc (below_alloc (Below.refl _ _) _) _⟩)
 · obtain rfl : mx 1 (mn a1_2 20) = r := by simpa [sched_Late.f, lateP] using h
   clear h
   go_enter Try.func13, Try.ntmps13
   go_wp2 <;> (go_ret; exact ⟨ret_i (by first | rfl | (unfold mx mn; (repeat' split) <;> omega)), below_alloc (below_alloc (Below.refl _ _) _) _⟩)
 · obtain rfl : mx 1 (mn a1_2 20) = r := by simpa [sched_Late.f, lateP] using h
   clear h
   go_enter Try.func13, Try.ntmps13
   go_wp2 <;> (go_ret; exact ⟨ret_i (by first | rfl | (unfold mx mn; (repeat' split) <;> omega)), below_alloc (below_alloc (Below.refl _ _) _) _⟩)
 · obtain rfl : mx 1 (mn a1_2 20) = r := by simpa [sched_Late.f, lateP] using h
   clear h
   go_enter Try.func13, Try.ntmps13
   go_wp2 <;> (go_ret; exact ⟨ret_i (by first | rfl | (unfold mx mn; (repeat' split) <;> omega)), below_alloc (below_alloc (Below.refl _ _) _) _⟩)
 · obtain rfl : 1 = r := by simpa [sched_Late.f, lateP, hq] using h
   have q1 := hq.1; have q2 := hq.2.1; have q3 := hq.2.2.1; have q4 := hq.2.2.2.1; have q5 := hq.2.2.2.2.1; have q6 := hq.2.2.2.2.2.1; have q7 := hq.2.2.2.2.2.2
   clear h hq
   go_enter Try.func13, Try.ntmps13
   go_wp2 <;> (go_ret; exact ⟨ret_i (by first | rfl | (unfold mx mn; (repeat' split) <;> omega)), below_alloc (below_alloc (Below.refl _ _) _) _⟩)
def needP (a0_0 a0_1 a0_2 : Int) : List Int := if a0_0 = 2 ∨ a0_0 = 6 ∨ (a0_0 = 7 ∧ 0 ≤ a0_1) then [a0_1] else if 3 ≤ a0_0 ∧ a0_0 ≤ 5 then [a0_1, a0_2] else []
def jacquardref16_needs.f (a0_0 a0_1 a0_2 : Int) (l0_3 : List Int) (a0_4 : Int) : Option (List Int) := some (needP a0_0 a0_1 a0_2)
set_option maxHeartbeats 4000000 in
theorem jacquardref16_needs.calls (a0_0 a0_1 a0_2 : Int) (A0_3 : Option Addr) (c0_3 : Nat) (l0_3 : List Int) (a0_4 : Int) (r : List Int) (w : World) (hr0_3 : Kd.C (Kd.int .i64) w A0_3 l0_3.length l0_3) (hc0_3 : l0_3.length ≤ c0_3) (h : jacquardref16_needs.f a0_0 a0_1 a0_2 l0_3 a0_4 = some r) :
    Calls Try.prog 28 #[.agg #[.int .i64 a0_0, .int .i64 a0_1, .int .i64 a0_2, .slice A0_3 l0_3.length c0_3, .int .i32 a0_4]] w fun e w' => ∃ v0_ : Value, e = .returned (v0_) ∧ Kd.R (Kd.int .i64) 3 w' w.heap.size (fun _ => True) v0_ r ∧ Below w.heap.size w w' := by
 clear hr0_3
 rcases (show a0_0 = 2 ∨ a0_0 = 6 ∨ (a0_0 = 7 ∧ 0 ≤ a0_1) ∨ (a0_0 = 7 ∧ a0_1 < 0) ∨ a0_0 = 3 ∨ a0_0 = 4 ∨ a0_0 = 5 ∨ a0_0 < 2 ∨ 7 < a0_0 from by omega) with rfl | rfl | ⟨rfl, hq⟩ | ⟨rfl, hq⟩ | rfl | rfl | rfl | hq | hq
 · obtain rfl : [a0_1] = r := by
    simpa [jacquardref16_needs.f, needP] using h
   clear h
   go_enter Try.func28, Try.ntmps28
   go_wp2; go_ret
   exact ⟨_, rfl, lit_R _ _ _ (by simp) (by simp) [a0_1] (by simp), below_alloc (below_alloc (Below.refl _ _) _) _⟩
 · obtain rfl : [a0_1] = r := by
    simpa [jacquardref16_needs.f, needP] using h
   clear h
   go_enter Try.func28, Try.ntmps28
   go_wp2; go_ret
   exact ⟨_, rfl, lit_R _ _ _ (by simp) (by simp) [a0_1] (by simp), below_alloc (below_alloc (Below.refl _ _) _) _⟩
 · obtain rfl : [a0_1] = r := by
    simpa [jacquardref16_needs.f, needP, hq] using h
   clear h
   go_enter Try.func28, Try.ntmps28
   go_wp2; go_ret
   exact ⟨_, rfl, lit_R _ _ _ (by simp) (by simp) [a0_1] (by simp), below_alloc (below_alloc (Below.refl _ _) _) _⟩
 · obtain rfl : [] = r := by
    simpa [jacquardref16_needs.f, needP, show ¬ (0 : Int) ≤ a0_1 from by omega] using h
   clear h
   go_enter Try.func28, Try.ntmps28
   go_wp2; go_ret
   exact ⟨_, rfl, Kd.R_nil _ _ _ _ _, below_alloc (Below.refl _ _) _⟩
 · obtain rfl : [a0_1, a0_2] = r := by
    simpa [jacquardref16_needs.f, needP] using h
   clear h
   go_enter Try.func28, Try.ntmps28
   go_wp2; go_ret
   exact ⟨_, rfl, lit_R _ _ _ (by simp) (by simp) [a0_1, a0_2] (by simp), below_alloc (below_alloc (Below.refl _ _) _) _⟩
 · obtain rfl : [a0_1, a0_2] = r := by
    simpa [jacquardref16_needs.f, needP] using h
   clear h
   go_enter Try.func28, Try.ntmps28
   go_wp2; go_ret
   exact ⟨_, rfl, lit_R _ _ _ (by simp) (by simp) [a0_1, a0_2] (by simp), below_alloc (below_alloc (Below.refl _ _) _) _⟩
 · obtain rfl : [a0_1, a0_2] = r := by
    simpa [jacquardref16_needs.f, needP] using h
   clear h
   go_enter Try.func28, Try.ntmps28
   go_wp2; go_ret
   exact ⟨_, rfl, lit_R _ _ _ (by simp) (by simp) [a0_1, a0_2] (by simp), below_alloc (below_alloc (Below.refl _ _) _) _⟩
 · obtain rfl : [] = r := by
    simpa [jacquardref16_needs.f, needP, show ¬ a0_0 = 2 from by omega, show ¬ a0_0 = 6 from by omega, show ¬ a0_0 = 7 from by omega, show ¬ 3 ≤ a0_0 from by omega] using h
   have b2 : (a0_0 == 2) = false := beq_eq_false_iff_ne.mpr (by omega)
   have b6 : (a0_0 == 6) = false := beq_eq_false_iff_ne.mpr (by omega)
   have b7 : (a0_0 == 7) = false := beq_eq_false_iff_ne.mpr (by omega)
   have b3 : (a0_0 == 3) = false := beq_eq_false_iff_ne.mpr (by omega)
   have b4 : (a0_0 == 4) = false := beq_eq_false_iff_ne.mpr (by omega)
   have b5 : (a0_0 == 5) = false := beq_eq_false_iff_ne.mpr (by omega)
   clear h
   go_enter Try.func28, Try.ntmps28
   go_wp2; go_ret
   exact ⟨_, rfl, Kd.R_nil _ _ _ _ _, below_alloc (Below.refl _ _) _⟩
 · obtain rfl : [] = r := by
    simpa [jacquardref16_needs.f, needP, show ¬ a0_0 = 2 from by omega, show ¬ a0_0 = 6 from by omega, show ¬ a0_0 = 7 from by omega, show ¬ a0_0 ≤ 5 from by omega] using h
   have b2 : (a0_0 == 2) = false := beq_eq_false_iff_ne.mpr (by omega)
   have b6 : (a0_0 == 6) = false := beq_eq_false_iff_ne.mpr (by omega)
   have b7 : (a0_0 == 7) = false := beq_eq_false_iff_ne.mpr (by omega)
   have b3 : (a0_0 == 3) = false := beq_eq_false_iff_ne.mpr (by omega)
   have b4 : (a0_0 == 4) = false := beq_eq_false_iff_ne.mpr (by omega)
   have b5 : (a0_0 == 5) = false := beq_eq_false_iff_ne.mpr (by omega)
   clear h
   go_enter Try.func28, Try.ntmps28
   go_wp2; go_ret
   exact ⟨_, rfl, Kd.R_nil _ _ _ _ _, below_alloc (Below.refl _ _) _⟩
def mach_Needs.f (a0_0 a0_1 a0_2 : Int) (l0_3 : List Int) (a0_4 : Int) : Option (List Int) := some (needP a0_0 a0_1 a0_2)
set_option maxHeartbeats 4000000 in
theorem mach_Needs.calls (a0_0 a0_1 a0_2 : Int) (A0_3 : Option Addr) (c0_3 : Nat) (l0_3 : List Int) (a0_4 : Int) (r : List Int) (w : World) (hr0_3 : Kd.C (Kd.int .i64) w A0_3 l0_3.length l0_3) (hc0_3 : l0_3.length ≤ c0_3) (h : mach_Needs.f a0_0 a0_1 a0_2 l0_3 a0_4 = some r) :
    Calls Try.prog 46 #[.agg #[.int .i64 a0_0, .int .i64 a0_1, .int .i64 a0_2, .slice A0_3 l0_3.length c0_3, .int .i32 a0_4]] w fun e w' => ∃ v0_ : Value, e = .returned (v0_) ∧ Kd.R (Kd.int .i64) 3 w' w.heap.size (fun _ => True) v0_ r ∧ Below w.heap.size w w' := by
 clear hr0_3
 rcases (show a0_0 = 2 ∨ a0_0 = 6 ∨ (a0_0 = 7 ∧ 0 ≤ a0_1) ∨ (a0_0 = 7 ∧ a0_1 < 0) ∨ a0_0 = 3 ∨ a0_0 = 4 ∨ a0_0 = 5 ∨ a0_0 < 2 ∨ 7 < a0_0 from by omega) with rfl | rfl | ⟨rfl, hq⟩ | ⟨rfl, hq⟩ | rfl | rfl | rfl | hq | hq
 · obtain rfl : [a0_1] = r := by
    simpa [mach_Needs.f, needP] using h
   clear h
   go_enter Try.func46, Try.ntmps46
   go_wp2; go_ret
   exact ⟨_, rfl, lit_R _ _ _ (by simp) (by simp) [a0_1] (by simp), below_alloc (below_alloc (Below.refl _ _) _) _⟩
 · obtain rfl : [a0_1] = r := by
    simpa [mach_Needs.f, needP] using h
   clear h
   go_enter Try.func46, Try.ntmps46
   go_wp2; go_ret
   exact ⟨_, rfl, lit_R _ _ _ (by simp) (by simp) [a0_1] (by simp), below_alloc (below_alloc (Below.refl _ _) _) _⟩
 · obtain rfl : [a0_1] = r := by
    simpa [mach_Needs.f, needP, hq] using h
   clear h
   go_enter Try.func46, Try.ntmps46
   go_wp2; go_ret
   exact ⟨_, rfl, lit_R _ _ _ (by simp) (by simp) [a0_1] (by simp), below_alloc (below_alloc (Below.refl _ _) _) _⟩
 · obtain rfl : [] = r := by
    simpa [mach_Needs.f, needP, show ¬ (0 : Int) ≤ a0_1 from by omega] using h
   clear h
   go_enter Try.func46, Try.ntmps46
   go_wp2; go_ret
   exact ⟨_, rfl, Kd.R_nil _ _ _ _ _, below_alloc (Below.refl _ _) _⟩
 · obtain rfl : [a0_1, a0_2] = r := by
    simpa [mach_Needs.f, needP] using h
   clear h
   go_enter Try.func46, Try.ntmps46
   go_wp2; go_ret
   exact ⟨_, rfl, lit_R _ _ _ (by simp) (by simp) [a0_1, a0_2] (by simp), below_alloc (below_alloc (Below.refl _ _) _) _⟩
 · obtain rfl : [a0_1, a0_2] = r := by
    simpa [mach_Needs.f, needP] using h
   clear h
   go_enter Try.func46, Try.ntmps46
   go_wp2; go_ret
   exact ⟨_, rfl, lit_R _ _ _ (by simp) (by simp) [a0_1, a0_2] (by simp), below_alloc (below_alloc (Below.refl _ _) _) _⟩
 · obtain rfl : [a0_1, a0_2] = r := by
    simpa [mach_Needs.f, needP] using h
   clear h
   go_enter Try.func46, Try.ntmps46
   go_wp2; go_ret
   exact ⟨_, rfl, lit_R _ _ _ (by simp) (by simp) [a0_1, a0_2] (by simp), below_alloc (below_alloc (Below.refl _ _) _) _⟩
 · obtain rfl : [] = r := by
    simpa [mach_Needs.f, needP, show ¬ a0_0 = 2 from by omega, show ¬ a0_0 = 6 from by omega, show ¬ a0_0 = 7 from by omega, show ¬ 3 ≤ a0_0 from by omega] using h
   have b2 : (a0_0 == 2) = false := beq_eq_false_iff_ne.mpr (by omega)
   have b6 : (a0_0 == 6) = false := beq_eq_false_iff_ne.mpr (by omega)
   have b7 : (a0_0 == 7) = false := beq_eq_false_iff_ne.mpr (by omega)
   have b3 : (a0_0 == 3) = false := beq_eq_false_iff_ne.mpr (by omega)
   have b4 : (a0_0 == 4) = false := beq_eq_false_iff_ne.mpr (by omega)
   have b5 : (a0_0 == 5) = false := beq_eq_false_iff_ne.mpr (by omega)
   clear h
   go_enter Try.func46, Try.ntmps46
   go_wp2; go_ret
   exact ⟨_, rfl, Kd.R_nil _ _ _ _ _, below_alloc (Below.refl _ _) _⟩
 · obtain rfl : [] = r := by
    simpa [mach_Needs.f, needP, show ¬ a0_0 = 2 from by omega, show ¬ a0_0 = 6 from by omega, show ¬ a0_0 = 7 from by omega, show ¬ a0_0 ≤ 5 from by omega] using h
   have b2 : (a0_0 == 2) = false := beq_eq_false_iff_ne.mpr (by omega)
   have b6 : (a0_0 == 6) = false := beq_eq_false_iff_ne.mpr (by omega)
   have b7 : (a0_0 == 7) = false := beq_eq_false_iff_ne.mpr (by omega)
   have b3 : (a0_0 == 3) = false := beq_eq_false_iff_ne.mpr (by omega)
   have b4 : (a0_0 == 4) = false := beq_eq_false_iff_ne.mpr (by omega)
   have b5 : (a0_0 == 5) = false := beq_eq_false_iff_ne.mpr (by omega)
   clear h
   go_enter Try.func46, Try.ntmps46
   go_wp2; go_ret
   exact ⟨_, rfl, Kd.R_nil _ _ _ _ _, below_alloc (Below.refl _ _) _⟩
def phys_Needs.f (a0_0 a0_1 a0_2 : Int) (l0_3 : List Int) (a0_4 : Int) : Option (List Int) := mach_Needs.f a0_0 a0_1 a0_2 l0_3 a0_4
set_option maxHeartbeats 4000000 in
theorem phys_Needs.calls (a0_0 a0_1 a0_2 : Int) (A0_3 : Option Addr) (c0_3 : Nat) (l0_3 : List Int) (a0_4 : Int) (r : List Int) (w : World) (hr0_3 : Kd.C (Kd.int .i64) w A0_3 l0_3.length l0_3) (hc0_3 : l0_3.length ≤ c0_3) (h : phys_Needs.f a0_0 a0_1 a0_2 l0_3 a0_4 = some r) :
    Calls Try.prog 25 #[.agg #[.int .i64 a0_0, .int .i64 a0_1, .int .i64 a0_2, .slice A0_3 l0_3.length c0_3, .int .i32 a0_4]] w fun e w' => ∃ v0_ : Value, e = .returned (v0_) ∧ Kd.R (Kd.int .i64) 3 w' w.heap.size (fun _ => True) v0_ r ∧ Below w.heap.size w w' := by
 have HCL : Aside0 (∀ o, Calls Try.prog 46 #[.agg #[.int .i64 a0_0, .int .i64 a0_1, .int .i64 a0_2, .slice A0_3 l0_3.length c0_3, .int .i32 a0_4]] (w.alloc o) fun e w' => ∃ v0_ : Value, e = .returned (v0_) ∧ Kd.R (Kd.int .i64) 3 w' (w.alloc o).heap.size (fun _ => True) v0_ r ∧ Below (w.alloc o).heap.size (w.alloc o) w') := ⟨fun o => mach_Needs.calls a0_0 a0_1 a0_2 A0_3 c0_3 l0_3 a0_4 r _ (Kd.C_alloc hr0_3 _) hc0_3 h⟩
 clear h hr0_3
 go_enter Try.func25, Try.ntmps25
 go_wp2_with fail
 refine (HCL.out _).mono ?_
 rintro e w' ⟨v, rfl, hR, hb⟩
 have HR := Aside0.mk (Kd.R_lower hR (show w.heap.size ≤ _ by simp))
 have HB := Aside0.mk (below_then (below_alloc (Below.refl _ _) _) (by simp) hb)
 clear hR hb HCL; go_wp2; go_ret
 exact ⟨_, rfl, HR.out, HB.out⟩
end Go.Proofs.Ytocndmielggnpaa.PAll
end
