/- What the rows of chapter 16 lean on, part 11. -/
import Derived.Test.YtocndmielggnpaaS4
import Derived.Test.YtocndmielggnpaaS8
import Derived.Test.YtocndmielggnpaaS9
set_option linter.unusedSimpArgs false
set_option linter.unusedVariables false
section
namespace Go.Proofs.Ytocndmielggnpaa.PAll
open Go.RowKit Go.Proofs.YtocndmielggnpaaW.PrintWords Go.Proofs.YtocndmielggnpaaW.PrintLast Go.Proofs.YtocndmielggnpaaW.PrintMore
attribute [local go_sem] max2_int min2_int max_two min_two max_three min_three max_four min_four   -- for this text's walks alone
mutual
def jacquardref16_Keeps.l0 : Nat → List (S37) → List (S37) → List Int → List Bool → Int → Option (Bool)
 | 0, _, _, _, _, _ => none
 | k + 1, x0, x1, x5, x6, x7 => if x7 < (x0.length : Int) then (jacquardref16_Keeps.l1 k x0 x1 x5 x6 x7 0) else (jacquardref16_Keeps.l2 k x0 x5 0)
def jacquardref16_Keeps.l1 : Nat → List (S37) → List (S37) → List Int → List Bool → Int → Int → Option (Bool)
 | 0, _, _, _, _, _, _ => none
 | k + 1, x0, x1, x5, x6, x7, x8 => if x8 < (x1.length : Int) then (if 0 ≤ x8 then (if x8 < (x6.length : Int) then (if rdOf false x6 x8 = true then (jacquardref16_Keeps.l1 k x0 x1 x5 x6 x7 (wrap64 (x8 + 1))) else (if 0 ≤ x7 then (if x7 < (x0.length : Int) then ((jacquardref16_same.f k ((rd_T37 x0 x7).f0.f0) ((rd_T37 x0 x7).f0.f1) ((rd_T37 x0 x7).f0.f2) ((rd_T37 x0 x7).f0.f3) ((rd_T37 x0 x7).f0.f4) ((rd_T37 x0 x7).f0.f5) ((rd_T37 x0 x7).f0.f6) ((rd_T37 x0 x7).f0.f7) ((rd_T37 x0 x7).f1) ((rd_T37 x1 x8).f0.f0) ((rd_T37 x1 x8).f0.f1) ((rd_T37 x1 x8).f0.f2) ((rd_T37 x1 x8).f0.f3) ((rd_T37 x1 x8).f0.f4) ((rd_T37 x1 x8).f0.f5) ((rd_T37 x1 x8).f0.f6) ((rd_T37 x1 x8).f0.f7) ((rd_T37 x1 x8).f1)).bind fun t183 => (if t183 = true then (if x8 = (x1.length : Int) then (some false) else (if x7 < (x5.length : Int) then (jacquardref16_Keeps.l0 k x0 x1 (x5.set (x7 : Int).toNat x8) (x6.set (x8 : Int).toNat true) (wrap64 (x7 + 1))) else (none))) else (jacquardref16_Keeps.l1 k x0 x1 x5 x6 x7 (wrap64 (x8 + 1))))) else (none)) else (none))) else (none)) else (none)) else (if x8 = (x1.length : Int) then (some false) else (if 0 ≤ x8 then (if x8 < (x6.length : Int) then (if 0 ≤ x7 then (if x7 < (x5.length : Int) then (jacquardref16_Keeps.l0 k x0 x1 (x5.set (x7 : Int).toNat x8) (x6.set (x8 : Int).toNat true) (wrap64 (x7 + 1))) else (none)) else (none)) else (none)) else (none)))
def jacquardref16_Keeps.l2 : Nat → List (S37) → List Int → Int → Option (Bool)
 | 0, _, _, _ => none
 | k + 1, x0, x5, x9 => if x9 < (x0.length : Int) then (jacquardref16_Keeps.l3 k x0 x5 x9 (wrap64 (x9 + 1))) else (some true)
def jacquardref16_Keeps.l3 : Nat → List (S37) → List Int → Int → Int → Option (Bool)
 | 0, _, _, _, _ => none
 | k + 1, x0, x5, x9, x10 => if x10 < (x0.length : Int) then (if 0 ≤ x10 then (if x10 < (x5.length : Int) then (if 0 ≤ x9 then (if x9 < (x5.length : Int) then (if (rd x5 x10) < (rd x5 x9) then (if x9 < (x0.length : Int) then ((jacquardref16_Behind.f k ((rd_T37 x0 x9).f0.f0) ((rd_T37 x0 x9).f0.f1) ((rd_T37 x0 x9).f0.f2) ((rd_T37 x0 x9).f0.f3) ((rd_T37 x0 x9).f0.f4) ((rd_T37 x0 x9).f0.f5) ((rd_T37 x0 x9).f0.f6) ((rd_T37 x0 x9).f0.f7) ((rd_T37 x0 x10).f0.f0) ((rd_T37 x0 x10).f0.f1) ((rd_T37 x0 x10).f0.f2) ((rd_T37 x0 x10).f0.f3) ((rd_T37 x0 x10).f0.f4) ((rd_T37 x0 x10).f0.f5) ((rd_T37 x0 x10).f0.f6) ((rd_T37 x0 x10).f0.f7)).bind fun t192 => (if t192 = true then (some false) else (jacquardref16_Keeps.l3 k x0 x5 x9 (wrap64 (x10 + 1))))) else (none)) else (jacquardref16_Keeps.l3 k x0 x5 x9 (wrap64 (x10 + 1)))) else (none)) else (none)) else (none)) else (none)) else (jacquardref16_Keeps.l2 k x0 x5 (wrap64 (x9 + 1)))
end
def jacquardref16_Keeps.f (k : Nat) (l0 : List (S37)) (l1 : List (S37)) : Option (Bool) := if (l0.length : Int) = (l1.length : Int) then (if 0 ≤ (l0.length : Int) then (if ((l0.length : Int) : Int).toNat ≤ 35184372088832 then (if ((l0.length : Int) : Int).toNat ≤ 281474976710656 then (jacquardref16_Keeps.l0 k l0 l1 (List.replicate ((l0.length : Int) : Int).toNat 0) (List.replicate ((l0.length : Int) : Int).toNat false) 0) else (none)) else (none)) else (none)) else (some false)
def jacquardref16_Keeps.T9 : Bool × List (List Nat × List Nat) := (true, [([], []), ([], []), ([1], [1]), ([0, 2], [0, 2]), ([3], [3]), ([4], [4]), ([4], [4]), ([5, 6, 4], [4, 5, 6]), ([7, 4], [4, 7]), ([8, 4, 4], [4, 8]), ([9], [9]), ([9], [9]), ([10, 11, 9], [9, 10, 11]), ([12, 9], [9, 12]), ([9], [9]), ([9], [9]), ([14, 15, 9], [9, 14, 15]), ([16, 9], [9, 16]), ([13, 17, 9, 9], [9, 13, 17]), ([18, 9], [9, 18]), ([9, 19, 4], [4, 9, 19]), ([4, 20], [4, 20])])
def jacquardref16_Keeps.B9 : List Nat := [0, 0, 2, 7, 15, 31, 31, 127, 255, 511, 1023, 1023, 4095, 8191, 1023, 1023, 50175, 115711, 262143, 524287, 1048575, 2097151]
theorem jacquardref16_Keeps.tab9 : rtab .any (opsOf Try.f16 9) = jacquardref16_Keeps.T9 := by kernel_rfl
theorem jacquardref16_Keeps.bits9 : waitsOk jacquardref16_Keeps.T9.2 jacquardref16_Keeps.B9 = true := by kernel_rfl
def jacquardref16_Keeps.T21 : Bool × List (List Nat × List Nat) := (true, [([], []), ([], []), ([0, 1], [0, 1]), ([2], [2]), ([], []), ([], []), ([4, 5], [4, 5]), ([6], [6]), ([3, 7], [3, 7]), ([8], [8]), ([9], [9]), ([9], [9]), ([10, 11, 9], [9, 10, 11]), ([12, 9], [9, 12]), ([13, 9], [9, 13]), ([9], [9]), ([9], [9]), ([15, 16, 9], [9, 15, 16]), ([17, 9], [9, 17]), ([18, 9], [9, 18]), ([14, 19, 9, 9], [9, 14, 19]), ([9, 20], [9, 20])])
def jacquardref16_Keeps.B21 : List Nat := [0, 0, 3, 7, 0, 0, 48, 112, 255, 511, 1023, 1023, 4095, 8191, 16383, 1023, 1023, 99327, 230399, 492543, 1048575, 2097151]
theorem jacquardref16_Keeps.tab21 : rtab .any (opsOf Try.f16 21) = jacquardref16_Keeps.T21 := by kernel_rfl
theorem jacquardref16_Keeps.bits21 : waitsOk jacquardref16_Keeps.T21.2 jacquardref16_Keeps.B21 = true := by kernel_rfl
set_option maxHeartbeats 8000000 in
set_option maxRecDepth 100000 in
theorem jacquardref16_Keeps.calls (k : Nat) (A0 : Option Addr) (c0 : Nat) (l0 : List (S37)) (A1 : Option Addr) (c1 : Nat) (l1 : List (S37)) (r : Bool) (w : World) (hr0 : Kd.C k37 w A0 l0.length l0) (hc0 : l0.length ≤ c0) (hr1 : Kd.C k37 w A1 l1.length l1) (hc1 : l1.length ≤ c1) (h : jacquardref16_Keeps.f k l0 l1 = some r) :
    Calls Try.prog 16 #[.slice A0 l0.length c0, .slice A1 l1.length c1] w fun e w' => e = .returned (.bool r) ∧ Below w.heap.size w w' := by
 have hu37 := Try.underlying37
 have hu35 := Try.underlying35
 have HR0 := Aside0.mk hr0
 have HC0 := Aside0.mk hc0
 clear hr0 hc0
 have HR1 := Aside0.mk hr1
 have HC1 := Aside0.mk hc1
 clear hr1 hc1
 have HB := Aside0.mk (Below.refl w.heap.size w)
 have H : (if (l0.length : Int) = (l1.length : Int) then (if 0 ≤ (l0.length : Int) then (if ((l0.length : Int) : Int).toNat ≤ 35184372088832 then (if ((l0.length : Int) : Int).toNat ≤ 281474976710656 then (jacquardref16_Keeps.l0 k l0 l1 (List.replicate ((l0.length : Int) : Int).toNat 0) (List.replicate ((l0.length : Int) : Int).toNat false) 0) else (none)) else (none)) else (none)) else (some false)) = some r := h
 clear h
 by_cases c3 : (l0.length : Int) = (l1.length : Int)
 · rw [if_pos c3] at H
   have c3b0 : ((l0.length : Int) == (l1.length : Int)) = true := beq_iff_eq.mpr c3
   have c3b1 : ((l0.length : Int) != (l1.length : Int)) = false := bne_eq_false_iff_eq.mpr c3
   have c3b2 : (l0.length == l1.length) = true := by first | simpa using c3 | (simp at c3 ⊢; omega)
   clear c3
   by_cases c4 : 0 ≤ (l0.length : Int)
   · rw [if_pos c4] at H
     have c4b0 := eq_true c4
     have c4b1 : decide (0 ≤ (l0.length : Int)) = true := decide_eq_true c4
     clear c4
     by_cases c5 : ((l0.length : Int) : Int).toNat ≤ 35184372088832
     · rw [if_pos c5] at H
       have c5b0 := eq_true c5
       have c5b1 : decide (((l0.length : Int) : Int).toNat ≤ 35184372088832) = true := decide_eq_true c5
       clear c5
       obtain ⟨y174, hy174⟩ : ∃ y_ : List Int, y_ = (List.replicate ((l0.length : Int) : Int).toNat 0) := ⟨_, rfl⟩
       replace H : (if ((l0.length : Int) : Int).toNat ≤ 281474976710656 then (jacquardref16_Keeps.l0 k l0 l1 y174 (List.replicate ((l0.length : Int) : Int).toNat false) 0) else (none)) = some r := by first | (rw [hy174]; with_reducible exact H) | (have H2_ := (Option.bind_some _ _).symm.trans H; rw [hy174]; with_reducible exact H2_) | (have H2_ := (Option.bind_some _ _).symm.trans H; with_reducible exact H2_) | with_reducible exact H | (rw [hy174]; exact H) | exact H
       have Ny174 := Aside0.mk hy174
       clear hy174
       by_cases c6 : ((l0.length : Int) : Int).toNat ≤ 281474976710656
       · rw [if_pos c6] at H
         have c6b0 := eq_true c6
         have c6b1 : decide (((l0.length : Int) : Int).toNat ≤ 281474976710656) = true := decide_eq_true c6
         clear c6
         obtain ⟨y177, hy177⟩ : ∃ y_ : List Bool, y_ = (List.replicate ((l0.length : Int) : Int).toNat false) := ⟨_, rfl⟩
         replace H : (jacquardref16_Keeps.l0 k l0 l1 y174 y177 0) = some r := by first | (rw [hy177]; with_reducible exact H) | (have H2_ := (Option.bind_some _ _).symm.trans H; rw [hy177]; with_reducible exact H2_) | (have H2_ := (Option.bind_some _ _).symm.trans H; with_reducible exact H2_) | with_reducible exact H | (rw [hy177]; exact H) | exact H
         have Ny177 := Aside0.mk hy177
         clear hy177
         have H' := Aside0.mk H
         clear H
         go_enter Try.func16, Try.ntmps16
         go_wp2_with (first | ((with_reducible refine gate_dst (N := 18) rfl ?_); refine Kd.R_make (Kd.int .i64) _ 3 rfl (N := 18) rfl 23 _ _ rfl (l0.length : Int) rfl rfl Try.underlying23 (.int .i64 0) 8 info3 rfl (by decide) (by omega) 0 (ok := fun _ => True) (okp := fun _ => True) rfl (fun _ hk => hk) trivial (of_decide_eq_true (by first | (with_reducible assumption) | assumption)) (Nat.le_trans (Nat.mul_le_mul_right _ (of_decide_eq_true (by first | (with_reducible assumption) | assumption) : (l0.length : Int).toNat ≤ 35184372088832)) (by omega)) (Below.refl _ _) (Nat.le_refl _) ?_; intro v175 w7 ho8 hb hg_ hnew_; clear hg_ hnew_; (first | rw [← Ny174.out] at ho8 | (simp only [Int.reduceToNat] at ho8; rw [← Ny174.out] at ho8)); have n0_ := Aside0.mk (Kd.R_lower ho8 (below_size (by repeat (first | (with_reducible first | exact HB.out | apply below_alloc | apply pw_below_drewN | apply below_drew1) | exact HB.out)))); have n1_ := Aside0.mk (below_step (by repeat (first | (with_reducible first | exact HB.out | apply below_alloc | apply pw_below_drewN | apply below_drew1) | exact HB.out)) hb); clear HB; have HO176 := n0_; have HB := n1_; clear n0_ n1_; clear hb ho8) | ((with_reducible refine gate_dst (N := 21) rfl ?_); refine Kd.R_make Kd.bool _ 4 rfl (N := 21) rfl 74 _ _ rfl (l0.length : Int) rfl rfl Try.underlying74 (.bool false) 1 info4 rfl (by decide) (by omega) false (ok := fun _ => True) (okp := fun _ => True) rfl (fun _ hk => hk) trivial (of_decide_eq_true (by first | (with_reducible assumption) | assumption)) (Nat.le_trans (Nat.mul_le_mul_right _ (of_decide_eq_true (by first | (with_reducible assumption) | assumption) : (l0.length : Int).toNat ≤ 281474976710656)) (by omega)) (Below.refl _ _) (Nat.le_refl _) ?_; intro v178 w9 ho10 hb hg_ hnew_; clear hg_ hnew_; (first | rw [← Ny177.out] at ho10 | (simp only [Int.reduceToNat] at ho10; rw [← Ny177.out] at ho10)); have n0_ := Aside0.mk (Kd.R_below (by (with_reducible repeat (first | apply Kd.R_alloc | apply Kd.R_drewN | apply Kd.R_drew)); exact HO176.out) hb); have n1_ := Aside0.mk (Kd.R_lower ho10 (below_size (by repeat (first | (with_reducible first | exact HB.out | apply below_alloc | apply pw_below_drewN | apply below_drew1) | exact HB.out)))); have n2_ := Aside0.mk (below_step (by repeat (first | (with_reducible first | exact HB.out | apply below_alloc | apply pw_below_drewN | apply below_drew1) | exact HB.out)) hb); clear HO176; clear HB; have HO176 := n0_; have HO179 := n1_; have HB := n2_; clear n0_ n1_ n2_; clear hb ho10))
         go_loopg [7] k (fun kq v7 w' => ∃ (x5_1 : List Int) (x6_1 : List Bool) (x7_1 : Int), v7 = .int .i64 x7_1 ∧ Aside0 (jacquardref16_Keeps.l0 kq l0 l1 x5_1 x6_1 x7_1 = some r) ∧ Aside0 (kq ≤ k) ∧ Aside0 (Kd.R (Kd.int .i64) 3 w' w.heap.size (fun _ => True) v175 x5_1) ∧ Aside0 (Kd.R Kd.bool 4 w' w.heap.size (fun _ => True) v178 x6_1) ∧ Aside0 (Below w.heap.size w w'))
         case atStart => exact ⟨(y174), (y177), (0), (by first | rfl | (simp; done) | (simp [*]; done)), H', ⟨Nat.le_refl _⟩, ⟨by (with_reducible repeat (first | apply Kd.R_alloc | apply Kd.R_drewN | apply Kd.R_drew)); exact HO176.out⟩, ⟨by (with_reducible repeat (first | apply Kd.R_alloc | apply Kd.R_drewN | apply Kd.R_drew)); exact HO179.out⟩, ⟨by repeat (first | (with_reducible first | exact HB.out | apply below_alloc | apply pw_below_drewN | apply below_drew1) | exact HB.out)⟩⟩
         case round =>
          clear H'
          (try clear c1); (try clear p2); (try clear c3); (try clear c3b0); (try clear c3b1); (try clear c3b2); (try clear c4); (try clear c4b0); (try clear c4b1); (try clear c5); (try clear c5b0); (try clear c5b1); (try clear c6); (try clear c6b0); (try clear c6b1)
          obtain ⟨x5_1, x6_1, x7_1, rfl, HA, HK1, HO_5, HO_6, HB⟩ := hrel
          cases gk with
          | zero => exact absurd HA.out (by simp [jacquardref16_Keeps.l0])
          | succ k1 =>
           have H := HA.out
           clear HA
           simp only [jacquardref16_Keeps.l0] at H
           by_cases c11 : x7_1 < (l0.length : Int)
           · rw [if_pos c11] at H
             have c11b0 : decide (x7_1 < (l0.length : Int)) = true := decide_eq_true c11
             clear c11
             have H' := Aside0.mk H
             clear H; go_wp2
             go_loopg [8] k1 (fun kq v8 w' => ∃ (x8_2 : Int), v8 = .int .i64 x8_2 ∧ Aside0 (jacquardref16_Keeps.l1 kq l0 l1 x5_1 x6_1 x7_1 x8_2 = some r) ∧ Aside0 (kq ≤ k1) ∧ Aside0 (Kd.R (Kd.int .i64) 3 w' w.heap.size (fun _ => True) v175 x5_1) ∧ Aside0 (Kd.R Kd.bool 4 w' w.heap.size (fun _ => True) v178 x6_1) ∧ Aside0 (Below w.heap.size w w'))
             case atStart => exact ⟨(0), (by first | rfl | (simp; done) | (simp [*]; done)), H', ⟨Nat.le_refl _⟩, ⟨by (with_reducible repeat (first | apply Kd.R_alloc | apply Kd.R_drewN | apply Kd.R_drew)); exact HO_5.out⟩, ⟨by (with_reducible repeat (first | apply Kd.R_alloc | apply Kd.R_drewN | apply Kd.R_drew)); exact HO_6.out⟩, ⟨by repeat (first | (with_reducible first | exact HB.out | apply below_alloc | apply pw_below_drewN | apply below_drew1) | exact HB.out)⟩⟩
             case round =>
              clear H'
              (try clear c1); (try clear p2); (try clear c3); (try clear c3b0); (try clear c3b1); (try clear c3b2); (try clear c4); (try clear c4b0); (try clear c4b1); (try clear c5); (try clear c5b0); (try clear c5b1); (try clear c6); (try clear c6b0); (try clear c6b1); (try clear c11); (try clear c11b0); (try clear p2)
              obtain ⟨x8_2, rfl, HA, HK2, HO_5, HO_6, HB⟩ := hrel
              cases gk with
              | zero => exact absurd HA.out (by simp [jacquardref16_Keeps.l1])
              | succ k2 =>
               have H := HA.out
               clear HA
               simp only [jacquardref16_Keeps.l1] at H
               by_cases c12 : x8_2 < (l1.length : Int)
               · rw [if_pos c12] at H
                 have c12b0 : decide (x8_2 < (l1.length : Int)) = true := decide_eq_true c12
                 clear c12
                 by_cases c13 : 0 ≤ x8_2
                 · rw [if_pos c13] at H
                   have c13b0 : decide (0 ≤ x8_2) = true := decide_eq_true c13
                   clear c13
                   by_cases c14 : x8_2 < (x6_1.length : Int)
                   · rw [if_pos c14] at H
                     have c14b0 : decide (x8_2 < (x6_1.length : Int)) = true := decide_eq_true c14
                     clear c14
                     obtain ⟨bq15, hbq15⟩ : ∃ b_ : Bool, b_ = (rdOf false x6_1 x8_2) := ⟨_, rfl⟩
                     replace H : (if bq15 = true then (jacquardref16_Keeps.l1 k2 l0 l1 x5_1 x6_1 x7_1 (wrap64 (x8_2 + 1))) else (if 0 ≤ x7_1 then (if x7_1 < (l0.length : Int) then ((jacquardref16_same.f k2 ((rd_T37 l0 x7_1).f0.f0) ((rd_T37 l0 x7_1).f0.f1) ((rd_T37 l0 x7_1).f0.f2) ((rd_T37 l0 x7_1).f0.f3) ((rd_T37 l0 x7_1).f0.f4) ((rd_T37 l0 x7_1).f0.f5) ((rd_T37 l0 x7_1).f0.f6) ((rd_T37 l0 x7_1).f0.f7) ((rd_T37 l0 x7_1).f1) ((rd_T37 l1 x8_2).f0.f0) ((rd_T37 l1 x8_2).f0.f1) ((rd_T37 l1 x8_2).f0.f2) ((rd_T37 l1 x8_2).f0.f3) ((rd_T37 l1 x8_2).f0.f4) ((rd_T37 l1 x8_2).f0.f5) ((rd_T37 l1 x8_2).f0.f6) ((rd_T37 l1 x8_2).f0.f7) ((rd_T37 l1 x8_2).f1)).bind fun t183 => (if t183 = true then (if x8_2 = (l1.length : Int) then (some false) else (if x7_1 < (x5_1.length : Int) then (jacquardref16_Keeps.l0 k2 l0 l1 (x5_1.set (x7_1 : Int).toNat x8_2) (x6_1.set (x8_2 : Int).toNat true) (wrap64 (x7_1 + 1))) else (none))) else (jacquardref16_Keeps.l1 k2 l0 l1 x5_1 x6_1 x7_1 (wrap64 (x8_2 + 1))))) else (none)) else (none))) = some r := by rw [← hbq15] at H; exact H
                     have Nbq15 := Aside0.mk hbq15
                     clear hbq15
                     by_cases c16 : bq15 = true
                     · subst c16
                       have H1 : (jacquardref16_Keeps.l1 k2 l0 l1 x5_1 x6_1 x7_1 (wrap64 (x8_2 + 1))) = some r := by rw [if_pos rfl] at H; exact H
                       clear H
                       have H := H1
                       clear H1
                       have H' := Aside0.mk H
                       clear H
                       try go_wp2
                       have n0_ := Aside0.mk (Kd.R_drew HO_5.out)
                       have n1_ := Aside0.mk (Kd.R_drew HO_6.out)
                       have n2_ := Aside0.mk (below_drew1 HB.out)
                       clear HO_5; clear HO_6; clear HB
                       have HO_5 := n0_
                       have HO_6 := n1_
                       have HB := n2_
                       clear n0_ n1_ n2_
                       obtain ⟨Ao18, co18, eo18⟩ := Kd.R_slice HO_6.out
                       (first | subst eo18 | (injection eo18 with f1_ f2_ f3_; have f4_ := f1_.symm; have f5_ := f3_.symm; clear f1_ f2_ f3_; subst f4_; subst f5_))
                       have p180 : 0 ≤ (x8_2 : Int) := of_decide_eq_true (by first | (with_reducible assumption) | assumption)
                       have q180 : x8_2 < (x6_1.length : Int) := of_decide_eq_true (by first | (with_reducible assumption) | assumption)
                       obtain ⟨ad180, e180, hx180_0⟩ := Kd.at_bool (Kd.R_reads' HO_6.out).2.2 x8_2 p180 q180
                       (try rw [← Nbq15.out] at hx180_0)
                       cases e180
                       replace p180 := eq_true p180
                       replace q180 := eq_true q180
                       refine start_ (n := 22) (S := fun w' => w'.cell? (ad180.add (x8_2).toNat) = some (.bool true)) (ds := []) (bm 22 0) (by kernel_rfl) rfl rfl (hx180_0) (fun hHeld => ?_); refine with_tabW jacquardref16_Keeps.tab9 jacquardref16_Keeps.bits9 (fun HT_ HW_ => ?_)
                       generalize wr.drew = w17 at HO_5 HO_6 HB hx180_0 hHeld ⊢
                       refine pu 0 28 (bm 22 1) rfl rfl (any_of HT_.out (by kernel_rfl)) (fun _ _ _ h => h) (by rfl) (v := ?_) (a' := ?_) (by intro w'; go_simp; with_reducible rfl) (by simp only [np]; rfl) ?_
                       refine pu 1 29 (bm 22 3) rfl rfl (any_of HT_.out (by kernel_rfl)) (fun _ _ _ h => h) (by rfl) (v := ?_) (a' := ?_) (by intro w'; go_simp; with_reducible rfl) (by simp only [np]; rfl) ?_
                       refine pu 2 30 (bm 22 7) rfl rfl (any_of HT_.out (by kernel_rfl)) (fun _ _ _ h => h) (by rfl) (v := ?_) (a' := ?_) (by intro w'; go_simp; with_reducible rfl) (by simp only [np]; rfl) ?_
                       refine pu 3 31 (bm 22 15) rfl rfl (any_of HT_.out (by kernel_rfl)) (fun _ _ _ h => h) (by rfl) (v := ?_) (a' := ?_) (by intro w'; go_simp; with_reducible rfl) (by simp only [np]; rfl) ?_
                       refine pu 4 32 (bm 22 31) rfl rfl (any_of HT_.out (by kernel_rfl)) (fun _ _ _ h => h) (by rfl) (v := ?_) (a' := ?_) (by intro w'; go_simp; with_reducible rfl) (by simp only [np]; rfl) ?_
                       refine pu 5 33 (bm 22 63) rfl rfl (any_of HT_.out (by kernel_rfl)) (fun _ _ _ h => h) (by rfl) (v := ?_) (a' := ?_) (by intro w'; go_simp; with_reducible rfl) (by simp only [np]; rfl) ?_
                       refine pu 6 34 (bm 22 127) rfl rfl (any_of HT_.out (by kernel_rfl)) (fun _ _ _ h => h) (by rfl) (v := ?_) (a' := ?_) (by intro w'; go_simp; with_reducible rfl) (by simp only [np]; rfl) ?_
                       refine pu 7 35 (bm 22 255) rfl rfl (any_of HT_.out (by kernel_rfl)) (fun _ _ _ h => h) (by rfl) (v := ?_) (a' := ?_) (by intro w'; go_simp; with_reducible rfl) (by simp only [np]; rfl) ?_
                       refine take_ (i := 8) (N := some 36) (v := ?_) (a' := ?_) (bm 22 511) rfl rfl (take_ofW HT_.out HW_.out (by kernel_rfl)) (fun _ _ _ h => h) (Or.inl ⟨by rfl, ?_⟩) hHeld ?_ ?_
                       rotate_left
                       · intro w' s0; go_simp; with_reducible rfl
                       rotate_left
                       · simp only [np]; rfl
                       refine pu 9 37 (bm 22 1023) rfl rfl (any_of HT_.out (by kernel_rfl)) (fun _ _ _ h => h) (by rfl) (v := ?_) (a' := ?_) (by intro w'; go_simp; with_reducible rfl) (by simp only [np]; rfl) ?_
                       refine po 10 38 (bm 22 2047) rfl rfl (any_of HT_.out (by kernel_rfl)) (fun _ _ _ h => h) (by rfl) (a' := ?_) (by simp only [np]; rfl) ?_
                       refine po 11 39 (bm 22 4095) rfl rfl (any_of HT_.out (by kernel_rfl)) (fun _ _ _ h => h) (by rfl) (a' := ?_) (by simp only [np]; rfl) ?_
                       refine po 12 40 (bm 22 8191) rfl rfl (any_of HT_.out (by kernel_rfl)) (fun _ _ _ h => h) (by rfl) (a' := ?_) (by simp only [np]; rfl) ?_
                       refine po 13 41 (bm 22 16383) rfl rfl (any_of HT_.out (by kernel_rfl)) (fun _ _ _ h => h) (by rfl) (a' := ?_) (by simp only [np]; rfl) ?_
                       refine po 14 42 (bm 22 32767) rfl rfl (any_of HT_.out (by kernel_rfl)) (fun _ _ _ h => h) (by rfl) (a' := ?_) (by simp only [np]; rfl) ?_
                       refine po 15 43 (bm 22 65535) rfl rfl (any_of HT_.out (by kernel_rfl)) (fun _ _ _ h => h) (by rfl) (a' := ?_) (by simp only [np]; rfl) ?_
                       refine po 16 44 (bm 22 131071) rfl rfl (any_of HT_.out (by kernel_rfl)) (fun _ _ _ h => h) (by rfl) (a' := ?_) (by simp only [np]; rfl) ?_
                       refine po 17 45 (bm 22 262143) rfl rfl (any_of HT_.out (by kernel_rfl)) (fun _ _ _ h => h) (by rfl) (a' := ?_) (by simp only [np]; rfl) ?_
                       refine po 18 46 (bm 22 524287) rfl rfl (any_of HT_.out (by kernel_rfl)) (fun _ _ _ h => h) (by rfl) (a' := ?_) (by simp only [np]; rfl) ?_
                       refine po 19 47 (bm 22 1048575) rfl rfl (any_of HT_.out (by kernel_rfl)) (fun _ _ _ h => h) (by rfl) (a' := ?_) (by simp only [np]; rfl) ?_
                       refine pu 20 48 (bm 22 2097151) rfl rfl (any_of HT_.out (by kernel_rfl)) (fun _ _ _ h => h) (by rfl) (v := ?_) (a' := ?_) (by intro w'; go_simp; with_reducible rfl) (by simp only [np]; rfl) ?_
                       refine pu 21 49 (bm 22 4194303) rfl rfl (any_of HT_.out (by kernel_rfl)) (fun _ _ _ h => h) (by rfl) (v := ?_) (a' := ?_) (by intro w'; go_simp; with_reducible rfl) (by simp only [np]; rfl) ?_
                       refine done_ (done_of HT_.out (by kernel_rfl)) ?_
                       try go_wp2
                       go_roundg k2
                       case measure => have := HK1.out; have := HK2.out; omega
                       case rel => exact ⟨(wrap64 (x8_2 + 1)), (by first | rfl | (simp; done) | (simp [*]; done)), H', ⟨by have := HK1.out; have := HK2.out; omega⟩, ⟨by (with_reducible repeat (first | apply Kd.R_alloc | apply Kd.R_drewN | apply Kd.R_drew)); exact HO_5.out⟩, ⟨by (with_reducible repeat (first | apply Kd.R_alloc | apply Kd.R_drewN | apply Kd.R_drew)); exact HO_6.out⟩, ⟨by repeat (first | (with_reducible first | exact HB.out | apply below_alloc | apply pw_below_drewN | apply below_drew1) | exact HB.out)⟩⟩
                     · replace c16 := Bool.eq_false_iff.mpr c16
                       subst c16
                       have H1 : (if 0 ≤ x7_1 then (if x7_1 < (l0.length : Int) then ((jacquardref16_same.f k2 ((rd_T37 l0 x7_1).f0.f0) ((rd_T37 l0 x7_1).f0.f1) ((rd_T37 l0 x7_1).f0.f2) ((rd_T37 l0 x7_1).f0.f3) ((rd_T37 l0 x7_1).f0.f4) ((rd_T37 l0 x7_1).f0.f5) ((rd_T37 l0 x7_1).f0.f6) ((rd_T37 l0 x7_1).f0.f7) ((rd_T37 l0 x7_1).f1) ((rd_T37 l1 x8_2).f0.f0) ((rd_T37 l1 x8_2).f0.f1) ((rd_T37 l1 x8_2).f0.f2) ((rd_T37 l1 x8_2).f0.f3) ((rd_T37 l1 x8_2).f0.f4) ((rd_T37 l1 x8_2).f0.f5) ((rd_T37 l1 x8_2).f0.f6) ((rd_T37 l1 x8_2).f0.f7) ((rd_T37 l1 x8_2).f1)).bind fun t183 => (if t183 = true then (if x8_2 = (l1.length : Int) then (some false) else (if x7_1 < (x5_1.length : Int) then (jacquardref16_Keeps.l0 k2 l0 l1 (x5_1.set (x7_1 : Int).toNat x8_2) (x6_1.set (x8_2 : Int).toNat true) (wrap64 (x7_1 + 1))) else (none))) else (jacquardref16_Keeps.l1 k2 l0 l1 x5_1 x6_1 x7_1 (wrap64 (x8_2 + 1))))) else (none)) else (none)) = some r := by rw [if_neg (show ¬ (false = true) by decide)] at H; exact H
                       clear H
                       have H := H1
                       clear H1
                       by_cases c19 : 0 ≤ x7_1
                       · rw [if_pos c19] at H
                         have c19b0 : decide (0 ≤ x7_1) = true := decide_eq_true c19
                         clear c19
                         by_cases c20 : x7_1 < (l0.length : Int)
                         · rw [if_pos c20] at H
                           have c20b0 : decide (x7_1 < (l0.length : Int)) = true := decide_eq_true c20
                           clear c20
                           replace H := Option.bind_eq_some_iff.mp H
                           obtain ⟨t183, A210, H⟩ := H
                           replace H : (if t183 = true then (if x8_2 = (l1.length : Int) then (some false) else (if x7_1 < (x5_1.length : Int) then (jacquardref16_Keeps.l0 k2 l0 l1 (x5_1.set (x7_1 : Int).toNat x8_2) (x6_1.set (x8_2 : Int).toNat true) (wrap64 (x7_1 + 1))) else (none))) else (jacquardref16_Keeps.l1 k2 l0 l1 x5_1 x6_1 x7_1 (wrap64 (x8_2 + 1)))) = some r := H
                           have A21 := Aside0.mk A210
                           clear A210
                           by_cases c22 : t183 = true
                           · subst c22
                             have H1 : (if x8_2 = (l1.length : Int) then (some false) else (if x7_1 < (x5_1.length : Int) then (jacquardref16_Keeps.l0 k2 l0 l1 (x5_1.set (x7_1 : Int).toNat x8_2) (x6_1.set (x8_2 : Int).toNat true) (wrap64 (x7_1 + 1))) else (none))) = some r := by rw [if_pos rfl] at H; exact H
                             clear H
                             have H := H1
                             clear H1
                             by_cases c23 : x8_2 = (l1.length : Int)
                             · rw [if_pos c23] at H
                               have c23b0 : (x8_2 == (l1.length : Int)) = true := beq_iff_eq.mpr c23
                               have c23b1 : (x8_2 != (l1.length : Int)) = false := bne_eq_false_iff_eq.mpr c23
                               clear c23
                               obtain rfl := Option.some.inj H
                               try go_wp2
                               have n0_ := Aside0.mk (Kd.R_drew HO_5.out)
                               have n1_ := Aside0.mk (Kd.R_drew HO_6.out)
                               have n2_ := Aside0.mk (below_drew1 HB.out)
                               clear HO_5; clear HO_6; clear HB
                               have HO_5 := n0_
                               have HO_6 := n1_
                               have HB := n2_
                               clear n0_ n1_ n2_
                               obtain ⟨Ao25, co25, eo25⟩ := Kd.R_slice HO_6.out
                               (first | subst eo25 | (injection eo25 with f1_ f2_ f3_; have f4_ := f1_.symm; have f5_ := f3_.symm; clear f1_ f2_ f3_; subst f4_; subst f5_))
                               have p180 : 0 ≤ (x8_2 : Int) := of_decide_eq_true (by first | (with_reducible assumption) | assumption)
                               have q180 : x8_2 < (x6_1.length : Int) := of_decide_eq_true (by first | (with_reducible assumption) | assumption)
                               obtain ⟨ad180, e180, hx180_0⟩ := Kd.at_bool (Kd.R_reads' HO_6.out).2.2 x8_2 p180 q180
                               (try rw [← Nbq15.out] at hx180_0)
                               cases e180
                               replace p180 := eq_true p180
                               replace q180 := eq_true q180
                               have p181 : 0 ≤ (x7_1 : Int) := of_decide_eq_true (by first | (with_reducible assumption) | assumption)
                               have q181 : x7_1 < (l0.length : Int) := of_decide_eq_true (by first | (with_reducible assumption) | assumption)
                               obtain ⟨ad181, A181_7, c181_7, e181, hx181_0, hx181_1, hx181_2, hx181_3, hx181_4, hx181_5, hx181_6, hx181_7, hx181_8, hl181_7, hi181_7⟩ := at_T37 HR0.out x7_1 p181 q181
                               have hw181_8 := hx181_8
                               have hw181_7 := hx181_7
                               have hw181_6 := hx181_6
                               have hw181_5 := hx181_5
                               have hw181_4 := hx181_4
                               have hw181_3 := hx181_3
                               have hw181_2 := hx181_2
                               have hw181_1 := hx181_1
                               have hw181_0 := hx181_0
                               cases e181
                               replace hx181_0 := (HB.out.cell (World.block_lt_of_cell? w _ hx181_0)).trans hx181_0
                               replace hx181_1 := (HB.out.cell (World.block_lt_of_cell? w _ hx181_1)).trans hx181_1
                               replace hx181_2 := (HB.out.cell (World.block_lt_of_cell? w _ hx181_2)).trans hx181_2
                               replace hx181_3 := (HB.out.cell (World.block_lt_of_cell? w _ hx181_3)).trans hx181_3
                               replace hx181_4 := (HB.out.cell (World.block_lt_of_cell? w _ hx181_4)).trans hx181_4
                               replace hx181_5 := (HB.out.cell (World.block_lt_of_cell? w _ hx181_5)).trans hx181_5
                               replace hx181_6 := (HB.out.cell (World.block_lt_of_cell? w _ hx181_6)).trans hx181_6
                               replace hx181_7 := (HB.out.cell (World.block_lt_of_cell? w _ hx181_7)).trans hx181_7
                               replace hx181_8 := (HB.out.cell (World.block_lt_of_cell? w _ hx181_8)).trans hx181_8
                               have HR181_7 := Aside0.mk hi181_7
                               have HC181_7 := Aside0.mk hl181_7
                               clear hi181_7 hl181_7
                               replace p181 := eq_true p181
                               replace q181 := eq_true q181
                               have p182 : 0 ≤ (x8_2 : Int) := of_decide_eq_true (by first | (with_reducible assumption) | assumption)
                               have q182 : x8_2 < (l1.length : Int) := of_decide_eq_true (by first | (with_reducible assumption) | assumption)
                               obtain ⟨ad182, A182_7, c182_7, e182, hx182_0, hx182_1, hx182_2, hx182_3, hx182_4, hx182_5, hx182_6, hx182_7, hx182_8, hl182_7, hi182_7⟩ := at_T37 HR1.out x8_2 p182 q182
                               have hw182_8 := hx182_8
                               have hw182_7 := hx182_7
                               have hw182_6 := hx182_6
                               have hw182_5 := hx182_5
                               have hw182_4 := hx182_4
                               have hw182_3 := hx182_3
                               have hw182_2 := hx182_2
                               have hw182_1 := hx182_1
                               have hw182_0 := hx182_0
                               cases e182
                               replace hx182_0 := (HB.out.cell (World.block_lt_of_cell? w _ hx182_0)).trans hx182_0
                               replace hx182_1 := (HB.out.cell (World.block_lt_of_cell? w _ hx182_1)).trans hx182_1
                               replace hx182_2 := (HB.out.cell (World.block_lt_of_cell? w _ hx182_2)).trans hx182_2
                               replace hx182_3 := (HB.out.cell (World.block_lt_of_cell? w _ hx182_3)).trans hx182_3
                               replace hx182_4 := (HB.out.cell (World.block_lt_of_cell? w _ hx182_4)).trans hx182_4
                               replace hx182_5 := (HB.out.cell (World.block_lt_of_cell? w _ hx182_5)).trans hx182_5
                               replace hx182_6 := (HB.out.cell (World.block_lt_of_cell? w _ hx182_6)).trans hx182_6
                               replace hx182_7 := (HB.out.cell (World.block_lt_of_cell? w _ hx182_7)).trans hx182_7
                               replace hx182_8 := (HB.out.cell (World.block_lt_of_cell? w _ hx182_8)).trans hx182_8
                               have HR182_7 := Aside0.mk hi182_7
                               have HC182_7 := Aside0.mk hl182_7
                               clear hi182_7 hl182_7
                               replace p182 := eq_true p182
                               replace q182 := eq_true q182
                               refine start_ (n := 22) (S := fun w' => w'.cell? (ad180.add (x8_2).toNat) = some (.bool false) ∧ w'.cell? (ad181.add ((x7_1).toNat * 9)) = some (.int .i64 ((rd_T37 l0 x7_1).f0.f0)) ∧ w'.cell? ⟨(ad181.add ((x7_1).toNat * 9)).block, (ad181.add ((x7_1).toNat * 9)).off + 1, none⟩ = some (.int .i64 ((rd_T37 l0 x7_1).f0.f1)) ∧ w'.cell? ⟨(ad181.add ((x7_1).toNat * 9)).block, (ad181.add ((x7_1).toNat * 9)).off + 2, none⟩ = some (.int .i64 ((rd_T37 l0 x7_1).f0.f2)) ∧ w'.cell? ⟨(ad181.add ((x7_1).toNat * 9)).block, (ad181.add ((x7_1).toNat * 9)).off + 3, none⟩ = some (.int .i64 ((rd_T37 l0 x7_1).f0.f3)) ∧ w'.cell? ⟨(ad181.add ((x7_1).toNat * 9)).block, (ad181.add ((x7_1).toNat * 9)).off + 4, none⟩ = some (.int .i64 ((rd_T37 l0 x7_1).f0.f4)) ∧ w'.cell? ⟨(ad181.add ((x7_1).toNat * 9)).block, (ad181.add ((x7_1).toNat * 9)).off + 5, none⟩ = some (.int .i64 ((rd_T37 l0 x7_1).f0.f5)) ∧ w'.cell? ⟨(ad181.add ((x7_1).toNat * 9)).block, (ad181.add ((x7_1).toNat * 9)).off + 6, none⟩ = some (.int .i32 ((rd_T37 l0 x7_1).f0.f6)) ∧ w'.cell? ⟨(ad181.add ((x7_1).toNat * 9)).block, (ad181.add ((x7_1).toNat * 9)).off + 7, none⟩ = some (.slice A181_7 ((rd_T37 l0 x7_1).f0.f7).length c181_7) ∧ w'.cell? ⟨(ad181.add ((x7_1).toNat * 9)).block, (ad181.add ((x7_1).toNat * 9)).off + 8, none⟩ = some (.int .i64 ((rd_T37 l0 x7_1).f1)) ∧ w'.cell? (ad182.add ((x8_2).toNat * 9)) = some (.int .i64 ((rd_T37 l1 x8_2).f0.f0)) ∧ w'.cell? ⟨(ad182.add ((x8_2).toNat * 9)).block, (ad182.add ((x8_2).toNat * 9)).off + 1, none⟩ = some (.int .i64 ((rd_T37 l1 x8_2).f0.f1)) ∧ w'.cell? ⟨(ad182.add ((x8_2).toNat * 9)).block, (ad182.add ((x8_2).toNat * 9)).off + 2, none⟩ = some (.int .i64 ((rd_T37 l1 x8_2).f0.f2)) ∧ w'.cell? ⟨(ad182.add ((x8_2).toNat * 9)).block, (ad182.add ((x8_2).toNat * 9)).off + 3, none⟩ = some (.int .i64 ((rd_T37 l1 x8_2).f0.f3)) ∧ w'.cell? ⟨(ad182.add ((x8_2).toNat * 9)).block, (ad182.add ((x8_2).toNat * 9)).off + 4, none⟩ = some (.int .i64 ((rd_T37 l1 x8_2).f0.f4)) ∧ w'.cell? ⟨(ad182.add ((x8_2).toNat * 9)).block, (ad182.add ((x8_2).toNat * 9)).off + 5, none⟩ = some (.int .i64 ((rd_T37 l1 x8_2).f0.f5)) ∧ w'.cell? ⟨(ad182.add ((x8_2).toNat * 9)).block, (ad182.add ((x8_2).toNat * 9)).off + 6, none⟩ = some (.int .i32 ((rd_T37 l1 x8_2).f0.f6)) ∧ w'.cell? ⟨(ad182.add ((x8_2).toNat * 9)).block, (ad182.add ((x8_2).toNat * 9)).off + 7, none⟩ = some (.slice A182_7 ((rd_T37 l1 x8_2).f0.f7).length c182_7) ∧ w'.cell? ⟨(ad182.add ((x8_2).toNat * 9)).block, (ad182.add ((x8_2).toNat * 9)).off + 8, none⟩ = some (.int .i64 ((rd_T37 l1 x8_2).f1))) (ds := []) (bm 22 0) (by kernel_rfl) rfl rfl ⟨hx180_0, ((HB.out.cell (World.block_lt_of_cell? w _ hw181_0)).trans hw181_0), ((HB.out.cell (World.block_lt_of_cell? w _ hw181_1)).trans hw181_1), ((HB.out.cell (World.block_lt_of_cell? w _ hw181_2)).trans hw181_2), ((HB.out.cell (World.block_lt_of_cell? w _ hw181_3)).trans hw181_3), ((HB.out.cell (World.block_lt_of_cell? w _ hw181_4)).trans hw181_4), ((HB.out.cell (World.block_lt_of_cell? w _ hw181_5)).trans hw181_5), ((HB.out.cell (World.block_lt_of_cell? w _ hw181_6)).trans hw181_6), ((HB.out.cell (World.block_lt_of_cell? w _ hw181_7)).trans hw181_7), ((HB.out.cell (World.block_lt_of_cell? w _ hw181_8)).trans hw181_8), ((HB.out.cell (World.block_lt_of_cell? w _ hw182_0)).trans hw182_0), ((HB.out.cell (World.block_lt_of_cell? w _ hw182_1)).trans hw182_1), ((HB.out.cell (World.block_lt_of_cell? w _ hw182_2)).trans hw182_2), ((HB.out.cell (World.block_lt_of_cell? w _ hw182_3)).trans hw182_3), ((HB.out.cell (World.block_lt_of_cell? w _ hw182_4)).trans hw182_4), ((HB.out.cell (World.block_lt_of_cell? w _ hw182_5)).trans hw182_5), ((HB.out.cell (World.block_lt_of_cell? w _ hw182_6)).trans hw182_6), ((HB.out.cell (World.block_lt_of_cell? w _ hw182_7)).trans hw182_7), ((HB.out.cell (World.block_lt_of_cell? w _ hw182_8)).trans hw182_8)⟩ (fun hHeld => ?_); refine with_tabW jacquardref16_Keeps.tab9 jacquardref16_Keeps.bits9 (fun HT_ HW_ => ?_)
                               generalize wr.drew = w24 at HO_5 HO_6 HB HR181_7 HR182_7 hx180_0 hx181_0 hx181_1 hx181_2 hx181_3 hx181_4 hx181_5 hx181_6 hx181_7 hx181_8 hx182_0 hx182_1 hx182_2 hx182_3 hx182_4 hx182_5 hx182_6 hx182_7 hx182_8 hHeld ⊢
                               refine pu 0 28 (bm 22 1) rfl rfl (any_of HT_.out (by kernel_rfl)) (fun _ _ _ h => h) (by rfl) (v := ?_) (a' := ?_) (by intro w'; go_simp; with_reducible rfl) (by simp only [np]; rfl) ?_
                               refine pu 1 29 (bm 22 3) rfl rfl (any_of HT_.out (by kernel_rfl)) (fun _ _ _ h => h) (by rfl) (v := ?_) (a' := ?_) (by intro w'; go_simp; with_reducible rfl) (by simp only [np]; rfl) ?_
                               refine pu 2 30 (bm 22 7) rfl rfl (any_of HT_.out (by kernel_rfl)) (fun _ _ _ h => h) (by rfl) (v := ?_) (a' := ?_) (by intro w'; go_simp; with_reducible rfl) (by simp only [np]; rfl) ?_
                               refine pu 3 31 (bm 22 15) rfl rfl (any_of HT_.out (by kernel_rfl)) (fun _ _ _ h => h) (by rfl) (v := ?_) (a' := ?_) (by intro w'; go_simp; with_reducible rfl) (by simp only [np]; rfl) ?_
                               refine pu 4 32 (bm 22 31) rfl rfl (any_of HT_.out (by kernel_rfl)) (fun _ _ _ h => h) (by rfl) (v := ?_) (a' := ?_) (by intro w'; go_simp; with_reducible rfl) (by simp only [np]; rfl) ?_
                               refine pu 5 33 (bm 22 63) rfl rfl (any_of HT_.out (by kernel_rfl)) (fun _ _ _ h => h) (by rfl) (v := ?_) (a' := ?_) (by intro w'; go_simp; with_reducible rfl) (by simp only [np]; rfl) ?_
                               refine pu 6 34 (bm 22 127) rfl rfl (any_of HT_.out (by kernel_rfl)) (fun _ _ _ h => h) (by rfl) (v := ?_) (a' := ?_) (by intro w'; go_simp; with_reducible rfl) (by simp only [np]; rfl) ?_
                               refine pu 7 35 (bm 22 255) rfl rfl (any_of HT_.out (by kernel_rfl)) (fun _ _ _ h => h) (by rfl) (v := ?_) (a' := ?_) (by intro w'; go_simp; with_reducible rfl) (by simp only [np]; rfl) ?_
                               refine take_ (i := 8) (N := some 36) (v := ?_) (a' := ?_) (bm 22 511) rfl rfl (take_ofW HT_.out HW_.out (by kernel_rfl)) (fun _ _ _ h => h) (Or.inl ⟨by rfl, ?_⟩) hHeld ?_ ?_
                               rotate_left
                               · rintro w' ⟨s0, s1, s2, s3, s4, s5, s6, s7, s8, s9, s10, s11, s12, s13, s14, s15, s16, s17, s18⟩; go_simp; with_reducible rfl
                               rotate_left
                               · simp only [np]; rfl
                               refine pu 9 37 (bm 22 1023) rfl rfl (any_of HT_.out (by kernel_rfl)) (fun _ _ _ h => h) (by rfl) (v := ?_) (a' := ?_) (by intro w'; go_simp; with_reducible rfl) (by simp only [np]; rfl) ?_
                               refine pu 10 38 (bm 22 2047) rfl rfl (any_of HT_.out (by kernel_rfl)) (fun _ _ _ h => h) (by rfl) (v := ?_) (a' := ?_) (by intro w'; go_simp; with_reducible rfl) (by simp only [np]; rfl) ?_
                               refine pu 11 39 (bm 22 4095) rfl rfl (any_of HT_.out (by kernel_rfl)) (fun _ _ _ h => h) (by rfl) (v := ?_) (a' := ?_) (by intro w'; go_simp; with_reducible rfl) (by simp only [np]; rfl) ?_
                               refine pu 12 40 (bm 22 8191) rfl rfl (any_of HT_.out (by kernel_rfl)) (fun _ _ _ h => h) (by rfl) (v := ?_) (a' := ?_) (by intro w'; go_simp; with_reducible rfl) (by simp only [np]; rfl) ?_
                               refine pu 14 42 (bm 22 24575) rfl rfl (any_of HT_.out (by kernel_rfl)) (fun _ _ _ h => h) (by rfl) (v := ?_) (a' := ?_) (by intro w'; go_simp; with_reducible rfl) (by simp only [np]; rfl) ?_
                               refine pu 15 43 (bm 22 57343) rfl rfl (any_of HT_.out (by kernel_rfl)) (fun _ _ _ h => h) (by rfl) (v := ?_) (a' := ?_) (by intro w'; go_simp; with_reducible rfl) (by simp only [np]; rfl) ?_
                               refine pu 16 44 (bm 22 122879) rfl rfl (any_of HT_.out (by kernel_rfl)) (fun _ _ _ h => h) (by rfl) (v := ?_) (a' := ?_) (by intro w'; go_simp; with_reducible rfl) (by simp only [np]; rfl) ?_
                               refine take_ (i := 13) (N := some 41) (v := ?_) (a' := ?_) (bm 22 131071) rfl rfl (take_ofW HT_.out HW_.out (by kernel_rfl)) (fun _ _ _ h => h) (Or.inl ⟨by rfl, ?_⟩) hHeld ?_ ?_
                               rotate_left
                               · rintro w' ⟨s0, s1, s2, s3, s4, s5, s6, s7, s8, s9, s10, s11, s12, s13, s14, s15, s16, s17, s18⟩; go_simp; with_reducible rfl
                               rotate_left
                               · simp only [np]; rfl
                               refine take_ (i := 17) (N := some 45) (v := ?_) (a' := ?_) (bm 22 262143) rfl rfl (take_ofW HT_.out HW_.out (by kernel_rfl)) (fun _ _ _ h => h) (Or.inl ⟨by rfl, ?_⟩) hHeld ?_ ?_
                               rotate_left
                               · rintro w' ⟨s0, s1, s2, s3, s4, s5, s6, s7, s8, s9, s10, s11, s12, s13, s14, s15, s16, s17, s18⟩; go_simp; with_reducible rfl
                               rotate_left
                               · simp only [np]; rfl
                               refine one_ (i := 18) (N := some 46) (bm 22 524287) rfl rfl (one_of HT_.out (by kernel_rfl)) (by decide) (fun K hK => ?_)
                               refine goes_ Try.func39 (by kernel_rfl) rfl #[.agg #[.int .i64 ((rd_T37 l0 x7_1).f0.f0), .int .i64 ((rd_T37 l0 x7_1).f0.f1), .int .i64 ((rd_T37 l0 x7_1).f0.f2), .int .i64 ((rd_T37 l0 x7_1).f0.f3), .int .i64 ((rd_T37 l0 x7_1).f0.f4), .int .i64 ((rd_T37 l0 x7_1).f0.f5), .int .i32 ((rd_T37 l0 x7_1).f0.f6), .slice A181_7 ((rd_T37 l0 x7_1).f0.f7).length c181_7, .int .i64 ((rd_T37 l0 x7_1).f1)], .agg #[.int .i64 ((rd_T37 l1 x8_2).f0.f0), .int .i64 ((rd_T37 l1 x8_2).f0.f1), .int .i64 ((rd_T37 l1 x8_2).f0.f2), .int .i64 ((rd_T37 l1 x8_2).f0.f3), .int .i64 ((rd_T37 l1 x8_2).f0.f4), .int .i64 ((rd_T37 l1 x8_2).f0.f5), .int .i32 ((rd_T37 l1 x8_2).f0.f6), .slice A182_7 ((rd_T37 l1 x8_2).f0.f7).length c182_7, .int .i64 ((rd_T37 l1 x8_2).f1)]] (by rfl) rfl rfl (by (try simp only [List.map_toArray, List.map_cons, List.map_nil]); first | done | rfl | (simp only [List.length_drop, List.length_take]; rfl)) ?_
                               with_reducible refine (jacquardref16_same.calls k2 ((rd_T37 l0 x7_1).f0.f0) ((rd_T37 l0 x7_1).f0.f1) ((rd_T37 l0 x7_1).f0.f2) ((rd_T37 l0 x7_1).f0.f3) ((rd_T37 l0 x7_1).f0.f4) ((rd_T37 l0 x7_1).f0.f5) ((rd_T37 l0 x7_1).f0.f6) _ _ ((rd_T37 l0 x7_1).f0.f7) ((rd_T37 l0 x7_1).f1) ((rd_T37 l1 x8_2).f0.f0) ((rd_T37 l1 x8_2).f0.f1) ((rd_T37 l1 x8_2).f0.f2) ((rd_T37 l1 x8_2).f0.f3) ((rd_T37 l1 x8_2).f0.f4) ((rd_T37 l1 x8_2).f0.f5) ((rd_T37 l1 x8_2).f0.f6) _ _ ((rd_T37 l1 x8_2).f0.f7) ((rd_T37 l1 x8_2).f1) true _ ?side1 ?side2 ?side3 ?side4 A21.out).mono ?_
                               (case side1 => repeat (first | exact (Kd.C_below HR181_7.out HB.out) | (with_reducible refine Kd.C_alloc ?_ _) | (with_reducible refine Kd.C_drewN ?_ _) | (with_reducible refine Kd.C_drew ?_)))
                               (case side2 => exact HC181_7.out)
                               (case side3 => repeat (first | exact (Kd.C_below HR182_7.out HB.out) | (with_reducible refine Kd.C_alloc ?_ _) | (with_reducible refine Kd.C_drewN ?_ _) | (with_reducible refine Kd.C_drew ?_)))
                               (case side4 => exact HC182_7.out)
                               rintro e w26 ⟨rfl, hb⟩
                               have HS0_ := (hb.cell (World.block_lt_of_cell? _ _ (hHeld.1))).trans (hHeld.1)
                               refine ⟨_, rfl, ?_⟩
                               have n0_ := Aside0.mk (Kd.R_below (by (with_reducible repeat (first | apply Kd.R_alloc | apply Kd.R_drewN | apply Kd.R_drew)); exact HO_5.out) hb)
                               have n1_ := Aside0.mk (Kd.R_below (by (with_reducible repeat (first | apply Kd.R_alloc | apply Kd.R_drewN | apply Kd.R_drew)); exact HO_6.out) hb)
                               have n2_ := Aside0.mk (below_step (by repeat (first | (with_reducible first | exact HB.out | apply below_alloc | apply pw_below_drewN | apply below_drew1) | exact HB.out)) hb)
                               clear HO_5; clear HO_6; clear HB
                               have HO_5 := n0_
                               have HO_6 := n1_
                               have HB := n2_
                               clear n0_ n1_ n2_
                               (try clear hb)
                               (try clear hb2)
                               (try clear hk)
                               (try clear hi)
                               refine hK.out _ _ ⟨HS0_, ((HB.out.cell (World.block_lt_of_cell? w _ hw181_0)).trans hw181_0), ((HB.out.cell (World.block_lt_of_cell? w _ hw181_1)).trans hw181_1), ((HB.out.cell (World.block_lt_of_cell? w _ hw181_2)).trans hw181_2), ((HB.out.cell (World.block_lt_of_cell? w _ hw181_3)).trans hw181_3), ((HB.out.cell (World.block_lt_of_cell? w _ hw181_4)).trans hw181_4), ((HB.out.cell (World.block_lt_of_cell? w _ hw181_5)).trans hw181_5), ((HB.out.cell (World.block_lt_of_cell? w _ hw181_6)).trans hw181_6), ((HB.out.cell (World.block_lt_of_cell? w _ hw181_7)).trans hw181_7), ((HB.out.cell (World.block_lt_of_cell? w _ hw181_8)).trans hw181_8), ((HB.out.cell (World.block_lt_of_cell? w _ hw182_0)).trans hw182_0), ((HB.out.cell (World.block_lt_of_cell? w _ hw182_1)).trans hw182_1), ((HB.out.cell (World.block_lt_of_cell? w _ hw182_2)).trans hw182_2), ((HB.out.cell (World.block_lt_of_cell? w _ hw182_3)).trans hw182_3), ((HB.out.cell (World.block_lt_of_cell? w _ hw182_4)).trans hw182_4), ((HB.out.cell (World.block_lt_of_cell? w _ hw182_5)).trans hw182_5), ((HB.out.cell (World.block_lt_of_cell? w _ hw182_6)).trans hw182_6), ((HB.out.cell (World.block_lt_of_cell? w _ hw182_7)).trans hw182_7), ((HB.out.cell (World.block_lt_of_cell? w _ hw182_8)).trans hw182_8)⟩ (fun hHeld => ?_)
                               clear hK K
                               refine norm_ (a' := ?_) ?_ ?_
                               rotate_left
                               · show Act.put _ (some 46) _ = _; simp only [np]; rfl
                               refine pu 19 47 (bm 22 1048575) rfl rfl (any_of HT_.out (by kernel_rfl)) (fun _ _ _ h => h) (by rfl) (v := ?_) (a' := ?_) (by intro w'; go_simp; with_reducible rfl) (by simp only [np]; rfl) ?_
                               refine pu 20 48 (bm 22 2097151) rfl rfl (any_of HT_.out (by kernel_rfl)) (fun _ _ _ h => h) (by rfl) (v := ?_) (a' := ?_) (by intro w'; go_simp; with_reducible rfl) (by simp only [np]; rfl) ?_
                               refine pu 21 49 (bm 22 4194303) rfl rfl (any_of HT_.out (by kernel_rfl)) (fun _ _ _ h => h) (by rfl) (v := ?_) (a' := ?_) (by intro w'; go_simp; with_reducible rfl) (by simp only [np]; rfl) ?_
                               refine done_ (done_of HT_.out (by kernel_rfl)) ?_
                               try go_wp2
                               go_ret
                               exact ⟨by first | rfl | (simp [errW_none, errW_some] <;> rfl) | (simp [*, errW_none, errW_some] <;> rfl), by repeat (first | (with_reducible first | exact HB.out | apply below_alloc | apply pw_below_drewN | apply below_drew1) | exact HB.out)⟩
                             · rw [if_neg c23] at H
                               have c23b0 : (x8_2 == (l1.length : Int)) = false := beq_eq_false_iff_ne.mpr c23
                               have c23b1 : (x8_2 != (l1.length : Int)) = true := bne_iff_ne.mpr c23
                               obtain ⟨y184, hy184⟩ : ∃ y_ : List Bool, y_ = (x6_1.set (x8_2 : Int).toNat true) := ⟨_, rfl⟩
                               replace H : (if x7_1 < (x5_1.length : Int) then (jacquardref16_Keeps.l0 k2 l0 l1 (x5_1.set (x7_1 : Int).toNat x8_2) y184 (wrap64 (x7_1 + 1))) else (none)) = some r := by first | (rw [hy184]; with_reducible exact H) | (have H2_ := (Option.bind_some _ _).symm.trans H; rw [hy184]; with_reducible exact H2_) | (have H2_ := (Option.bind_some _ _).symm.trans H; with_reducible exact H2_) | with_reducible exact H | (rw [hy184]; exact H) | exact H
                               have Ny184 := Aside0.mk hy184
                               clear hy184
                               by_cases c28 : x7_1 < (x5_1.length : Int)
                               · rw [if_pos c28] at H
                                 have c28b0 : decide (x7_1 < (x5_1.length : Int)) = true := decide_eq_true c28
                                 clear c28
                                 obtain ⟨y185, hy185⟩ : ∃ y_ : List Int, y_ = (x5_1.set (x7_1 : Int).toNat x8_2) := ⟨_, rfl⟩
                                 replace H : (jacquardref16_Keeps.l0 k2 l0 l1 y185 y184 (wrap64 (x7_1 + 1))) = some r := by first | (rw [hy185]; with_reducible exact H) | (have H2_ := (Option.bind_some _ _).symm.trans H; rw [hy185]; with_reducible exact H2_) | (have H2_ := (Option.bind_some _ _).symm.trans H; with_reducible exact H2_) | with_reducible exact H | (rw [hy185]; exact H) | exact H
                                 have Ny185 := Aside0.mk hy185
                                 clear hy185
                                 have H' := Aside0.mk H
                                 clear H
                                 try go_wp2
                                 have n0_ := Aside0.mk (Kd.R_drew HO_5.out)
                                 have n1_ := Aside0.mk (Kd.R_drew HO_6.out)
                                 have n2_ := Aside0.mk (below_drew1 HB.out)
                                 clear HO_5; clear HO_6; clear HB
                                 have HO_5 := n0_
                                 have HO_6 := n1_
                                 have HB := n2_
                                 clear n0_ n1_ n2_
                                 obtain ⟨Ao31, co31, eo31⟩ := Kd.R_slice HO_6.out
                                 (first | subst eo31 | (injection eo31 with f1_ f2_ f3_; have f4_ := f1_.symm; have f5_ := f3_.symm; clear f1_ f2_ f3_; subst f4_; subst f5_))
                                 have p180 : 0 ≤ (x8_2 : Int) := of_decide_eq_true (by first | (with_reducible assumption) | assumption)
                                 have q180 : x8_2 < (x6_1.length : Int) := of_decide_eq_true (by first | (with_reducible assumption) | assumption)
                                 obtain ⟨ad180, e180, hx180_0⟩ := Kd.at_bool (Kd.R_reads' HO_6.out).2.2 x8_2 p180 q180
                                 (try rw [← Nbq15.out] at hx180_0)
                                 cases e180
                                 replace p180 := eq_true p180
                                 replace q180 := eq_true q180
                                 have p181 : 0 ≤ (x7_1 : Int) := of_decide_eq_true (by first | (with_reducible assumption) | assumption)
                                 have q181 : x7_1 < (l0.length : Int) := of_decide_eq_true (by first | (with_reducible assumption) | assumption)
                                 obtain ⟨ad181, A181_7, c181_7, e181, hx181_0, hx181_1, hx181_2, hx181_3, hx181_4, hx181_5, hx181_6, hx181_7, hx181_8, hl181_7, hi181_7⟩ := at_T37 HR0.out x7_1 p181 q181
                                 have hw181_8 := hx181_8
                                 have hw181_7 := hx181_7
                                 have hw181_6 := hx181_6
                                 have hw181_5 := hx181_5
                                 have hw181_4 := hx181_4
                                 have hw181_3 := hx181_3
                                 have hw181_2 := hx181_2
                                 have hw181_1 := hx181_1
                                 have hw181_0 := hx181_0
                                 cases e181
                                 replace hx181_0 := (HB.out.cell (World.block_lt_of_cell? w _ hx181_0)).trans hx181_0
                                 replace hx181_1 := (HB.out.cell (World.block_lt_of_cell? w _ hx181_1)).trans hx181_1
                                 replace hx181_2 := (HB.out.cell (World.block_lt_of_cell? w _ hx181_2)).trans hx181_2
                                 replace hx181_3 := (HB.out.cell (World.block_lt_of_cell? w _ hx181_3)).trans hx181_3
                                 replace hx181_4 := (HB.out.cell (World.block_lt_of_cell? w _ hx181_4)).trans hx181_4
                                 replace hx181_5 := (HB.out.cell (World.block_lt_of_cell? w _ hx181_5)).trans hx181_5
                                 replace hx181_6 := (HB.out.cell (World.block_lt_of_cell? w _ hx181_6)).trans hx181_6
                                 replace hx181_7 := (HB.out.cell (World.block_lt_of_cell? w _ hx181_7)).trans hx181_7
                                 replace hx181_8 := (HB.out.cell (World.block_lt_of_cell? w _ hx181_8)).trans hx181_8
                                 have HR181_7 := Aside0.mk hi181_7
                                 have HC181_7 := Aside0.mk hl181_7
                                 clear hi181_7 hl181_7
                                 replace p181 := eq_true p181
                                 replace q181 := eq_true q181
                                 have p182 : 0 ≤ (x8_2 : Int) := of_decide_eq_true (by first | (with_reducible assumption) | assumption)
                                 have q182 : x8_2 < (l1.length : Int) := of_decide_eq_true (by first | (with_reducible assumption) | assumption)
                                 obtain ⟨ad182, A182_7, c182_7, e182, hx182_0, hx182_1, hx182_2, hx182_3, hx182_4, hx182_5, hx182_6, hx182_7, hx182_8, hl182_7, hi182_7⟩ := at_T37 HR1.out x8_2 p182 q182
                                 have hw182_8 := hx182_8
                                 have hw182_7 := hx182_7
                                 have hw182_6 := hx182_6
                                 have hw182_5 := hx182_5
                                 have hw182_4 := hx182_4
                                 have hw182_3 := hx182_3
                                 have hw182_2 := hx182_2
                                 have hw182_1 := hx182_1
                                 have hw182_0 := hx182_0
                                 cases e182
                                 replace hx182_0 := (HB.out.cell (World.block_lt_of_cell? w _ hx182_0)).trans hx182_0
                                 replace hx182_1 := (HB.out.cell (World.block_lt_of_cell? w _ hx182_1)).trans hx182_1
                                 replace hx182_2 := (HB.out.cell (World.block_lt_of_cell? w _ hx182_2)).trans hx182_2
                                 replace hx182_3 := (HB.out.cell (World.block_lt_of_cell? w _ hx182_3)).trans hx182_3
                                 replace hx182_4 := (HB.out.cell (World.block_lt_of_cell? w _ hx182_4)).trans hx182_4
                                 replace hx182_5 := (HB.out.cell (World.block_lt_of_cell? w _ hx182_5)).trans hx182_5
                                 replace hx182_6 := (HB.out.cell (World.block_lt_of_cell? w _ hx182_6)).trans hx182_6
                                 replace hx182_7 := (HB.out.cell (World.block_lt_of_cell? w _ hx182_7)).trans hx182_7
                                 replace hx182_8 := (HB.out.cell (World.block_lt_of_cell? w _ hx182_8)).trans hx182_8
                                 have HR182_7 := Aside0.mk hi182_7
                                 have HC182_7 := Aside0.mk hl182_7
                                 clear hi182_7 hl182_7
                                 replace p182 := eq_true p182
                                 replace q182 := eq_true q182
                                 refine start_ (n := 22) (S := fun w' => w'.cell? (ad180.add (x8_2).toNat) = some (.bool false) ∧ w'.cell? (ad181.add ((x7_1).toNat * 9)) = some (.int .i64 ((rd_T37 l0 x7_1).f0.f0)) ∧ w'.cell? ⟨(ad181.add ((x7_1).toNat * 9)).block, (ad181.add ((x7_1).toNat * 9)).off + 1, none⟩ = some (.int .i64 ((rd_T37 l0 x7_1).f0.f1)) ∧ w'.cell? ⟨(ad181.add ((x7_1).toNat * 9)).block, (ad181.add ((x7_1).toNat * 9)).off + 2, none⟩ = some (.int .i64 ((rd_T37 l0 x7_1).f0.f2)) ∧ w'.cell? ⟨(ad181.add ((x7_1).toNat * 9)).block, (ad181.add ((x7_1).toNat * 9)).off + 3, none⟩ = some (.int .i64 ((rd_T37 l0 x7_1).f0.f3)) ∧ w'.cell? ⟨(ad181.add ((x7_1).toNat * 9)).block, (ad181.add ((x7_1).toNat * 9)).off + 4, none⟩ = some (.int .i64 ((rd_T37 l0 x7_1).f0.f4)) ∧ w'.cell? ⟨(ad181.add ((x7_1).toNat * 9)).block, (ad181.add ((x7_1).toNat * 9)).off + 5, none⟩ = some (.int .i64 ((rd_T37 l0 x7_1).f0.f5)) ∧ w'.cell? ⟨(ad181.add ((x7_1).toNat * 9)).block, (ad181.add ((x7_1).toNat * 9)).off + 6, none⟩ = some (.int .i32 ((rd_T37 l0 x7_1).f0.f6)) ∧ w'.cell? ⟨(ad181.add ((x7_1).toNat * 9)).block, (ad181.add ((x7_1).toNat * 9)).off + 7, none⟩ = some (.slice A181_7 ((rd_T37 l0 x7_1).f0.f7).length c181_7) ∧ w'.cell? ⟨(ad181.add ((x7_1).toNat * 9)).block, (ad181.add ((x7_1).toNat * 9)).off + 8, none⟩ = some (.int .i64 ((rd_T37 l0 x7_1).f1)) ∧ w'.cell? (ad182.add ((x8_2).toNat * 9)) = some (.int .i64 ((rd_T37 l1 x8_2).f0.f0)) ∧ w'.cell? ⟨(ad182.add ((x8_2).toNat * 9)).block, (ad182.add ((x8_2).toNat * 9)).off + 1, none⟩ = some (.int .i64 ((rd_T37 l1 x8_2).f0.f1)) ∧ w'.cell? ⟨(ad182.add ((x8_2).toNat * 9)).block, (ad182.add ((x8_2).toNat * 9)).off + 2, none⟩ = some (.int .i64 ((rd_T37 l1 x8_2).f0.f2)) ∧ w'.cell? ⟨(ad182.add ((x8_2).toNat * 9)).block, (ad182.add ((x8_2).toNat * 9)).off + 3, none⟩ = some (.int .i64 ((rd_T37 l1 x8_2).f0.f3)) ∧ w'.cell? ⟨(ad182.add ((x8_2).toNat * 9)).block, (ad182.add ((x8_2).toNat * 9)).off + 4, none⟩ = some (.int .i64 ((rd_T37 l1 x8_2).f0.f4)) ∧ w'.cell? ⟨(ad182.add ((x8_2).toNat * 9)).block, (ad182.add ((x8_2).toNat * 9)).off + 5, none⟩ = some (.int .i64 ((rd_T37 l1 x8_2).f0.f5)) ∧ w'.cell? ⟨(ad182.add ((x8_2).toNat * 9)).block, (ad182.add ((x8_2).toNat * 9)).off + 6, none⟩ = some (.int .i32 ((rd_T37 l1 x8_2).f0.f6)) ∧ w'.cell? ⟨(ad182.add ((x8_2).toNat * 9)).block, (ad182.add ((x8_2).toNat * 9)).off + 7, none⟩ = some (.slice A182_7 ((rd_T37 l1 x8_2).f0.f7).length c182_7) ∧ w'.cell? ⟨(ad182.add ((x8_2).toNat * 9)).block, (ad182.add ((x8_2).toNat * 9)).off + 8, none⟩ = some (.int .i64 ((rd_T37 l1 x8_2).f1))) (ds := []) (bm 22 0) (by kernel_rfl) rfl rfl ⟨hx180_0, ((HB.out.cell (World.block_lt_of_cell? w _ hw181_0)).trans hw181_0), ((HB.out.cell (World.block_lt_of_cell? w _ hw181_1)).trans hw181_1), ((HB.out.cell (World.block_lt_of_cell? w _ hw181_2)).trans hw181_2), ((HB.out.cell (World.block_lt_of_cell? w _ hw181_3)).trans hw181_3), ((HB.out.cell (World.block_lt_of_cell? w _ hw181_4)).trans hw181_4), ((HB.out.cell (World.block_lt_of_cell? w _ hw181_5)).trans hw181_5), ((HB.out.cell (World.block_lt_of_cell? w _ hw181_6)).trans hw181_6), ((HB.out.cell (World.block_lt_of_cell? w _ hw181_7)).trans hw181_7), ((HB.out.cell (World.block_lt_of_cell? w _ hw181_8)).trans hw181_8), ((HB.out.cell (World.block_lt_of_cell? w _ hw182_0)).trans hw182_0), ((HB.out.cell (World.block_lt_of_cell? w _ hw182_1)).trans hw182_1), ((HB.out.cell (World.block_lt_of_cell? w _ hw182_2)).trans hw182_2), ((HB.out.cell (World.block_lt_of_cell? w _ hw182_3)).trans hw182_3), ((HB.out.cell (World.block_lt_of_cell? w _ hw182_4)).trans hw182_4), ((HB.out.cell (World.block_lt_of_cell? w _ hw182_5)).trans hw182_5), ((HB.out.cell (World.block_lt_of_cell? w _ hw182_6)).trans hw182_6), ((HB.out.cell (World.block_lt_of_cell? w _ hw182_7)).trans hw182_7), ((HB.out.cell (World.block_lt_of_cell? w _ hw182_8)).trans hw182_8)⟩ (fun hHeld => ?_); refine with_tabW jacquardref16_Keeps.tab9 jacquardref16_Keeps.bits9 (fun HT_ HW_ => ?_)
                                 generalize wr.drew = w30 at HO_5 HO_6 HB HR181_7 HR182_7 hx180_0 hx181_0 hx181_1 hx181_2 hx181_3 hx181_4 hx181_5 hx181_6 hx181_7 hx181_8 hx182_0 hx182_1 hx182_2 hx182_3 hx182_4 hx182_5 hx182_6 hx182_7 hx182_8 hHeld ⊢
                                 refine pu 0 28 (bm 22 1) rfl rfl (any_of HT_.out (by kernel_rfl)) (fun _ _ _ h => h) (by rfl) (v := ?_) (a' := ?_) (by intro w'; go_simp; with_reducible rfl) (by simp only [np]; rfl) ?_
                                 refine pu 1 29 (bm 22 3) rfl rfl (any_of HT_.out (by kernel_rfl)) (fun _ _ _ h => h) (by rfl) (v := ?_) (a' := ?_) (by intro w'; go_simp; with_reducible rfl) (by simp only [np]; rfl) ?_
                                 refine pu 2 30 (bm 22 7) rfl rfl (any_of HT_.out (by kernel_rfl)) (fun _ _ _ h => h) (by rfl) (v := ?_) (a' := ?_) (by intro w'; go_simp; with_reducible rfl) (by simp only [np]; rfl) ?_
                                 refine pu 3 31 (bm 22 15) rfl rfl (any_of HT_.out (by kernel_rfl)) (fun _ _ _ h => h) (by rfl) (v := ?_) (a' := ?_) (by intro w'; go_simp; with_reducible rfl) (by simp only [np]; rfl) ?_
                                 refine pu 4 32 (bm 22 31) rfl rfl (any_of HT_.out (by kernel_rfl)) (fun _ _ _ h => h) (by rfl) (v := ?_) (a' := ?_) (by intro w'; go_simp; with_reducible rfl) (by simp only [np]; rfl) ?_
                                 refine pu 5 33 (bm 22 63) rfl rfl (any_of HT_.out (by kernel_rfl)) (fun _ _ _ h => h) (by rfl) (v := ?_) (a' := ?_) (by intro w'; go_simp; with_reducible rfl) (by simp only [np]; rfl) ?_
                                 refine pu 6 34 (bm 22 127) rfl rfl (any_of HT_.out (by kernel_rfl)) (fun _ _ _ h => h) (by rfl) (v := ?_) (a' := ?_) (by intro w'; go_simp; with_reducible rfl) (by simp only [np]; rfl) ?_
                                 refine pu 7 35 (bm 22 255) rfl rfl (any_of HT_.out (by kernel_rfl)) (fun _ _ _ h => h) (by rfl) (v := ?_) (a' := ?_) (by intro w'; go_simp; with_reducible rfl) (by simp only [np]; rfl) ?_
                                 refine take_ (i := 8) (N := some 36) (v := ?_) (a' := ?_) (bm 22 511) rfl rfl (take_ofW HT_.out HW_.out (by kernel_rfl)) (fun _ _ _ h => h) (Or.inl ⟨by rfl, ?_⟩) hHeld ?_ ?_
                                 rotate_left
                                 · rintro w' ⟨s0, s1, s2, s3, s4, s5, s6, s7, s8, s9, s10, s11, s12, s13, s14, s15, s16, s17, s18⟩; go_simp; with_reducible rfl
                                 rotate_left
                                 · simp only [np]; rfl
                                 refine pu 9 37 (bm 22 1023) rfl rfl (any_of HT_.out (by kernel_rfl)) (fun _ _ _ h => h) (by rfl) (v := ?_) (a' := ?_) (by intro w'; go_simp; with_reducible rfl) (by simp only [np]; rfl) ?_
                                 refine pu 10 38 (bm 22 2047) rfl rfl (any_of HT_.out (by kernel_rfl)) (fun _ _ _ h => h) (by rfl) (v := ?_) (a' := ?_) (by intro w'; go_simp; with_reducible rfl) (by simp only [np]; rfl) ?_
                                 refine pu 11 39 (bm 22 4095) rfl rfl (any_of HT_.out (by kernel_rfl)) (fun _ _ _ h => h) (by rfl) (v := ?_) (a' := ?_) (by intro w'; go_simp; with_reducible rfl) (by simp only [np]; rfl) ?_
                                 refine pu 12 40 (bm 22 8191) rfl rfl (any_of HT_.out (by kernel_rfl)) (fun _ _ _ h => h) (by rfl) (v := ?_) (a' := ?_) (by intro w'; go_simp; with_reducible rfl) (by simp only [np]; rfl) ?_
                                 refine pu 14 42 (bm 22 24575) rfl rfl (any_of HT_.out (by kernel_rfl)) (fun _ _ _ h => h) (by rfl) (v := ?_) (a' := ?_) (by intro w'; go_simp; with_reducible rfl) (by simp only [np]; rfl) ?_
                                 refine pu 15 43 (bm 22 57343) rfl rfl (any_of HT_.out (by kernel_rfl)) (fun _ _ _ h => h) (by rfl) (v := ?_) (a' := ?_) (by intro w'; go_simp; with_reducible rfl) (by simp only [np]; rfl) ?_
                                 refine pu 16 44 (bm 22 122879) rfl rfl (any_of HT_.out (by kernel_rfl)) (fun _ _ _ h => h) (by rfl) (v := ?_) (a' := ?_) (by intro w'; go_simp; with_reducible rfl) (by simp only [np]; rfl) ?_
                                 refine take_ (i := 13) (N := some 41) (v := ?_) (a' := ?_) (bm 22 131071) rfl rfl (take_ofW HT_.out HW_.out (by kernel_rfl)) (fun _ _ _ h => h) (Or.inl ⟨by rfl, ?_⟩) hHeld ?_ ?_
                                 rotate_left
                                 · rintro w' ⟨s0, s1, s2, s3, s4, s5, s6, s7, s8, s9, s10, s11, s12, s13, s14, s15, s16, s17, s18⟩; go_simp; with_reducible rfl
                                 rotate_left
                                 · simp only [np]; rfl
                                 refine take_ (i := 17) (N := some 45) (v := ?_) (a' := ?_) (bm 22 262143) rfl rfl (take_ofW HT_.out HW_.out (by kernel_rfl)) (fun _ _ _ h => h) (Or.inl ⟨by rfl, ?_⟩) hHeld ?_ ?_
                                 rotate_left
                                 · rintro w' ⟨s0, s1, s2, s3, s4, s5, s6, s7, s8, s9, s10, s11, s12, s13, s14, s15, s16, s17, s18⟩; go_simp; with_reducible rfl
                                 rotate_left
                                 · simp only [np]; rfl
                                 refine one_ (i := 18) (N := some 46) (bm 22 524287) rfl rfl (one_of HT_.out (by kernel_rfl)) (by decide) (fun K hK => ?_)
                                 refine goes_ Try.func39 (by kernel_rfl) rfl #[.agg #[.int .i64 ((rd_T37 l0 x7_1).f0.f0), .int .i64 ((rd_T37 l0 x7_1).f0.f1), .int .i64 ((rd_T37 l0 x7_1).f0.f2), .int .i64 ((rd_T37 l0 x7_1).f0.f3), .int .i64 ((rd_T37 l0 x7_1).f0.f4), .int .i64 ((rd_T37 l0 x7_1).f0.f5), .int .i32 ((rd_T37 l0 x7_1).f0.f6), .slice A181_7 ((rd_T37 l0 x7_1).f0.f7).length c181_7, .int .i64 ((rd_T37 l0 x7_1).f1)], .agg #[.int .i64 ((rd_T37 l1 x8_2).f0.f0), .int .i64 ((rd_T37 l1 x8_2).f0.f1), .int .i64 ((rd_T37 l1 x8_2).f0.f2), .int .i64 ((rd_T37 l1 x8_2).f0.f3), .int .i64 ((rd_T37 l1 x8_2).f0.f4), .int .i64 ((rd_T37 l1 x8_2).f0.f5), .int .i32 ((rd_T37 l1 x8_2).f0.f6), .slice A182_7 ((rd_T37 l1 x8_2).f0.f7).length c182_7, .int .i64 ((rd_T37 l1 x8_2).f1)]] (by rfl) rfl rfl (by (try simp only [List.map_toArray, List.map_cons, List.map_nil]); first | done | rfl | (simp only [List.length_drop, List.length_take]; rfl)) ?_
                                 with_reducible refine (jacquardref16_same.calls k2 ((rd_T37 l0 x7_1).f0.f0) ((rd_T37 l0 x7_1).f0.f1) ((rd_T37 l0 x7_1).f0.f2) ((rd_T37 l0 x7_1).f0.f3) ((rd_T37 l0 x7_1).f0.f4) ((rd_T37 l0 x7_1).f0.f5) ((rd_T37 l0 x7_1).f0.f6) _ _ ((rd_T37 l0 x7_1).f0.f7) ((rd_T37 l0 x7_1).f1) ((rd_T37 l1 x8_2).f0.f0) ((rd_T37 l1 x8_2).f0.f1) ((rd_T37 l1 x8_2).f0.f2) ((rd_T37 l1 x8_2).f0.f3) ((rd_T37 l1 x8_2).f0.f4) ((rd_T37 l1 x8_2).f0.f5) ((rd_T37 l1 x8_2).f0.f6) _ _ ((rd_T37 l1 x8_2).f0.f7) ((rd_T37 l1 x8_2).f1) true _ ?side1 ?side2 ?side3 ?side4 A21.out).mono ?_
                                 (case side1 => repeat (first | exact (Kd.C_below HR181_7.out HB.out) | (with_reducible refine Kd.C_alloc ?_ _) | (with_reducible refine Kd.C_drewN ?_ _) | (with_reducible refine Kd.C_drew ?_)))
                                 (case side2 => exact HC181_7.out)
                                 (case side3 => repeat (first | exact (Kd.C_below HR182_7.out HB.out) | (with_reducible refine Kd.C_alloc ?_ _) | (with_reducible refine Kd.C_drewN ?_ _) | (with_reducible refine Kd.C_drew ?_)))
                                 (case side4 => exact HC182_7.out)
                                 rintro e w32 ⟨rfl, hb⟩
                                 have HS0_ := (hb.cell (World.block_lt_of_cell? _ _ (hHeld.1))).trans (hHeld.1)
                                 refine ⟨_, rfl, ?_⟩
                                 have n0_ := Aside0.mk (Kd.R_below (by (with_reducible repeat (first | apply Kd.R_alloc | apply Kd.R_drewN | apply Kd.R_drew)); exact HO_5.out) hb)
                                 have n1_ := Aside0.mk (Kd.R_below (by (with_reducible repeat (first | apply Kd.R_alloc | apply Kd.R_drewN | apply Kd.R_drew)); exact HO_6.out) hb)
                                 have n2_ := Aside0.mk (below_step (by repeat (first | (with_reducible first | exact HB.out | apply below_alloc | apply pw_below_drewN | apply below_drew1) | exact HB.out)) hb)
                                 clear HO_5; clear HO_6; clear HB
                                 have HO_5 := n0_
                                 have HO_6 := n1_
                                 have HB := n2_
                                 clear n0_ n1_ n2_
                                 (try clear hb)
                                 (try clear hb2)
                                 (try clear hk)
                                 (try clear hi)
                                 refine hK.out _ _ ⟨HS0_, ((HB.out.cell (World.block_lt_of_cell? w _ hw181_0)).trans hw181_0), ((HB.out.cell (World.block_lt_of_cell? w _ hw181_1)).trans hw181_1), ((HB.out.cell (World.block_lt_of_cell? w _ hw181_2)).trans hw181_2), ((HB.out.cell (World.block_lt_of_cell? w _ hw181_3)).trans hw181_3), ((HB.out.cell (World.block_lt_of_cell? w _ hw181_4)).trans hw181_4), ((HB.out.cell (World.block_lt_of_cell? w _ hw181_5)).trans hw181_5), ((HB.out.cell (World.block_lt_of_cell? w _ hw181_6)).trans hw181_6), ((HB.out.cell (World.block_lt_of_cell? w _ hw181_7)).trans hw181_7), ((HB.out.cell (World.block_lt_of_cell? w _ hw181_8)).trans hw181_8), ((HB.out.cell (World.block_lt_of_cell? w _ hw182_0)).trans hw182_0), ((HB.out.cell (World.block_lt_of_cell? w _ hw182_1)).trans hw182_1), ((HB.out.cell (World.block_lt_of_cell? w _ hw182_2)).trans hw182_2), ((HB.out.cell (World.block_lt_of_cell? w _ hw182_3)).trans hw182_3), ((HB.out.cell (World.block_lt_of_cell? w _ hw182_4)).trans hw182_4), ((HB.out.cell (World.block_lt_of_cell? w _ hw182_5)).trans hw182_5), ((HB.out.cell (World.block_lt_of_cell? w _ hw182_6)).trans hw182_6), ((HB.out.cell (World.block_lt_of_cell? w _ hw182_7)).trans hw182_7), ((HB.out.cell (World.block_lt_of_cell? w _ hw182_8)).trans hw182_8)⟩ (fun hHeld => ?_)
                                 clear hK K
                                 refine norm_ (a' := ?_) ?_ ?_
                                 rotate_left
                                 · show Act.put _ (some 46) _ = _; simp only [np]; rfl
                                 refine pu 19 47 (bm 22 1048575) rfl rfl (any_of HT_.out (by kernel_rfl)) (fun _ _ _ h => h) (by rfl) (v := ?_) (a' := ?_) (by intro w'; go_simp; with_reducible rfl) (by simp only [np]; rfl) ?_
                                 refine pu 20 48 (bm 22 2097151) rfl rfl (any_of HT_.out (by kernel_rfl)) (fun _ _ _ h => h) (by rfl) (v := ?_) (a' := ?_) (by intro w'; go_simp; with_reducible rfl) (by simp only [np]; rfl) ?_
                                 refine pu 21 49 (bm 22 4194303) rfl rfl (any_of HT_.out (by kernel_rfl)) (fun _ _ _ h => h) (by rfl) (v := ?_) (a' := ?_) (by intro w'; go_simp; with_reducible rfl) (by simp only [np]; rfl) ?_
                                 refine done_ (done_of HT_.out (by kernel_rfl)) ?_
                                 have p27 : 0 ≤ (x8_2 : Int) := of_decide_eq_true (by first | (with_reducible assumption) | assumption)
                                 have q27 : (x8_2 : Int) < ((x6_1.length : Int) : Int) := of_decide_eq_true (by first | (with_reducible assumption) | assumption)
                                 obtain ⟨go27, co27, eo27, gb27, gl27, cl27, HG27⟩ := Kd.R_form HO_6.out (by omega)
                                 (first | cases eo27 | (injection eo27 with ea_ en_ ec_; (first | subst ea_ | (injection ea_ with ea_; subst ea_)); subst ec_; clear en_))
                                 have GB27 := Aside0.mk gb27
                                 have GG27 := Aside0.mk HG27
                                 clear gb27 gl27 HG27
                                 (first | simp only [add_plain] at hx180_0 | skip)
                                 obtain ⟨hx27_0, hf27_0⟩ := Kd.R_celln false HO_6.out (x8_2 : Int) p27 q27
                                 replace p27 := eq_true p27
                                 replace q27 := eq_true q27
                                 obtain ⟨hy33_, hz33_⟩ := Kd.R_celln false HO_6.out (x8_2 : Int) (of_decide_eq_true (by first | (with_reducible assumption) | assumption)) (of_decide_eq_true (by first | (with_reducible assumption) | assumption))
                                 have HP33 := Kd.R_putg HO_6.out (x8_2 : Int) true
                                 try go_wp2_with (first | ((with_reducible refine gate_store (t := 4) (p := 58) rfl ?_); refine store_event (t := 4) (p := 58) (v := ?vo_w34) (w1 := (w32.setCell ⟨go27, (x8_2 : Int).toNat, none⟩ (.bool true))) ?hg ?ho ?hn ?hr ?_; (case ho => rfl); (case hg => rfl); (case hn => rfl); (case hr => first | (go_simp; done) | (go_simp; rfl)); intro w34 hw; have hg : w32.grownBy w34 (some go27) := (by rw [hw]; exact HP33.2); have hp_ : Kd.R Kd.bool 4 w34 w.heap.size (fun _ => True) (.slice (some ⟨go27, 0, none⟩) x6_1.length co31) y184 := (by rw [hw, Ny184.out]; exact HP33.1); clear HP33; have n0_ := Aside0.mk (Kd.R_over' (v := (.slice (some ⟨go27, 0, none⟩) x6_1.length co31)) (by (with_reducible repeat (first | apply Kd.R_alloc | apply Kd.R_drewN | apply Kd.R_drew)); exact HO_5.out) (Kd.R_typed HO_6.out) (by decide) hg); have n1_ := Aside0.mk (hp_); have n2_ := Aside0.mk ((by rw [hw]; exact below_set (HB.out) GB27.out : Below w.heap.size w w34)); clear HO_5; clear HO_6; clear HB; have HO_5 := n0_; have HO_6 := n1_; have HB := n2_; clear n0_ n1_ n2_; clear hg hw hp_; have p29 : 0 ≤ (x7_1 : Int) := of_decide_eq_true (by first | (with_reducible assumption) | assumption); have q29 : (x7_1 : Int) < ((x5_1.length : Int) : Int) := of_decide_eq_true (by first | (with_reducible assumption) | assumption); obtain ⟨go29, co29, eo29, gb29, gl29, cl29, HG29⟩ := Kd.R_form HO_5.out (by omega); (first | cases eo29 | (injection eo29 with ea_ en_ ec_; (first | subst ea_ | (injection ea_ with ea_; subst ea_)); subst ec_; clear en_)); have GB29 := Aside0.mk gb29; have GG29 := Aside0.mk HG29; clear gb29 gl29 HG29; obtain ⟨hx29_0, hf29_0⟩ := Kd.R_celln 0 HO_5.out (x7_1 : Int) p29 q29; replace p29 := eq_true p29; replace q29 := eq_true q29; obtain ⟨hy35_, hz35_⟩ := Kd.R_celln 0 HO_5.out (x7_1 : Int) (of_decide_eq_true (by first | (with_reducible assumption) | assumption)) (of_decide_eq_true (by first | (with_reducible assumption) | assumption)); have HP35 := Kd.R_putg HO_5.out (x7_1 : Int) x8_2) | ((with_reducible refine gate_store (t := 3) (p := 62) rfl ?_); refine store_event (t := 3) (p := 62) (v := ?vo_w36) (w1 := (w34.setCell ⟨go29, (x7_1 : Int).toNat, none⟩ (.int .i64 x8_2))) ?hg ?ho ?hn ?hr ?_; (case ho => rfl); (case hg => rfl); (case hn => rfl); (case hr => first | (go_simp; done) | (go_simp; rfl)); intro w36 hw; have hg : w34.grownBy w36 (some go29) := (by rw [hw]; exact HP35.2); have hp_ : Kd.R (Kd.int .i64) 3 w36 w.heap.size (fun _ => True) (.slice (some ⟨go29, 0, none⟩) x5_1.length co29) y185 := (by rw [hw, Ny185.out]; exact HP35.1); clear HP35; have n0_ := Aside0.mk (hp_); have n1_ := Aside0.mk (Kd.R_over' (v := (.slice (some ⟨go29, 0, none⟩) x5_1.length co29)) (by (with_reducible repeat (first | apply Kd.R_alloc | apply Kd.R_drewN | apply Kd.R_drew)); exact HO_6.out) (Kd.R_typed HO_5.out) (by decide) hg); have n2_ := Aside0.mk ((by rw [hw]; exact below_set (HB.out) GB29.out : Below w.heap.size w w36)); clear HO_5; clear HO_6; clear HB; have HO_5 := n0_; have HO_6 := n1_; have HB := n2_; clear n0_ n1_ n2_; clear hg hw hp_))
                                 go_roundg k2
                                 case measure => have := HK1.out; have := HK2.out; omega
                                 case rel => exact ⟨(y185), (y184), (wrap64 (x7_1 + 1)), (by first | rfl | (simp; done) | (simp [*]; done)), H', ⟨by have := HK1.out; have := HK2.out; omega⟩, ⟨by (with_reducible repeat (first | apply Kd.R_alloc | apply Kd.R_drewN | apply Kd.R_drew)); exact HO_5.out⟩, ⟨by (with_reducible repeat (first | apply Kd.R_alloc | apply Kd.R_drewN | apply Kd.R_drew)); exact HO_6.out⟩, ⟨by repeat (first | (with_reducible first | exact HB.out | apply below_alloc | apply pw_below_drewN | apply below_drew1) | exact HB.out)⟩⟩
                               · rw [if_neg c28] at H
                                 exact absurd H (by simp)
                           · replace c22 := Bool.eq_false_iff.mpr c22
                             subst c22
                             have H1 : (jacquardref16_Keeps.l1 k2 l0 l1 x5_1 x6_1 x7_1 (wrap64 (x8_2 + 1))) = some r := by rw [if_neg (show ¬ (false = true) by decide)] at H; exact H
                             clear H
                             have H := H1
                             clear H1
                             have H' := Aside0.mk H
                             clear H
                             try go_wp2
                             have n0_ := Aside0.mk (Kd.R_drew HO_5.out)
                             have n1_ := Aside0.mk (Kd.R_drew HO_6.out)
                             have n2_ := Aside0.mk (below_drew1 HB.out)
                             clear HO_5; clear HO_6; clear HB
                             have HO_5 := n0_
                             have HO_6 := n1_
                             have HB := n2_
                             clear n0_ n1_ n2_
                             obtain ⟨Ao38, co38, eo38⟩ := Kd.R_slice HO_6.out
                             (first | subst eo38 | (injection eo38 with f1_ f2_ f3_; have f4_ := f1_.symm; have f5_ := f3_.symm; clear f1_ f2_ f3_; subst f4_; subst f5_))
                             have p180 : 0 ≤ (x8_2 : Int) := of_decide_eq_true (by first | (with_reducible assumption) | assumption)
                             have q180 : x8_2 < (x6_1.length : Int) := of_decide_eq_true (by first | (with_reducible assumption) | assumption)
                             obtain ⟨ad180, e180, hx180_0⟩ := Kd.at_bool (Kd.R_reads' HO_6.out).2.2 x8_2 p180 q180
                             (try rw [← Nbq15.out] at hx180_0)
                             cases e180
                             replace p180 := eq_true p180
                             replace q180 := eq_true q180
                             have p181 : 0 ≤ (x7_1 : Int) := of_decide_eq_true (by first | (with_reducible assumption) | assumption)
                             have q181 : x7_1 < (l0.length : Int) := of_decide_eq_true (by first | (with_reducible assumption) | assumption)
                             obtain ⟨ad181, A181_7, c181_7, e181, hx181_0, hx181_1, hx181_2, hx181_3, hx181_4, hx181_5, hx181_6, hx181_7, hx181_8, hl181_7, hi181_7⟩ := at_T37 HR0.out x7_1 p181 q181
                             have hw181_8 := hx181_8
                             have hw181_7 := hx181_7
                             have hw181_6 := hx181_6
                             have hw181_5 := hx181_5
                             have hw181_4 := hx181_4
                             have hw181_3 := hx181_3
                             have hw181_2 := hx181_2
                             have hw181_1 := hx181_1
                             have hw181_0 := hx181_0
                             cases e181
                             replace hx181_0 := (HB.out.cell (World.block_lt_of_cell? w _ hx181_0)).trans hx181_0
                             replace hx181_1 := (HB.out.cell (World.block_lt_of_cell? w _ hx181_1)).trans hx181_1
                             replace hx181_2 := (HB.out.cell (World.block_lt_of_cell? w _ hx181_2)).trans hx181_2
                             replace hx181_3 := (HB.out.cell (World.block_lt_of_cell? w _ hx181_3)).trans hx181_3
                             replace hx181_4 := (HB.out.cell (World.block_lt_of_cell? w _ hx181_4)).trans hx181_4
                             replace hx181_5 := (HB.out.cell (World.block_lt_of_cell? w _ hx181_5)).trans hx181_5
                             replace hx181_6 := (HB.out.cell (World.block_lt_of_cell? w _ hx181_6)).trans hx181_6
                             replace hx181_7 := (HB.out.cell (World.block_lt_of_cell? w _ hx181_7)).trans hx181_7
                             replace hx181_8 := (HB.out.cell (World.block_lt_of_cell? w _ hx181_8)).trans hx181_8
                             have HR181_7 := Aside0.mk hi181_7
                             have HC181_7 := Aside0.mk hl181_7
                             clear hi181_7 hl181_7
                             replace p181 := eq_true p181
                             replace q181 := eq_true q181
                             have p182 : 0 ≤ (x8_2 : Int) := of_decide_eq_true (by first | (with_reducible assumption) | assumption)
                             have q182 : x8_2 < (l1.length : Int) := of_decide_eq_true (by first | (with_reducible assumption) | assumption)
                             obtain ⟨ad182, A182_7, c182_7, e182, hx182_0, hx182_1, hx182_2, hx182_3, hx182_4, hx182_5, hx182_6, hx182_7, hx182_8, hl182_7, hi182_7⟩ := at_T37 HR1.out x8_2 p182 q182
                             have hw182_8 := hx182_8
                             have hw182_7 := hx182_7
                             have hw182_6 := hx182_6
                             have hw182_5 := hx182_5
                             have hw182_4 := hx182_4
                             have hw182_3 := hx182_3
                             have hw182_2 := hx182_2
                             have hw182_1 := hx182_1
                             have hw182_0 := hx182_0
                             cases e182
                             replace hx182_0 := (HB.out.cell (World.block_lt_of_cell? w _ hx182_0)).trans hx182_0
                             replace hx182_1 := (HB.out.cell (World.block_lt_of_cell? w _ hx182_1)).trans hx182_1
                             replace hx182_2 := (HB.out.cell (World.block_lt_of_cell? w _ hx182_2)).trans hx182_2
                             replace hx182_3 := (HB.out.cell (World.block_lt_of_cell? w _ hx182_3)).trans hx182_3
                             replace hx182_4 := (HB.out.cell (World.block_lt_of_cell? w _ hx182_4)).trans hx182_4
                             replace hx182_5 := (HB.out.cell (World.block_lt_of_cell? w _ hx182_5)).trans hx182_5
                             replace hx182_6 := (HB.out.cell (World.block_lt_of_cell? w _ hx182_6)).trans hx182_6
                             replace hx182_7 := (HB.out.cell (World.block_lt_of_cell? w _ hx182_7)).trans hx182_7
                             replace hx182_8 := (HB.out.cell (World.block_lt_of_cell? w _ hx182_8)).trans hx182_8
                             have HR182_7 := Aside0.mk hi182_7
                             have HC182_7 := Aside0.mk hl182_7
                             clear hi182_7 hl182_7
                             replace p182 := eq_true p182
                             replace q182 := eq_true q182
                             refine start_ (n := 22) (S := fun w' => w'.cell? (ad180.add (x8_2).toNat) = some (.bool false) ∧ w'.cell? (ad181.add ((x7_1).toNat * 9)) = some (.int .i64 ((rd_T37 l0 x7_1).f0.f0)) ∧ w'.cell? ⟨(ad181.add ((x7_1).toNat * 9)).block, (ad181.add ((x7_1).toNat * 9)).off + 1, none⟩ = some (.int .i64 ((rd_T37 l0 x7_1).f0.f1)) ∧ w'.cell? ⟨(ad181.add ((x7_1).toNat * 9)).block, (ad181.add ((x7_1).toNat * 9)).off + 2, none⟩ = some (.int .i64 ((rd_T37 l0 x7_1).f0.f2)) ∧ w'.cell? ⟨(ad181.add ((x7_1).toNat * 9)).block, (ad181.add ((x7_1).toNat * 9)).off + 3, none⟩ = some (.int .i64 ((rd_T37 l0 x7_1).f0.f3)) ∧ w'.cell? ⟨(ad181.add ((x7_1).toNat * 9)).block, (ad181.add ((x7_1).toNat * 9)).off + 4, none⟩ = some (.int .i64 ((rd_T37 l0 x7_1).f0.f4)) ∧ w'.cell? ⟨(ad181.add ((x7_1).toNat * 9)).block, (ad181.add ((x7_1).toNat * 9)).off + 5, none⟩ = some (.int .i64 ((rd_T37 l0 x7_1).f0.f5)) ∧ w'.cell? ⟨(ad181.add ((x7_1).toNat * 9)).block, (ad181.add ((x7_1).toNat * 9)).off + 6, none⟩ = some (.int .i32 ((rd_T37 l0 x7_1).f0.f6)) ∧ w'.cell? ⟨(ad181.add ((x7_1).toNat * 9)).block, (ad181.add ((x7_1).toNat * 9)).off + 7, none⟩ = some (.slice A181_7 ((rd_T37 l0 x7_1).f0.f7).length c181_7) ∧ w'.cell? ⟨(ad181.add ((x7_1).toNat * 9)).block, (ad181.add ((x7_1).toNat * 9)).off + 8, none⟩ = some (.int .i64 ((rd_T37 l0 x7_1).f1)) ∧ w'.cell? (ad182.add ((x8_2).toNat * 9)) = some (.int .i64 ((rd_T37 l1 x8_2).f0.f0)) ∧ w'.cell? ⟨(ad182.add ((x8_2).toNat * 9)).block, (ad182.add ((x8_2).toNat * 9)).off + 1, none⟩ = some (.int .i64 ((rd_T37 l1 x8_2).f0.f1)) ∧ w'.cell? ⟨(ad182.add ((x8_2).toNat * 9)).block, (ad182.add ((x8_2).toNat * 9)).off + 2, none⟩ = some (.int .i64 ((rd_T37 l1 x8_2).f0.f2)) ∧ w'.cell? ⟨(ad182.add ((x8_2).toNat * 9)).block, (ad182.add ((x8_2).toNat * 9)).off + 3, none⟩ = some (.int .i64 ((rd_T37 l1 x8_2).f0.f3)) ∧ w'.cell? ⟨(ad182.add ((x8_2).toNat * 9)).block, (ad182.add ((x8_2).toNat * 9)).off + 4, none⟩ = some (.int .i64 ((rd_T37 l1 x8_2).f0.f4)) ∧ w'.cell? ⟨(ad182.add ((x8_2).toNat * 9)).block, (ad182.add ((x8_2).toNat * 9)).off + 5, none⟩ = some (.int .i64 ((rd_T37 l1 x8_2).f0.f5)) ∧ w'.cell? ⟨(ad182.add ((x8_2).toNat * 9)).block, (ad182.add ((x8_2).toNat * 9)).off + 6, none⟩ = some (.int .i32 ((rd_T37 l1 x8_2).f0.f6)) ∧ w'.cell? ⟨(ad182.add ((x8_2).toNat * 9)).block, (ad182.add ((x8_2).toNat * 9)).off + 7, none⟩ = some (.slice A182_7 ((rd_T37 l1 x8_2).f0.f7).length c182_7) ∧ w'.cell? ⟨(ad182.add ((x8_2).toNat * 9)).block, (ad182.add ((x8_2).toNat * 9)).off + 8, none⟩ = some (.int .i64 ((rd_T37 l1 x8_2).f1))) (ds := []) (bm 22 0) (by kernel_rfl) rfl rfl ⟨hx180_0, ((HB.out.cell (World.block_lt_of_cell? w _ hw181_0)).trans hw181_0), ((HB.out.cell (World.block_lt_of_cell? w _ hw181_1)).trans hw181_1), ((HB.out.cell (World.block_lt_of_cell? w _ hw181_2)).trans hw181_2), ((HB.out.cell (World.block_lt_of_cell? w _ hw181_3)).trans hw181_3), ((HB.out.cell (World.block_lt_of_cell? w _ hw181_4)).trans hw181_4), ((HB.out.cell (World.block_lt_of_cell? w _ hw181_5)).trans hw181_5), ((HB.out.cell (World.block_lt_of_cell? w _ hw181_6)).trans hw181_6), ((HB.out.cell (World.block_lt_of_cell? w _ hw181_7)).trans hw181_7), ((HB.out.cell (World.block_lt_of_cell? w _ hw181_8)).trans hw181_8), ((HB.out.cell (World.block_lt_of_cell? w _ hw182_0)).trans hw182_0), ((HB.out.cell (World.block_lt_of_cell? w _ hw182_1)).trans hw182_1), ((HB.out.cell (World.block_lt_of_cell? w _ hw182_2)).trans hw182_2), ((HB.out.cell (World.block_lt_of_cell? w _ hw182_3)).trans hw182_3), ((HB.out.cell (World.block_lt_of_cell? w _ hw182_4)).trans hw182_4), ((HB.out.cell (World.block_lt_of_cell? w _ hw182_5)).trans hw182_5), ((HB.out.cell (World.block_lt_of_cell? w _ hw182_6)).trans hw182_6), ((HB.out.cell (World.block_lt_of_cell? w _ hw182_7)).trans hw182_7), ((HB.out.cell (World.block_lt_of_cell? w _ hw182_8)).trans hw182_8)⟩ (fun hHeld => ?_); refine with_tabW jacquardref16_Keeps.tab9 jacquardref16_Keeps.bits9 (fun HT_ HW_ => ?_)
                             generalize wr.drew = w37 at HO_5 HO_6 HB HR181_7 HR182_7 hx180_0 hx181_0 hx181_1 hx181_2 hx181_3 hx181_4 hx181_5 hx181_6 hx181_7 hx181_8 hx182_0 hx182_1 hx182_2 hx182_3 hx182_4 hx182_5 hx182_6 hx182_7 hx182_8 hHeld ⊢
                             refine pu 0 28 (bm 22 1) rfl rfl (any_of HT_.out (by kernel_rfl)) (fun _ _ _ h => h) (by rfl) (v := ?_) (a' := ?_) (by intro w'; go_simp; with_reducible rfl) (by simp only [np]; rfl) ?_
                             refine pu 1 29 (bm 22 3) rfl rfl (any_of HT_.out (by kernel_rfl)) (fun _ _ _ h => h) (by rfl) (v := ?_) (a' := ?_) (by intro w'; go_simp; with_reducible rfl) (by simp only [np]; rfl) ?_
                             refine pu 2 30 (bm 22 7) rfl rfl (any_of HT_.out (by kernel_rfl)) (fun _ _ _ h => h) (by rfl) (v := ?_) (a' := ?_) (by intro w'; go_simp; with_reducible rfl) (by simp only [np]; rfl) ?_
                             refine pu 3 31 (bm 22 15) rfl rfl (any_of HT_.out (by kernel_rfl)) (fun _ _ _ h => h) (by rfl) (v := ?_) (a' := ?_) (by intro w'; go_simp; with_reducible rfl) (by simp only [np]; rfl) ?_
                             refine pu 4 32 (bm 22 31) rfl rfl (any_of HT_.out (by kernel_rfl)) (fun _ _ _ h => h) (by rfl) (v := ?_) (a' := ?_) (by intro w'; go_simp; with_reducible rfl) (by simp only [np]; rfl) ?_
                             refine pu 5 33 (bm 22 63) rfl rfl (any_of HT_.out (by kernel_rfl)) (fun _ _ _ h => h) (by rfl) (v := ?_) (a' := ?_) (by intro w'; go_simp; with_reducible rfl) (by simp only [np]; rfl) ?_
                             refine pu 6 34 (bm 22 127) rfl rfl (any_of HT_.out (by kernel_rfl)) (fun _ _ _ h => h) (by rfl) (v := ?_) (a' := ?_) (by intro w'; go_simp; with_reducible rfl) (by simp only [np]; rfl) ?_
                             refine pu 7 35 (bm 22 255) rfl rfl (any_of HT_.out (by kernel_rfl)) (fun _ _ _ h => h) (by rfl) (v := ?_) (a' := ?_) (by intro w'; go_simp; with_reducible rfl) (by simp only [np]; rfl) ?_
                             refine take_ (i := 8) (N := some 36) (v := ?_) (a' := ?_) (bm 22 511) rfl rfl (take_ofW HT_.out HW_.out (by kernel_rfl)) (fun _ _ _ h => h) (Or.inl ⟨by rfl, ?_⟩) hHeld ?_ ?_
                             rotate_left
                             · rintro w' ⟨s0, s1, s2, s3, s4, s5, s6, s7, s8, s9, s10, s11, s12, s13, s14, s15, s16, s17, s18⟩; go_simp; with_reducible rfl
                             rotate_left
                             · simp only [np]; rfl
                             refine pu 9 37 (bm 22 1023) rfl rfl (any_of HT_.out (by kernel_rfl)) (fun _ _ _ h => h) (by rfl) (v := ?_) (a' := ?_) (by intro w'; go_simp; with_reducible rfl) (by simp only [np]; rfl) ?_
                             refine pu 10 38 (bm 22 2047) rfl rfl (any_of HT_.out (by kernel_rfl)) (fun _ _ _ h => h) (by rfl) (v := ?_) (a' := ?_) (by intro w'; go_simp; with_reducible rfl) (by simp only [np]; rfl) ?_
                             refine pu 11 39 (bm 22 4095) rfl rfl (any_of HT_.out (by kernel_rfl)) (fun _ _ _ h => h) (by rfl) (v := ?_) (a' := ?_) (by intro w'; go_simp; with_reducible rfl) (by simp only [np]; rfl) ?_
                             refine pu 12 40 (bm 22 8191) rfl rfl (any_of HT_.out (by kernel_rfl)) (fun _ _ _ h => h) (by rfl) (v := ?_) (a' := ?_) (by intro w'; go_simp; with_reducible rfl) (by simp only [np]; rfl) ?_
                             refine pu 14 42 (bm 22 24575) rfl rfl (any_of HT_.out (by kernel_rfl)) (fun _ _ _ h => h) (by rfl) (v := ?_) (a' := ?_) (by intro w'; go_simp; with_reducible rfl) (by simp only [np]; rfl) ?_
                             refine pu 15 43 (bm 22 57343) rfl rfl (any_of HT_.out (by kernel_rfl)) (fun _ _ _ h => h) (by rfl) (v := ?_) (a' := ?_) (by intro w'; go_simp; with_reducible rfl) (by simp only [np]; rfl) ?_
                             refine pu 16 44 (bm 22 122879) rfl rfl (any_of HT_.out (by kernel_rfl)) (fun _ _ _ h => h) (by rfl) (v := ?_) (a' := ?_) (by intro w'; go_simp; with_reducible rfl) (by simp only [np]; rfl) ?_
                             refine take_ (i := 13) (N := some 41) (v := ?_) (a' := ?_) (bm 22 131071) rfl rfl (take_ofW HT_.out HW_.out (by kernel_rfl)) (fun _ _ _ h => h) (Or.inl ⟨by rfl, ?_⟩) hHeld ?_ ?_
                             rotate_left
                             · rintro w' ⟨s0, s1, s2, s3, s4, s5, s6, s7, s8, s9, s10, s11, s12, s13, s14, s15, s16, s17, s18⟩; go_simp; with_reducible rfl
                             rotate_left
                             · simp only [np]; rfl
                             refine take_ (i := 17) (N := some 45) (v := ?_) (a' := ?_) (bm 22 262143) rfl rfl (take_ofW HT_.out HW_.out (by kernel_rfl)) (fun _ _ _ h => h) (Or.inl ⟨by rfl, ?_⟩) hHeld ?_ ?_
                             rotate_left
                             · rintro w' ⟨s0, s1, s2, s3, s4, s5, s6, s7, s8, s9, s10, s11, s12, s13, s14, s15, s16, s17, s18⟩; go_simp; with_reducible rfl
                             rotate_left
                             · simp only [np]; rfl
                             refine one_ (i := 18) (N := some 46) (bm 22 524287) rfl rfl (one_of HT_.out (by kernel_rfl)) (by decide) (fun K hK => ?_)
                             refine goes_ Try.func39 (by kernel_rfl) rfl #[.agg #[.int .i64 ((rd_T37 l0 x7_1).f0.f0), .int .i64 ((rd_T37 l0 x7_1).f0.f1), .int .i64 ((rd_T37 l0 x7_1).f0.f2), .int .i64 ((rd_T37 l0 x7_1).f0.f3), .int .i64 ((rd_T37 l0 x7_1).f0.f4), .int .i64 ((rd_T37 l0 x7_1).f0.f5), .int .i32 ((rd_T37 l0 x7_1).f0.f6), .slice A181_7 ((rd_T37 l0 x7_1).f0.f7).length c181_7, .int .i64 ((rd_T37 l0 x7_1).f1)], .agg #[.int .i64 ((rd_T37 l1 x8_2).f0.f0), .int .i64 ((rd_T37 l1 x8_2).f0.f1), .int .i64 ((rd_T37 l1 x8_2).f0.f2), .int .i64 ((rd_T37 l1 x8_2).f0.f3), .int .i64 ((rd_T37 l1 x8_2).f0.f4), .int .i64 ((rd_T37 l1 x8_2).f0.f5), .int .i32 ((rd_T37 l1 x8_2).f0.f6), .slice A182_7 ((rd_T37 l1 x8_2).f0.f7).length c182_7, .int .i64 ((rd_T37 l1 x8_2).f1)]] (by rfl) rfl rfl (by (try simp only [List.map_toArray, List.map_cons, List.map_nil]); first | done | rfl | (simp only [List.length_drop, List.length_take]; rfl)) ?_
                             with_reducible refine (jacquardref16_same.calls k2 ((rd_T37 l0 x7_1).f0.f0) ((rd_T37 l0 x7_1).f0.f1) ((rd_T37 l0 x7_1).f0.f2) ((rd_T37 l0 x7_1).f0.f3) ((rd_T37 l0 x7_1).f0.f4) ((rd_T37 l0 x7_1).f0.f5) ((rd_T37 l0 x7_1).f0.f6) _ _ ((rd_T37 l0 x7_1).f0.f7) ((rd_T37 l0 x7_1).f1) ((rd_T37 l1 x8_2).f0.f0) ((rd_T37 l1 x8_2).f0.f1) ((rd_T37 l1 x8_2).f0.f2) ((rd_T37 l1 x8_2).f0.f3) ((rd_T37 l1 x8_2).f0.f4) ((rd_T37 l1 x8_2).f0.f5) ((rd_T37 l1 x8_2).f0.f6) _ _ ((rd_T37 l1 x8_2).f0.f7) ((rd_T37 l1 x8_2).f1) false _ ?side1 ?side2 ?side3 ?side4 A21.out).mono ?_
                             (case side1 => repeat (first | exact (Kd.C_below HR181_7.out HB.out) | (with_reducible refine Kd.C_alloc ?_ _) | (with_reducible refine Kd.C_drewN ?_ _) | (with_reducible refine Kd.C_drew ?_)))
                             (case side2 => exact HC181_7.out)
                             (case side3 => repeat (first | exact (Kd.C_below HR182_7.out HB.out) | (with_reducible refine Kd.C_alloc ?_ _) | (with_reducible refine Kd.C_drewN ?_ _) | (with_reducible refine Kd.C_drew ?_)))
                             (case side4 => exact HC182_7.out)
                             rintro e w39 ⟨rfl, hb⟩
                             have HS0_ := (hb.cell (World.block_lt_of_cell? _ _ (hHeld.1))).trans (hHeld.1)
                             refine ⟨_, rfl, ?_⟩
                             have n0_ := Aside0.mk (Kd.R_below (by (with_reducible repeat (first | apply Kd.R_alloc | apply Kd.R_drewN | apply Kd.R_drew)); exact HO_5.out) hb)
                             have n1_ := Aside0.mk (Kd.R_below (by (with_reducible repeat (first | apply Kd.R_alloc | apply Kd.R_drewN | apply Kd.R_drew)); exact HO_6.out) hb)
                             have n2_ := Aside0.mk (below_step (by repeat (first | (with_reducible first | exact HB.out | apply below_alloc | apply pw_below_drewN | apply below_drew1) | exact HB.out)) hb)
                             clear HO_5; clear HO_6; clear HB
                             have HO_5 := n0_
                             have HO_6 := n1_
                             have HB := n2_
                             clear n0_ n1_ n2_
                             (try clear hb)
                             (try clear hb2)
                             (try clear hk)
                             (try clear hi)
                             refine hK.out _ _ ⟨HS0_, ((HB.out.cell (World.block_lt_of_cell? w _ hw181_0)).trans hw181_0), ((HB.out.cell (World.block_lt_of_cell? w _ hw181_1)).trans hw181_1), ((HB.out.cell (World.block_lt_of_cell? w _ hw181_2)).trans hw181_2), ((HB.out.cell (World.block_lt_of_cell? w _ hw181_3)).trans hw181_3), ((HB.out.cell (World.block_lt_of_cell? w _ hw181_4)).trans hw181_4), ((HB.out.cell (World.block_lt_of_cell? w _ hw181_5)).trans hw181_5), ((HB.out.cell (World.block_lt_of_cell? w _ hw181_6)).trans hw181_6), ((HB.out.cell (World.block_lt_of_cell? w _ hw181_7)).trans hw181_7), ((HB.out.cell (World.block_lt_of_cell? w _ hw181_8)).trans hw181_8), ((HB.out.cell (World.block_lt_of_cell? w _ hw182_0)).trans hw182_0), ((HB.out.cell (World.block_lt_of_cell? w _ hw182_1)).trans hw182_1), ((HB.out.cell (World.block_lt_of_cell? w _ hw182_2)).trans hw182_2), ((HB.out.cell (World.block_lt_of_cell? w _ hw182_3)).trans hw182_3), ((HB.out.cell (World.block_lt_of_cell? w _ hw182_4)).trans hw182_4), ((HB.out.cell (World.block_lt_of_cell? w _ hw182_5)).trans hw182_5), ((HB.out.cell (World.block_lt_of_cell? w _ hw182_6)).trans hw182_6), ((HB.out.cell (World.block_lt_of_cell? w _ hw182_7)).trans hw182_7), ((HB.out.cell (World.block_lt_of_cell? w _ hw182_8)).trans hw182_8)⟩ (fun hHeld => ?_)
                             clear hK K
                             refine norm_ (a' := ?_) ?_ ?_
                             rotate_left
                             · show Act.put _ (some 46) _ = _; simp only [np]; rfl
                             refine pu 19 47 (bm 22 1048575) rfl rfl (any_of HT_.out (by kernel_rfl)) (fun _ _ _ h => h) (by rfl) (v := ?_) (a' := ?_) (by intro w'; go_simp; with_reducible rfl) (by simp only [np]; rfl) ?_
                             refine pu 20 48 (bm 22 2097151) rfl rfl (any_of HT_.out (by kernel_rfl)) (fun _ _ _ h => h) (by rfl) (v := ?_) (a' := ?_) (by intro w'; go_simp; with_reducible rfl) (by simp only [np]; rfl) ?_
                             refine pu 21 49 (bm 22 4194303) rfl rfl (any_of HT_.out (by kernel_rfl)) (fun _ _ _ h => h) (by rfl) (v := ?_) (a' := ?_) (by intro w'; go_simp; with_reducible rfl) (by simp only [np]; rfl) ?_
                             refine done_ (done_of HT_.out (by kernel_rfl)) ?_
                             try go_wp2
                             go_roundg k2
                             case measure => have := HK1.out; have := HK2.out; omega
                             case rel => exact ⟨(wrap64 (x8_2 + 1)), (by first | rfl | (simp; done) | (simp [*]; done)), H', ⟨by have := HK1.out; have := HK2.out; omega⟩, ⟨by (with_reducible repeat (first | apply Kd.R_alloc | apply Kd.R_drewN | apply Kd.R_drew)); exact HO_5.out⟩, ⟨by (with_reducible repeat (first | apply Kd.R_alloc | apply Kd.R_drewN | apply Kd.R_drew)); exact HO_6.out⟩, ⟨by repeat (first | (with_reducible first | exact HB.out | apply below_alloc | apply pw_below_drewN | apply below_drew1) | exact HB.out)⟩⟩
                         · rw [if_neg c20] at H
                           exact absurd H (by simp)
                       · rw [if_neg c19] at H
                         exact absurd H (by simp)
                   · rw [if_neg c14] at H
                     exact absurd H (by simp)
                 · rw [if_neg c13] at H
                   exact absurd H (by simp)
               · rw [if_neg c12] at H
                 have c12b0 : decide (x8_2 < (l1.length : Int)) = false := decide_eq_false c12
                 clear c12
                 by_cases c40 : x8_2 = (l1.length : Int)
                 · rw [if_pos c40] at H
                   have c40b0 : (x8_2 == (l1.length : Int)) = true := beq_iff_eq.mpr c40
                   have c40b1 : (x8_2 != (l1.length : Int)) = false := bne_eq_false_iff_eq.mpr c40
                   clear c40
                   obtain rfl := Option.some.inj H
                   try go_wp2
                   have n0_ := Aside0.mk (Kd.R_drew HO_5.out)
                   have n1_ := Aside0.mk (Kd.R_drew HO_6.out)
                   have n2_ := Aside0.mk (below_drew1 HB.out)
                   clear HO_5; clear HO_6; clear HB
                   have HO_5 := n0_
                   have HO_6 := n1_
                   have HB := n2_
                   clear n0_ n1_ n2_
                   refine start_ (n := 22) (S := fun w' => True) (ds := []) (bm 22 0) (by kernel_rfl) rfl rfl trivial (fun hHeld => ?_); refine with_tabW jacquardref16_Keeps.tab9 jacquardref16_Keeps.bits9 (fun HT_ HW_ => ?_)
                   generalize wr.drew = w41 at HO_5 HO_6 HB hHeld ⊢
                   refine pu 0 28 (bm 22 1) rfl rfl (any_of HT_.out (by kernel_rfl)) (fun _ _ _ h => h) (by rfl) (v := ?_) (a' := ?_) (by intro w'; go_simp; with_reducible rfl) (by simp only [np]; rfl) ?_
                   refine pu 1 29 (bm 22 3) rfl rfl (any_of HT_.out (by kernel_rfl)) (fun _ _ _ h => h) (by rfl) (v := ?_) (a' := ?_) (by intro w'; go_simp; with_reducible rfl) (by simp only [np]; rfl) ?_
                   refine pu 2 30 (bm 22 7) rfl rfl (any_of HT_.out (by kernel_rfl)) (fun _ _ _ h => h) (by rfl) (v := ?_) (a' := ?_) (by intro w'; go_simp; with_reducible rfl) (by simp only [np]; rfl) ?_
                   refine pu 3 31 (bm 22 15) rfl rfl (any_of HT_.out (by kernel_rfl)) (fun _ _ _ h => h) (by rfl) (v := ?_) (a' := ?_) (by intro w'; go_simp; with_reducible rfl) (by simp only [np]; rfl) ?_
                   refine pu 4 32 (bm 22 31) rfl rfl (any_of HT_.out (by kernel_rfl)) (fun _ _ _ h => h) (by rfl) (v := ?_) (a' := ?_) (by intro w'; go_simp; with_reducible rfl) (by simp only [np]; rfl) ?_
                   refine po 5 33 (bm 22 63) rfl rfl (any_of HT_.out (by kernel_rfl)) (fun _ _ _ h => h) (by rfl) (a' := ?_) (by simp only [np]; rfl) ?_
                   refine po 6 34 (bm 22 127) rfl rfl (any_of HT_.out (by kernel_rfl)) (fun _ _ _ h => h) (by rfl) (a' := ?_) (by simp only [np]; rfl) ?_
                   refine po 7 35 (bm 22 255) rfl rfl (any_of HT_.out (by kernel_rfl)) (fun _ _ _ h => h) (by rfl) (a' := ?_) (by simp only [np]; rfl) ?_
                   refine po 8 36 (bm 22 511) rfl rfl (any_of HT_.out (by kernel_rfl)) (fun _ _ _ h => h) (by rfl) (a' := ?_) (by simp only [np]; rfl) ?_
                   refine po 9 37 (bm 22 1023) rfl rfl (any_of HT_.out (by kernel_rfl)) (fun _ _ _ h => h) (by rfl) (a' := ?_) (by simp only [np]; rfl) ?_
                   refine po 10 38 (bm 22 2047) rfl rfl (any_of HT_.out (by kernel_rfl)) (fun _ _ _ h => h) (by rfl) (a' := ?_) (by simp only [np]; rfl) ?_
                   refine po 11 39 (bm 22 4095) rfl rfl (any_of HT_.out (by kernel_rfl)) (fun _ _ _ h => h) (by rfl) (a' := ?_) (by simp only [np]; rfl) ?_
                   refine po 12 40 (bm 22 8191) rfl rfl (any_of HT_.out (by kernel_rfl)) (fun _ _ _ h => h) (by rfl) (a' := ?_) (by simp only [np]; rfl) ?_
                   refine po 13 41 (bm 22 16383) rfl rfl (any_of HT_.out (by kernel_rfl)) (fun _ _ _ h => h) (by rfl) (a' := ?_) (by simp only [np]; rfl) ?_
                   refine po 14 42 (bm 22 32767) rfl rfl (any_of HT_.out (by kernel_rfl)) (fun _ _ _ h => h) (by rfl) (a' := ?_) (by simp only [np]; rfl) ?_
                   refine po 15 43 (bm 22 65535) rfl rfl (any_of HT_.out (by kernel_rfl)) (fun _ _ _ h => h) (by rfl) (a' := ?_) (by simp only [np]; rfl) ?_
                   refine po 16 44 (bm 22 131071) rfl rfl (any_of HT_.out (by kernel_rfl)) (fun _ _ _ h => h) (by rfl) (a' := ?_) (by simp only [np]; rfl) ?_
                   refine po 17 45 (bm 22 262143) rfl rfl (any_of HT_.out (by kernel_rfl)) (fun _ _ _ h => h) (by rfl) (a' := ?_) (by simp only [np]; rfl) ?_
                   refine po 18 46 (bm 22 524287) rfl rfl (any_of HT_.out (by kernel_rfl)) (fun _ _ _ h => h) (by rfl) (a' := ?_) (by simp only [np]; rfl) ?_
                   refine po 19 47 (bm 22 1048575) rfl rfl (any_of HT_.out (by kernel_rfl)) (fun _ _ _ h => h) (by rfl) (a' := ?_) (by simp only [np]; rfl) ?_
                   refine po 20 48 (bm 22 2097151) rfl rfl (any_of HT_.out (by kernel_rfl)) (fun _ _ _ h => h) (by rfl) (a' := ?_) (by simp only [np]; rfl) ?_
                   refine pu 21 49 (bm 22 4194303) rfl rfl (any_of HT_.out (by kernel_rfl)) (fun _ _ _ h => h) (by rfl) (v := ?_) (a' := ?_) (by intro w'; go_simp; with_reducible rfl) (by simp only [np]; rfl) ?_
                   refine done_ (done_of HT_.out (by kernel_rfl)) ?_
                   try go_wp2
                   go_ret
                   exact ⟨by first | rfl | (simp [errW_none, errW_some] <;> rfl) | (simp [*, errW_none, errW_some] <;> rfl), by repeat (first | (with_reducible first | exact HB.out | apply below_alloc | apply pw_below_drewN | apply below_drew1) | exact HB.out)⟩
                 · rw [if_neg c40] at H
                   have c40b0 : (x8_2 == (l1.length : Int)) = false := beq_eq_false_iff_ne.mpr c40
                   have c40b1 : (x8_2 != (l1.length : Int)) = true := bne_iff_ne.mpr c40
                   by_cases c42 : 0 ≤ x8_2
                   · rw [if_pos c42] at H
                     have c42b0 : decide (0 ≤ x8_2) = true := decide_eq_true c42
                     clear c42
                     by_cases c43 : x8_2 < (x6_1.length : Int)
                     · rw [if_pos c43] at H
                       have c43b0 : decide (x8_2 < (x6_1.length : Int)) = true := decide_eq_true c43
                       clear c43
                       obtain ⟨y186, hy186⟩ : ∃ y_ : List Bool, y_ = (x6_1.set (x8_2 : Int).toNat true) := ⟨_, rfl⟩
                       replace H : (if 0 ≤ x7_1 then (if x7_1 < (x5_1.length : Int) then (jacquardref16_Keeps.l0 k2 l0 l1 (x5_1.set (x7_1 : Int).toNat x8_2) y186 (wrap64 (x7_1 + 1))) else (none)) else (none)) = some r := by first | (rw [hy186]; with_reducible exact H) | (have H2_ := (Option.bind_some _ _).symm.trans H; rw [hy186]; with_reducible exact H2_) | (have H2_ := (Option.bind_some _ _).symm.trans H; with_reducible exact H2_) | with_reducible exact H | (rw [hy186]; exact H) | exact H
                       have Ny186 := Aside0.mk hy186
                       clear hy186
                       by_cases c45 : 0 ≤ x7_1
                       · rw [if_pos c45] at H
                         have c45b0 : decide (0 ≤ x7_1) = true := decide_eq_true c45
                         clear c45
                         by_cases c46 : x7_1 < (x5_1.length : Int)
                         · rw [if_pos c46] at H
                           have c46b0 : decide (x7_1 < (x5_1.length : Int)) = true := decide_eq_true c46
                           clear c46
                           obtain ⟨y187, hy187⟩ : ∃ y_ : List Int, y_ = (x5_1.set (x7_1 : Int).toNat x8_2) := ⟨_, rfl⟩
                           replace H : (jacquardref16_Keeps.l0 k2 l0 l1 y187 y186 (wrap64 (x7_1 + 1))) = some r := by first | (rw [hy187]; with_reducible exact H) | (have H2_ := (Option.bind_some _ _).symm.trans H; rw [hy187]; with_reducible exact H2_) | (have H2_ := (Option.bind_some _ _).symm.trans H; with_reducible exact H2_) | with_reducible exact H | (rw [hy187]; exact H) | exact H
                           have Ny187 := Aside0.mk hy187
                           clear hy187
                           have H' := Aside0.mk H
                           clear H
                           try go_wp2
                           have n0_ := Aside0.mk (Kd.R_drew HO_5.out)
                           have n1_ := Aside0.mk (Kd.R_drew HO_6.out)
                           have n2_ := Aside0.mk (below_drew1 HB.out)
                           clear HO_5; clear HO_6; clear HB
                           have HO_5 := n0_
                           have HO_6 := n1_
                           have HB := n2_
                           clear n0_ n1_ n2_
                           refine start_ (n := 22) (S := fun w' => True) (ds := []) (bm 22 0) (by kernel_rfl) rfl rfl trivial (fun hHeld => ?_); refine with_tabW jacquardref16_Keeps.tab9 jacquardref16_Keeps.bits9 (fun HT_ HW_ => ?_)
                           generalize wr.drew = w48 at HO_5 HO_6 HB hHeld ⊢
                           refine pu 0 28 (bm 22 1) rfl rfl (any_of HT_.out (by kernel_rfl)) (fun _ _ _ h => h) (by rfl) (v := ?_) (a' := ?_) (by intro w'; go_simp; with_reducible rfl) (by simp only [np]; rfl) ?_
                           refine pu 1 29 (bm 22 3) rfl rfl (any_of HT_.out (by kernel_rfl)) (fun _ _ _ h => h) (by rfl) (v := ?_) (a' := ?_) (by intro w'; go_simp; with_reducible rfl) (by simp only [np]; rfl) ?_
                           refine pu 2 30 (bm 22 7) rfl rfl (any_of HT_.out (by kernel_rfl)) (fun _ _ _ h => h) (by rfl) (v := ?_) (a' := ?_) (by intro w'; go_simp; with_reducible rfl) (by simp only [np]; rfl) ?_
                           refine pu 3 31 (bm 22 15) rfl rfl (any_of HT_.out (by kernel_rfl)) (fun _ _ _ h => h) (by rfl) (v := ?_) (a' := ?_) (by intro w'; go_simp; with_reducible rfl) (by simp only [np]; rfl) ?_
                           refine pu 4 32 (bm 22 31) rfl rfl (any_of HT_.out (by kernel_rfl)) (fun _ _ _ h => h) (by rfl) (v := ?_) (a' := ?_) (by intro w'; go_simp; with_reducible rfl) (by simp only [np]; rfl) ?_
                           refine po 5 33 (bm 22 63) rfl rfl (any_of HT_.out (by kernel_rfl)) (fun _ _ _ h => h) (by rfl) (a' := ?_) (by simp only [np]; rfl) ?_
                           refine po 6 34 (bm 22 127) rfl rfl (any_of HT_.out (by kernel_rfl)) (fun _ _ _ h => h) (by rfl) (a' := ?_) (by simp only [np]; rfl) ?_
                           refine po 7 35 (bm 22 255) rfl rfl (any_of HT_.out (by kernel_rfl)) (fun _ _ _ h => h) (by rfl) (a' := ?_) (by simp only [np]; rfl) ?_
                           refine po 8 36 (bm 22 511) rfl rfl (any_of HT_.out (by kernel_rfl)) (fun _ _ _ h => h) (by rfl) (a' := ?_) (by simp only [np]; rfl) ?_
                           refine po 9 37 (bm 22 1023) rfl rfl (any_of HT_.out (by kernel_rfl)) (fun _ _ _ h => h) (by rfl) (a' := ?_) (by simp only [np]; rfl) ?_
                           refine po 10 38 (bm 22 2047) rfl rfl (any_of HT_.out (by kernel_rfl)) (fun _ _ _ h => h) (by rfl) (a' := ?_) (by simp only [np]; rfl) ?_
                           refine po 11 39 (bm 22 4095) rfl rfl (any_of HT_.out (by kernel_rfl)) (fun _ _ _ h => h) (by rfl) (a' := ?_) (by simp only [np]; rfl) ?_
                           refine po 12 40 (bm 22 8191) rfl rfl (any_of HT_.out (by kernel_rfl)) (fun _ _ _ h => h) (by rfl) (a' := ?_) (by simp only [np]; rfl) ?_
                           refine po 13 41 (bm 22 16383) rfl rfl (any_of HT_.out (by kernel_rfl)) (fun _ _ _ h => h) (by rfl) (a' := ?_) (by simp only [np]; rfl) ?_
                           refine po 14 42 (bm 22 32767) rfl rfl (any_of HT_.out (by kernel_rfl)) (fun _ _ _ h => h) (by rfl) (a' := ?_) (by simp only [np]; rfl) ?_
                           refine po 15 43 (bm 22 65535) rfl rfl (any_of HT_.out (by kernel_rfl)) (fun _ _ _ h => h) (by rfl) (a' := ?_) (by simp only [np]; rfl) ?_
                           refine po 16 44 (bm 22 131071) rfl rfl (any_of HT_.out (by kernel_rfl)) (fun _ _ _ h => h) (by rfl) (a' := ?_) (by simp only [np]; rfl) ?_
                           refine po 17 45 (bm 22 262143) rfl rfl (any_of HT_.out (by kernel_rfl)) (fun _ _ _ h => h) (by rfl) (a' := ?_) (by simp only [np]; rfl) ?_
                           refine po 18 46 (bm 22 524287) rfl rfl (any_of HT_.out (by kernel_rfl)) (fun _ _ _ h => h) (by rfl) (a' := ?_) (by simp only [np]; rfl) ?_
                           refine po 19 47 (bm 22 1048575) rfl rfl (any_of HT_.out (by kernel_rfl)) (fun _ _ _ h => h) (by rfl) (a' := ?_) (by simp only [np]; rfl) ?_
                           refine po 20 48 (bm 22 2097151) rfl rfl (any_of HT_.out (by kernel_rfl)) (fun _ _ _ h => h) (by rfl) (a' := ?_) (by simp only [np]; rfl) ?_
                           refine pu 21 49 (bm 22 4194303) rfl rfl (any_of HT_.out (by kernel_rfl)) (fun _ _ _ h => h) (by rfl) (v := ?_) (a' := ?_) (by intro w'; go_simp; with_reducible rfl) (by simp only [np]; rfl) ?_
                           refine done_ (done_of HT_.out (by kernel_rfl)) ?_
                           have p44 : 0 ≤ (x8_2 : Int) := of_decide_eq_true (by first | (with_reducible assumption) | assumption)
                           have q44 : (x8_2 : Int) < ((x6_1.length : Int) : Int) := of_decide_eq_true (by first | (with_reducible assumption) | assumption)
                           obtain ⟨go44, co44, eo44, gb44, gl44, cl44, HG44⟩ := Kd.R_form HO_6.out (by omega)
                           (first | cases eo44 | (injection eo44 with ea_ en_ ec_; (first | subst ea_ | (injection ea_ with ea_; subst ea_)); subst ec_; clear en_))
                           have GB44 := Aside0.mk gb44
                           have GG44 := Aside0.mk HG44
                           clear gb44 gl44 HG44
                           obtain ⟨hx44_0, hf44_0⟩ := Kd.R_celln false HO_6.out (x8_2 : Int) p44 q44
                           replace p44 := eq_true p44
                           replace q44 := eq_true q44
                           obtain ⟨hy49_, hz49_⟩ := Kd.R_celln false HO_6.out (x8_2 : Int) (of_decide_eq_true (by first | (with_reducible assumption) | assumption)) (of_decide_eq_true (by first | (with_reducible assumption) | assumption))
                           have HP49 := Kd.R_putg HO_6.out (x8_2 : Int) true
                           try go_wp2_with (first | ((with_reducible refine gate_store (t := 4) (p := 58) rfl ?_); refine store_event (t := 4) (p := 58) (v := ?vo_w50) (w1 := (w48.setCell ⟨go44, (x8_2 : Int).toNat, none⟩ (.bool true))) ?hg ?ho ?hn ?hr ?_; (case ho => rfl); (case hg => rfl); (case hn => rfl); (case hr => first | (go_simp; done) | (go_simp; rfl)); intro w50 hw; have hg : w48.grownBy w50 (some go44) := (by rw [hw]; exact HP49.2); have hp_ : Kd.R Kd.bool 4 w50 w.heap.size (fun _ => True) (.slice (some ⟨go44, 0, none⟩) x6_1.length co44) y186 := (by rw [hw, Ny186.out]; exact HP49.1); clear HP49; have n0_ := Aside0.mk (Kd.R_over' (v := (.slice (some ⟨go44, 0, none⟩) x6_1.length co44)) (by (with_reducible repeat (first | apply Kd.R_alloc | apply Kd.R_drewN | apply Kd.R_drew)); exact HO_5.out) (Kd.R_typed HO_6.out) (by decide) hg); have n1_ := Aside0.mk (hp_); have n2_ := Aside0.mk ((by rw [hw]; exact below_set (HB.out) GB44.out : Below w.heap.size w w50)); clear HO_5; clear HO_6; clear HB; have HO_5 := n0_; have HO_6 := n1_; have HB := n2_; clear n0_ n1_ n2_; clear hg hw hp_; have p47 : 0 ≤ (x7_1 : Int) := of_decide_eq_true (by first | (with_reducible assumption) | assumption); have q47 : (x7_1 : Int) < ((x5_1.length : Int) : Int) := of_decide_eq_true (by first | (with_reducible assumption) | assumption); obtain ⟨go47, co47, eo47, gb47, gl47, cl47, HG47⟩ := Kd.R_form HO_5.out (by omega); (first | cases eo47 | (injection eo47 with ea_ en_ ec_; (first | subst ea_ | (injection ea_ with ea_; subst ea_)); subst ec_; clear en_)); have GB47 := Aside0.mk gb47; have GG47 := Aside0.mk HG47; clear gb47 gl47 HG47; obtain ⟨hx47_0, hf47_0⟩ := Kd.R_celln 0 HO_5.out (x7_1 : Int) p47 q47; replace p47 := eq_true p47; replace q47 := eq_true q47; obtain ⟨hy51_, hz51_⟩ := Kd.R_celln 0 HO_5.out (x7_1 : Int) (of_decide_eq_true (by first | (with_reducible assumption) | assumption)) (of_decide_eq_true (by first | (with_reducible assumption) | assumption)); have HP51 := Kd.R_putg HO_5.out (x7_1 : Int) x8_2) | ((with_reducible refine gate_store (t := 3) (p := 62) rfl ?_); refine store_event (t := 3) (p := 62) (v := ?vo_w52) (w1 := (w50.setCell ⟨go47, (x7_1 : Int).toNat, none⟩ (.int .i64 x8_2))) ?hg ?ho ?hn ?hr ?_; (case ho => rfl); (case hg => rfl); (case hn => rfl); (case hr => first | (go_simp; done) | (go_simp; rfl)); intro w52 hw; have hg : w50.grownBy w52 (some go47) := (by rw [hw]; exact HP51.2); have hp_ : Kd.R (Kd.int .i64) 3 w52 w.heap.size (fun _ => True) (.slice (some ⟨go47, 0, none⟩) x5_1.length co47) y187 := (by rw [hw, Ny187.out]; exact HP51.1); clear HP51; have n0_ := Aside0.mk (hp_); have n1_ := Aside0.mk (Kd.R_over' (v := (.slice (some ⟨go47, 0, none⟩) x5_1.length co47)) (by (with_reducible repeat (first | apply Kd.R_alloc | apply Kd.R_drewN | apply Kd.R_drew)); exact HO_6.out) (Kd.R_typed HO_5.out) (by decide) hg); have n2_ := Aside0.mk ((by rw [hw]; exact below_set (HB.out) GB47.out : Below w.heap.size w w52)); clear HO_5; clear HO_6; clear HB; have HO_5 := n0_; have HO_6 := n1_; have HB := n2_; clear n0_ n1_ n2_; clear hg hw hp_))
                           go_roundg k2
                           case measure => have := HK1.out; have := HK2.out; omega
                           case rel => exact ⟨(y187), (y186), (wrap64 (x7_1 + 1)), (by first | rfl | (simp; done) | (simp [*]; done)), H', ⟨by have := HK1.out; have := HK2.out; omega⟩, ⟨by (with_reducible repeat (first | apply Kd.R_alloc | apply Kd.R_drewN | apply Kd.R_drew)); exact HO_5.out⟩, ⟨by (with_reducible repeat (first | apply Kd.R_alloc | apply Kd.R_drewN | apply Kd.R_drew)); exact HO_6.out⟩, ⟨by repeat (first | (with_reducible first | exact HB.out | apply below_alloc | apply pw_below_drewN | apply below_drew1) | exact HB.out)⟩⟩
                         · rw [if_neg c46] at H
                           exact absurd H (by simp)
                       · rw [if_neg c45] at H
                         exact absurd H (by simp)
                     · rw [if_neg c43] at H
                       exact absurd H (by simp)
                   · rw [if_neg c42] at H
                     exact absurd H (by simp)
           · rw [if_neg c11] at H
             have c11b0 : decide (x7_1 < (l0.length : Int)) = false := decide_eq_false c11
             clear c11
             have H' := Aside0.mk H
             clear H; go_wp2
             go_loopg [9] k1 (fun kq v9 w' => ∃ (x9_2 : Int), v9 = .int .i64 x9_2 ∧ Aside0 (jacquardref16_Keeps.l2 kq l0 x5_1 x9_2 = some r) ∧ Aside0 (kq ≤ k1) ∧ Aside0 (Kd.R (Kd.int .i64) 3 w' w.heap.size (fun _ => True) v175 x5_1) ∧ Aside0 (Below w.heap.size w w'))
             case atStart => exact ⟨(0), (by first | rfl | (simp; done) | (simp [*]; done)), H', ⟨Nat.le_refl _⟩, ⟨by (with_reducible repeat (first | apply Kd.R_alloc | apply Kd.R_drewN | apply Kd.R_drew)); exact HO_5.out⟩, ⟨by repeat (first | (with_reducible first | exact HB.out | apply below_alloc | apply pw_below_drewN | apply below_drew1) | exact HB.out)⟩⟩
             case round =>
              clear H'
              (try clear c1); (try clear p1); (try clear q1); (try clear hx1); (try clear c2); (try clear p2); (try clear c3); (try clear c4); (try clear p4); (try clear q4); (try clear hx4); (try clear hf4); (try clear p6); (try clear c11); (try clear c11b0); (try clear c12); (try clear c12b0); (try clear c13); (try clear c14); (try clear q15); (try clear c18); (try clear p18); (try clear q18); (try clear hx18); (try clear c19); (try clear c20); (try clear c39); (try clear c40); (try clear c40b0); (try clear c40b1); (try clear c42); (try clear c42b0); (try clear c43); (try clear c43b0); (try clear p44); (try clear q44); (try clear hx44); (try clear hf44); (try clear c45); (try clear c45b0); (try clear c46); (try clear c46b0); (try clear p47); (try clear q47); (try clear hx47); (try clear hf47); (try clear hx180_0); (try clear hx181_0); (try clear hx181_1); (try clear hx181_2); (try clear hx181_3); (try clear hx181_4); (try clear hx181_5); (try clear hx181_6); (try clear hx181_7); (try clear hx181_8); (try clear hx182_0); (try clear hx182_1); (try clear hx182_2); (try clear hx182_3); (try clear hx182_4); (try clear hx182_5); (try clear hx182_6); (try clear hx182_7); (try clear hx182_8); (try clear hx44_0); (try clear hx47_0); (try clear p180); (try clear p181); (try clear p182); (try clear p44); (try clear p47); (try clear q180); (try clear q181); (try clear q182); (try clear q44); (try clear q47)
              obtain ⟨x9_2, rfl, HA, HK2, HO_5, HB⟩ := hrel
              cases gk with
              | zero => exact absurd HA.out (by simp [jacquardref16_Keeps.l2])
              | succ k2 =>
               have H := HA.out
               clear HA
               simp only [jacquardref16_Keeps.l2] at H
               by_cases c53 : x9_2 < (l0.length : Int)
               · rw [if_pos c53] at H
                 have c53b0 : decide (x9_2 < (l0.length : Int)) = true := decide_eq_true c53
                 clear c53
                 have H' := Aside0.mk H
                 clear H; go_wp2
                 go_loopg [10] k2 (fun kq v10 w' => ∃ (x10_3 : Int), v10 = .int .i64 x10_3 ∧ Aside0 (jacquardref16_Keeps.l3 kq l0 x5_1 x9_2 x10_3 = some r) ∧ Aside0 (kq ≤ k2) ∧ Aside0 (Kd.R (Kd.int .i64) 3 w' w.heap.size (fun _ => True) v175 x5_1) ∧ Aside0 (Below w.heap.size w w'))
                 case atStart => exact ⟨(wrap64 (x9_2 + 1)), (by first | rfl | (simp; done) | (simp [*]; done)), H', ⟨Nat.le_refl _⟩, ⟨by (with_reducible repeat (first | apply Kd.R_alloc | apply Kd.R_drewN | apply Kd.R_drew)); exact HO_5.out⟩, ⟨by repeat (first | (with_reducible first | exact HB.out | apply below_alloc | apply pw_below_drewN | apply below_drew1) | exact HB.out)⟩⟩
                 case round =>
                  clear H'
                  (try clear c1); (try clear p1); (try clear q1); (try clear hx1); (try clear c2); (try clear p2); (try clear c3); (try clear c4); (try clear p4); (try clear q4); (try clear hx4); (try clear hf4); (try clear c5); (try clear p6); (try clear c11); (try clear c11b0); (try clear c12); (try clear c12b0); (try clear c13); (try clear c14); (try clear q15); (try clear c18); (try clear p18); (try clear q18); (try clear hx18); (try clear c19); (try clear c20); (try clear c39); (try clear c40); (try clear c40b0); (try clear c40b1); (try clear c42); (try clear c42b0); (try clear c43); (try clear c43b0); (try clear p44); (try clear q44); (try clear hx44); (try clear hf44); (try clear c45); (try clear c45b0); (try clear c46); (try clear c46b0); (try clear p47); (try clear q47); (try clear hx47); (try clear hf47); (try clear c53); (try clear c53b0); (try clear hx180_0); (try clear hx181_0); (try clear hx181_1); (try clear hx181_2); (try clear hx181_3); (try clear hx181_4); (try clear hx181_5); (try clear hx181_6); (try clear hx181_7); (try clear hx181_8); (try clear hx182_0); (try clear hx182_1); (try clear hx182_2); (try clear hx182_3); (try clear hx182_4); (try clear hx182_5); (try clear hx182_6); (try clear hx182_7); (try clear hx182_8); (try clear hx44_0); (try clear hx47_0); (try clear p1); (try clear p18); (try clear p180); (try clear p181); (try clear p182); (try clear p2); (try clear p4); (try clear p44); (try clear p47); (try clear p6); (try clear q1); (try clear q15); (try clear q18); (try clear q180); (try clear q181); (try clear q182); (try clear q4); (try clear q44); (try clear q47)
                  obtain ⟨x10_3, rfl, HA, HK3, HO_5, HB⟩ := hrel
                  cases gk with
                  | zero => exact absurd HA.out (by simp [jacquardref16_Keeps.l3])
                  | succ k3 =>
                   have H := HA.out
                   clear HA
                   simp only [jacquardref16_Keeps.l3] at H
                   by_cases c54 : x10_3 < (l0.length : Int)
                   · rw [if_pos c54] at H
                     have c54b0 : decide (x10_3 < (l0.length : Int)) = true := decide_eq_true c54
                     clear c54
                     by_cases c55 : 0 ≤ x10_3
                     · rw [if_pos c55] at H
                       have c55b0 : decide (0 ≤ x10_3) = true := decide_eq_true c55
                       clear c55
                       by_cases c56 : x10_3 < (x5_1.length : Int)
                       · rw [if_pos c56] at H
                         have c56b0 : decide (x10_3 < (x5_1.length : Int)) = true := decide_eq_true c56
                         clear c56
                         by_cases c57 : 0 ≤ x9_2
                         · rw [if_pos c57] at H
                           have c57b0 : decide (0 ≤ x9_2) = true := decide_eq_true c57
                           clear c57
                           by_cases c58 : x9_2 < (x5_1.length : Int)
                           · rw [if_pos c58] at H
                             have c58b0 : decide (x9_2 < (x5_1.length : Int)) = true := decide_eq_true c58
                             clear c58
                             by_cases c59 : (rd x5_1 x10_3) < (rd x5_1 x9_2)
                             · rw [if_pos c59] at H
                               have c59b0 : decide ((rd x5_1 x10_3) < (rd x5_1 x9_2)) = true := decide_eq_true c59
                               clear c59
                               by_cases c60 : x9_2 < (l0.length : Int)
                               · rw [if_pos c60] at H
                                 have c60b0 : decide (x9_2 < (l0.length : Int)) = true := decide_eq_true c60
                                 clear c60
                                 replace H := Option.bind_eq_some_iff.mp H
                                 obtain ⟨t192, A610, H⟩ := H
                                 replace H : (if t192 = true then (some false) else (jacquardref16_Keeps.l3 k3 l0 x5_1 x9_2 (wrap64 (x10_3 + 1)))) = some r := H
                                 have A61 := Aside0.mk A610
                                 clear A610
                                 by_cases c62 : t192 = true
                                 · subst c62
                                   have H1 : (some false) = some r := by rw [if_pos rfl] at H; exact H
                                   clear H
                                   have H := H1
                                   clear H1
                                   obtain rfl := Option.some.inj H
                                   try go_wp2
                                   have n0_ := Aside0.mk (Kd.R_drew HO_5.out)
                                   have n1_ := Aside0.mk (below_drew1 HB.out)
                                   clear HO_5; clear HB
                                   have HO_5 := n0_
                                   have HB := n1_
                                   clear n0_ n1_
                                   obtain ⟨Ao64, co64, eo64⟩ := Kd.R_slice HO_5.out
                                   (first | subst eo64 | (injection eo64 with f1_ f2_ f3_; have f4_ := f1_.symm; have f5_ := f3_.symm; clear f1_ f2_ f3_; subst f4_; subst f5_))
                                   have p188 : 0 ≤ (x10_3 : Int) := of_decide_eq_true (by first | (with_reducible assumption) | assumption)
                                   have q188 : x10_3 < (x5_1.length : Int) := of_decide_eq_true (by first | (with_reducible assumption) | assumption)
                                   obtain ⟨ad188, e188, hx188_0⟩ := Kd.at_int (Kd.R_reads' HO_5.out).2.2 x10_3 p188 q188
                                   cases e188
                                   replace p188 := eq_true p188
                                   replace q188 := eq_true q188
                                   have p189 : 0 ≤ (x9_2 : Int) := of_decide_eq_true (by first | (with_reducible assumption) | assumption)
                                   have q189 : x9_2 < (x5_1.length : Int) := of_decide_eq_true (by first | (with_reducible assumption) | assumption)
                                   obtain ⟨ad189, e189, hx189_0⟩ := Kd.at_int (Kd.R_reads' HO_5.out).2.2 x9_2 p189 q189
                                   obtain rfl : ad188 = ad189 := (by injection e189)
                                   replace p189 := eq_true p189
                                   replace q189 := eq_true q189
                                   have p190 : 0 ≤ (x9_2 : Int) := of_decide_eq_true (by first | (with_reducible assumption) | assumption)
                                   have q190 : x9_2 < (l0.length : Int) := of_decide_eq_true (by first | (with_reducible assumption) | assumption)
                                   obtain ⟨ad190, A190_7, c190_7, e190, hx190_0, hx190_1, hx190_2, hx190_3, hx190_4, hx190_5, hx190_6, hx190_7, hx190_8, hl190_7, hi190_7⟩ := at_T37 HR0.out x9_2 p190 q190
                                   have hw190_8 := hx190_8
                                   have hw190_7 := hx190_7
                                   have hw190_6 := hx190_6
                                   have hw190_5 := hx190_5
                                   have hw190_4 := hx190_4
                                   have hw190_3 := hx190_3
                                   have hw190_2 := hx190_2
                                   have hw190_1 := hx190_1
                                   have hw190_0 := hx190_0
                                   cases e190
                                   replace hx190_0 := (HB.out.cell (World.block_lt_of_cell? w _ hx190_0)).trans hx190_0
                                   replace hx190_1 := (HB.out.cell (World.block_lt_of_cell? w _ hx190_1)).trans hx190_1
                                   replace hx190_2 := (HB.out.cell (World.block_lt_of_cell? w _ hx190_2)).trans hx190_2
                                   replace hx190_3 := (HB.out.cell (World.block_lt_of_cell? w _ hx190_3)).trans hx190_3
                                   replace hx190_4 := (HB.out.cell (World.block_lt_of_cell? w _ hx190_4)).trans hx190_4
                                   replace hx190_5 := (HB.out.cell (World.block_lt_of_cell? w _ hx190_5)).trans hx190_5
                                   replace hx190_6 := (HB.out.cell (World.block_lt_of_cell? w _ hx190_6)).trans hx190_6
                                   replace hx190_7 := (HB.out.cell (World.block_lt_of_cell? w _ hx190_7)).trans hx190_7
                                   replace hx190_8 := (HB.out.cell (World.block_lt_of_cell? w _ hx190_8)).trans hx190_8
                                   have HR190_7 := Aside0.mk hi190_7
                                   have HC190_7 := Aside0.mk hl190_7
                                   clear hi190_7 hl190_7
                                   replace p190 := eq_true p190
                                   replace q190 := eq_true q190
                                   have p191 : 0 ≤ (x10_3 : Int) := of_decide_eq_true (by first | (with_reducible assumption) | assumption)
                                   have q191 : x10_3 < (l0.length : Int) := of_decide_eq_true (by first | (with_reducible assumption) | assumption)
                                   obtain ⟨ad191, A191_7, c191_7, e191, hx191_0, hx191_1, hx191_2, hx191_3, hx191_4, hx191_5, hx191_6, hx191_7, hx191_8, hl191_7, hi191_7⟩ := at_T37 HR0.out x10_3 p191 q191
                                   have hw191_8 := hx191_8
                                   have hw191_7 := hx191_7
                                   have hw191_6 := hx191_6
                                   have hw191_5 := hx191_5
                                   have hw191_4 := hx191_4
                                   have hw191_3 := hx191_3
                                   have hw191_2 := hx191_2
                                   have hw191_1 := hx191_1
                                   have hw191_0 := hx191_0
                                   obtain rfl : ad190 = ad191 := (by injection e191)
                                   replace hx191_0 := (HB.out.cell (World.block_lt_of_cell? w _ hx191_0)).trans hx191_0
                                   replace hx191_1 := (HB.out.cell (World.block_lt_of_cell? w _ hx191_1)).trans hx191_1
                                   replace hx191_2 := (HB.out.cell (World.block_lt_of_cell? w _ hx191_2)).trans hx191_2
                                   replace hx191_3 := (HB.out.cell (World.block_lt_of_cell? w _ hx191_3)).trans hx191_3
                                   replace hx191_4 := (HB.out.cell (World.block_lt_of_cell? w _ hx191_4)).trans hx191_4
                                   replace hx191_5 := (HB.out.cell (World.block_lt_of_cell? w _ hx191_5)).trans hx191_5
                                   replace hx191_6 := (HB.out.cell (World.block_lt_of_cell? w _ hx191_6)).trans hx191_6
                                   replace hx191_7 := (HB.out.cell (World.block_lt_of_cell? w _ hx191_7)).trans hx191_7
                                   replace hx191_8 := (HB.out.cell (World.block_lt_of_cell? w _ hx191_8)).trans hx191_8
                                   have HR191_7 := Aside0.mk hi191_7
                                   have HC191_7 := Aside0.mk hl191_7
                                   clear hi191_7 hl191_7
                                   replace p191 := eq_true p191
                                   replace q191 := eq_true q191
                                   refine start_ (n := 22) (S := fun w' => w'.cell? (ad188.add (x10_3).toNat) = some (.int .i64 (rd x5_1 x10_3)) ∧ w'.cell? (ad188.add (x9_2).toNat) = some (.int .i64 (rd x5_1 x9_2)) ∧ w'.cell? (ad190.add ((x9_2).toNat * 9)) = some (.int .i64 ((rd_T37 l0 x9_2).f0.f0)) ∧ w'.cell? ⟨(ad190.add ((x9_2).toNat * 9)).block, (ad190.add ((x9_2).toNat * 9)).off + 1, none⟩ = some (.int .i64 ((rd_T37 l0 x9_2).f0.f1)) ∧ w'.cell? ⟨(ad190.add ((x9_2).toNat * 9)).block, (ad190.add ((x9_2).toNat * 9)).off + 2, none⟩ = some (.int .i64 ((rd_T37 l0 x9_2).f0.f2)) ∧ w'.cell? ⟨(ad190.add ((x9_2).toNat * 9)).block, (ad190.add ((x9_2).toNat * 9)).off + 3, none⟩ = some (.int .i64 ((rd_T37 l0 x9_2).f0.f3)) ∧ w'.cell? ⟨(ad190.add ((x9_2).toNat * 9)).block, (ad190.add ((x9_2).toNat * 9)).off + 4, none⟩ = some (.int .i64 ((rd_T37 l0 x9_2).f0.f4)) ∧ w'.cell? ⟨(ad190.add ((x9_2).toNat * 9)).block, (ad190.add ((x9_2).toNat * 9)).off + 5, none⟩ = some (.int .i64 ((rd_T37 l0 x9_2).f0.f5)) ∧ w'.cell? ⟨(ad190.add ((x9_2).toNat * 9)).block, (ad190.add ((x9_2).toNat * 9)).off + 6, none⟩ = some (.int .i32 ((rd_T37 l0 x9_2).f0.f6)) ∧ w'.cell? ⟨(ad190.add ((x9_2).toNat * 9)).block, (ad190.add ((x9_2).toNat * 9)).off + 7, none⟩ = some (.slice A190_7 ((rd_T37 l0 x9_2).f0.f7).length c190_7) ∧ w'.cell? ⟨(ad190.add ((x9_2).toNat * 9)).block, (ad190.add ((x9_2).toNat * 9)).off + 8, none⟩ = some (.int .i64 ((rd_T37 l0 x9_2).f1)) ∧ w'.cell? (ad190.add ((x10_3).toNat * 9)) = some (.int .i64 ((rd_T37 l0 x10_3).f0.f0)) ∧ w'.cell? ⟨(ad190.add ((x10_3).toNat * 9)).block, (ad190.add ((x10_3).toNat * 9)).off + 1, none⟩ = some (.int .i64 ((rd_T37 l0 x10_3).f0.f1)) ∧ w'.cell? ⟨(ad190.add ((x10_3).toNat * 9)).block, (ad190.add ((x10_3).toNat * 9)).off + 2, none⟩ = some (.int .i64 ((rd_T37 l0 x10_3).f0.f2)) ∧ w'.cell? ⟨(ad190.add ((x10_3).toNat * 9)).block, (ad190.add ((x10_3).toNat * 9)).off + 3, none⟩ = some (.int .i64 ((rd_T37 l0 x10_3).f0.f3)) ∧ w'.cell? ⟨(ad190.add ((x10_3).toNat * 9)).block, (ad190.add ((x10_3).toNat * 9)).off + 4, none⟩ = some (.int .i64 ((rd_T37 l0 x10_3).f0.f4)) ∧ w'.cell? ⟨(ad190.add ((x10_3).toNat * 9)).block, (ad190.add ((x10_3).toNat * 9)).off + 5, none⟩ = some (.int .i64 ((rd_T37 l0 x10_3).f0.f5)) ∧ w'.cell? ⟨(ad190.add ((x10_3).toNat * 9)).block, (ad190.add ((x10_3).toNat * 9)).off + 6, none⟩ = some (.int .i32 ((rd_T37 l0 x10_3).f0.f6)) ∧ w'.cell? ⟨(ad190.add ((x10_3).toNat * 9)).block, (ad190.add ((x10_3).toNat * 9)).off + 7, none⟩ = some (.slice A191_7 ((rd_T37 l0 x10_3).f0.f7).length c191_7) ∧ w'.cell? ⟨(ad190.add ((x10_3).toNat * 9)).block, (ad190.add ((x10_3).toNat * 9)).off + 8, none⟩ = some (.int .i64 ((rd_T37 l0 x10_3).f1))) (ds := []) (bm 22 0) (by kernel_rfl) rfl rfl ⟨hx188_0, hx189_0, ((HB.out.cell (World.block_lt_of_cell? w _ hw190_0)).trans hw190_0), ((HB.out.cell (World.block_lt_of_cell? w _ hw190_1)).trans hw190_1), ((HB.out.cell (World.block_lt_of_cell? w _ hw190_2)).trans hw190_2), ((HB.out.cell (World.block_lt_of_cell? w _ hw190_3)).trans hw190_3), ((HB.out.cell (World.block_lt_of_cell? w _ hw190_4)).trans hw190_4), ((HB.out.cell (World.block_lt_of_cell? w _ hw190_5)).trans hw190_5), ((HB.out.cell (World.block_lt_of_cell? w _ hw190_6)).trans hw190_6), ((HB.out.cell (World.block_lt_of_cell? w _ hw190_7)).trans hw190_7), ((HB.out.cell (World.block_lt_of_cell? w _ hw190_8)).trans hw190_8), ((HB.out.cell (World.block_lt_of_cell? w _ hw191_0)).trans hw191_0), ((HB.out.cell (World.block_lt_of_cell? w _ hw191_1)).trans hw191_1), ((HB.out.cell (World.block_lt_of_cell? w _ hw191_2)).trans hw191_2), ((HB.out.cell (World.block_lt_of_cell? w _ hw191_3)).trans hw191_3), ((HB.out.cell (World.block_lt_of_cell? w _ hw191_4)).trans hw191_4), ((HB.out.cell (World.block_lt_of_cell? w _ hw191_5)).trans hw191_5), ((HB.out.cell (World.block_lt_of_cell? w _ hw191_6)).trans hw191_6), ((HB.out.cell (World.block_lt_of_cell? w _ hw191_7)).trans hw191_7), ((HB.out.cell (World.block_lt_of_cell? w _ hw191_8)).trans hw191_8)⟩ (fun hHeld => ?_); refine with_tabW jacquardref16_Keeps.tab21 jacquardref16_Keeps.bits21 (fun HT_ HW_ => ?_)
                                   generalize wr.drew = w63 at HO_5 HB HR190_7 HR191_7 hx188_0 hx189_0 hx190_0 hx190_1 hx190_2 hx190_3 hx190_4 hx190_5 hx190_6 hx190_7 hx190_8 hx191_0 hx191_1 hx191_2 hx191_3 hx191_4 hx191_5 hx191_6 hx191_7 hx191_8 hHeld ⊢
                                   refine pu 0 77 (bm 22 1) rfl rfl (any_of HT_.out (by kernel_rfl)) (fun _ _ _ h => h) (by rfl) (v := ?_) (a' := ?_) (by intro w'; go_simp; with_reducible rfl) (by simp only [np]; rfl) ?_
                                   refine pu 1 78 (bm 22 3) rfl rfl (any_of HT_.out (by kernel_rfl)) (fun _ _ _ h => h) (by rfl) (v := ?_) (a' := ?_) (by intro w'; go_simp; with_reducible rfl) (by simp only [np]; rfl) ?_
                                   refine pu 2 79 (bm 22 7) rfl rfl (any_of HT_.out (by kernel_rfl)) (fun _ _ _ h => h) (by rfl) (v := ?_) (a' := ?_) (by intro w'; go_simp; with_reducible rfl) (by simp only [np]; rfl) ?_
                                   refine pu 4 81 (bm 22 23) rfl rfl (any_of HT_.out (by kernel_rfl)) (fun _ _ _ h => h) (by rfl) (v := ?_) (a' := ?_) (by intro w'; go_simp; with_reducible rfl) (by simp only [np]; rfl) ?_
                                   refine pu 5 82 (bm 22 55) rfl rfl (any_of HT_.out (by kernel_rfl)) (fun _ _ _ h => h) (by rfl) (v := ?_) (a' := ?_) (by intro w'; go_simp; with_reducible rfl) (by simp only [np]; rfl) ?_
                                   refine pu 6 83 (bm 22 119) rfl rfl (any_of HT_.out (by kernel_rfl)) (fun _ _ _ h => h) (by rfl) (v := ?_) (a' := ?_) (by intro w'; go_simp; with_reducible rfl) (by simp only [np]; rfl) ?_
                                   refine take_ (i := 3) (N := some 80) (v := ?_) (a' := ?_) (bm 22 127) rfl rfl (take_ofW HT_.out HW_.out (by kernel_rfl)) (fun _ _ _ h => h) (Or.inl ⟨by rfl, ?_⟩) hHeld ?_ ?_
                                   rotate_left
                                   · rintro w' ⟨s0, s1, s2, s3, s4, s5, s6, s7, s8, s9, s10, s11, s12, s13, s14, s15, s16, s17, s18, s19⟩; go_simp; with_reducible rfl
                                   rotate_left
                                   · simp only [np]; rfl
                                   refine take_ (i := 7) (N := some 84) (v := ?_) (a' := ?_) (bm 22 255) rfl rfl (take_ofW HT_.out HW_.out (by kernel_rfl)) (fun _ _ _ h => h) (Or.inl ⟨by rfl, ?_⟩) hHeld ?_ ?_
                                   rotate_left
                                   · rintro w' ⟨s0, s1, s2, s3, s4, s5, s6, s7, s8, s9, s10, s11, s12, s13, s14, s15, s16, s17, s18, s19⟩; go_simp; with_reducible rfl
                                   rotate_left
                                   · simp only [np]; rfl
                                   refine pu 8 85 (bm 22 511) rfl rfl (any_of HT_.out (by kernel_rfl)) (fun _ _ _ h => h) (by rfl) (v := ?_) (a' := ?_) (by intro w'; go_simp; with_reducible rfl) (by simp only [np]; rfl) ?_
                                   refine pu 9 86 (bm 22 1023) rfl rfl (any_of HT_.out (by kernel_rfl)) (fun _ _ _ h => h) (by rfl) (v := ?_) (a' := ?_) (by intro w'; go_simp; with_reducible rfl) (by simp only [np]; rfl) ?_
                                   refine pu 10 87 (bm 22 2047) rfl rfl (any_of HT_.out (by kernel_rfl)) (fun _ _ _ h => h) (by rfl) (v := ?_) (a' := ?_) (by intro w'; go_simp; with_reducible rfl) (by simp only [np]; rfl) ?_
                                   refine pu 11 88 (bm 22 4095) rfl rfl (any_of HT_.out (by kernel_rfl)) (fun _ _ _ h => h) (by rfl) (v := ?_) (a' := ?_) (by intro w'; go_simp; with_reducible rfl) (by simp only [np]; rfl) ?_
                                   refine pu 12 89 (bm 22 8191) rfl rfl (any_of HT_.out (by kernel_rfl)) (fun _ _ _ h => h) (by rfl) (v := ?_) (a' := ?_) (by intro w'; go_simp; with_reducible rfl) (by simp only [np]; rfl) ?_
                                   refine pu 13 90 (bm 22 16383) rfl rfl (any_of HT_.out (by kernel_rfl)) (fun _ _ _ h => h) (by rfl) (v := ?_) (a' := ?_) (by intro w'; go_simp; with_reducible rfl) (by simp only [np]; rfl) ?_
                                   refine pu 15 92 (bm 22 49151) rfl rfl (any_of HT_.out (by kernel_rfl)) (fun _ _ _ h => h) (by rfl) (v := ?_) (a' := ?_) (by intro w'; go_simp; with_reducible rfl) (by simp only [np]; rfl) ?_
                                   refine pu 16 93 (bm 22 114687) rfl rfl (any_of HT_.out (by kernel_rfl)) (fun _ _ _ h => h) (by rfl) (v := ?_) (a' := ?_) (by intro w'; go_simp; with_reducible rfl) (by simp only [np]; rfl) ?_
                                   refine pu 17 94 (bm 22 245759) rfl rfl (any_of HT_.out (by kernel_rfl)) (fun _ _ _ h => h) (by rfl) (v := ?_) (a' := ?_) (by intro w'; go_simp; with_reducible rfl) (by simp only [np]; rfl) ?_
                                   refine pu 18 95 (bm 22 507903) rfl rfl (any_of HT_.out (by kernel_rfl)) (fun _ _ _ h => h) (by rfl) (v := ?_) (a' := ?_) (by intro w'; go_simp; with_reducible rfl) (by simp only [np]; rfl) ?_
                                   refine take_ (i := 14) (N := some 91) (v := ?_) (a' := ?_) (bm 22 524287) rfl rfl (take_ofW HT_.out HW_.out (by kernel_rfl)) (fun _ _ _ h => h) (Or.inl ⟨by rfl, ?_⟩) hHeld ?_ ?_
                                   rotate_left
                                   · rintro w' ⟨s0, s1, s2, s3, s4, s5, s6, s7, s8, s9, s10, s11, s12, s13, s14, s15, s16, s17, s18, s19⟩; go_simp; with_reducible rfl
                                   rotate_left
                                   · simp only [np]; rfl
                                   refine take_ (i := 19) (N := some 96) (v := ?_) (a' := ?_) (bm 22 1048575) rfl rfl (take_ofW HT_.out HW_.out (by kernel_rfl)) (fun _ _ _ h => h) (Or.inl ⟨by rfl, ?_⟩) hHeld ?_ ?_
                                   rotate_left
                                   · rintro w' ⟨s0, s1, s2, s3, s4, s5, s6, s7, s8, s9, s10, s11, s12, s13, s14, s15, s16, s17, s18, s19⟩; go_simp; with_reducible rfl
                                   rotate_left
                                   · simp only [np]; rfl
                                   refine one_ (i := 20) (N := some 97) (bm 22 2097151) rfl rfl (one_of HT_.out (by kernel_rfl)) (by decide) (fun K hK => ?_)
                                   refine goes_ Try.func40 (by kernel_rfl) rfl #[.agg #[.int .i64 ((rd_T37 l0 x9_2).f0.f0), .int .i64 ((rd_T37 l0 x9_2).f0.f1), .int .i64 ((rd_T37 l0 x9_2).f0.f2), .int .i64 ((rd_T37 l0 x9_2).f0.f3), .int .i64 ((rd_T37 l0 x9_2).f0.f4), .int .i64 ((rd_T37 l0 x9_2).f0.f5), .int .i32 ((rd_T37 l0 x9_2).f0.f6), .slice A190_7 ((rd_T37 l0 x9_2).f0.f7).length c190_7], .agg #[.int .i64 ((rd_T37 l0 x10_3).f0.f0), .int .i64 ((rd_T37 l0 x10_3).f0.f1), .int .i64 ((rd_T37 l0 x10_3).f0.f2), .int .i64 ((rd_T37 l0 x10_3).f0.f3), .int .i64 ((rd_T37 l0 x10_3).f0.f4), .int .i64 ((rd_T37 l0 x10_3).f0.f5), .int .i32 ((rd_T37 l0 x10_3).f0.f6), .slice A191_7 ((rd_T37 l0 x10_3).f0.f7).length c191_7]] (by rfl) rfl rfl (by (try simp only [List.map_toArray, List.map_cons, List.map_nil]); first | done | rfl | (simp only [List.length_drop, List.length_take]; rfl)) ?_
                                   with_reducible refine (jacquardref16_Behind.calls k3 ((rd_T37 l0 x9_2).f0.f0) ((rd_T37 l0 x9_2).f0.f1) ((rd_T37 l0 x9_2).f0.f2) ((rd_T37 l0 x9_2).f0.f3) ((rd_T37 l0 x9_2).f0.f4) ((rd_T37 l0 x9_2).f0.f5) ((rd_T37 l0 x9_2).f0.f6) _ _ ((rd_T37 l0 x9_2).f0.f7) ((rd_T37 l0 x10_3).f0.f0) ((rd_T37 l0 x10_3).f0.f1) ((rd_T37 l0 x10_3).f0.f2) ((rd_T37 l0 x10_3).f0.f3) ((rd_T37 l0 x10_3).f0.f4) ((rd_T37 l0 x10_3).f0.f5) ((rd_T37 l0 x10_3).f0.f6) _ _ ((rd_T37 l0 x10_3).f0.f7) true _ ?side1 ?side2 ?side3 ?side4 A61.out).mono ?_
                                   (case side1 => repeat (first | exact (Kd.C_below HR190_7.out HB.out) | (with_reducible refine Kd.C_alloc ?_ _) | (with_reducible refine Kd.C_drewN ?_ _) | (with_reducible refine Kd.C_drew ?_)))
                                   (case side2 => exact HC190_7.out)
                                   (case side3 => repeat (first | exact (Kd.C_below HR191_7.out HB.out) | (with_reducible refine Kd.C_alloc ?_ _) | (with_reducible refine Kd.C_drewN ?_ _) | (with_reducible refine Kd.C_drew ?_)))
                                   (case side4 => exact HC191_7.out)
                                   rintro e w65 ⟨rfl, hb⟩
                                   have HS0_ := (hb.cell (World.block_lt_of_cell? _ _ (hHeld.1))).trans (hHeld.1)
                                   have HS1_ := (hb.cell (World.block_lt_of_cell? _ _ (hHeld.2.1))).trans (hHeld.2.1)
                                   refine ⟨_, rfl, ?_⟩
                                   have n0_ := Aside0.mk (Kd.R_below (by (with_reducible repeat (first | apply Kd.R_alloc | apply Kd.R_drewN | apply Kd.R_drew)); exact HO_5.out) hb)
                                   have n1_ := Aside0.mk (below_step (by repeat (first | (with_reducible first | exact HB.out | apply below_alloc | apply pw_below_drewN | apply below_drew1) | exact HB.out)) hb)
                                   clear HO_5; clear HB
                                   have HO_5 := n0_
                                   have HB := n1_
                                   clear n0_ n1_
                                   (try clear hb)
                                   (try clear hb2)
                                   (try clear hk)
                                   (try clear hi)
                                   refine hK.out _ _ ⟨HS0_, HS1_, ((HB.out.cell (World.block_lt_of_cell? w _ hw190_0)).trans hw190_0), ((HB.out.cell (World.block_lt_of_cell? w _ hw190_1)).trans hw190_1), ((HB.out.cell (World.block_lt_of_cell? w _ hw190_2)).trans hw190_2), ((HB.out.cell (World.block_lt_of_cell? w _ hw190_3)).trans hw190_3), ((HB.out.cell (World.block_lt_of_cell? w _ hw190_4)).trans hw190_4), ((HB.out.cell (World.block_lt_of_cell? w _ hw190_5)).trans hw190_5), ((HB.out.cell (World.block_lt_of_cell? w _ hw190_6)).trans hw190_6), ((HB.out.cell (World.block_lt_of_cell? w _ hw190_7)).trans hw190_7), ((HB.out.cell (World.block_lt_of_cell? w _ hw190_8)).trans hw190_8), ((HB.out.cell (World.block_lt_of_cell? w _ hw191_0)).trans hw191_0), ((HB.out.cell (World.block_lt_of_cell? w _ hw191_1)).trans hw191_1), ((HB.out.cell (World.block_lt_of_cell? w _ hw191_2)).trans hw191_2), ((HB.out.cell (World.block_lt_of_cell? w _ hw191_3)).trans hw191_3), ((HB.out.cell (World.block_lt_of_cell? w _ hw191_4)).trans hw191_4), ((HB.out.cell (World.block_lt_of_cell? w _ hw191_5)).trans hw191_5), ((HB.out.cell (World.block_lt_of_cell? w _ hw191_6)).trans hw191_6), ((HB.out.cell (World.block_lt_of_cell? w _ hw191_7)).trans hw191_7), ((HB.out.cell (World.block_lt_of_cell? w _ hw191_8)).trans hw191_8)⟩ (fun hHeld => ?_)
                                   clear hK K
                                   refine norm_ (a' := ?_) ?_ ?_
                                   rotate_left
                                   · show Act.put _ (some 97) _ = _; simp only [np]; rfl
                                   refine pu 21 98 (bm 22 4194303) rfl rfl (any_of HT_.out (by kernel_rfl)) (fun _ _ _ h => h) (by rfl) (v := ?_) (a' := ?_) (by intro w'; go_simp; with_reducible rfl) (by simp only [np]; rfl) ?_
                                   refine done_ (done_of HT_.out (by kernel_rfl)) ?_
                                   try go_wp2
                                   go_ret
                                   exact ⟨by first | rfl | (simp [errW_none, errW_some] <;> rfl) | (simp [*, errW_none, errW_some] <;> rfl), by repeat (first | (with_reducible first | exact HB.out | apply below_alloc | apply pw_below_drewN | apply below_drew1) | exact HB.out)⟩
                                 · replace c62 := Bool.eq_false_iff.mpr c62
                                   subst c62
                                   have H1 : (jacquardref16_Keeps.l3 k3 l0 x5_1 x9_2 (wrap64 (x10_3 + 1))) = some r := by rw [if_neg (show ¬ (false = true) by decide)] at H; exact H
                                   clear H
                                   have H := H1
                                   clear H1
                                   have H' := Aside0.mk H
                                   clear H
                                   try go_wp2
                                   have n0_ := Aside0.mk (Kd.R_drew HO_5.out)
                                   have n1_ := Aside0.mk (below_drew1 HB.out)
                                   clear HO_5; clear HB
                                   have HO_5 := n0_
                                   have HB := n1_
                                   clear n0_ n1_
                                   obtain ⟨Ao67, co67, eo67⟩ := Kd.R_slice HO_5.out
                                   (first | subst eo67 | (injection eo67 with f1_ f2_ f3_; have f4_ := f1_.symm; have f5_ := f3_.symm; clear f1_ f2_ f3_; subst f4_; subst f5_))
                                   have p188 : 0 ≤ (x10_3 : Int) := of_decide_eq_true (by first | (with_reducible assumption) | assumption)
                                   have q188 : x10_3 < (x5_1.length : Int) := of_decide_eq_true (by first | (with_reducible assumption) | assumption)
                                   obtain ⟨ad188, e188, hx188_0⟩ := Kd.at_int (Kd.R_reads' HO_5.out).2.2 x10_3 p188 q188
                                   cases e188
                                   replace p188 := eq_true p188
                                   replace q188 := eq_true q188
                                   have p189 : 0 ≤ (x9_2 : Int) := of_decide_eq_true (by first | (with_reducible assumption) | assumption)
                                   have q189 : x9_2 < (x5_1.length : Int) := of_decide_eq_true (by first | (with_reducible assumption) | assumption)
                                   obtain ⟨ad189, e189, hx189_0⟩ := Kd.at_int (Kd.R_reads' HO_5.out).2.2 x9_2 p189 q189
                                   obtain rfl : ad188 = ad189 := (by injection e189)
                                   replace p189 := eq_true p189
                                   replace q189 := eq_true q189
                                   have p190 : 0 ≤ (x9_2 : Int) := of_decide_eq_true (by first | (with_reducible assumption) | assumption)
                                   have q190 : x9_2 < (l0.length : Int) := of_decide_eq_true (by first | (with_reducible assumption) | assumption)
                                   obtain ⟨ad190, A190_7, c190_7, e190, hx190_0, hx190_1, hx190_2, hx190_3, hx190_4, hx190_5, hx190_6, hx190_7, hx190_8, hl190_7, hi190_7⟩ := at_T37 HR0.out x9_2 p190 q190
                                   have hw190_8 := hx190_8
                                   have hw190_7 := hx190_7
                                   have hw190_6 := hx190_6
                                   have hw190_5 := hx190_5
                                   have hw190_4 := hx190_4
                                   have hw190_3 := hx190_3
                                   have hw190_2 := hx190_2
                                   have hw190_1 := hx190_1
                                   have hw190_0 := hx190_0
                                   cases e190
                                   replace hx190_0 := (HB.out.cell (World.block_lt_of_cell? w _ hx190_0)).trans hx190_0
                                   replace hx190_1 := (HB.out.cell (World.block_lt_of_cell? w _ hx190_1)).trans hx190_1
                                   replace hx190_2 := (HB.out.cell (World.block_lt_of_cell? w _ hx190_2)).trans hx190_2
                                   replace hx190_3 := (HB.out.cell (World.block_lt_of_cell? w _ hx190_3)).trans hx190_3
                                   replace hx190_4 := (HB.out.cell (World.block_lt_of_cell? w _ hx190_4)).trans hx190_4
                                   replace hx190_5 := (HB.out.cell (World.block_lt_of_cell? w _ hx190_5)).trans hx190_5
                                   replace hx190_6 := (HB.out.cell (World.block_lt_of_cell? w _ hx190_6)).trans hx190_6
                                   replace hx190_7 := (HB.out.cell (World.block_lt_of_cell? w _ hx190_7)).trans hx190_7
                                   replace hx190_8 := (HB.out.cell (World.block_lt_of_cell? w _ hx190_8)).trans hx190_8
                                   have HR190_7 := Aside0.mk hi190_7
                                   have HC190_7 := Aside0.mk hl190_7
                                   clear hi190_7 hl190_7
                                   replace p190 := eq_true p190
                                   replace q190 := eq_true q190
                                   have p191 : 0 ≤ (x10_3 : Int) := of_decide_eq_true (by first | (with_reducible assumption) | assumption)
                                   have q191 : x10_3 < (l0.length : Int) := of_decide_eq_true (by first | (with_reducible assumption) | assumption)
                                   obtain ⟨ad191, A191_7, c191_7, e191, hx191_0, hx191_1, hx191_2, hx191_3, hx191_4, hx191_5, hx191_6, hx191_7, hx191_8, hl191_7, hi191_7⟩ := at_T37 HR0.out x10_3 p191 q191
                                   have hw191_8 := hx191_8
                                   have hw191_7 := hx191_7
                                   have hw191_6 := hx191_6
                                   have hw191_5 := hx191_5
                                   have hw191_4 := hx191_4
                                   have hw191_3 := hx191_3
                                   have hw191_2 := hx191_2
                                   have hw191_1 := hx191_1
                                   have hw191_0 := hx191_0
                                   obtain rfl : ad190 = ad191 := (by injection e191)
                                   replace hx191_0 := (HB.out.cell (World.block_lt_of_cell? w _ hx191_0)).trans hx191_0
                                   replace hx191_1 := (HB.out.cell (World.block_lt_of_cell? w _ hx191_1)).trans hx191_1
                                   replace hx191_2 := (HB.out.cell (World.block_lt_of_cell? w _ hx191_2)).trans hx191_2
                                   replace hx191_3 := (HB.out.cell (World.block_lt_of_cell? w _ hx191_3)).trans hx191_3
                                   replace hx191_4 := (HB.out.cell (World.block_lt_of_cell? w _ hx191_4)).trans hx191_4
                                   replace hx191_5 := (HB.out.cell (World.block_lt_of_cell? w _ hx191_5)).trans hx191_5
                                   replace hx191_6 := (HB.out.cell (World.block_lt_of_cell? w _ hx191_6)).trans hx191_6
                                   replace hx191_7 := (HB.out.cell (World.block_lt_of_cell? w _ hx191_7)).trans hx191_7
                                   replace hx191_8 := (HB.out.cell (World.block_lt_of_cell? w _ hx191_8)).trans hx191_8
                                   have HR191_7 := Aside0.mk hi191_7
                                   have HC191_7 := Aside0.mk hl191_7
                                   clear hi191_7 hl191_7
                                   replace p191 := eq_true p191
                                   replace q191 := eq_true q191
                                   refine start_ (n := 22) (S := fun w' => w'.cell? (ad188.add (x10_3).toNat) = some (.int .i64 (rd x5_1 x10_3)) ∧ w'.cell? (ad188.add (x9_2).toNat) = some (.int .i64 (rd x5_1 x9_2)) ∧ w'.cell? (ad190.add ((x9_2).toNat * 9)) = some (.int .i64 ((rd_T37 l0 x9_2).f0.f0)) ∧ w'.cell? ⟨(ad190.add ((x9_2).toNat * 9)).block, (ad190.add ((x9_2).toNat * 9)).off + 1, none⟩ = some (.int .i64 ((rd_T37 l0 x9_2).f0.f1)) ∧ w'.cell? ⟨(ad190.add ((x9_2).toNat * 9)).block, (ad190.add ((x9_2).toNat * 9)).off + 2, none⟩ = some (.int .i64 ((rd_T37 l0 x9_2).f0.f2)) ∧ w'.cell? ⟨(ad190.add ((x9_2).toNat * 9)).block, (ad190.add ((x9_2).toNat * 9)).off + 3, none⟩ = some (.int .i64 ((rd_T37 l0 x9_2).f0.f3)) ∧ w'.cell? ⟨(ad190.add ((x9_2).toNat * 9)).block, (ad190.add ((x9_2).toNat * 9)).off + 4, none⟩ = some (.int .i64 ((rd_T37 l0 x9_2).f0.f4)) ∧ w'.cell? ⟨(ad190.add ((x9_2).toNat * 9)).block, (ad190.add ((x9_2).toNat * 9)).off + 5, none⟩ = some (.int .i64 ((rd_T37 l0 x9_2).f0.f5)) ∧ w'.cell? ⟨(ad190.add ((x9_2).toNat * 9)).block, (ad190.add ((x9_2).toNat * 9)).off + 6, none⟩ = some (.int .i32 ((rd_T37 l0 x9_2).f0.f6)) ∧ w'.cell? ⟨(ad190.add ((x9_2).toNat * 9)).block, (ad190.add ((x9_2).toNat * 9)).off + 7, none⟩ = some (.slice A190_7 ((rd_T37 l0 x9_2).f0.f7).length c190_7) ∧ w'.cell? ⟨(ad190.add ((x9_2).toNat * 9)).block, (ad190.add ((x9_2).toNat * 9)).off + 8, none⟩ = some (.int .i64 ((rd_T37 l0 x9_2).f1)) ∧ w'.cell? (ad190.add ((x10_3).toNat * 9)) = some (.int .i64 ((rd_T37 l0 x10_3).f0.f0)) ∧ w'.cell? ⟨(ad190.add ((x10_3).toNat * 9)).block, (ad190.add ((x10_3).toNat * 9)).off + 1, none⟩ = some (.int .i64 ((rd_T37 l0 x10_3).f0.f1)) ∧ w'.cell? ⟨(ad190.add ((x10_3).toNat * 9)).block, (ad190.add ((x10_3).toNat * 9)).off + 2, none⟩ = some (.int .i64 ((rd_T37 l0 x10_3).f0.f2)) ∧ w'.cell? ⟨(ad190.add ((x10_3).toNat * 9)).block, (ad190.add ((x10_3).toNat * 9)).off + 3, none⟩ = some (.int .i64 ((rd_T37 l0 x10_3).f0.f3)) ∧ w'.cell? ⟨(ad190.add ((x10_3).toNat * 9)).block, (ad190.add ((x10_3).toNat * 9)).off + 4, none⟩ = some (.int .i64 ((rd_T37 l0 x10_3).f0.f4)) ∧ w'.cell? ⟨(ad190.add ((x10_3).toNat * 9)).block, (ad190.add ((x10_3).toNat * 9)).off + 5, none⟩ = some (.int .i64 ((rd_T37 l0 x10_3).f0.f5)) ∧ w'.cell? ⟨(ad190.add ((x10_3).toNat * 9)).block, (ad190.add ((x10_3).toNat * 9)).off + 6, none⟩ = some (.int .i32 ((rd_T37 l0 x10_3).f0.f6)) ∧ w'.cell? ⟨(ad190.add ((x10_3).toNat * 9)).block, (ad190.add ((x10_3).toNat * 9)).off + 7, none⟩ = some (.slice A191_7 ((rd_T37 l0 x10_3).f0.f7).length c191_7) ∧ w'.cell? ⟨(ad190.add ((x10_3).toNat * 9)).block, (ad190.add ((x10_3).toNat * 9)).off + 8, none⟩ = some (.int .i64 ((rd_T37 l0 x10_3).f1))) (ds := []) (bm 22 0) (by kernel_rfl) rfl rfl ⟨hx188_0, hx189_0, ((HB.out.cell (World.block_lt_of_cell? w _ hw190_0)).trans hw190_0), ((HB.out.cell (World.block_lt_of_cell? w _ hw190_1)).trans hw190_1), ((HB.out.cell (World.block_lt_of_cell? w _ hw190_2)).trans hw190_2), ((HB.out.cell (World.block_lt_of_cell? w _ hw190_3)).trans hw190_3), ((HB.out.cell (World.block_lt_of_cell? w _ hw190_4)).trans hw190_4), ((HB.out.cell (World.block_lt_of_cell? w _ hw190_5)).trans hw190_5), ((HB.out.cell (World.block_lt_of_cell? w _ hw190_6)).trans hw190_6), ((HB.out.cell (World.block_lt_of_cell? w _ hw190_7)).trans hw190_7), ((HB.out.cell (World.block_lt_of_cell? w _ hw190_8)).trans hw190_8), ((HB.out.cell (World.block_lt_of_cell? w _ hw191_0)).trans hw191_0), ((HB.out.cell (World.block_lt_of_cell? w _ hw191_1)).trans hw191_1), ((HB.out.cell (World.block_lt_of_cell? w _ hw191_2)).trans hw191_2), ((HB.out.cell (World.block_lt_of_cell? w _ hw191_3)).trans hw191_3), ((HB.out.cell (World.block_lt_of_cell? w _ hw191_4)).trans hw191_4), ((HB.out.cell (World.block_lt_of_cell? w _ hw191_5)).trans hw191_5), ((HB.out.cell (World.block_lt_of_cell? w _ hw191_6)).trans hw191_6), ((HB.out.cell (World.block_lt_of_cell? w _ hw191_7)).trans hw191_7), ((HB.out.cell (World.block_lt_of_cell? w _ hw191_8)).trans hw191_8)⟩ (fun hHeld => ?_); refine with_tabW jacquardref16_Keeps.tab21 jacquardref16_Keeps.bits21 (fun HT_ HW_ => ?_)
                                   generalize wr.drew = w66 at HO_5 HB HR190_7 HR191_7 hx188_0 hx189_0 hx190_0 hx190_1 hx190_2 hx190_3 hx190_4 hx190_5 hx190_6 hx190_7 hx190_8 hx191_0 hx191_1 hx191_2 hx191_3 hx191_4 hx191_5 hx191_6 hx191_7 hx191_8 hHeld ⊢
                                   refine pu 0 77 (bm 22 1) rfl rfl (any_of HT_.out (by kernel_rfl)) (fun _ _ _ h => h) (by rfl) (v := ?_) (a' := ?_) (by intro w'; go_simp; with_reducible rfl) (by simp only [np]; rfl) ?_
                                   refine pu 1 78 (bm 22 3) rfl rfl (any_of HT_.out (by kernel_rfl)) (fun _ _ _ h => h) (by rfl) (v := ?_) (a' := ?_) (by intro w'; go_simp; with_reducible rfl) (by simp only [np]; rfl) ?_
                                   refine pu 2 79 (bm 22 7) rfl rfl (any_of HT_.out (by kernel_rfl)) (fun _ _ _ h => h) (by rfl) (v := ?_) (a' := ?_) (by intro w'; go_simp; with_reducible rfl) (by simp only [np]; rfl) ?_
                                   refine pu 4 81 (bm 22 23) rfl rfl (any_of HT_.out (by kernel_rfl)) (fun _ _ _ h => h) (by rfl) (v := ?_) (a' := ?_) (by intro w'; go_simp; with_reducible rfl) (by simp only [np]; rfl) ?_
                                   refine pu 5 82 (bm 22 55) rfl rfl (any_of HT_.out (by kernel_rfl)) (fun _ _ _ h => h) (by rfl) (v := ?_) (a' := ?_) (by intro w'; go_simp; with_reducible rfl) (by simp only [np]; rfl) ?_
                                   refine pu 6 83 (bm 22 119) rfl rfl (any_of HT_.out (by kernel_rfl)) (fun _ _ _ h => h) (by rfl) (v := ?_) (a' := ?_) (by intro w'; go_simp; with_reducible rfl) (by simp only [np]; rfl) ?_
                                   refine take_ (i := 3) (N := some 80) (v := ?_) (a' := ?_) (bm 22 127) rfl rfl (take_ofW HT_.out HW_.out (by kernel_rfl)) (fun _ _ _ h => h) (Or.inl ⟨by rfl, ?_⟩) hHeld ?_ ?_
                                   rotate_left
                                   · rintro w' ⟨s0, s1, s2, s3, s4, s5, s6, s7, s8, s9, s10, s11, s12, s13, s14, s15, s16, s17, s18, s19⟩; go_simp; with_reducible rfl
                                   rotate_left
                                   · simp only [np]; rfl
                                   refine take_ (i := 7) (N := some 84) (v := ?_) (a' := ?_) (bm 22 255) rfl rfl (take_ofW HT_.out HW_.out (by kernel_rfl)) (fun _ _ _ h => h) (Or.inl ⟨by rfl, ?_⟩) hHeld ?_ ?_
                                   rotate_left
                                   · rintro w' ⟨s0, s1, s2, s3, s4, s5, s6, s7, s8, s9, s10, s11, s12, s13, s14, s15, s16, s17, s18, s19⟩; go_simp; with_reducible rfl
                                   rotate_left
                                   · simp only [np]; rfl
                                   refine pu 8 85 (bm 22 511) rfl rfl (any_of HT_.out (by kernel_rfl)) (fun _ _ _ h => h) (by rfl) (v := ?_) (a' := ?_) (by intro w'; go_simp; with_reducible rfl) (by simp only [np]; rfl) ?_
                                   refine pu 9 86 (bm 22 1023) rfl rfl (any_of HT_.out (by kernel_rfl)) (fun _ _ _ h => h) (by rfl) (v := ?_) (a' := ?_) (by intro w'; go_simp; with_reducible rfl) (by simp only [np]; rfl) ?_
                                   refine pu 10 87 (bm 22 2047) rfl rfl (any_of HT_.out (by kernel_rfl)) (fun _ _ _ h => h) (by rfl) (v := ?_) (a' := ?_) (by intro w'; go_simp; with_reducible rfl) (by simp only [np]; rfl) ?_
                                   refine pu 11 88 (bm 22 4095) rfl rfl (any_of HT_.out (by kernel_rfl)) (fun _ _ _ h => h) (by rfl) (v := ?_) (a' := ?_) (by intro w'; go_simp; with_reducible rfl) (by simp only [np]; rfl) ?_
                                   refine pu 12 89 (bm 22 8191) rfl rfl (any_of HT_.out (by kernel_rfl)) (fun _ _ _ h => h) (by rfl) (v := ?_) (a' := ?_) (by intro w'; go_simp; with_reducible rfl) (by simp only [np]; rfl) ?_
                                   refine pu 13 90 (bm 22 16383) rfl rfl (any_of HT_.out (by kernel_rfl)) (fun _ _ _ h => h) (by rfl) (v := ?_) (a' := ?_) (by intro w'; go_simp; with_reducible rfl) (by simp only [np]; rfl) ?_
                                   refine pu 15 92 (bm 22 49151) rfl rfl (any_of HT_.out (by kernel_rfl)) (fun _ _ _ h => h) (by rfl) (v := ?_) (a' := ?_) (by intro w'; go_simp; with_reducible rfl) (by simp only [np]; rfl) ?_
                                   refine pu 16 93 (bm 22 114687) rfl rfl (any_of HT_.out (by kernel_rfl)) (fun _ _ _ h => h) (by rfl) (v := ?_) (a' := ?_) (by intro w'; go_simp; with_reducible rfl) (by simp only [np]; rfl) ?_
                                   refine pu 17 94 (bm 22 245759) rfl rfl (any_of HT_.out (by kernel_rfl)) (fun _ _ _ h => h) (by rfl) (v := ?_) (a' := ?_) (by intro w'; go_simp; with_reducible rfl) (by simp only [np]; rfl) ?_
                                   refine pu 18 95 (bm 22 507903) rfl rfl (any_of HT_.out (by kernel_rfl)) (fun _ _ _ h => h) (by rfl) (v := ?_) (a' := ?_) (by intro w'; go_simp; with_reducible rfl) (by simp only [np]; rfl) ?_
                                   refine take_ (i := 14) (N := some 91) (v := ?_) (a' := ?_) (bm 22 524287) rfl rfl (take_ofW HT_.out HW_.out (by kernel_rfl)) (fun _ _ _ h => h) (Or.inl ⟨by rfl, ?_⟩) hHeld ?_ ?_
                                   rotate_left
                                   · rintro w' ⟨s0, s1, s2, s3, s4, s5, s6, s7, s8, s9, s10, s11, s12, s13, s14, s15, s16, s17, s18, s19⟩; go_simp; with_reducible rfl
                                   rotate_left
                                   · simp only [np]; rfl
                                   refine take_ (i := 19) (N := some 96) (v := ?_) (a' := ?_) (bm 22 1048575) rfl rfl (take_ofW HT_.out HW_.out (by kernel_rfl)) (fun _ _ _ h => h) (Or.inl ⟨by rfl, ?_⟩) hHeld ?_ ?_
                                   rotate_left
                                   · rintro w' ⟨s0, s1, s2, s3, s4, s5, s6, s7, s8, s9, s10, s11, s12, s13, s14, s15, s16, s17, s18, s19⟩; go_simp; with_reducible rfl
                                   rotate_left
                                   · simp only [np]; rfl
                                   refine one_ (i := 20) (N := some 97) (bm 22 2097151) rfl rfl (one_of HT_.out (by kernel_rfl)) (by decide) (fun K hK => ?_)
                                   refine goes_ Try.func40 (by kernel_rfl) rfl #[.agg #[.int .i64 ((rd_T37 l0 x9_2).f0.f0), .int .i64 ((rd_T37 l0 x9_2).f0.f1), .int .i64 ((rd_T37 l0 x9_2).f0.f2), .int .i64 ((rd_T37 l0 x9_2).f0.f3), .int .i64 ((rd_T37 l0 x9_2).f0.f4), .int .i64 ((rd_T37 l0 x9_2).f0.f5), .int .i32 ((rd_T37 l0 x9_2).f0.f6), .slice A190_7 ((rd_T37 l0 x9_2).f0.f7).length c190_7], .agg #[.int .i64 ((rd_T37 l0 x10_3).f0.f0), .int .i64 ((rd_T37 l0 x10_3).f0.f1), .int .i64 ((rd_T37 l0 x10_3).f0.f2), .int .i64 ((rd_T37 l0 x10_3).f0.f3), .int .i64 ((rd_T37 l0 x10_3).f0.f4), .int .i64 ((rd_T37 l0 x10_3).f0.f5), .int .i32 ((rd_T37 l0 x10_3).f0.f6), .slice A191_7 ((rd_T37 l0 x10_3).f0.f7).length c191_7]] (by rfl) rfl rfl (by (try simp only [List.map_toArray, List.map_cons, List.map_nil]); first | done | rfl | (simp only [List.length_drop, List.length_take]; rfl)) ?_
                                   with_reducible refine (jacquardref16_Behind.calls k3 ((rd_T37 l0 x9_2).f0.f0) ((rd_T37 l0 x9_2).f0.f1) ((rd_T37 l0 x9_2).f0.f2) ((rd_T37 l0 x9_2).f0.f3) ((rd_T37 l0 x9_2).f0.f4) ((rd_T37 l0 x9_2).f0.f5) ((rd_T37 l0 x9_2).f0.f6) _ _ ((rd_T37 l0 x9_2).f0.f7) ((rd_T37 l0 x10_3).f0.f0) ((rd_T37 l0 x10_3).f0.f1) ((rd_T37 l0 x10_3).f0.f2) ((rd_T37 l0 x10_3).f0.f3) ((rd_T37 l0 x10_3).f0.f4) ((rd_T37 l0 x10_3).f0.f5) ((rd_T37 l0 x10_3).f0.f6) _ _ ((rd_T37 l0 x10_3).f0.f7) false _ ?side1 ?side2 ?side3 ?side4 A61.out).mono ?_
                                   (case side1 => repeat (first | exact (Kd.C_below HR190_7.out HB.out) | (with_reducible refine Kd.C_alloc ?_ _) | (with_reducible refine Kd.C_drewN ?_ _) | (with_reducible refine Kd.C_drew ?_)))
                                   (case side2 => exact HC190_7.out)
                                   (case side3 => repeat (first | exact (Kd.C_below HR191_7.out HB.out) | (with_reducible refine Kd.C_alloc ?_ _) | (with_reducible refine Kd.C_drewN ?_ _) | (with_reducible refine Kd.C_drew ?_)))
                                   (case side4 => exact HC191_7.out)
                                   rintro e w68 ⟨rfl, hb⟩
                                   have HS0_ := (hb.cell (World.block_lt_of_cell? _ _ (hHeld.1))).trans (hHeld.1)
                                   have HS1_ := (hb.cell (World.block_lt_of_cell? _ _ (hHeld.2.1))).trans (hHeld.2.1)
                                   refine ⟨_, rfl, ?_⟩
                                   have n0_ := Aside0.mk (Kd.R_below (by (with_reducible repeat (first | apply Kd.R_alloc | apply Kd.R_drewN | apply Kd.R_drew)); exact HO_5.out) hb)
                                   have n1_ := Aside0.mk (below_step (by repeat (first | (with_reducible first | exact HB.out | apply below_alloc | apply pw_below_drewN | apply below_drew1) | exact HB.out)) hb)
                                   clear HO_5; clear HB
                                   have HO_5 := n0_
                                   have HB := n1_
                                   clear n0_ n1_
                                   (try clear hb)
                                   (try clear hb2)
                                   (try clear hk)
                                   (try clear hi)
                                   refine hK.out _ _ ⟨HS0_, HS1_, ((HB.out.cell (World.block_lt_of_cell? w _ hw190_0)).trans hw190_0), ((HB.out.cell (World.block_lt_of_cell? w _ hw190_1)).trans hw190_1), ((HB.out.cell (World.block_lt_of_cell? w _ hw190_2)).trans hw190_2), ((HB.out.cell (World.block_lt_of_cell? w _ hw190_3)).trans hw190_3), ((HB.out.cell (World.block_lt_of_cell? w _ hw190_4)).trans hw190_4), ((HB.out.cell (World.block_lt_of_cell? w _ hw190_5)).trans hw190_5), ((HB.out.cell (World.block_lt_of_cell? w _ hw190_6)).trans hw190_6), ((HB.out.cell (World.block_lt_of_cell? w _ hw190_7)).trans hw190_7), ((HB.out.cell (World.block_lt_of_cell? w _ hw190_8)).trans hw190_8), ((HB.out.cell (World.block_lt_of_cell? w _ hw191_0)).trans hw191_0), ((HB.out.cell (World.block_lt_of_cell? w _ hw191_1)).trans hw191_1), ((HB.out.cell (World.block_lt_of_cell? w _ hw191_2)).trans hw191_2), ((HB.out.cell (World.block_lt_of_cell? w _ hw191_3)).trans hw191_3), ((HB.out.cell (World.block_lt_of_cell? w _ hw191_4)).trans hw191_4), ((HB.out.cell (World.block_lt_of_cell? w _ hw191_5)).trans hw191_5), ((HB.out.cell (World.block_lt_of_cell? w _ hw191_6)).trans hw191_6), ((HB.out.cell (World.block_lt_of_cell? w _ hw191_7)).trans hw191_7), ((HB.out.cell (World.block_lt_of_cell? w _ hw191_8)).trans hw191_8)⟩ (fun hHeld => ?_)
                                   clear hK K
                                   refine norm_ (a' := ?_) ?_ ?_
                                   rotate_left
                                   · show Act.put _ (some 97) _ = _; simp only [np]; rfl
                                   refine pu 21 98 (bm 22 4194303) rfl rfl (any_of HT_.out (by kernel_rfl)) (fun _ _ _ h => h) (by rfl) (v := ?_) (a' := ?_) (by intro w'; go_simp; with_reducible rfl) (by simp only [np]; rfl) ?_
                                   refine done_ (done_of HT_.out (by kernel_rfl)) ?_
                                   try go_wp2
                                   go_roundg k3
                                   case measure => have := HK1.out; have := HK2.out; have := HK3.out; omega
                                   case rel => exact ⟨(wrap64 (x10_3 + 1)), (by first | rfl | (simp; done) | (simp [*]; done)), H', ⟨by have := HK1.out; have := HK2.out; have := HK3.out; omega⟩, ⟨by (with_reducible repeat (first | apply Kd.R_alloc | apply Kd.R_drewN | apply Kd.R_drew)); exact HO_5.out⟩, ⟨by repeat (first | (with_reducible first | exact HB.out | apply below_alloc | apply pw_below_drewN | apply below_drew1) | exact HB.out)⟩⟩
                               · rw [if_neg c60] at H
                                 exact absurd H (by simp)
                             · rw [if_neg c59] at H
                               have c59b0 : decide ((rd x5_1 x10_3) < (rd x5_1 x9_2)) = false := decide_eq_false c59
                               clear c59
                               have H' := Aside0.mk H
                               clear H
                               try go_wp2
                               have n0_ := Aside0.mk (Kd.R_drew HO_5.out)
                               have n1_ := Aside0.mk (below_drew1 HB.out)
                               clear HO_5; clear HB
                               have HO_5 := n0_
                               have HB := n1_
                               clear n0_ n1_
                               obtain ⟨Ao70, co70, eo70⟩ := Kd.R_slice HO_5.out
                               (first | subst eo70 | (injection eo70 with f1_ f2_ f3_; have f4_ := f1_.symm; have f5_ := f3_.symm; clear f1_ f2_ f3_; subst f4_; subst f5_))
                               have p188 : 0 ≤ (x10_3 : Int) := of_decide_eq_true (by first | (with_reducible assumption) | assumption)
                               have q188 : x10_3 < (x5_1.length : Int) := of_decide_eq_true (by first | (with_reducible assumption) | assumption)
                               obtain ⟨ad188, e188, hx188_0⟩ := Kd.at_int (Kd.R_reads' HO_5.out).2.2 x10_3 p188 q188
                               cases e188
                               replace p188 := eq_true p188
                               replace q188 := eq_true q188
                               have p189 : 0 ≤ (x9_2 : Int) := of_decide_eq_true (by first | (with_reducible assumption) | assumption)
                               have q189 : x9_2 < (x5_1.length : Int) := of_decide_eq_true (by first | (with_reducible assumption) | assumption)
                               obtain ⟨ad189, e189, hx189_0⟩ := Kd.at_int (Kd.R_reads' HO_5.out).2.2 x9_2 p189 q189
                               obtain rfl : ad188 = ad189 := (by injection e189)
                               replace p189 := eq_true p189
                               replace q189 := eq_true q189
                               refine start_ (n := 22) (S := fun w' => w'.cell? (ad188.add (x10_3).toNat) = some (.int .i64 (rd x5_1 x10_3)) ∧ w'.cell? (ad188.add (x9_2).toNat) = some (.int .i64 (rd x5_1 x9_2))) (ds := []) (bm 22 0) (by kernel_rfl) rfl rfl ⟨hx188_0, hx189_0⟩ (fun hHeld => ?_); refine with_tabW jacquardref16_Keeps.tab21 jacquardref16_Keeps.bits21 (fun HT_ HW_ => ?_)
                               generalize wr.drew = w69 at HO_5 HB hx188_0 hx189_0 hHeld ⊢
                               refine pu 0 77 (bm 22 1) rfl rfl (any_of HT_.out (by kernel_rfl)) (fun _ _ _ h => h) (by rfl) (v := ?_) (a' := ?_) (by intro w'; go_simp; with_reducible rfl) (by simp only [np]; rfl) ?_
                               refine pu 1 78 (bm 22 3) rfl rfl (any_of HT_.out (by kernel_rfl)) (fun _ _ _ h => h) (by rfl) (v := ?_) (a' := ?_) (by intro w'; go_simp; with_reducible rfl) (by simp only [np]; rfl) ?_
                               refine pu 2 79 (bm 22 7) rfl rfl (any_of HT_.out (by kernel_rfl)) (fun _ _ _ h => h) (by rfl) (v := ?_) (a' := ?_) (by intro w'; go_simp; with_reducible rfl) (by simp only [np]; rfl) ?_
                               refine pu 4 81 (bm 22 23) rfl rfl (any_of HT_.out (by kernel_rfl)) (fun _ _ _ h => h) (by rfl) (v := ?_) (a' := ?_) (by intro w'; go_simp; with_reducible rfl) (by simp only [np]; rfl) ?_
                               refine pu 5 82 (bm 22 55) rfl rfl (any_of HT_.out (by kernel_rfl)) (fun _ _ _ h => h) (by rfl) (v := ?_) (a' := ?_) (by intro w'; go_simp; with_reducible rfl) (by simp only [np]; rfl) ?_
                               refine pu 6 83 (bm 22 119) rfl rfl (any_of HT_.out (by kernel_rfl)) (fun _ _ _ h => h) (by rfl) (v := ?_) (a' := ?_) (by intro w'; go_simp; with_reducible rfl) (by simp only [np]; rfl) ?_
                               refine take_ (i := 3) (N := some 80) (v := ?_) (a' := ?_) (bm 22 127) rfl rfl (take_ofW HT_.out HW_.out (by kernel_rfl)) (fun _ _ _ h => h) (Or.inl ⟨by rfl, ?_⟩) hHeld ?_ ?_
                               rotate_left
                               · rintro w' ⟨s0, s1⟩; go_simp; with_reducible rfl
                               rotate_left
                               · simp only [np]; rfl
                               refine take_ (i := 7) (N := some 84) (v := ?_) (a' := ?_) (bm 22 255) rfl rfl (take_ofW HT_.out HW_.out (by kernel_rfl)) (fun _ _ _ h => h) (Or.inl ⟨by rfl, ?_⟩) hHeld ?_ ?_
                               rotate_left
                               · rintro w' ⟨s0, s1⟩; go_simp; with_reducible rfl
                               rotate_left
                               · simp only [np]; rfl
                               refine pu 8 85 (bm 22 511) rfl rfl (any_of HT_.out (by kernel_rfl)) (fun _ _ _ h => h) (by rfl) (v := ?_) (a' := ?_) (by intro w'; go_simp; with_reducible rfl) (by simp only [np]; rfl) ?_
                               refine pu 9 86 (bm 22 1023) rfl rfl (any_of HT_.out (by kernel_rfl)) (fun _ _ _ h => h) (by rfl) (v := ?_) (a' := ?_) (by intro w'; go_simp; with_reducible rfl) (by simp only [np]; rfl) ?_
                               refine po 10 87 (bm 22 2047) rfl rfl (any_of HT_.out (by kernel_rfl)) (fun _ _ _ h => h) (by rfl) (a' := ?_) (by simp only [np]; rfl) ?_
                               refine po 11 88 (bm 22 4095) rfl rfl (any_of HT_.out (by kernel_rfl)) (fun _ _ _ h => h) (by rfl) (a' := ?_) (by simp only [np]; rfl) ?_
                               refine po 12 89 (bm 22 8191) rfl rfl (any_of HT_.out (by kernel_rfl)) (fun _ _ _ h => h) (by rfl) (a' := ?_) (by simp only [np]; rfl) ?_
                               refine po 13 90 (bm 22 16383) rfl rfl (any_of HT_.out (by kernel_rfl)) (fun _ _ _ h => h) (by rfl) (a' := ?_) (by simp only [np]; rfl) ?_
                               refine po 14 91 (bm 22 32767) rfl rfl (any_of HT_.out (by kernel_rfl)) (fun _ _ _ h => h) (by rfl) (a' := ?_) (by simp only [np]; rfl) ?_
                               refine po 15 92 (bm 22 65535) rfl rfl (any_of HT_.out (by kernel_rfl)) (fun _ _ _ h => h) (by rfl) (a' := ?_) (by simp only [np]; rfl) ?_
                               refine po 16 93 (bm 22 131071) rfl rfl (any_of HT_.out (by kernel_rfl)) (fun _ _ _ h => h) (by rfl) (a' := ?_) (by simp only [np]; rfl) ?_
                               refine po 17 94 (bm 22 262143) rfl rfl (any_of HT_.out (by kernel_rfl)) (fun _ _ _ h => h) (by rfl) (a' := ?_) (by simp only [np]; rfl) ?_
                               refine po 18 95 (bm 22 524287) rfl rfl (any_of HT_.out (by kernel_rfl)) (fun _ _ _ h => h) (by rfl) (a' := ?_) (by simp only [np]; rfl) ?_
                               refine po 19 96 (bm 22 1048575) rfl rfl (any_of HT_.out (by kernel_rfl)) (fun _ _ _ h => h) (by rfl) (a' := ?_) (by simp only [np]; rfl) ?_
                               refine po 20 97 (bm 22 2097151) rfl rfl (any_of HT_.out (by kernel_rfl)) (fun _ _ _ h => h) (by rfl) (a' := ?_) (by simp only [np]; rfl) ?_
                               refine pu 21 98 (bm 22 4194303) rfl rfl (any_of HT_.out (by kernel_rfl)) (fun _ _ _ h => h) (by rfl) (v := ?_) (a' := ?_) (by intro w'; go_simp; with_reducible rfl) (by simp only [np]; rfl) ?_
                               refine done_ (done_of HT_.out (by kernel_rfl)) ?_
                               try go_wp2
                               go_roundg k3
                               case measure => have := HK1.out; have := HK2.out; have := HK3.out; omega
                               case rel => exact ⟨(wrap64 (x10_3 + 1)), (by first | rfl | (simp; done) | (simp [*]; done)), H', ⟨by have := HK1.out; have := HK2.out; have := HK3.out; omega⟩, ⟨by (with_reducible repeat (first | apply Kd.R_alloc | apply Kd.R_drewN | apply Kd.R_drew)); exact HO_5.out⟩, ⟨by repeat (first | (with_reducible first | exact HB.out | apply below_alloc | apply pw_below_drewN | apply below_drew1) | exact HB.out)⟩⟩
                           · rw [if_neg c58] at H
                             exact absurd H (by simp)
                         · rw [if_neg c57] at H
                           exact absurd H (by simp)
                       · rw [if_neg c56] at H
                         exact absurd H (by simp)
                     · rw [if_neg c55] at H
                       exact absurd H (by simp)
                   · rw [if_neg c54] at H
                     have c54b0 : decide (x10_3 < (l0.length : Int)) = false := decide_eq_false c54
                     clear c54
                     have H' := Aside0.mk H
                     clear H; go_wp2
                     go_roundg k3
                     case measure => have := HK1.out; have := HK2.out; have := HK3.out; omega
                     case rel => exact ⟨(wrap64 (x9_2 + 1)), (by first | rfl | (simp; done) | (simp [*]; done)), H', ⟨by have := HK1.out; have := HK2.out; have := HK3.out; omega⟩, ⟨by (with_reducible repeat (first | apply Kd.R_alloc | apply Kd.R_drewN | apply Kd.R_drew)); exact HO_5.out⟩, ⟨by repeat (first | (with_reducible first | exact HB.out | apply below_alloc | apply pw_below_drewN | apply below_drew1) | exact HB.out)⟩⟩
               · rw [if_neg c53] at H
                 have c53b0 : decide (x9_2 < (l0.length : Int)) = false := decide_eq_false c53
                 clear c53
                 obtain rfl := Option.some.inj H
                 go_wp2; go_ret
                 exact ⟨by first | rfl | (simp [errW_none, errW_some] <;> rfl) | (simp [*, errW_none, errW_some] <;> rfl), by repeat (first | (with_reducible first | exact HB.out | apply below_alloc | apply pw_below_drewN | apply below_drew1) | exact HB.out)⟩
       · rw [if_neg c6] at H
         exact absurd H (by simp)
     · rw [if_neg c5] at H
       exact absurd H (by simp)
   · rw [if_neg c4] at H
     exact absurd H (by simp)
 · rw [if_neg c3] at H
   have c3b0 : ((l0.length : Int) == (l1.length : Int)) = false := beq_eq_false_iff_ne.mpr c3
   have c3b1 : ((l0.length : Int) != (l1.length : Int)) = true := bne_iff_ne.mpr c3
   have c3b2 : (l0.length == l1.length) = false := by first | simpa using c3 | (simp at c3 ⊢; omega)
   obtain rfl := Option.some.inj H
   go_enter Try.func16, Try.ntmps16
   go_wp2; go_ret
   exact ⟨by first | rfl | (simp [errW_none, errW_some] <;> rfl) | (simp [*, errW_none, errW_some] <;> rfl), by repeat (first | (with_reducible first | exact HB.out | apply below_alloc | apply pw_below_drewN | apply below_drew1) | exact HB.out)⟩
end Go.Proofs.Ytocndmielggnpaa.PAll
end
