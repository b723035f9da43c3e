/- What the rows of chapter 16 lean on, part 9. -/
import Derived.Test.YtocndmielggnpaaS4
set_option linter.unusedSimpArgs false
set_option linter.unusedVariables false
section
namespace Go.Proofs.Ytocndmielggnpaa.PAll
open Go.RowKit Go.Proofs.YtocndmielggnpaaW.PrintWords Go.Proofs.YtocndmielggnpaaW.PrintLast Go.Proofs.YtocndmielggnpaaW.PrintMore
attribute [local go_sem] max2_int min2_int max_two min_two max_three min_three max_four min_four   -- for this text's walks alone
mutual
def jacquardref16_same.j0 : Nat → Bool → Int → Int → Int → Int → Int → Int → Int → List Int → Int → Int → Int → Int → Int → Int → Int → Int → List Int → Int → Option (Bool)
 | 0, _, _, _, _, _, _, _, _, _, _, _, _, _, _, _, _, _, _, _ => none
 | k + 1, x84, x147000, x147001, x147002, x147003, x147004, x147005, x147006, x147007, x147008, x148000, x148001, x148002, x148003, x148004, x148005, x148006, x148007, x148008 => if x84 = true then (some false) else (jacquardref16_same.l0 k 0 x147000 x147001 x147002 x147003 x147004 x147005 x147006 x147007 x147008 x148000 x148001 x148002 x148003 x148004 x148005 x148006 x148007 x148008)
def jacquardref16_same.l0 : Nat → Int → Int → Int → Int → Int → Int → Int → Int → List Int → Int → Int → Int → Int → Int → Int → Int → Int → List Int → Int → Option (Bool)
 | 0, _, _, _, _, _, _, _, _, _, _, _, _, _, _, _, _, _, _, _ => none
 | k + 1, x5, x147000, x147001, x147002, x147003, x147004, x147005, x147006, x147007, x147008, x148000, x148001, x148002, x148003, x148004, x148005, x148006, x148007, x148008 => if x5 < (x147007.length : Int) then (if 0 ≤ x5 then (if x5 < (x148007.length : Int) then (if (rd x147007 x5) = (rd x148007 x5) then (jacquardref16_same.l0 k (wrap64 (x5 + 1)) x147000 x147001 x147002 x147003 x147004 x147005 x147006 x147007 x147008 x148000 x148001 x148002 x148003 x148004 x148005 x148006 x148007 x148008) else (some false)) else (none)) else (none)) else (some true)
end
def jacquardref16_same.f (k : Nat) (a0_0 : Int) (a0_1 : Int) (a0_2 : Int) (a0_3 : Int) (a0_4 : Int) (a0_5 : Int) (a0_6 : Int) (l0_7 : List Int) (a0_8 : Int) (a1_0 : Int) (a1_1 : Int) (a1_2 : Int) (a1_3 : Int) (a1_4 : Int) (a1_5 : Int) (a1_6 : Int) (l1_7 : List Int) (a1_8 : Int) : Option (Bool) := if a0_8 = a1_8 then (if a0_0 = a1_0 then (if a0_1 = a1_1 then (if a0_2 = a1_2 then (if a0_3 = a1_3 then (if a0_4 = a1_4 then (if a0_5 = a1_5 then (if a0_6 = a1_6 then (jacquardref16_same.j0 k ((l0_7.length : Int) != (l1_7.length : Int)) a0_0 a0_1 a0_2 a0_3 a0_4 a0_5 a0_6 l0_7 a0_8 a1_0 a1_1 a1_2 a1_3 a1_4 a1_5 a1_6 l1_7 a1_8) else (jacquardref16_same.j0 k true a0_0 a0_1 a0_2 a0_3 a0_4 a0_5 a0_6 l0_7 a0_8 a1_0 a1_1 a1_2 a1_3 a1_4 a1_5 a1_6 l1_7 a1_8)) else (jacquardref16_same.j0 k true a0_0 a0_1 a0_2 a0_3 a0_4 a0_5 a0_6 l0_7 a0_8 a1_0 a1_1 a1_2 a1_3 a1_4 a1_5 a1_6 l1_7 a1_8)) else (jacquardref16_same.j0 k true a0_0 a0_1 a0_2 a0_3 a0_4 a0_5 a0_6 l0_7 a0_8 a1_0 a1_1 a1_2 a1_3 a1_4 a1_5 a1_6 l1_7 a1_8)) else (jacquardref16_same.j0 k true a0_0 a0_1 a0_2 a0_3 a0_4 a0_5 a0_6 l0_7 a0_8 a1_0 a1_1 a1_2 a1_3 a1_4 a1_5 a1_6 l1_7 a1_8)) else (jacquardref16_same.j0 k true a0_0 a0_1 a0_2 a0_3 a0_4 a0_5 a0_6 l0_7 a0_8 a1_0 a1_1 a1_2 a1_3 a1_4 a1_5 a1_6 l1_7 a1_8)) else (jacquardref16_same.j0 k true a0_0 a0_1 a0_2 a0_3 a0_4 a0_5 a0_6 l0_7 a0_8 a1_0 a1_1 a1_2 a1_3 a1_4 a1_5 a1_6 l1_7 a1_8)) else (jacquardref16_same.j0 k true a0_0 a0_1 a0_2 a0_3 a0_4 a0_5 a0_6 l0_7 a0_8 a1_0 a1_1 a1_2 a1_3 a1_4 a1_5 a1_6 l1_7 a1_8)) else (jacquardref16_same.j0 k true a0_0 a0_1 a0_2 a0_3 a0_4 a0_5 a0_6 l0_7 a0_8 a1_0 a1_1 a1_2 a1_3 a1_4 a1_5 a1_6 l1_7 a1_8)
set_option maxHeartbeats 8000000 in
set_option maxRecDepth 100000 in
theorem jacquardref16_same.calls (k : Nat) (a0_0 : Int) (a0_1 : Int) (a0_2 : Int) (a0_3 : Int) (a0_4 : Int) (a0_5 : Int) (a0_6 : Int) (A0_7 : Option Addr) (c0_7 : Nat) (l0_7 : List Int) (a0_8 : Int) (a1_0 : Int) (a1_1 : Int) (a1_2 : Int) (a1_3 : Int) (a1_4 : Int) (a1_5 : Int) (a1_6 : Int) (A1_7 : Option Addr) (c1_7 : Nat) (l1_7 : List Int) (a1_8 : Int) (r : Bool) (w : World) (hr0_7 : Kd.C (Kd.int .i64) w A0_7 l0_7.length l0_7) (hc0_7 : l0_7.length ≤ c0_7) (hr1_7 : Kd.C (Kd.int .i64) w A1_7 l1_7.length l1_7) (hc1_7 : l1_7.length ≤ c1_7) (h : jacquardref16_same.f k a0_0 a0_1 a0_2 a0_3 a0_4 a0_5 a0_6 l0_7 a0_8 a1_0 a1_1 a1_2 a1_3 a1_4 a1_5 a1_6 l1_7 a1_8 = some r) :
    Calls Try.prog 39 #[.agg #[.int .i64 a0_0, .int .i64 a0_1, .int .i64 a0_2, .int .i64 a0_3, .int .i64 a0_4, .int .i64 a0_5, .int .i32 a0_6, .slice A0_7 l0_7.length c0_7, .int .i64 a0_8], .agg #[.int .i64 a1_0, .int .i64 a1_1, .int .i64 a1_2, .int .i64 a1_3, .int .i64 a1_4, .int .i64 a1_5, .int .i32 a1_6, .slice A1_7 l1_7.length c1_7, .int .i64 a1_8]] w fun e w' => e = .returned (.bool r) ∧ Below w.heap.size w w' := by
 have hu37 := Try.underlying37
 have HR0_7 := Aside0.mk hr0_7
 have HC0_7 := Aside0.mk hc0_7
 clear hr0_7 hc0_7
 have HR1_7 := Aside0.mk hr1_7
 have HC1_7 := Aside0.mk hc1_7
 clear hr1_7 hc1_7
 have HB := Aside0.mk (Below.refl w.heap.size w)
 have H : (if a0_8 = a1_8 then (if a0_0 = a1_0 then (if a0_1 = a1_1 then (if a0_2 = a1_2 then (if a0_3 = a1_3 then (if a0_4 = a1_4 then (if a0_5 = a1_5 then (if a0_6 = a1_6 then (jacquardref16_same.j0 k ((l0_7.length : Int) != (l1_7.length : Int)) a0_0 a0_1 a0_2 a0_3 a0_4 a0_5 a0_6 l0_7 a0_8 a1_0 a1_1 a1_2 a1_3 a1_4 a1_5 a1_6 l1_7 a1_8) else (jacquardref16_same.j0 k true a0_0 a0_1 a0_2 a0_3 a0_4 a0_5 a0_6 l0_7 a0_8 a1_0 a1_1 a1_2 a1_3 a1_4 a1_5 a1_6 l1_7 a1_8)) else (jacquardref16_same.j0 k true a0_0 a0_1 a0_2 a0_3 a0_4 a0_5 a0_6 l0_7 a0_8 a1_0 a1_1 a1_2 a1_3 a1_4 a1_5 a1_6 l1_7 a1_8)) else (jacquardref16_same.j0 k true a0_0 a0_1 a0_2 a0_3 a0_4 a0_5 a0_6 l0_7 a0_8 a1_0 a1_1 a1_2 a1_3 a1_4 a1_5 a1_6 l1_7 a1_8)) else (jacquardref16_same.j0 k true a0_0 a0_1 a0_2 a0_3 a0_4 a0_5 a0_6 l0_7 a0_8 a1_0 a1_1 a1_2 a1_3 a1_4 a1_5 a1_6 l1_7 a1_8)) else (jacquardref16_same.j0 k true a0_0 a0_1 a0_2 a0_3 a0_4 a0_5 a0_6 l0_7 a0_8 a1_0 a1_1 a1_2 a1_3 a1_4 a1_5 a1_6 l1_7 a1_8)) else (jacquardref16_same.j0 k true a0_0 a0_1 a0_2 a0_3 a0_4 a0_5 a0_6 l0_7 a0_8 a1_0 a1_1 a1_2 a1_3 a1_4 a1_5 a1_6 l1_7 a1_8)) else (jacquardref16_same.j0 k true a0_0 a0_1 a0_2 a0_3 a0_4 a0_5 a0_6 l0_7 a0_8 a1_0 a1_1 a1_2 a1_3 a1_4 a1_5 a1_6 l1_7 a1_8)) else (jacquardref16_same.j0 k true a0_0 a0_1 a0_2 a0_3 a0_4 a0_5 a0_6 l0_7 a0_8 a1_0 a1_1 a1_2 a1_3 a1_4 a1_5 a1_6 l1_7 a1_8)) = some r := h
 clear h
 have HC3 := Aside0.mk H
 clear H
 go_enter Try.func39, Try.ntmps39
 go_upto_region 1 with (first | ((with_reducible refine gate_dst (N := 2) rfl ?_); (try (refine gate_guard (by rfl) ?_; dsimp only)); refine box_event ?hg (N := 2) ?hd (cs := #[.int .i64 a0_0, .int .i64 a0_1, .int .i64 a0_2, .int .i64 a0_3, .int .i64 a0_4, .int .i64 a0_5, .int .i32 a0_6, .slice A0_7 l0_7.length c0_7, .int .i64 a0_8]) (t := 37) ?hr ?_; (case hd => rfl); (case hg => rfl); (case hr => first | (go_simp; done) | (go_simp; rfl)); intro gb146 hg w4 hbox hb; have n0_ := Aside0.mk (below_step (by repeat (first | (with_reducible first | exact HB.out | apply below_alloc | apply pw_below_drewN | apply below_drew1) | exact HB.out)) hb); have n1_ := Aside0.mk (hbox); have n2_ := Aside0.mk ((by rw [hg]; exact (below_size (by repeat (first | (with_reducible first | exact HB.out | apply below_alloc | apply pw_below_drewN | apply below_drew1) | exact HB.out))) : w.heap.size ≤ gb146)); have n3_ := Aside0.mk ((by rw [hg]; exact (below_size (by repeat (first | (with_reducible first | exact HB.out | apply below_alloc | apply pw_below_drewN | apply below_drew1) | exact HB.out))) : w.heap.size ≤ gb146)); clear HB; have HB := n0_; have BK146 := n1_; have GW146 := n2_; have GE146 := n3_; clear n0_ n1_ n2_ n3_; clear hb hbox hg) | ((with_reducible refine gate_dst (N := 3) rfl ?_); (try (refine gate_guard (by rfl) ?_; dsimp only)); refine box_event ?hg (N := 3) ?hd (cs := #[.int .i64 a1_0, .int .i64 a1_1, .int .i64 a1_2, .int .i64 a1_3, .int .i64 a1_4, .int .i64 a1_5, .int .i32 a1_6, .slice A1_7 l1_7.length c1_7, .int .i64 a1_8]) (t := 37) ?hr ?_; (case hd => rfl); (case hg => rfl); (case hr => first | (go_simp; done) | (go_simp; rfl)); intro gb147 hg w5 hbox hb; have n0_ := Aside0.mk (blk_below (g := gb146) (o := .cells #[.int .i64 a0_0, .int .i64 a0_1, .int .i64 a0_2, .int .i64 a0_3, .int .i64 a0_4, .int .i64 a0_5, .int .i32 a0_6, .slice A0_7 l0_7.length c0_7, .int .i64 a0_8] 37 (0, 0)) (by (with_reducible repeat (first | refine blk_drewN ?_ _ | refine blk_drew ?_ | refine blk_alloc ?_ _)); exact BK146.out) hb); have n1_ := Aside0.mk (below_step (by repeat (first | (with_reducible first | exact HB.out | apply below_alloc | apply pw_below_drewN | apply below_drew1 | refine below_set ?_ GE146.out) | exact HB.out)) hb); have n2_ := Aside0.mk (hbox); have n3_ := Aside0.mk ((by rw [hg]; exact (below_size (by repeat (first | (with_reducible first | exact HB.out | apply below_alloc | apply pw_below_drewN | apply below_drew1 | refine below_set ?_ GE146.out) | exact HB.out))) : w.heap.size ≤ gb147)); have n4_ := Aside0.mk ((by rw [hg]; exact (below_size (by repeat (first | (with_reducible first | exact HB.out | apply below_alloc | apply pw_below_drewN | apply below_drew1 | refine below_set ?_ GE146.out) | exact HB.out))) : w.heap.size ≤ gb147)); have n5_ := Aside0.mk ((by rw [hg]; exact Nat.ne_of_lt (blk_lt (g := gb146) (o := .cells #[.int .i64 a0_0, .int .i64 a0_1, .int .i64 a0_2, .int .i64 a0_3, .int .i64 a0_4, .int .i64 a0_5, .int .i32 a0_6, .slice A0_7 l0_7.length c0_7, .int .i64 a0_8] 37 (0, 0)) (by (with_reducible repeat (first | refine blk_drewN ?_ _ | refine blk_drew ?_ | refine blk_alloc ?_ _)); exact BK146.out)) : gb146 ≠ gb147)); have n6_ := Aside0.mk ((by rw [hg]; exact Nat.ne_of_gt (blk_lt (g := gb146) (o := .cells #[.int .i64 a0_0, .int .i64 a0_1, .int .i64 a0_2, .int .i64 a0_3, .int .i64 a0_4, .int .i64 a0_5, .int .i32 a0_6, .slice A0_7 l0_7.length c0_7, .int .i64 a0_8] 37 (0, 0)) (by (with_reducible repeat (first | refine blk_drewN ?_ _ | refine blk_drew ?_ | refine blk_alloc ?_ _)); exact BK146.out)) : gb147 ≠ gb146)); clear BK146; clear HB; have BK146 := n0_; have HB := n1_; have BK147 := n2_; have GW147 := n3_; have GE147 := n4_; have NB146_147 := n5_; have NB147_146 := n6_; clear n0_ n1_ n2_ n3_ n4_ n5_ n6_; clear hb hbox hg))
 repeat (go_quiet (first | ((with_reducible refine gate_dst (N := 2) rfl ?_); (try (refine gate_guard (by rfl) ?_; dsimp only)); refine box_event ?hg (N := 2) ?hd (cs := #[.int .i64 a0_0, .int .i64 a0_1, .int .i64 a0_2, .int .i64 a0_3, .int .i64 a0_4, .int .i64 a0_5, .int .i32 a0_6, .slice A0_7 l0_7.length c0_7, .int .i64 a0_8]) (t := 37) ?hr ?_; (case hd => rfl); (case hg => rfl); (case hr => first | (go_simp; done) | (go_simp; rfl)); intro gb146 hg w4 hbox hb; have n0_ := Aside0.mk (below_step (by repeat (first | (with_reducible first | exact HB.out | apply below_alloc | apply pw_below_drewN | apply below_drew1) | exact HB.out)) hb); have n1_ := Aside0.mk (hbox); have n2_ := Aside0.mk ((by rw [hg]; exact (below_size (by repeat (first | (with_reducible first | exact HB.out | apply below_alloc | apply pw_below_drewN | apply below_drew1) | exact HB.out))) : w.heap.size ≤ gb146)); have n3_ := Aside0.mk ((by rw [hg]; exact (below_size (by repeat (first | (with_reducible first | exact HB.out | apply below_alloc | apply pw_below_drewN | apply below_drew1) | exact HB.out))) : w.heap.size ≤ gb146)); clear HB; have HB := n0_; have BK146 := n1_; have GW146 := n2_; have GE146 := n3_; clear n0_ n1_ n2_ n3_; clear hb hbox hg) | ((with_reducible refine gate_dst (N := 3) rfl ?_); (try (refine gate_guard (by rfl) ?_; dsimp only)); refine box_event ?hg (N := 3) ?hd (cs := #[.int .i64 a1_0, .int .i64 a1_1, .int .i64 a1_2, .int .i64 a1_3, .int .i64 a1_4, .int .i64 a1_5, .int .i32 a1_6, .slice A1_7 l1_7.length c1_7, .int .i64 a1_8]) (t := 37) ?hr ?_; (case hd => rfl); (case hg => rfl); (case hr => first | (go_simp; done) | (go_simp; rfl)); intro gb147 hg w5 hbox hb; have n0_ := Aside0.mk (blk_below (g := gb146) (o := .cells #[.int .i64 a0_0, .int .i64 a0_1, .int .i64 a0_2, .int .i64 a0_3, .int .i64 a0_4, .int .i64 a0_5, .int .i32 a0_6, .slice A0_7 l0_7.length c0_7, .int .i64 a0_8] 37 (0, 0)) (by (with_reducible repeat (first | refine blk_drewN ?_ _ | refine blk_drew ?_ | refine blk_alloc ?_ _)); exact BK146.out) hb); have n1_ := Aside0.mk (below_step (by repeat (first | (with_reducible first | exact HB.out | apply below_alloc | apply pw_below_drewN | apply below_drew1 | refine below_set ?_ GE146.out) | exact HB.out)) hb); have n2_ := Aside0.mk (hbox); have n3_ := Aside0.mk ((by rw [hg]; exact (below_size (by repeat (first | (with_reducible first | exact HB.out | apply below_alloc | apply pw_below_drewN | apply below_drew1 | refine below_set ?_ GE146.out) | exact HB.out))) : w.heap.size ≤ gb147)); have n4_ := Aside0.mk ((by rw [hg]; exact (below_size (by repeat (first | (with_reducible first | exact HB.out | apply below_alloc | apply pw_below_drewN | apply below_drew1 | refine below_set ?_ GE146.out) | exact HB.out))) : w.heap.size ≤ gb147)); have n5_ := Aside0.mk ((by rw [hg]; exact Nat.ne_of_lt (blk_lt (g := gb146) (o := .cells #[.int .i64 a0_0, .int .i64 a0_1, .int .i64 a0_2, .int .i64 a0_3, .int .i64 a0_4, .int .i64 a0_5, .int .i32 a0_6, .slice A0_7 l0_7.length c0_7, .int .i64 a0_8] 37 (0, 0)) (by (with_reducible repeat (first | refine blk_drewN ?_ _ | refine blk_drew ?_ | refine blk_alloc ?_ _)); exact BK146.out)) : gb146 ≠ gb147)); have n6_ := Aside0.mk ((by rw [hg]; exact Nat.ne_of_gt (blk_lt (g := gb146) (o := .cells #[.int .i64 a0_0, .int .i64 a0_1, .int .i64 a0_2, .int .i64 a0_3, .int .i64 a0_4, .int .i64 a0_5, .int .i32 a0_6, .slice A0_7 l0_7.length c0_7, .int .i64 a0_8] 37 (0, 0)) (by (with_reducible repeat (first | refine blk_drewN ?_ _ | refine blk_drew ?_ | refine blk_alloc ?_ _)); exact BK146.out)) : gb147 ≠ gb146)); clear BK146; clear HB; have BK146 := n0_; have HB := n1_; have BK147 := n2_; have GW147 := n3_; have GE147 := n4_; have NB146_147 := n5_; have NB147_146 := n6_; clear n0_ n1_ n2_ n3_ n4_ n5_ n6_; clear hb hbox hg)); go_upto_region 1 with (first | ((with_reducible refine gate_dst (N := 2) rfl ?_); (try (refine gate_guard (by rfl) ?_; dsimp only)); refine box_event ?hg (N := 2) ?hd (cs := #[.int .i64 a0_0, .int .i64 a0_1, .int .i64 a0_2, .int .i64 a0_3, .int .i64 a0_4, .int .i64 a0_5, .int .i32 a0_6, .slice A0_7 l0_7.length c0_7, .int .i64 a0_8]) (t := 37) ?hr ?_; (case hd => rfl); (case hg => rfl); (case hr => first | (go_simp; done) | (go_simp; rfl)); intro gb146 hg w4 hbox hb; have n0_ := Aside0.mk (below_step (by repeat (first | (with_reducible first | exact HB.out | apply below_alloc | apply pw_below_drewN | apply below_drew1) | exact HB.out)) hb); have n1_ := Aside0.mk (hbox); have n2_ := Aside0.mk ((by rw [hg]; exact (below_size (by repeat (first | (with_reducible first | exact HB.out | apply below_alloc | apply pw_below_drewN | apply below_drew1) | exact HB.out))) : w.heap.size ≤ gb146)); have n3_ := Aside0.mk ((by rw [hg]; exact (below_size (by repeat (first | (with_reducible first | exact HB.out | apply below_alloc | apply pw_below_drewN | apply below_drew1) | exact HB.out))) : w.heap.size ≤ gb146)); clear HB; have HB := n0_; have BK146 := n1_; have GW146 := n2_; have GE146 := n3_; clear n0_ n1_ n2_ n3_; clear hb hbox hg) | ((with_reducible refine gate_dst (N := 3) rfl ?_); (try (refine gate_guard (by rfl) ?_; dsimp only)); refine box_event ?hg (N := 3) ?hd (cs := #[.int .i64 a1_0, .int .i64 a1_1, .int .i64 a1_2, .int .i64 a1_3, .int .i64 a1_4, .int .i64 a1_5, .int .i32 a1_6, .slice A1_7 l1_7.length c1_7, .int .i64 a1_8]) (t := 37) ?hr ?_; (case hd => rfl); (case hg => rfl); (case hr => first | (go_simp; done) | (go_simp; rfl)); intro gb147 hg w5 hbox hb; have n0_ := Aside0.mk (blk_below (g := gb146) (o := .cells #[.int .i64 a0_0, .int .i64 a0_1, .int .i64 a0_2, .int .i64 a0_3, .int .i64 a0_4, .int .i64 a0_5, .int .i32 a0_6, .slice A0_7 l0_7.length c0_7, .int .i64 a0_8] 37 (0, 0)) (by (with_reducible repeat (first | refine blk_drewN ?_ _ | refine blk_drew ?_ | refine blk_alloc ?_ _)); exact BK146.out) hb); have n1_ := Aside0.mk (below_step (by repeat (first | (with_reducible first | exact HB.out | apply below_alloc | apply pw_below_drewN | apply below_drew1 | refine below_set ?_ GE146.out) | exact HB.out)) hb); have n2_ := Aside0.mk (hbox); have n3_ := Aside0.mk ((by rw [hg]; exact (below_size (by repeat (first | (with_reducible first | exact HB.out | apply below_alloc | apply pw_below_drewN | apply below_drew1 | refine below_set ?_ GE146.out) | exact HB.out))) : w.heap.size ≤ gb147)); have n4_ := Aside0.mk ((by rw [hg]; exact (below_size (by repeat (first | (with_reducible first | exact HB.out | apply below_alloc | apply pw_below_drewN | apply below_drew1 | refine below_set ?_ GE146.out) | exact HB.out))) : w.heap.size ≤ gb147)); have n5_ := Aside0.mk ((by rw [hg]; exact Nat.ne_of_lt (blk_lt (g := gb146) (o := .cells #[.int .i64 a0_0, .int .i64 a0_1, .int .i64 a0_2, .int .i64 a0_3, .int .i64 a0_4, .int .i64 a0_5, .int .i32 a0_6, .slice A0_7 l0_7.length c0_7, .int .i64 a0_8] 37 (0, 0)) (by (with_reducible repeat (first | refine blk_drewN ?_ _ | refine blk_drew ?_ | refine blk_alloc ?_ _)); exact BK146.out)) : gb146 ≠ gb147)); have n6_ := Aside0.mk ((by rw [hg]; exact Nat.ne_of_gt (blk_lt (g := gb146) (o := .cells #[.int .i64 a0_0, .int .i64 a0_1, .int .i64 a0_2, .int .i64 a0_3, .int .i64 a0_4, .int .i64 a0_5, .int .i32 a0_6, .slice A0_7 l0_7.length c0_7, .int .i64 a0_8] 37 (0, 0)) (by (with_reducible repeat (first | refine blk_drewN ?_ _ | refine blk_drew ?_ | refine blk_alloc ?_ _)); exact BK146.out)) : gb147 ≠ gb146)); clear BK146; clear HB; have BK146 := n0_; have HB := n1_; have BK147 := n2_; have GW147 := n3_; have GE147 := n4_; have NB146_147 := n5_; have NB147_146 := n6_; clear n0_ n1_ n2_ n3_ n4_ n5_ n6_; clear hb hbox hg)))
 (try simp only [np])
 go_cut [84] (fun v84 wc => ∃ (kq : Nat) (x84_2 : Bool), v84 = .bool x84_2 ∧ Aside0 (jacquardref16_same.j0 kq x84_2 a0_0 a0_1 a0_2 a0_3 a0_4 a0_5 a0_6 l0_7 a0_8 a1_0 a1_1 a1_2 a1_3 a1_4 a1_5 a1_6 l1_7 a1_8 = some r) ∧ Aside0 (kq ≤ k) ∧ Aside0 (wc.heap[gb146]? = some (.cells #[.int .i64 a0_0, .int .i64 a0_1, .int .i64 a0_2, .int .i64 a0_3, .int .i64 a0_4, .int .i64 a0_5, .int .i32 a0_6, (.slice A0_7 l0_7.length c0_7), .int .i64 a0_8] 37 (0, 0))) ∧ Aside0 (wc.heap[gb147]? = some (.cells #[.int .i64 a1_0, .int .i64 a1_1, .int .i64 a1_2, .int .i64 a1_3, .int .i64 a1_4, .int .i64 a1_5, .int .i32 a1_6, (.slice A1_7 l1_7.length c1_7), .int .i64 a1_8] 37 (0, 0))) ∧ Aside0 (Below w.heap.size w wc))
 case first =>
  have H := HC3.out
  clear HC3
  by_cases c6 : a0_8 = a1_8
  · rw [if_pos c6] at H
    have c6b0 : (a0_8 == a1_8) = true := beq_iff_eq.mpr c6
    have c6b1 : (a0_8 != a1_8) = false := bne_eq_false_iff_eq.mpr c6
    clear c6
    (first | rw [c6b0] | (simp only [i64_w, i32_w]; rw [c6b0]) | skip)
    by_cases c7 : a0_0 = a1_0
    · rw [if_pos c7] at H
      have c7b0 : (a0_0 == a1_0) = true := beq_iff_eq.mpr c7
      have c7b1 : (a0_0 != a1_0) = false := bne_eq_false_iff_eq.mpr c7
      clear c7
      by_cases c8 : a0_1 = a1_1
      · rw [if_pos c8] at H
        have c8b0 : (a0_1 == a1_1) = true := beq_iff_eq.mpr c8
        have c8b1 : (a0_1 != a1_1) = false := bne_eq_false_iff_eq.mpr c8
        clear c8
        by_cases c9 : a0_2 = a1_2
        · rw [if_pos c9] at H
          have c9b0 : (a0_2 == a1_2) = true := beq_iff_eq.mpr c9
          have c9b1 : (a0_2 != a1_2) = false := bne_eq_false_iff_eq.mpr c9
          clear c9
          by_cases c10 : a0_3 = a1_3
          · rw [if_pos c10] at H
            have c10b0 : (a0_3 == a1_3) = true := beq_iff_eq.mpr c10
            have c10b1 : (a0_3 != a1_3) = false := bne_eq_false_iff_eq.mpr c10
            clear c10
            by_cases c11 : a0_4 = a1_4
            · rw [if_pos c11] at H
              have c11b0 : (a0_4 == a1_4) = true := beq_iff_eq.mpr c11
              have c11b1 : (a0_4 != a1_4) = false := bne_eq_false_iff_eq.mpr c11
              clear c11
              by_cases c12 : a0_5 = a1_5
              · rw [if_pos c12] at H
                have c12b0 : (a0_5 == a1_5) = true := beq_iff_eq.mpr c12
                have c12b1 : (a0_5 != a1_5) = false := bne_eq_false_iff_eq.mpr c12
                clear c12
                by_cases c13 : a0_6 = a1_6
                · rw [if_pos c13] at H
                  have c13b0 : (a0_6 == a1_6) = true := beq_iff_eq.mpr c13
                  have c13b1 : (a0_6 != a1_6) = false := bne_eq_false_iff_eq.mpr c13
                  clear c13
                  have H' := Aside0.mk H
                  clear H
                  have hnb14 := NB146_147.out
                  have hnc14 := NB147_146.out
                  have hcz15_0 : w5.cell? ⟨gb146, 0, none⟩ = some (.int .i64 a0_0) := (blk_cell BK146.out 0).trans rfl
                  have hcz15_1 : w5.cell? ⟨gb146, 1, none⟩ = some (.int .i64 a0_1) := (blk_cell BK146.out 1).trans rfl
                  have hcz15_2 : w5.cell? ⟨gb146, 2, none⟩ = some (.int .i64 a0_2) := (blk_cell BK146.out 2).trans rfl
                  have hcz15_3 : w5.cell? ⟨gb146, 3, none⟩ = some (.int .i64 a0_3) := (blk_cell BK146.out 3).trans rfl
                  have hcz15_4 : w5.cell? ⟨gb146, 4, none⟩ = some (.int .i64 a0_4) := (blk_cell BK146.out 4).trans rfl
                  have hcz15_5 : w5.cell? ⟨gb146, 5, none⟩ = some (.int .i64 a0_5) := (blk_cell BK146.out 5).trans rfl
                  have hcz15_6 : w5.cell? ⟨gb146, 6, none⟩ = some (.int .i32 a0_6) := (blk_cell BK146.out 6).trans rfl
                  have hcz15_7 : w5.cell? ⟨gb146, 7, none⟩ = some (.slice A0_7 l0_7.length c0_7) := (blk_cell BK146.out 7).trans rfl
                  have hcz15_8 : w5.cell? ⟨gb146, 8, none⟩ = some (.int .i64 a0_8) := (blk_cell BK146.out 8).trans rfl
                  have hfz15_0 := blk_frozen BK146.out 0
                  have hfz15_1 := blk_frozen BK146.out 1
                  have hfz15_2 := blk_frozen BK146.out 2
                  have hfz15_3 := blk_frozen BK146.out 3
                  have hfz15_4 := blk_frozen BK146.out 4
                  have hfz15_5 := blk_frozen BK146.out 5
                  have hfz15_6 := blk_frozen BK146.out 6
                  have hfz15_7 := blk_frozen BK146.out 7
                  have hfz15_8 := blk_frozen BK146.out 8
                  have hcz16_0 : w5.cell? ⟨gb147, 0, none⟩ = some (.int .i64 a1_0) := (blk_cell BK147.out 0).trans rfl
                  have hcz16_1 : w5.cell? ⟨gb147, 1, none⟩ = some (.int .i64 a1_1) := (blk_cell BK147.out 1).trans rfl
                  have hcz16_2 : w5.cell? ⟨gb147, 2, none⟩ = some (.int .i64 a1_2) := (blk_cell BK147.out 2).trans rfl
                  have hcz16_3 : w5.cell? ⟨gb147, 3, none⟩ = some (.int .i64 a1_3) := (blk_cell BK147.out 3).trans rfl
                  have hcz16_4 : w5.cell? ⟨gb147, 4, none⟩ = some (.int .i64 a1_4) := (blk_cell BK147.out 4).trans rfl
                  have hcz16_5 : w5.cell? ⟨gb147, 5, none⟩ = some (.int .i64 a1_5) := (blk_cell BK147.out 5).trans rfl
                  have hcz16_6 : w5.cell? ⟨gb147, 6, none⟩ = some (.int .i32 a1_6) := (blk_cell BK147.out 6).trans rfl
                  have hcz16_7 : w5.cell? ⟨gb147, 7, none⟩ = some (.slice A1_7 l1_7.length c1_7) := (blk_cell BK147.out 7).trans rfl
                  have hcz16_8 : w5.cell? ⟨gb147, 8, none⟩ = some (.int .i64 a1_8) := (blk_cell BK147.out 8).trans rfl
                  have hfz16_0 := blk_frozen BK147.out 0
                  have hfz16_1 := blk_frozen BK147.out 1
                  have hfz16_2 := blk_frozen BK147.out 2
                  have hfz16_3 := blk_frozen BK147.out 3
                  have hfz16_4 := blk_frozen BK147.out 4
                  have hfz16_5 := blk_frozen BK147.out 5
                  have hfz16_6 := blk_frozen BK147.out 6
                  have hfz16_7 := blk_frozen BK147.out 7
                  have hfz16_8 := blk_frozen BK147.out 8
                  go_wp2
                  repeat (go_quiet (fail); try go_wp2)
                  go_meet
                  case rel => exact ⟨_, (((l0_7.length : Int) != (l1_7.length : Int))), (by first | rfl | (simp; done) | (simp [*]; done)), H', ⟨by first | omega | exact Nat.le_refl _⟩, ⟨by (with_reducible repeat (first | refine blk_drewN ?_ _ | refine blk_drew ?_ | refine blk_alloc ?_ _)); exact BK146.out⟩, ⟨by (with_reducible repeat (first | refine blk_drewN ?_ _ | refine blk_drew ?_ | refine blk_alloc ?_ _)); exact BK147.out⟩, ⟨by repeat (first | (with_reducible first | exact HB.out | apply below_alloc | apply pw_below_drewN | apply below_drew1 | refine below_set ?_ GE146.out | refine below_set ?_ GE147.out) | exact HB.out)⟩⟩
                · rw [if_neg c13] at H
                  have c13b0 : (a0_6 == a1_6) = false := beq_eq_false_iff_ne.mpr c13
                  have c13b1 : (a0_6 != a1_6) = true := bne_iff_ne.mpr c13
                  have H' := Aside0.mk H
                  clear H
                  have hnb17 := NB146_147.out
                  have hnc17 := NB147_146.out
                  have hcz18_0 : w5.cell? ⟨gb146, 0, none⟩ = some (.int .i64 a0_0) := (blk_cell BK146.out 0).trans rfl
                  have hcz18_1 : w5.cell? ⟨gb146, 1, none⟩ = some (.int .i64 a0_1) := (blk_cell BK146.out 1).trans rfl
                  have hcz18_2 : w5.cell? ⟨gb146, 2, none⟩ = some (.int .i64 a0_2) := (blk_cell BK146.out 2).trans rfl
                  have hcz18_3 : w5.cell? ⟨gb146, 3, none⟩ = some (.int .i64 a0_3) := (blk_cell BK146.out 3).trans rfl
                  have hcz18_4 : w5.cell? ⟨gb146, 4, none⟩ = some (.int .i64 a0_4) := (blk_cell BK146.out 4).trans rfl
                  have hcz18_5 : w5.cell? ⟨gb146, 5, none⟩ = some (.int .i64 a0_5) := (blk_cell BK146.out 5).trans rfl
                  have hcz18_6 : w5.cell? ⟨gb146, 6, none⟩ = some (.int .i32 a0_6) := (blk_cell BK146.out 6).trans rfl
                  have hcz18_7 : w5.cell? ⟨gb146, 7, none⟩ = some (.slice A0_7 l0_7.length c0_7) := (blk_cell BK146.out 7).trans rfl
                  have hcz18_8 : w5.cell? ⟨gb146, 8, none⟩ = some (.int .i64 a0_8) := (blk_cell BK146.out 8).trans rfl
                  have hfz18_0 := blk_frozen BK146.out 0
                  have hfz18_1 := blk_frozen BK146.out 1
                  have hfz18_2 := blk_frozen BK146.out 2
                  have hfz18_3 := blk_frozen BK146.out 3
                  have hfz18_4 := blk_frozen BK146.out 4
                  have hfz18_5 := blk_frozen BK146.out 5
                  have hfz18_6 := blk_frozen BK146.out 6
                  have hfz18_7 := blk_frozen BK146.out 7
                  have hfz18_8 := blk_frozen BK146.out 8
                  have hcz19_0 : w5.cell? ⟨gb147, 0, none⟩ = some (.int .i64 a1_0) := (blk_cell BK147.out 0).trans rfl
                  have hcz19_1 : w5.cell? ⟨gb147, 1, none⟩ = some (.int .i64 a1_1) := (blk_cell BK147.out 1).trans rfl
                  have hcz19_2 : w5.cell? ⟨gb147, 2, none⟩ = some (.int .i64 a1_2) := (blk_cell BK147.out 2).trans rfl
                  have hcz19_3 : w5.cell? ⟨gb147, 3, none⟩ = some (.int .i64 a1_3) := (blk_cell BK147.out 3).trans rfl
                  have hcz19_4 : w5.cell? ⟨gb147, 4, none⟩ = some (.int .i64 a1_4) := (blk_cell BK147.out 4).trans rfl
                  have hcz19_5 : w5.cell? ⟨gb147, 5, none⟩ = some (.int .i64 a1_5) := (blk_cell BK147.out 5).trans rfl
                  have hcz19_6 : w5.cell? ⟨gb147, 6, none⟩ = some (.int .i32 a1_6) := (blk_cell BK147.out 6).trans rfl
                  have hcz19_7 : w5.cell? ⟨gb147, 7, none⟩ = some (.slice A1_7 l1_7.length c1_7) := (blk_cell BK147.out 7).trans rfl
                  have hcz19_8 : w5.cell? ⟨gb147, 8, none⟩ = some (.int .i64 a1_8) := (blk_cell BK147.out 8).trans rfl
                  have hfz19_0 := blk_frozen BK147.out 0
                  have hfz19_1 := blk_frozen BK147.out 1
                  have hfz19_2 := blk_frozen BK147.out 2
                  have hfz19_3 := blk_frozen BK147.out 3
                  have hfz19_4 := blk_frozen BK147.out 4
                  have hfz19_5 := blk_frozen BK147.out 5
                  have hfz19_6 := blk_frozen BK147.out 6
                  have hfz19_7 := blk_frozen BK147.out 7
                  have hfz19_8 := blk_frozen BK147.out 8
                  go_wp2
                  repeat (go_quiet (fail); try go_wp2)
                  go_meet
                  case rel => exact ⟨_, (true), (by first | rfl | (simp; done) | (simp [*]; done)), H', ⟨by first | omega | exact Nat.le_refl _⟩, ⟨by (with_reducible repeat (first | refine blk_drewN ?_ _ | refine blk_drew ?_ | refine blk_alloc ?_ _)); exact BK146.out⟩, ⟨by (with_reducible repeat (first | refine blk_drewN ?_ _ | refine blk_drew ?_ | refine blk_alloc ?_ _)); exact BK147.out⟩, ⟨by repeat (first | (with_reducible first | exact HB.out | apply below_alloc | apply pw_below_drewN | apply below_drew1 | refine below_set ?_ GE146.out | refine below_set ?_ GE147.out) | exact HB.out)⟩⟩
              · rw [if_neg c12] at H
                have c12b0 : (a0_5 == a1_5) = false := beq_eq_false_iff_ne.mpr c12
                have c12b1 : (a0_5 != a1_5) = true := bne_iff_ne.mpr c12
                have H' := Aside0.mk H
                clear H
                have hnb20 := NB146_147.out
                have hnc20 := NB147_146.out
                have hcz21_0 : w5.cell? ⟨gb146, 0, none⟩ = some (.int .i64 a0_0) := (blk_cell BK146.out 0).trans rfl
                have hcz21_1 : w5.cell? ⟨gb146, 1, none⟩ = some (.int .i64 a0_1) := (blk_cell BK146.out 1).trans rfl
                have hcz21_2 : w5.cell? ⟨gb146, 2, none⟩ = some (.int .i64 a0_2) := (blk_cell BK146.out 2).trans rfl
                have hcz21_3 : w5.cell? ⟨gb146, 3, none⟩ = some (.int .i64 a0_3) := (blk_cell BK146.out 3).trans rfl
                have hcz21_4 : w5.cell? ⟨gb146, 4, none⟩ = some (.int .i64 a0_4) := (blk_cell BK146.out 4).trans rfl
                have hcz21_5 : w5.cell? ⟨gb146, 5, none⟩ = some (.int .i64 a0_5) := (blk_cell BK146.out 5).trans rfl
                have hcz21_6 : w5.cell? ⟨gb146, 6, none⟩ = some (.int .i32 a0_6) := (blk_cell BK146.out 6).trans rfl
                have hcz21_7 : w5.cell? ⟨gb146, 7, none⟩ = some (.slice A0_7 l0_7.length c0_7) := (blk_cell BK146.out 7).trans rfl
                have hcz21_8 : w5.cell? ⟨gb146, 8, none⟩ = some (.int .i64 a0_8) := (blk_cell BK146.out 8).trans rfl
                have hfz21_0 := blk_frozen BK146.out 0
                have hfz21_1 := blk_frozen BK146.out 1
                have hfz21_2 := blk_frozen BK146.out 2
                have hfz21_3 := blk_frozen BK146.out 3
                have hfz21_4 := blk_frozen BK146.out 4
                have hfz21_5 := blk_frozen BK146.out 5
                have hfz21_6 := blk_frozen BK146.out 6
                have hfz21_7 := blk_frozen BK146.out 7
                have hfz21_8 := blk_frozen BK146.out 8
                have hcz22_0 : w5.cell? ⟨gb147, 0, none⟩ = some (.int .i64 a1_0) := (blk_cell BK147.out 0).trans rfl
                have hcz22_1 : w5.cell? ⟨gb147, 1, none⟩ = some (.int .i64 a1_1) := (blk_cell BK147.out 1).trans rfl
                have hcz22_2 : w5.cell? ⟨gb147, 2, none⟩ = some (.int .i64 a1_2) := (blk_cell BK147.out 2).trans rfl
                have hcz22_3 : w5.cell? ⟨gb147, 3, none⟩ = some (.int .i64 a1_3) := (blk_cell BK147.out 3).trans rfl
                have hcz22_4 : w5.cell? ⟨gb147, 4, none⟩ = some (.int .i64 a1_4) := (blk_cell BK147.out 4).trans rfl
                have hcz22_5 : w5.cell? ⟨gb147, 5, none⟩ = some (.int .i64 a1_5) := (blk_cell BK147.out 5).trans rfl
                have hcz22_6 : w5.cell? ⟨gb147, 6, none⟩ = some (.int .i32 a1_6) := (blk_cell BK147.out 6).trans rfl
                have hcz22_7 : w5.cell? ⟨gb147, 7, none⟩ = some (.slice A1_7 l1_7.length c1_7) := (blk_cell BK147.out 7).trans rfl
                have hcz22_8 : w5.cell? ⟨gb147, 8, none⟩ = some (.int .i64 a1_8) := (blk_cell BK147.out 8).trans rfl
                have hfz22_0 := blk_frozen BK147.out 0
                have hfz22_1 := blk_frozen BK147.out 1
                have hfz22_2 := blk_frozen BK147.out 2
                have hfz22_3 := blk_frozen BK147.out 3
                have hfz22_4 := blk_frozen BK147.out 4
                have hfz22_5 := blk_frozen BK147.out 5
                have hfz22_6 := blk_frozen BK147.out 6
                have hfz22_7 := blk_frozen BK147.out 7
                have hfz22_8 := blk_frozen BK147.out 8
                go_wp2
                repeat (go_quiet (fail); try go_wp2)
                go_meet
                case rel => exact ⟨_, (true), (by first | rfl | (simp; done) | (simp [*]; done)), H', ⟨by first | omega | exact Nat.le_refl _⟩, ⟨by (with_reducible repeat (first | refine blk_drewN ?_ _ | refine blk_drew ?_ | refine blk_alloc ?_ _)); exact BK146.out⟩, ⟨by (with_reducible repeat (first | refine blk_drewN ?_ _ | refine blk_drew ?_ | refine blk_alloc ?_ _)); exact BK147.out⟩, ⟨by repeat (first | (with_reducible first | exact HB.out | apply below_alloc | apply pw_below_drewN | apply below_drew1 | refine below_set ?_ GE146.out | refine below_set ?_ GE147.out) | exact HB.out)⟩⟩
            · rw [if_neg c11] at H
              have c11b0 : (a0_4 == a1_4) = false := beq_eq_false_iff_ne.mpr c11
              have c11b1 : (a0_4 != a1_4) = true := bne_iff_ne.mpr c11
              have H' := Aside0.mk H
              clear H
              have hnb23 := NB146_147.out
              have hnc23 := NB147_146.out
              have hcz24_0 : w5.cell? ⟨gb146, 0, none⟩ = some (.int .i64 a0_0) := (blk_cell BK146.out 0).trans rfl
              have hcz24_1 : w5.cell? ⟨gb146, 1, none⟩ = some (.int .i64 a0_1) := (blk_cell BK146.out 1).trans rfl
              have hcz24_2 : w5.cell? ⟨gb146, 2, none⟩ = some (.int .i64 a0_2) := (blk_cell BK146.out 2).trans rfl
              have hcz24_3 : w5.cell? ⟨gb146, 3, none⟩ = some (.int .i64 a0_3) := (blk_cell BK146.out 3).trans rfl
              have hcz24_4 : w5.cell? ⟨gb146, 4, none⟩ = some (.int .i64 a0_4) := (blk_cell BK146.out 4).trans rfl
              have hcz24_5 : w5.cell? ⟨gb146, 5, none⟩ = some (.int .i64 a0_5) := (blk_cell BK146.out 5).trans rfl
              have hcz24_6 : w5.cell? ⟨gb146, 6, none⟩ = some (.int .i32 a0_6) := (blk_cell BK146.out 6).trans rfl
              have hcz24_7 : w5.cell? ⟨gb146, 7, none⟩ = some (.slice A0_7 l0_7.length c0_7) := (blk_cell BK146.out 7).trans rfl
              have hcz24_8 : w5.cell? ⟨gb146, 8, none⟩ = some (.int .i64 a0_8) := (blk_cell BK146.out 8).trans rfl
              have hfz24_0 := blk_frozen BK146.out 0
              have hfz24_1 := blk_frozen BK146.out 1
              have hfz24_2 := blk_frozen BK146.out 2
              have hfz24_3 := blk_frozen BK146.out 3
              have hfz24_4 := blk_frozen BK146.out 4
              have hfz24_5 := blk_frozen BK146.out 5
              have hfz24_6 := blk_frozen BK146.out 6
              have hfz24_7 := blk_frozen BK146.out 7
              have hfz24_8 := blk_frozen BK146.out 8
              have hcz25_0 : w5.cell? ⟨gb147, 0, none⟩ = some (.int .i64 a1_0) := (blk_cell BK147.out 0).trans rfl
              have hcz25_1 : w5.cell? ⟨gb147, 1, none⟩ = some (.int .i64 a1_1) := (blk_cell BK147.out 1).trans rfl
              have hcz25_2 : w5.cell? ⟨gb147, 2, none⟩ = some (.int .i64 a1_2) := (blk_cell BK147.out 2).trans rfl
              have hcz25_3 : w5.cell? ⟨gb147, 3, none⟩ = some (.int .i64 a1_3) := (blk_cell BK147.out 3).trans rfl
              have hcz25_4 : w5.cell? ⟨gb147, 4, none⟩ = some (.int .i64 a1_4) := (blk_cell BK147.out 4).trans rfl
              have hcz25_5 : w5.cell? ⟨gb147, 5, none⟩ = some (.int .i64 a1_5) := (blk_cell BK147.out 5).trans rfl
              have hcz25_6 : w5.cell? ⟨gb147, 6, none⟩ = some (.int .i32 a1_6) := (blk_cell BK147.out 6).trans rfl
              have hcz25_7 : w5.cell? ⟨gb147, 7, none⟩ = some (.slice A1_7 l1_7.length c1_7) := (blk_cell BK147.out 7).trans rfl
              have hcz25_8 : w5.cell? ⟨gb147, 8, none⟩ = some (.int .i64 a1_8) := (blk_cell BK147.out 8).trans rfl
              have hfz25_0 := blk_frozen BK147.out 0
              have hfz25_1 := blk_frozen BK147.out 1
              have hfz25_2 := blk_frozen BK147.out 2
              have hfz25_3 := blk_frozen BK147.out 3
              have hfz25_4 := blk_frozen BK147.out 4
              have hfz25_5 := blk_frozen BK147.out 5
              have hfz25_6 := blk_frozen BK147.out 6
              have hfz25_7 := blk_frozen BK147.out 7
              have hfz25_8 := blk_frozen BK147.out 8
              go_wp2
              repeat (go_quiet (fail); try go_wp2)
              go_meet
              case rel => exact ⟨_, (true), (by first | rfl | (simp; done) | (simp [*]; done)), H', ⟨by first | omega | exact Nat.le_refl _⟩, ⟨by (with_reducible repeat (first | refine blk_drewN ?_ _ | refine blk_drew ?_ | refine blk_alloc ?_ _)); exact BK146.out⟩, ⟨by (with_reducible repeat (first | refine blk_drewN ?_ _ | refine blk_drew ?_ | refine blk_alloc ?_ _)); exact BK147.out⟩, ⟨by repeat (first | (with_reducible first | exact HB.out | apply below_alloc | apply pw_below_drewN | apply below_drew1 | refine below_set ?_ GE146.out | refine below_set ?_ GE147.out) | exact HB.out)⟩⟩
          · rw [if_neg c10] at H
            have c10b0 : (a0_3 == a1_3) = false := beq_eq_false_iff_ne.mpr c10
            have c10b1 : (a0_3 != a1_3) = true := bne_iff_ne.mpr c10
            have H' := Aside0.mk H
            clear H
            have hnb26 := NB146_147.out
            have hnc26 := NB147_146.out
            have hcz27_0 : w5.cell? ⟨gb146, 0, none⟩ = some (.int .i64 a0_0) := (blk_cell BK146.out 0).trans rfl
            have hcz27_1 : w5.cell? ⟨gb146, 1, none⟩ = some (.int .i64 a0_1) := (blk_cell BK146.out 1).trans rfl
            have hcz27_2 : w5.cell? ⟨gb146, 2, none⟩ = some (.int .i64 a0_2) := (blk_cell BK146.out 2).trans rfl
            have hcz27_3 : w5.cell? ⟨gb146, 3, none⟩ = some (.int .i64 a0_3) := (blk_cell BK146.out 3).trans rfl
            have hcz27_4 : w5.cell? ⟨gb146, 4, none⟩ = some (.int .i64 a0_4) := (blk_cell BK146.out 4).trans rfl
            have hcz27_5 : w5.cell? ⟨gb146, 5, none⟩ = some (.int .i64 a0_5) := (blk_cell BK146.out 5).trans rfl
            have hcz27_6 : w5.cell? ⟨gb146, 6, none⟩ = some (.int .i32 a0_6) := (blk_cell BK146.out 6).trans rfl
            have hcz27_7 : w5.cell? ⟨gb146, 7, none⟩ = some (.slice A0_7 l0_7.length c0_7) := (blk_cell BK146.out 7).trans rfl
            have hcz27_8 : w5.cell? ⟨gb146, 8, none⟩ = some (.int .i64 a0_8) := (blk_cell BK146.out 8).trans rfl
            have hfz27_0 := blk_frozen BK146.out 0
            have hfz27_1 := blk_frozen BK146.out 1
            have hfz27_2 := blk_frozen BK146.out 2
            have hfz27_3 := blk_frozen BK146.out 3
            have hfz27_4 := blk_frozen BK146.out 4
            have hfz27_5 := blk_frozen BK146.out 5
            have hfz27_6 := blk_frozen BK146.out 6
            have hfz27_7 := blk_frozen BK146.out 7
            have hfz27_8 := blk_frozen BK146.out 8
            have hcz28_0 : w5.cell? ⟨gb147, 0, none⟩ = some (.int .i64 a1_0) := (blk_cell BK147.out 0).trans rfl
            have hcz28_1 : w5.cell? ⟨gb147, 1, none⟩ = some (.int .i64 a1_1) := (blk_cell BK147.out 1).trans rfl
            have hcz28_2 : w5.cell? ⟨gb147, 2, none⟩ = some (.int .i64 a1_2) := (blk_cell BK147.out 2).trans rfl
            have hcz28_3 : w5.cell? ⟨gb147, 3, none⟩ = some (.int .i64 a1_3) := (blk_cell BK147.out 3).trans rfl
            have hcz28_4 : w5.cell? ⟨gb147, 4, none⟩ = some (.int .i64 a1_4) := (blk_cell BK147.out 4).trans rfl
            have hcz28_5 : w5.cell? ⟨gb147, 5, none⟩ = some (.int .i64 a1_5) := (blk_cell BK147.out 5).trans rfl
            have hcz28_6 : w5.cell? ⟨gb147, 6, none⟩ = some (.int .i32 a1_6) := (blk_cell BK147.out 6).trans rfl
            have hcz28_7 : w5.cell? ⟨gb147, 7, none⟩ = some (.slice A1_7 l1_7.length c1_7) := (blk_cell BK147.out 7).trans rfl
            have hcz28_8 : w5.cell? ⟨gb147, 8, none⟩ = some (.int .i64 a1_8) := (blk_cell BK147.out 8).trans rfl
            have hfz28_0 := blk_frozen BK147.out 0
            have hfz28_1 := blk_frozen BK147.out 1
            have hfz28_2 := blk_frozen BK147.out 2
            have hfz28_3 := blk_frozen BK147.out 3
            have hfz28_4 := blk_frozen BK147.out 4
            have hfz28_5 := blk_frozen BK147.out 5
            have hfz28_6 := blk_frozen BK147.out 6
            have hfz28_7 := blk_frozen BK147.out 7
            have hfz28_8 := blk_frozen BK147.out 8
            go_wp2
            repeat (go_quiet (fail); try go_wp2)
            go_meet
            case rel => exact ⟨_, (true), (by first | rfl | (simp; done) | (simp [*]; done)), H', ⟨by first | omega | exact Nat.le_refl _⟩, ⟨by (with_reducible repeat (first | refine blk_drewN ?_ _ | refine blk_drew ?_ | refine blk_alloc ?_ _)); exact BK146.out⟩, ⟨by (with_reducible repeat (first | refine blk_drewN ?_ _ | refine blk_drew ?_ | refine blk_alloc ?_ _)); exact BK147.out⟩, ⟨by repeat (first | (with_reducible first | exact HB.out | apply below_alloc | apply pw_below_drewN | apply below_drew1 | refine below_set ?_ GE146.out | refine below_set ?_ GE147.out) | exact HB.out)⟩⟩
        · rw [if_neg c9] at H
          have c9b0 : (a0_2 == a1_2) = false := beq_eq_false_iff_ne.mpr c9
          have c9b1 : (a0_2 != a1_2) = true := bne_iff_ne.mpr c9
          have H' := Aside0.mk H
          clear H
          have hnb29 := NB146_147.out
          have hnc29 := NB147_146.out
          have hcz30_0 : w5.cell? ⟨gb146, 0, none⟩ = some (.int .i64 a0_0) := (blk_cell BK146.out 0).trans rfl
          have hcz30_1 : w5.cell? ⟨gb146, 1, none⟩ = some (.int .i64 a0_1) := (blk_cell BK146.out 1).trans rfl
          have hcz30_2 : w5.cell? ⟨gb146, 2, none⟩ = some (.int .i64 a0_2) := (blk_cell BK146.out 2).trans rfl
          have hcz30_3 : w5.cell? ⟨gb146, 3, none⟩ = some (.int .i64 a0_3) := (blk_cell BK146.out 3).trans rfl
          have hcz30_4 : w5.cell? ⟨gb146, 4, none⟩ = some (.int .i64 a0_4) := (blk_cell BK146.out 4).trans rfl
          have hcz30_5 : w5.cell? ⟨gb146, 5, none⟩ = some (.int .i64 a0_5) := (blk_cell BK146.out 5).trans rfl
          have hcz30_6 : w5.cell? ⟨gb146, 6, none⟩ = some (.int .i32 a0_6) := (blk_cell BK146.out 6).trans rfl
          have hcz30_7 : w5.cell? ⟨gb146, 7, none⟩ = some (.slice A0_7 l0_7.length c0_7) := (blk_cell BK146.out 7).trans rfl
          have hcz30_8 : w5.cell? ⟨gb146, 8, none⟩ = some (.int .i64 a0_8) := (blk_cell BK146.out 8).trans rfl
          have hfz30_0 := blk_frozen BK146.out 0
          have hfz30_1 := blk_frozen BK146.out 1
          have hfz30_2 := blk_frozen BK146.out 2
          have hfz30_3 := blk_frozen BK146.out 3
          have hfz30_4 := blk_frozen BK146.out 4
          have hfz30_5 := blk_frozen BK146.out 5
          have hfz30_6 := blk_frozen BK146.out 6
          have hfz30_7 := blk_frozen BK146.out 7
          have hfz30_8 := blk_frozen BK146.out 8
          have hcz31_0 : w5.cell? ⟨gb147, 0, none⟩ = some (.int .i64 a1_0) := (blk_cell BK147.out 0).trans rfl
          have hcz31_1 : w5.cell? ⟨gb147, 1, none⟩ = some (.int .i64 a1_1) := (blk_cell BK147.out 1).trans rfl
          have hcz31_2 : w5.cell? ⟨gb147, 2, none⟩ = some (.int .i64 a1_2) := (blk_cell BK147.out 2).trans rfl
          have hcz31_3 : w5.cell? ⟨gb147, 3, none⟩ = some (.int .i64 a1_3) := (blk_cell BK147.out 3).trans rfl
          have hcz31_4 : w5.cell? ⟨gb147, 4, none⟩ = some (.int .i64 a1_4) := (blk_cell BK147.out 4).trans rfl
          have hcz31_5 : w5.cell? ⟨gb147, 5, none⟩ = some (.int .i64 a1_5) := (blk_cell BK147.out 5).trans rfl
          have hcz31_6 : w5.cell? ⟨gb147, 6, none⟩ = some (.int .i32 a1_6) := (blk_cell BK147.out 6).trans rfl
          have hcz31_7 : w5.cell? ⟨gb147, 7, none⟩ = some (.slice A1_7 l1_7.length c1_7) := (blk_cell BK147.out 7).trans rfl
          have hcz31_8 : w5.cell? ⟨gb147, 8, none⟩ = some (.int .i64 a1_8) := (blk_cell BK147.out 8).trans rfl
          have hfz31_0 := blk_frozen BK147.out 0
          have hfz31_1 := blk_frozen BK147.out 1
          have hfz31_2 := blk_frozen BK147.out 2
          have hfz31_3 := blk_frozen BK147.out 3
          have hfz31_4 := blk_frozen BK147.out 4
          have hfz31_5 := blk_frozen BK147.out 5
          have hfz31_6 := blk_frozen BK147.out 6
          have hfz31_7 := blk_frozen BK147.out 7
          have hfz31_8 := blk_frozen BK147.out 8
          go_wp2
          repeat (go_quiet (fail); try go_wp2)
          go_meet
          case rel => exact ⟨_, (true), (by first | rfl | (simp; done) | (simp [*]; done)), H', ⟨by first | omega | exact Nat.le_refl _⟩, ⟨by (with_reducible repeat (first | refine blk_drewN ?_ _ | refine blk_drew ?_ | refine blk_alloc ?_ _)); exact BK146.out⟩, ⟨by (with_reducible repeat (first | refine blk_drewN ?_ _ | refine blk_drew ?_ | refine blk_alloc ?_ _)); exact BK147.out⟩, ⟨by repeat (first | (with_reducible first | exact HB.out | apply below_alloc | apply pw_below_drewN | apply below_drew1 | refine below_set ?_ GE146.out | refine below_set ?_ GE147.out) | exact HB.out)⟩⟩
      · rw [if_neg c8] at H
        have c8b0 : (a0_1 == a1_1) = false := beq_eq_false_iff_ne.mpr c8
        have c8b1 : (a0_1 != a1_1) = true := bne_iff_ne.mpr c8
        have H' := Aside0.mk H
        clear H
        have hnb32 := NB146_147.out
        have hnc32 := NB147_146.out
        have hcz33_0 : w5.cell? ⟨gb146, 0, none⟩ = some (.int .i64 a0_0) := (blk_cell BK146.out 0).trans rfl
        have hcz33_1 : w5.cell? ⟨gb146, 1, none⟩ = some (.int .i64 a0_1) := (blk_cell BK146.out 1).trans rfl
        have hcz33_2 : w5.cell? ⟨gb146, 2, none⟩ = some (.int .i64 a0_2) := (blk_cell BK146.out 2).trans rfl
        have hcz33_3 : w5.cell? ⟨gb146, 3, none⟩ = some (.int .i64 a0_3) := (blk_cell BK146.out 3).trans rfl
        have hcz33_4 : w5.cell? ⟨gb146, 4, none⟩ = some (.int .i64 a0_4) := (blk_cell BK146.out 4).trans rfl
        have hcz33_5 : w5.cell? ⟨gb146, 5, none⟩ = some (.int .i64 a0_5) := (blk_cell BK146.out 5).trans rfl
        have hcz33_6 : w5.cell? ⟨gb146, 6, none⟩ = some (.int .i32 a0_6) := (blk_cell BK146.out 6).trans rfl
        have hcz33_7 : w5.cell? ⟨gb146, 7, none⟩ = some (.slice A0_7 l0_7.length c0_7) := (blk_cell BK146.out 7).trans rfl
        have hcz33_8 : w5.cell? ⟨gb146, 8, none⟩ = some (.int .i64 a0_8) := (blk_cell BK146.out 8).trans rfl
        have hfz33_0 := blk_frozen BK146.out 0
        have hfz33_1 := blk_frozen BK146.out 1
        have hfz33_2 := blk_frozen BK146.out 2
        have hfz33_3 := blk_frozen BK146.out 3
        have hfz33_4 := blk_frozen BK146.out 4
        have hfz33_5 := blk_frozen BK146.out 5
        have hfz33_6 := blk_frozen BK146.out 6
        have hfz33_7 := blk_frozen BK146.out 7
        have hfz33_8 := blk_frozen BK146.out 8
        have hcz34_0 : w5.cell? ⟨gb147, 0, none⟩ = some (.int .i64 a1_0) := (blk_cell BK147.out 0).trans rfl
        have hcz34_1 : w5.cell? ⟨gb147, 1, none⟩ = some (.int .i64 a1_1) := (blk_cell BK147.out 1).trans rfl
        have hcz34_2 : w5.cell? ⟨gb147, 2, none⟩ = some (.int .i64 a1_2) := (blk_cell BK147.out 2).trans rfl
        have hcz34_3 : w5.cell? ⟨gb147, 3, none⟩ = some (.int .i64 a1_3) := (blk_cell BK147.out 3).trans rfl
        have hcz34_4 : w5.cell? ⟨gb147, 4, none⟩ = some (.int .i64 a1_4) := (blk_cell BK147.out 4).trans rfl
        have hcz34_5 : w5.cell? ⟨gb147, 5, none⟩ = some (.int .i64 a1_5) := (blk_cell BK147.out 5).trans rfl
        have hcz34_6 : w5.cell? ⟨gb147, 6, none⟩ = some (.int .i32 a1_6) := (blk_cell BK147.out 6).trans rfl
        have hcz34_7 : w5.cell? ⟨gb147, 7, none⟩ = some (.slice A1_7 l1_7.length c1_7) := (blk_cell BK147.out 7).trans rfl
        have hcz34_8 : w5.cell? ⟨gb147, 8, none⟩ = some (.int .i64 a1_8) := (blk_cell BK147.out 8).trans rfl
        have hfz34_0 := blk_frozen BK147.out 0
        have hfz34_1 := blk_frozen BK147.out 1
        have hfz34_2 := blk_frozen BK147.out 2
        have hfz34_3 := blk_frozen BK147.out 3
        have hfz34_4 := blk_frozen BK147.out 4
        have hfz34_5 := blk_frozen BK147.out 5
        have hfz34_6 := blk_frozen BK147.out 6
        have hfz34_7 := blk_frozen BK147.out 7
        have hfz34_8 := blk_frozen BK147.out 8
        go_wp2
        repeat (go_quiet (fail); try go_wp2)
        go_meet
        case rel => exact ⟨_, (true), (by first | rfl | (simp; done) | (simp [*]; done)), H', ⟨by first | omega | exact Nat.le_refl _⟩, ⟨by (with_reducible repeat (first | refine blk_drewN ?_ _ | refine blk_drew ?_ | refine blk_alloc ?_ _)); exact BK146.out⟩, ⟨by (with_reducible repeat (first | refine blk_drewN ?_ _ | refine blk_drew ?_ | refine blk_alloc ?_ _)); exact BK147.out⟩, ⟨by repeat (first | (with_reducible first | exact HB.out | apply below_alloc | apply pw_below_drewN | apply below_drew1 | refine below_set ?_ GE146.out | refine below_set ?_ GE147.out) | exact HB.out)⟩⟩
    · rw [if_neg c7] at H
      have c7b0 : (a0_0 == a1_0) = false := beq_eq_false_iff_ne.mpr c7
      have c7b1 : (a0_0 != a1_0) = true := bne_iff_ne.mpr c7
      have H' := Aside0.mk H
      clear H
      have hnb35 := NB146_147.out
      have hnc35 := NB147_146.out
      have hcz36_0 : w5.cell? ⟨gb146, 0, none⟩ = some (.int .i64 a0_0) := (blk_cell BK146.out 0).trans rfl
      have hcz36_1 : w5.cell? ⟨gb146, 1, none⟩ = some (.int .i64 a0_1) := (blk_cell BK146.out 1).trans rfl
      have hcz36_2 : w5.cell? ⟨gb146, 2, none⟩ = some (.int .i64 a0_2) := (blk_cell BK146.out 2).trans rfl
      have hcz36_3 : w5.cell? ⟨gb146, 3, none⟩ = some (.int .i64 a0_3) := (blk_cell BK146.out 3).trans rfl
      have hcz36_4 : w5.cell? ⟨gb146, 4, none⟩ = some (.int .i64 a0_4) := (blk_cell BK146.out 4).trans rfl
      have hcz36_5 : w5.cell? ⟨gb146, 5, none⟩ = some (.int .i64 a0_5) := (blk_cell BK146.out 5).trans rfl
      have hcz36_6 : w5.cell? ⟨gb146, 6, none⟩ = some (.int .i32 a0_6) := (blk_cell BK146.out 6).trans rfl
      have hcz36_7 : w5.cell? ⟨gb146, 7, none⟩ = some (.slice A0_7 l0_7.length c0_7) := (blk_cell BK146.out 7).trans rfl
      have hcz36_8 : w5.cell? ⟨gb146, 8, none⟩ = some (.int .i64 a0_8) := (blk_cell BK146.out 8).trans rfl
      have hfz36_0 := blk_frozen BK146.out 0
      have hfz36_1 := blk_frozen BK146.out 1
      have hfz36_2 := blk_frozen BK146.out 2
      have hfz36_3 := blk_frozen BK146.out 3
      have hfz36_4 := blk_frozen BK146.out 4
      have hfz36_5 := blk_frozen BK146.out 5
      have hfz36_6 := blk_frozen BK146.out 6
      have hfz36_7 := blk_frozen BK146.out 7
      have hfz36_8 := blk_frozen BK146.out 8
      have hcz37_0 : w5.cell? ⟨gb147, 0, none⟩ = some (.int .i64 a1_0) := (blk_cell BK147.out 0).trans rfl
      have hcz37_1 : w5.cell? ⟨gb147, 1, none⟩ = some (.int .i64 a1_1) := (blk_cell BK147.out 1).trans rfl
      have hcz37_2 : w5.cell? ⟨gb147, 2, none⟩ = some (.int .i64 a1_2) := (blk_cell BK147.out 2).trans rfl
      have hcz37_3 : w5.cell? ⟨gb147, 3, none⟩ = some (.int .i64 a1_3) := (blk_cell BK147.out 3).trans rfl
      have hcz37_4 : w5.cell? ⟨gb147, 4, none⟩ = some (.int .i64 a1_4) := (blk_cell BK147.out 4).trans rfl
      have hcz37_5 : w5.cell? ⟨gb147, 5, none⟩ = some (.int .i64 a1_5) := (blk_cell BK147.out 5).trans rfl
      have hcz37_6 : w5.cell? ⟨gb147, 6, none⟩ = some (.int .i32 a1_6) := (blk_cell BK147.out 6).trans rfl
      have hcz37_7 : w5.cell? ⟨gb147, 7, none⟩ = some (.slice A1_7 l1_7.length c1_7) := (blk_cell BK147.out 7).trans rfl
      have hcz37_8 : w5.cell? ⟨gb147, 8, none⟩ = some (.int .i64 a1_8) := (blk_cell BK147.out 8).trans rfl
      have hfz37_0 := blk_frozen BK147.out 0
      have hfz37_1 := blk_frozen BK147.out 1
      have hfz37_2 := blk_frozen BK147.out 2
      have hfz37_3 := blk_frozen BK147.out 3
      have hfz37_4 := blk_frozen BK147.out 4
      have hfz37_5 := blk_frozen BK147.out 5
      have hfz37_6 := blk_frozen BK147.out 6
      have hfz37_7 := blk_frozen BK147.out 7
      have hfz37_8 := blk_frozen BK147.out 8
      go_wp2
      repeat (go_quiet (fail); try go_wp2)
      go_meet
      case rel => exact ⟨_, (true), (by first | rfl | (simp; done) | (simp [*]; done)), H', ⟨by first | omega | exact Nat.le_refl _⟩, ⟨by (with_reducible repeat (first | refine blk_drewN ?_ _ | refine blk_drew ?_ | refine blk_alloc ?_ _)); exact BK146.out⟩, ⟨by (with_reducible repeat (first | refine blk_drewN ?_ _ | refine blk_drew ?_ | refine blk_alloc ?_ _)); exact BK147.out⟩, ⟨by repeat (first | (with_reducible first | exact HB.out | apply below_alloc | apply pw_below_drewN | apply below_drew1 | refine below_set ?_ GE146.out | refine below_set ?_ GE147.out) | exact HB.out)⟩⟩
  · rw [if_neg c6] at H
    have c6b0 : (a0_8 == a1_8) = false := beq_eq_false_iff_ne.mpr c6
    have c6b1 : (a0_8 != a1_8) = true := bne_iff_ne.mpr c6
    (first | rw [c6b0] | (simp only [i64_w, i32_w]; rw [c6b0]) | skip)
    have H' := Aside0.mk H
    clear H
    have hnb38 := NB146_147.out
    have hnc38 := NB147_146.out
    have hcz39_0 : w5.cell? ⟨gb146, 0, none⟩ = some (.int .i64 a0_0) := (blk_cell BK146.out 0).trans rfl
    have hcz39_1 : w5.cell? ⟨gb146, 1, none⟩ = some (.int .i64 a0_1) := (blk_cell BK146.out 1).trans rfl
    have hcz39_2 : w5.cell? ⟨gb146, 2, none⟩ = some (.int .i64 a0_2) := (blk_cell BK146.out 2).trans rfl
    have hcz39_3 : w5.cell? ⟨gb146, 3, none⟩ = some (.int .i64 a0_3) := (blk_cell BK146.out 3).trans rfl
    have hcz39_4 : w5.cell? ⟨gb146, 4, none⟩ = some (.int .i64 a0_4) := (blk_cell BK146.out 4).trans rfl
    have hcz39_5 : w5.cell? ⟨gb146, 5, none⟩ = some (.int .i64 a0_5) := (blk_cell BK146.out 5).trans rfl
    have hcz39_6 : w5.cell? ⟨gb146, 6, none⟩ = some (.int .i32 a0_6) := (blk_cell BK146.out 6).trans rfl
    have hcz39_7 : w5.cell? ⟨gb146, 7, none⟩ = some (.slice A0_7 l0_7.length c0_7) := (blk_cell BK146.out 7).trans rfl
    have hcz39_8 : w5.cell? ⟨gb146, 8, none⟩ = some (.int .i64 a0_8) := (blk_cell BK146.out 8).trans rfl
    have hfz39_0 := blk_frozen BK146.out 0
    have hfz39_1 := blk_frozen BK146.out 1
    have hfz39_2 := blk_frozen BK146.out 2
    have hfz39_3 := blk_frozen BK146.out 3
    have hfz39_4 := blk_frozen BK146.out 4
    have hfz39_5 := blk_frozen BK146.out 5
    have hfz39_6 := blk_frozen BK146.out 6
    have hfz39_7 := blk_frozen BK146.out 7
    have hfz39_8 := blk_frozen BK146.out 8
    have hcz40_0 : w5.cell? ⟨gb147, 0, none⟩ = some (.int .i64 a1_0) := (blk_cell BK147.out 0).trans rfl
    have hcz40_1 : w5.cell? ⟨gb147, 1, none⟩ = some (.int .i64 a1_1) := (blk_cell BK147.out 1).trans rfl
    have hcz40_2 : w5.cell? ⟨gb147, 2, none⟩ = some (.int .i64 a1_2) := (blk_cell BK147.out 2).trans rfl
    have hcz40_3 : w5.cell? ⟨gb147, 3, none⟩ = some (.int .i64 a1_3) := (blk_cell BK147.out 3).trans rfl
    have hcz40_4 : w5.cell? ⟨gb147, 4, none⟩ = some (.int .i64 a1_4) := (blk_cell BK147.out 4).trans rfl
    have hcz40_5 : w5.cell? ⟨gb147, 5, none⟩ = some (.int .i64 a1_5) := (blk_cell BK147.out 5).trans rfl
    have hcz40_6 : w5.cell? ⟨gb147, 6, none⟩ = some (.int .i32 a1_6) := (blk_cell BK147.out 6).trans rfl
    have hcz40_7 : w5.cell? ⟨gb147, 7, none⟩ = some (.slice A1_7 l1_7.length c1_7) := (blk_cell BK147.out 7).trans rfl
    have hcz40_8 : w5.cell? ⟨gb147, 8, none⟩ = some (.int .i64 a1_8) := (blk_cell BK147.out 8).trans rfl
    have hfz40_0 := blk_frozen BK147.out 0
    have hfz40_1 := blk_frozen BK147.out 1
    have hfz40_2 := blk_frozen BK147.out 2
    have hfz40_3 := blk_frozen BK147.out 3
    have hfz40_4 := blk_frozen BK147.out 4
    have hfz40_5 := blk_frozen BK147.out 5
    have hfz40_6 := blk_frozen BK147.out 6
    have hfz40_7 := blk_frozen BK147.out 7
    have hfz40_8 := blk_frozen BK147.out 8
    go_wp2
    repeat (go_quiet (fail); try go_wp2)
    go_meet
    case rel => exact ⟨_, (true), (by first | rfl | (simp; done) | (simp [*]; done)), H', ⟨by first | omega | exact Nat.le_refl _⟩, ⟨by (with_reducible repeat (first | refine blk_drewN ?_ _ | refine blk_drew ?_ | refine blk_alloc ?_ _)); exact BK146.out⟩, ⟨by (with_reducible repeat (first | refine blk_drewN ?_ _ | refine blk_drew ?_ | refine blk_alloc ?_ _)); exact BK147.out⟩, ⟨by repeat (first | (with_reducible first | exact HB.out | apply below_alloc | apply pw_below_drewN | apply below_drew1 | refine below_set ?_ GE146.out | refine below_set ?_ GE147.out) | exact HB.out)⟩⟩
 case rest =>
  clear HC3
  (try clear c1); (try clear c2); (try clear p2); (try clear c3); (try clear c6); (try clear c6b0); (try clear c6b1); (try clear c7); (try clear c7b0); (try clear c7b1); (try clear c8); (try clear c8b0); (try clear c8b1); (try clear c9); (try clear c9b0); (try clear c9b1); (try clear c10); (try clear c10b0); (try clear c10b1); (try clear c11); (try clear c11b0); (try clear c11b1); (try clear c12); (try clear c12b0); (try clear c12b1); (try clear c13); (try clear c13b0); (try clear c13b1); (try clear c14); (try clear c17); (try clear c20); (try clear c23); (try clear c26); (try clear c29); (try clear c32); (try clear c35); (try clear c38); (try clear c39); (try clear hcz15_0); (try clear hcz15_1); (try clear hcz15_2); (try clear hcz15_3); (try clear hcz15_4); (try clear hcz15_5); (try clear hcz15_6); (try clear hcz15_7); (try clear hcz15_8); (try clear hcz16_0); (try clear hcz16_1); (try clear hcz16_2); (try clear hcz16_3); (try clear hcz16_4); (try clear hcz16_5); (try clear hcz16_6); (try clear hcz16_7); (try clear hcz16_8); (try clear hcz18_0); (try clear hcz18_1); (try clear hcz18_2); (try clear hcz18_3); (try clear hcz18_4); (try clear hcz18_5); (try clear hcz18_6); (try clear hcz18_7); (try clear hcz18_8); (try clear hcz19_0); (try clear hcz19_1); (try clear hcz19_2); (try clear hcz19_3); (try clear hcz19_4); (try clear hcz19_5); (try clear hcz19_6); (try clear hcz19_7); (try clear hcz19_8); (try clear hcz21_0); (try clear hcz21_1); (try clear hcz21_2); (try clear hcz21_3); (try clear hcz21_4); (try clear hcz21_5); (try clear hcz21_6); (try clear hcz21_7); (try clear hcz21_8); (try clear hcz22_0); (try clear hcz22_1); (try clear hcz22_2); (try clear hcz22_3); (try clear hcz22_4); (try clear hcz22_5); (try clear hcz22_6); (try clear hcz22_7); (try clear hcz22_8); (try clear hcz24_0); (try clear hcz24_1); (try clear hcz24_2); (try clear hcz24_3); (try clear hcz24_4); (try clear hcz24_5); (try clear hcz24_6); (try clear hcz24_7); (try clear hcz24_8); (try clear hcz25_0); (try clear hcz25_1); (try clear hcz25_2); (try clear hcz25_3); (try clear hcz25_4); (try clear hcz25_5); (try clear hcz25_6); (try clear hcz25_7); (try clear hcz25_8); (try clear hcz27_0); (try clear hcz27_1); (try clear hcz27_2); (try clear hcz27_3); (try clear hcz27_4); (try clear hcz27_5); (try clear hcz27_6); (try clear hcz27_7); (try clear hcz27_8); (try clear hcz28_0); (try clear hcz28_1); (try clear hcz28_2); (try clear hcz28_3); (try clear hcz28_4); (try clear hcz28_5); (try clear hcz28_6); (try clear hcz28_7); (try clear hcz28_8); (try clear hcz30_0); (try clear hcz30_1); (try clear hcz30_2); (try clear hcz30_3); (try clear hcz30_4); (try clear hcz30_5); (try clear hcz30_6); (try clear hcz30_7); (try clear hcz30_8); (try clear hcz31_0); (try clear hcz31_1); (try clear hcz31_2); (try clear hcz31_3); (try clear hcz31_4); (try clear hcz31_5); (try clear hcz31_6); (try clear hcz31_7); (try clear hcz31_8); (try clear hcz33_0); (try clear hcz33_1); (try clear hcz33_2); (try clear hcz33_3); (try clear hcz33_4); (try clear hcz33_5); (try clear hcz33_6); (try clear hcz33_7); (try clear hcz33_8); (try clear hcz34_0); (try clear hcz34_1); (try clear hcz34_2); (try clear hcz34_3); (try clear hcz34_4); (try clear hcz34_5); (try clear hcz34_6); (try clear hcz34_7); (try clear hcz34_8); (try clear hcz36_0); (try clear hcz36_1); (try clear hcz36_2); (try clear hcz36_3); (try clear hcz36_4); (try clear hcz36_5); (try clear hcz36_6); (try clear hcz36_7); (try clear hcz36_8); (try clear hcz37_0); (try clear hcz37_1); (try clear hcz37_2); (try clear hcz37_3); (try clear hcz37_4); (try clear hcz37_5); (try clear hcz37_6); (try clear hcz37_7); (try clear hcz37_8); (try clear hcz39_0); (try clear hcz39_1); (try clear hcz39_2); (try clear hcz39_3); (try clear hcz39_4); (try clear hcz39_5); (try clear hcz39_6); (try clear hcz39_7); (try clear hcz39_8); (try clear hcz40_0); (try clear hcz40_1); (try clear hcz40_2); (try clear hcz40_3); (try clear hcz40_4); (try clear hcz40_5); (try clear hcz40_6); (try clear hcz40_7); (try clear hcz40_8); (try clear hfz15_0); (try clear hfz15_1); (try clear hfz15_2); (try clear hfz15_3); (try clear hfz15_4); (try clear hfz15_5); (try clear hfz15_6); (try clear hfz15_7); (try clear hfz15_8); (try clear hfz16_0); (try clear hfz16_1); (try clear hfz16_2); (try clear hfz16_3); (try clear hfz16_4); (try clear hfz16_5); (try clear hfz16_6); (try clear hfz16_7); (try clear hfz16_8); (try clear hfz18_0); (try clear hfz18_1); (try clear hfz18_2); (try clear hfz18_3); (try clear hfz18_4); (try clear hfz18_5); (try clear hfz18_6); (try clear hfz18_7); (try clear hfz18_8); (try clear hfz19_0); (try clear hfz19_1); (try clear hfz19_2); (try clear hfz19_3); (try clear hfz19_4); (try clear hfz19_5); (try clear hfz19_6); (try clear hfz19_7); (try clear hfz19_8); (try clear hfz21_0); (try clear hfz21_1); (try clear hfz21_2); (try clear hfz21_3); (try clear hfz21_4); (try clear hfz21_5); (try clear hfz21_6); (try clear hfz21_7); (try clear hfz21_8); (try clear hfz22_0); (try clear hfz22_1); (try clear hfz22_2); (try clear hfz22_3); (try clear hfz22_4); (try clear hfz22_5); (try clear hfz22_6); (try clear hfz22_7); (try clear hfz22_8); (try clear hfz24_0); (try clear hfz24_1); (try clear hfz24_2); (try clear hfz24_3); (try clear hfz24_4); (try clear hfz24_5); (try clear hfz24_6); (try clear hfz24_7); (try clear hfz24_8); (try clear hfz25_0); (try clear hfz25_1); (try clear hfz25_2); (try clear hfz25_3); (try clear hfz25_4); (try clear hfz25_5); (try clear hfz25_6); (try clear hfz25_7); (try clear hfz25_8); (try clear hfz27_0); (try clear hfz27_1); (try clear hfz27_2); (try clear hfz27_3); (try clear hfz27_4); (try clear hfz27_5); (try clear hfz27_6); (try clear hfz27_7); (try clear hfz27_8); (try clear hfz28_0); (try clear hfz28_1); (try clear hfz28_2); (try clear hfz28_3); (try clear hfz28_4); (try clear hfz28_5); (try clear hfz28_6); (try clear hfz28_7); (try clear hfz28_8); (try clear hfz30_0); (try clear hfz30_1); (try clear hfz30_2); (try clear hfz30_3); (try clear hfz30_4); (try clear hfz30_5); (try clear hfz30_6); (try clear hfz30_7); (try clear hfz30_8); (try clear hfz31_0); (try clear hfz31_1); (try clear hfz31_2); (try clear hfz31_3); (try clear hfz31_4); (try clear hfz31_5); (try clear hfz31_6); (try clear hfz31_7); (try clear hfz31_8); (try clear hfz33_0); (try clear hfz33_1); (try clear hfz33_2); (try clear hfz33_3); (try clear hfz33_4); (try clear hfz33_5); (try clear hfz33_6); (try clear hfz33_7); (try clear hfz33_8); (try clear hfz34_0); (try clear hfz34_1); (try clear hfz34_2); (try clear hfz34_3); (try clear hfz34_4); (try clear hfz34_5); (try clear hfz34_6); (try clear hfz34_7); (try clear hfz34_8); (try clear hfz36_0); (try clear hfz36_1); (try clear hfz36_2); (try clear hfz36_3); (try clear hfz36_4); (try clear hfz36_5); (try clear hfz36_6); (try clear hfz36_7); (try clear hfz36_8); (try clear hfz37_0); (try clear hfz37_1); (try clear hfz37_2); (try clear hfz37_3); (try clear hfz37_4); (try clear hfz37_5); (try clear hfz37_6); (try clear hfz37_7); (try clear hfz37_8); (try clear hfz39_0); (try clear hfz39_1); (try clear hfz39_2); (try clear hfz39_3); (try clear hfz39_4); (try clear hfz39_5); (try clear hfz39_6); (try clear hfz39_7); (try clear hfz39_8); (try clear hfz40_0); (try clear hfz40_1); (try clear hfz40_2); (try clear hfz40_3); (try clear hfz40_4); (try clear hfz40_5); (try clear hfz40_6); (try clear hfz40_7); (try clear hfz40_8)
  obtain ⟨kq, x84_2, rfl, HA, HJ2, BK146, BK147, HB⟩ := hcut
  cases kq with
  | zero => exact absurd HA.out (by simp [jacquardref16_same.j0])
  | succ kj2 =>
   have H := HA.out
   clear HA
   simp only [jacquardref16_same.j0] at H
   by_cases c41 : x84_2 = true
   · subst c41
     have H1 : (some false) = some r := by rw [if_pos rfl] at H; exact H
     clear H
     have H := H1
     clear H1
     obtain rfl := Option.some.inj H
     go_wp2
     repeat (go_quiet (fail); try go_wp2)
     go_ret
     exact ⟨by first | rfl | (simp [errW_none, errW_some] <;> rfl) | (simp [*, errW_none, errW_some] <;> rfl), by repeat (first | (with_reducible first | exact HB.out | apply below_alloc | apply pw_below_drewN | apply below_drew1 | refine below_set ?_ GE146.out | refine below_set ?_ GE147.out) | exact HB.out)⟩
   · replace c41 := Bool.eq_false_iff.mpr c41
     subst c41
     have H1 : (jacquardref16_same.l0 kj2 0 a0_0 a0_1 a0_2 a0_3 a0_4 a0_5 a0_6 l0_7 a0_8 a1_0 a1_1 a1_2 a1_3 a1_4 a1_5 a1_6 l1_7 a1_8) = some r := by rw [if_neg (show ¬ (false = true) by decide)] at H; exact H
     clear H
     have H := H1
     clear H1
     have H' := Aside0.mk H
     clear H; go_wp2
     repeat (go_quiet (fail); try go_wp2)
     go_loopg [5] kj2 (fun kq v5 w' => ∃ (x5_2 : Int), v5 = .int .i64 x5_2 ∧ Aside0 (jacquardref16_same.l0 kq x5_2 a0_0 a0_1 a0_2 a0_3 a0_4 a0_5 a0_6 l0_7 a0_8 a1_0 a1_1 a1_2 a1_3 a1_4 a1_5 a1_6 l1_7 a1_8 = some r) ∧ Aside0 (kq ≤ kj2) ∧ Aside0 (w'.heap[gb146]? = some (.cells #[.int .i64 a0_0, .int .i64 a0_1, .int .i64 a0_2, .int .i64 a0_3, .int .i64 a0_4, .int .i64 a0_5, .int .i32 a0_6, (.slice A0_7 l0_7.length c0_7), .int .i64 a0_8] 37 (0, 0))) ∧ Aside0 (w'.heap[gb147]? = some (.cells #[.int .i64 a1_0, .int .i64 a1_1, .int .i64 a1_2, .int .i64 a1_3, .int .i64 a1_4, .int .i64 a1_5, .int .i32 a1_6, (.slice A1_7 l1_7.length c1_7), .int .i64 a1_8] 37 (0, 0))) ∧ Aside0 (Below w.heap.size w w'))
     case atStart => exact ⟨(0), (by first | rfl | (simp; done) | (simp [*]; done)), H', ⟨Nat.le_refl _⟩, ⟨by (with_reducible repeat (first | refine blk_drewN ?_ _ | refine blk_drew ?_ | refine blk_alloc ?_ _)); exact BK146.out⟩, ⟨by (with_reducible repeat (first | refine blk_drewN ?_ _ | refine blk_drew ?_ | refine blk_alloc ?_ _)); exact BK147.out⟩, ⟨by repeat (first | (with_reducible first | exact HB.out | apply below_alloc | apply pw_below_drewN | apply below_drew1 | refine below_set ?_ GE146.out | refine below_set ?_ GE147.out) | exact HB.out)⟩⟩
     case round =>
      clear H'
      (try clear c1); (try clear c2); (try clear p2); (try clear c3); (try clear c4); (try clear c6); (try clear c6b0); (try clear c6b1); (try clear c7); (try clear c7b0); (try clear c7b1); (try clear c8); (try clear c8b0); (try clear c8b1); (try clear c9); (try clear c9b0); (try clear c9b1); (try clear c10); (try clear c10b0); (try clear c10b1); (try clear c11); (try clear c11b0); (try clear c11b1); (try clear c12); (try clear c12b0); (try clear c12b1); (try clear c13); (try clear c13b0); (try clear c13b1); (try clear c14); (try clear c17); (try clear c20); (try clear c23); (try clear c26); (try clear c29); (try clear c32); (try clear c35); (try clear c38); (try clear c39); (try clear c41); (try clear hcz15_0); (try clear hcz15_1); (try clear hcz15_2); (try clear hcz15_3); (try clear hcz15_4); (try clear hcz15_5); (try clear hcz15_6); (try clear hcz15_7); (try clear hcz15_8); (try clear hcz16_0); (try clear hcz16_1); (try clear hcz16_2); (try clear hcz16_3); (try clear hcz16_4); (try clear hcz16_5); (try clear hcz16_6); (try clear hcz16_7); (try clear hcz16_8); (try clear hcz18_0); (try clear hcz18_1); (try clear hcz18_2); (try clear hcz18_3); (try clear hcz18_4); (try clear hcz18_5); (try clear hcz18_6); (try clear hcz18_7); (try clear hcz18_8); (try clear hcz19_0); (try clear hcz19_1); (try clear hcz19_2); (try clear hcz19_3); (try clear hcz19_4); (try clear hcz19_5); (try clear hcz19_6); (try clear hcz19_7); (try clear hcz19_8); (try clear hcz21_0); (try clear hcz21_1); (try clear hcz21_2); (try clear hcz21_3); (try clear hcz21_4); (try clear hcz21_5); (try clear hcz21_6); (try clear hcz21_7); (try clear hcz21_8); (try clear hcz22_0); (try clear hcz22_1); (try clear hcz22_2); (try clear hcz22_3); (try clear hcz22_4); (try clear hcz22_5); (try clear hcz22_6); (try clear hcz22_7); (try clear hcz22_8); (try clear hcz24_0); (try clear hcz24_1); (try clear hcz24_2); (try clear hcz24_3); (try clear hcz24_4); (try clear hcz24_5); (try clear hcz24_6); (try clear hcz24_7); (try clear hcz24_8); (try clear hcz25_0); (try clear hcz25_1); (try clear hcz25_2); (try clear hcz25_3); (try clear hcz25_4); (try clear hcz25_5); (try clear hcz25_6); (try clear hcz25_7); (try clear hcz25_8); (try clear hcz27_0); (try clear hcz27_1); (try clear hcz27_2); (try clear hcz27_3); (try clear hcz27_4); (try clear hcz27_5); (try clear hcz27_6); (try clear hcz27_7); (try clear hcz27_8); (try clear hcz28_0); (try clear hcz28_1); (try clear hcz28_2); (try clear hcz28_3); (try clear hcz28_4); (try clear hcz28_5); (try clear hcz28_6); (try clear hcz28_7); (try clear hcz28_8); (try clear hcz30_0); (try clear hcz30_1); (try clear hcz30_2); (try clear hcz30_3); (try clear hcz30_4); (try clear hcz30_5); (try clear hcz30_6); (try clear hcz30_7); (try clear hcz30_8); (try clear hcz31_0); (try clear hcz31_1); (try clear hcz31_2); (try clear hcz31_3); (try clear hcz31_4); (try clear hcz31_5); (try clear hcz31_6); (try clear hcz31_7); (try clear hcz31_8); (try clear hcz33_0); (try clear hcz33_1); (try clear hcz33_2); (try clear hcz33_3); (try clear hcz33_4); (try clear hcz33_5); (try clear hcz33_6); (try clear hcz33_7); (try clear hcz33_8); (try clear hcz34_0); (try clear hcz34_1); (try clear hcz34_2); (try clear hcz34_3); (try clear hcz34_4); (try clear hcz34_5); (try clear hcz34_6); (try clear hcz34_7); (try clear hcz34_8); (try clear hcz36_0); (try clear hcz36_1); (try clear hcz36_2); (try clear hcz36_3); (try clear hcz36_4); (try clear hcz36_5); (try clear hcz36_6); (try clear hcz36_7); (try clear hcz36_8); (try clear hcz37_0); (try clear hcz37_1); (try clear hcz37_2); (try clear hcz37_3); (try clear hcz37_4); (try clear hcz37_5); (try clear hcz37_6); (try clear hcz37_7); (try clear hcz37_8); (try clear hcz39_0); (try clear hcz39_1); (try clear hcz39_2); (try clear hcz39_3); (try clear hcz39_4); (try clear hcz39_5); (try clear hcz39_6); (try clear hcz39_7); (try clear hcz39_8); (try clear hcz40_0); (try clear hcz40_1); (try clear hcz40_2); (try clear hcz40_3); (try clear hcz40_4); (try clear hcz40_5); (try clear hcz40_6); (try clear hcz40_7); (try clear hcz40_8); (try clear hfz15_0); (try clear hfz15_1); (try clear hfz15_2); (try clear hfz15_3); (try clear hfz15_4); (try clear hfz15_5); (try clear hfz15_6); (try clear hfz15_7); (try clear hfz15_8); (try clear hfz16_0); (try clear hfz16_1); (try clear hfz16_2); (try clear hfz16_3); (try clear hfz16_4); (try clear hfz16_5); (try clear hfz16_6); (try clear hfz16_7); (try clear hfz16_8); (try clear hfz18_0); (try clear hfz18_1); (try clear hfz18_2); (try clear hfz18_3); (try clear hfz18_4); (try clear hfz18_5); (try clear hfz18_6); (try clear hfz18_7); (try clear hfz18_8); (try clear hfz19_0); (try clear hfz19_1); (try clear hfz19_2); (try clear hfz19_3); (try clear hfz19_4); (try clear hfz19_5); (try clear hfz19_6); (try clear hfz19_7); (try clear hfz19_8); (try clear hfz21_0); (try clear hfz21_1); (try clear hfz21_2); (try clear hfz21_3); (try clear hfz21_4); (try clear hfz21_5); (try clear hfz21_6); (try clear hfz21_7); (try clear hfz21_8); (try clear hfz22_0); (try clear hfz22_1); (try clear hfz22_2); (try clear hfz22_3); (try clear hfz22_4); (try clear hfz22_5); (try clear hfz22_6); (try clear hfz22_7); (try clear hfz22_8); (try clear hfz24_0); (try clear hfz24_1); (try clear hfz24_2); (try clear hfz24_3); (try clear hfz24_4); (try clear hfz24_5); (try clear hfz24_6); (try clear hfz24_7); (try clear hfz24_8); (try clear hfz25_0); (try clear hfz25_1); (try clear hfz25_2); (try clear hfz25_3); (try clear hfz25_4); (try clear hfz25_5); (try clear hfz25_6); (try clear hfz25_7); (try clear hfz25_8); (try clear hfz27_0); (try clear hfz27_1); (try clear hfz27_2); (try clear hfz27_3); (try clear hfz27_4); (try clear hfz27_5); (try clear hfz27_6); (try clear hfz27_7); (try clear hfz27_8); (try clear hfz28_0); (try clear hfz28_1); (try clear hfz28_2); (try clear hfz28_3); (try clear hfz28_4); (try clear hfz28_5); (try clear hfz28_6); (try clear hfz28_7); (try clear hfz28_8); (try clear hfz30_0); (try clear hfz30_1); (try clear hfz30_2); (try clear hfz30_3); (try clear hfz30_4); (try clear hfz30_5); (try clear hfz30_6); (try clear hfz30_7); (try clear hfz30_8); (try clear hfz31_0); (try clear hfz31_1); (try clear hfz31_2); (try clear hfz31_3); (try clear hfz31_4); (try clear hfz31_5); (try clear hfz31_6); (try clear hfz31_7); (try clear hfz31_8); (try clear hfz33_0); (try clear hfz33_1); (try clear hfz33_2); (try clear hfz33_3); (try clear hfz33_4); (try clear hfz33_5); (try clear hfz33_6); (try clear hfz33_7); (try clear hfz33_8); (try clear hfz34_0); (try clear hfz34_1); (try clear hfz34_2); (try clear hfz34_3); (try clear hfz34_4); (try clear hfz34_5); (try clear hfz34_6); (try clear hfz34_7); (try clear hfz34_8); (try clear hfz36_0); (try clear hfz36_1); (try clear hfz36_2); (try clear hfz36_3); (try clear hfz36_4); (try clear hfz36_5); (try clear hfz36_6); (try clear hfz36_7); (try clear hfz36_8); (try clear hfz37_0); (try clear hfz37_1); (try clear hfz37_2); (try clear hfz37_3); (try clear hfz37_4); (try clear hfz37_5); (try clear hfz37_6); (try clear hfz37_7); (try clear hfz37_8); (try clear hfz39_0); (try clear hfz39_1); (try clear hfz39_2); (try clear hfz39_3); (try clear hfz39_4); (try clear hfz39_5); (try clear hfz39_6); (try clear hfz39_7); (try clear hfz39_8); (try clear hfz40_0); (try clear hfz40_1); (try clear hfz40_2); (try clear hfz40_3); (try clear hfz40_4); (try clear hfz40_5); (try clear hfz40_6); (try clear hfz40_7); (try clear hfz40_8); (try clear p2)
      obtain ⟨x5_2, rfl, HA, HK2, BK146, BK147, HB⟩ := hrel
      cases gk with
      | zero => exact absurd HA.out (by simp [jacquardref16_same.l0])
      | succ k2 =>
       have H := HA.out
       clear HA
       simp only [jacquardref16_same.l0] at H
       by_cases c42 : x5_2 < (l0_7.length : Int)
       · rw [if_pos c42] at H
         have c42b0 : decide (x5_2 < (l0_7.length : Int)) = true := decide_eq_true c42
         clear c42
         by_cases c43 : 0 ≤ x5_2
         · rw [if_pos c43] at H
           have c43b0 : decide (0 ≤ x5_2) = true := decide_eq_true c43
           clear c43
           by_cases c44 : x5_2 < (l1_7.length : Int)
           · rw [if_pos c44] at H
             have c44b0 : decide (x5_2 < (l1_7.length : Int)) = true := decide_eq_true c44
             clear c44
             by_cases c45 : (rd l0_7 x5_2) = (rd l1_7 x5_2)
             · rw [if_pos c45] at H
               have c45b0 : ((rd l0_7 x5_2) == (rd l1_7 x5_2)) = true := beq_iff_eq.mpr c45
               have c45b1 : ((rd l0_7 x5_2) != (rd l1_7 x5_2)) = false := bne_eq_false_iff_eq.mpr c45
               clear c45
               have H' := Aside0.mk H
               clear H
               have hnb46 := NB146_147.out
               have hnc46 := NB147_146.out
               have hcz47_0 : wr.cell? ⟨gb146, 0, none⟩ = some (.int .i64 a0_0) := (blk_cell BK146.out 0).trans rfl
               have hcz47_1 : wr.cell? ⟨gb146, 1, none⟩ = some (.int .i64 a0_1) := (blk_cell BK146.out 1).trans rfl
               have hcz47_2 : wr.cell? ⟨gb146, 2, none⟩ = some (.int .i64 a0_2) := (blk_cell BK146.out 2).trans rfl
               have hcz47_3 : wr.cell? ⟨gb146, 3, none⟩ = some (.int .i64 a0_3) := (blk_cell BK146.out 3).trans rfl
               have hcz47_4 : wr.cell? ⟨gb146, 4, none⟩ = some (.int .i64 a0_4) := (blk_cell BK146.out 4).trans rfl
               have hcz47_5 : wr.cell? ⟨gb146, 5, none⟩ = some (.int .i64 a0_5) := (blk_cell BK146.out 5).trans rfl
               have hcz47_6 : wr.cell? ⟨gb146, 6, none⟩ = some (.int .i32 a0_6) := (blk_cell BK146.out 6).trans rfl
               have hcz47_7 : wr.cell? ⟨gb146, 7, none⟩ = some (.slice A0_7 l0_7.length c0_7) := (blk_cell BK146.out 7).trans rfl
               have hcz47_8 : wr.cell? ⟨gb146, 8, none⟩ = some (.int .i64 a0_8) := (blk_cell BK146.out 8).trans rfl
               have hfz47_0 := blk_frozen BK146.out 0
               have hfz47_1 := blk_frozen BK146.out 1
               have hfz47_2 := blk_frozen BK146.out 2
               have hfz47_3 := blk_frozen BK146.out 3
               have hfz47_4 := blk_frozen BK146.out 4
               have hfz47_5 := blk_frozen BK146.out 5
               have hfz47_6 := blk_frozen BK146.out 6
               have hfz47_7 := blk_frozen BK146.out 7
               have hfz47_8 := blk_frozen BK146.out 8
               have p148 : 0 ≤ (x5_2 : Int) := of_decide_eq_true (by first | (with_reducible assumption) | assumption)
               have q148 : x5_2 < (l0_7.length : Int) := of_decide_eq_true (by first | (with_reducible assumption) | assumption)
               obtain ⟨ad148, e148, hx148_0⟩ := Kd.at_int HR0_7.out x5_2 p148 q148
               cases e148
               replace hx148_0 := (HB.out.cell (World.block_lt_of_cell? w _ hx148_0)).trans hx148_0
               replace p148 := eq_true p148
               replace q148 := eq_true q148
               have hcz48_0 : wr.cell? ⟨gb147, 0, none⟩ = some (.int .i64 a1_0) := (blk_cell BK147.out 0).trans rfl
               have hcz48_1 : wr.cell? ⟨gb147, 1, none⟩ = some (.int .i64 a1_1) := (blk_cell BK147.out 1).trans rfl
               have hcz48_2 : wr.cell? ⟨gb147, 2, none⟩ = some (.int .i64 a1_2) := (blk_cell BK147.out 2).trans rfl
               have hcz48_3 : wr.cell? ⟨gb147, 3, none⟩ = some (.int .i64 a1_3) := (blk_cell BK147.out 3).trans rfl
               have hcz48_4 : wr.cell? ⟨gb147, 4, none⟩ = some (.int .i64 a1_4) := (blk_cell BK147.out 4).trans rfl
               have hcz48_5 : wr.cell? ⟨gb147, 5, none⟩ = some (.int .i64 a1_5) := (blk_cell BK147.out 5).trans rfl
               have hcz48_6 : wr.cell? ⟨gb147, 6, none⟩ = some (.int .i32 a1_6) := (blk_cell BK147.out 6).trans rfl
               have hcz48_7 : wr.cell? ⟨gb147, 7, none⟩ = some (.slice A1_7 l1_7.length c1_7) := (blk_cell BK147.out 7).trans rfl
               have hcz48_8 : wr.cell? ⟨gb147, 8, none⟩ = some (.int .i64 a1_8) := (blk_cell BK147.out 8).trans rfl
               have hfz48_0 := blk_frozen BK147.out 0
               have hfz48_1 := blk_frozen BK147.out 1
               have hfz48_2 := blk_frozen BK147.out 2
               have hfz48_3 := blk_frozen BK147.out 3
               have hfz48_4 := blk_frozen BK147.out 4
               have hfz48_5 := blk_frozen BK147.out 5
               have hfz48_6 := blk_frozen BK147.out 6
               have hfz48_7 := blk_frozen BK147.out 7
               have hfz48_8 := blk_frozen BK147.out 8
               have p149 : 0 ≤ (x5_2 : Int) := of_decide_eq_true (by first | (with_reducible assumption) | assumption)
               have q149 : x5_2 < (l1_7.length : Int) := of_decide_eq_true (by first | (with_reducible assumption) | assumption)
               obtain ⟨ad149, e149, hx149_0⟩ := Kd.at_int HR1_7.out x5_2 p149 q149
               cases e149
               replace hx149_0 := (HB.out.cell (World.block_lt_of_cell? w _ hx149_0)).trans hx149_0
               replace p149 := eq_true p149
               replace q149 := eq_true q149
               go_wp2
               repeat (go_quiet (fail); try go_wp2)
               go_roundg k2
               case measure => have := HJ2.out; have := HK2.out; omega
               case rel => exact ⟨(wrap64 (x5_2 + 1)), (by first | rfl | (simp; done) | (simp [*]; done)), H', ⟨by have := HJ2.out; have := HK2.out; omega⟩, ⟨by (with_reducible repeat (first | refine blk_drewN ?_ _ | refine blk_drew ?_ | refine blk_alloc ?_ _)); exact BK146.out⟩, ⟨by (with_reducible repeat (first | refine blk_drewN ?_ _ | refine blk_drew ?_ | refine blk_alloc ?_ _)); exact BK147.out⟩, ⟨by repeat (first | (with_reducible first | exact HB.out | apply below_alloc | apply pw_below_drewN | apply below_drew1 | refine below_set ?_ GE146.out | refine below_set ?_ GE147.out) | exact HB.out)⟩⟩
             · rw [if_neg c45] at H
               have c45b0 : ((rd l0_7 x5_2) == (rd l1_7 x5_2)) = false := beq_eq_false_iff_ne.mpr c45
               have c45b1 : ((rd l0_7 x5_2) != (rd l1_7 x5_2)) = true := bne_iff_ne.mpr c45
               obtain rfl := Option.some.inj H
               have hnb49 := NB146_147.out
               have hnc49 := NB147_146.out
               have hcz50_0 : wr.cell? ⟨gb146, 0, none⟩ = some (.int .i64 a0_0) := (blk_cell BK146.out 0).trans rfl
               have hcz50_1 : wr.cell? ⟨gb146, 1, none⟩ = some (.int .i64 a0_1) := (blk_cell BK146.out 1).trans rfl
               have hcz50_2 : wr.cell? ⟨gb146, 2, none⟩ = some (.int .i64 a0_2) := (blk_cell BK146.out 2).trans rfl
               have hcz50_3 : wr.cell? ⟨gb146, 3, none⟩ = some (.int .i64 a0_3) := (blk_cell BK146.out 3).trans rfl
               have hcz50_4 : wr.cell? ⟨gb146, 4, none⟩ = some (.int .i64 a0_4) := (blk_cell BK146.out 4).trans rfl
               have hcz50_5 : wr.cell? ⟨gb146, 5, none⟩ = some (.int .i64 a0_5) := (blk_cell BK146.out 5).trans rfl
               have hcz50_6 : wr.cell? ⟨gb146, 6, none⟩ = some (.int .i32 a0_6) := (blk_cell BK146.out 6).trans rfl
               have hcz50_7 : wr.cell? ⟨gb146, 7, none⟩ = some (.slice A0_7 l0_7.length c0_7) := (blk_cell BK146.out 7).trans rfl
               have hcz50_8 : wr.cell? ⟨gb146, 8, none⟩ = some (.int .i64 a0_8) := (blk_cell BK146.out 8).trans rfl
               have hfz50_0 := blk_frozen BK146.out 0
               have hfz50_1 := blk_frozen BK146.out 1
               have hfz50_2 := blk_frozen BK146.out 2
               have hfz50_3 := blk_frozen BK146.out 3
               have hfz50_4 := blk_frozen BK146.out 4
               have hfz50_5 := blk_frozen BK146.out 5
               have hfz50_6 := blk_frozen BK146.out 6
               have hfz50_7 := blk_frozen BK146.out 7
               have hfz50_8 := blk_frozen BK146.out 8
               have p148 : 0 ≤ (x5_2 : Int) := of_decide_eq_true (by first | (with_reducible assumption) | assumption)
               have q148 : x5_2 < (l0_7.length : Int) := of_decide_eq_true (by first | (with_reducible assumption) | assumption)
               obtain ⟨ad148, e148, hx148_0⟩ := Kd.at_int HR0_7.out x5_2 p148 q148
               cases e148
               replace hx148_0 := (HB.out.cell (World.block_lt_of_cell? w _ hx148_0)).trans hx148_0
               replace p148 := eq_true p148
               replace q148 := eq_true q148
               have hcz51_0 : wr.cell? ⟨gb147, 0, none⟩ = some (.int .i64 a1_0) := (blk_cell BK147.out 0).trans rfl
               have hcz51_1 : wr.cell? ⟨gb147, 1, none⟩ = some (.int .i64 a1_1) := (blk_cell BK147.out 1).trans rfl
               have hcz51_2 : wr.cell? ⟨gb147, 2, none⟩ = some (.int .i64 a1_2) := (blk_cell BK147.out 2).trans rfl
               have hcz51_3 : wr.cell? ⟨gb147, 3, none⟩ = some (.int .i64 a1_3) := (blk_cell BK147.out 3).trans rfl
               have hcz51_4 : wr.cell? ⟨gb147, 4, none⟩ = some (.int .i64 a1_4) := (blk_cell BK147.out 4).trans rfl
               have hcz51_5 : wr.cell? ⟨gb147, 5, none⟩ = some (.int .i64 a1_5) := (blk_cell BK147.out 5).trans rfl
               have hcz51_6 : wr.cell? ⟨gb147, 6, none⟩ = some (.int .i32 a1_6) := (blk_cell BK147.out 6).trans rfl
               have hcz51_7 : wr.cell? ⟨gb147, 7, none⟩ = some (.slice A1_7 l1_7.length c1_7) := (blk_cell BK147.out 7).trans rfl
               have hcz51_8 : wr.cell? ⟨gb147, 8, none⟩ = some (.int .i64 a1_8) := (blk_cell BK147.out 8).trans rfl
               have hfz51_0 := blk_frozen BK147.out 0
               have hfz51_1 := blk_frozen BK147.out 1
               have hfz51_2 := blk_frozen BK147.out 2
               have hfz51_3 := blk_frozen BK147.out 3
               have hfz51_4 := blk_frozen BK147.out 4
               have hfz51_5 := blk_frozen BK147.out 5
               have hfz51_6 := blk_frozen BK147.out 6
               have hfz51_7 := blk_frozen BK147.out 7
               have hfz51_8 := blk_frozen BK147.out 8
               have p149 : 0 ≤ (x5_2 : Int) := of_decide_eq_true (by first | (with_reducible assumption) | assumption)
               have q149 : x5_2 < (l1_7.length : Int) := of_decide_eq_true (by first | (with_reducible assumption) | assumption)
               obtain ⟨ad149, e149, hx149_0⟩ := Kd.at_int HR1_7.out x5_2 p149 q149
               cases e149
               replace hx149_0 := (HB.out.cell (World.block_lt_of_cell? w _ hx149_0)).trans hx149_0
               replace p149 := eq_true p149
               replace q149 := eq_true q149
               go_wp2
               repeat (go_quiet (fail); try go_wp2)
               go_ret
               exact ⟨by first | rfl | (simp [errW_none, errW_some] <;> rfl) | (simp [*, errW_none, errW_some] <;> rfl), by repeat (first | (with_reducible first | exact HB.out | apply below_alloc | apply pw_below_drewN | apply below_drew1 | refine below_set ?_ GE146.out | refine below_set ?_ GE147.out) | exact HB.out)⟩
           · rw [if_neg c44] at H
             exact absurd H (by simp)
         · rw [if_neg c43] at H
           exact absurd H (by simp)
       · rw [if_neg c42] at H
         have c42b0 : decide (x5_2 < (l0_7.length : Int)) = false := decide_eq_false c42
         clear c42
         obtain rfl := Option.some.inj H
         have hnb52 := NB146_147.out
         have hnc52 := NB147_146.out
         have hcz53_0 : wr.cell? ⟨gb146, 0, none⟩ = some (.int .i64 a0_0) := (blk_cell BK146.out 0).trans rfl
         have hcz53_1 : wr.cell? ⟨gb146, 1, none⟩ = some (.int .i64 a0_1) := (blk_cell BK146.out 1).trans rfl
         have hcz53_2 : wr.cell? ⟨gb146, 2, none⟩ = some (.int .i64 a0_2) := (blk_cell BK146.out 2).trans rfl
         have hcz53_3 : wr.cell? ⟨gb146, 3, none⟩ = some (.int .i64 a0_3) := (blk_cell BK146.out 3).trans rfl
         have hcz53_4 : wr.cell? ⟨gb146, 4, none⟩ = some (.int .i64 a0_4) := (blk_cell BK146.out 4).trans rfl
         have hcz53_5 : wr.cell? ⟨gb146, 5, none⟩ = some (.int .i64 a0_5) := (blk_cell BK146.out 5).trans rfl
         have hcz53_6 : wr.cell? ⟨gb146, 6, none⟩ = some (.int .i32 a0_6) := (blk_cell BK146.out 6).trans rfl
         have hcz53_7 : wr.cell? ⟨gb146, 7, none⟩ = some (.slice A0_7 l0_7.length c0_7) := (blk_cell BK146.out 7).trans rfl
         have hcz53_8 : wr.cell? ⟨gb146, 8, none⟩ = some (.int .i64 a0_8) := (blk_cell BK146.out 8).trans rfl
         have hfz53_0 := blk_frozen BK146.out 0
         have hfz53_1 := blk_frozen BK146.out 1
         have hfz53_2 := blk_frozen BK146.out 2
         have hfz53_3 := blk_frozen BK146.out 3
         have hfz53_4 := blk_frozen BK146.out 4
         have hfz53_5 := blk_frozen BK146.out 5
         have hfz53_6 := blk_frozen BK146.out 6
         have hfz53_7 := blk_frozen BK146.out 7
         have hfz53_8 := blk_frozen BK146.out 8
         go_wp2
         repeat (go_quiet (fail); try go_wp2)
         go_ret
         exact ⟨by first | rfl | (simp [errW_none, errW_some] <;> rfl) | (simp [*, errW_none, errW_some] <;> rfl), by repeat (first | (with_reducible first | exact HB.out | apply below_alloc | apply pw_below_drewN | apply below_drew1 | refine below_set ?_ GE146.out | refine below_set ?_ GE147.out) | exact HB.out)⟩
end Go.Proofs.Ytocndmielggnpaa.PAll
end
