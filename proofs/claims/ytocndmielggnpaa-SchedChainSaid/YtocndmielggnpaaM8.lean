/- What the rows of chapter 16 lean on, part 9. -/
import Derived.Test.YtocndmielggnpaaM4
import Derived.Test.YtocndmielggnpaaM7
import Derived.Test.YtocndmielggnpaaM5
import Derived.Test.YtocndmielggnpaaM6
set_option linter.unusedSimpArgs false
set_option linter.unusedVariables false
section
namespace Go.Proofs.Ytocndmielggnpaa.PAll
open Go.RowKit Go.Proofs.YtocndmielggnpaaW.PrintWords Go.Proofs.YtocndmielggnpaaW.PrintLast Go.Proofs.YtocndmielggnpaaW.PrintMore
attribute [local go_sem] max2_int min2_int max_two min_two max_three min_three max_four min_four   -- for this text's walks alone
mutual
def jacquardref16_issue.j0 : Nat → List (S37) → List Int → List Int → Int → Int → Int → Int → Int → Option (Int)
 | 0, _, _, _, _, _, _, _, _ => none
 | k + 1, x0, x1, x2, x9, x119000, x119001, x119002, x119003 => jacquardref16_issue.l0 k x0 x1 x2 x9 0 x119000 x119001 x119002 x119003
def jacquardref16_issue.l0 : Nat → List (S37) → List Int → List Int → Int → Int → Int → Int → Int → Int → Option (Int)
 | 0, _, _, _, _, _, _, _, _, _ => none
 | k + 1, x0, x1, x2, x9, x10, x119000, x119001, x119002, x119003 => if x10 < (x2.length : Int) then (jacquardref16_issue.l1 k x0 x1 x2 x9 x10 (wrap64 ((x1.length : Int) - 1)) x119000 x119001 x119002 x119003) else (some x9)
def jacquardref16_issue.l1 : Nat → List (S37) → List Int → List Int → Int → Int → Int → Int → Int → Int → Int → Option (Int)
 | 0, _, _, _, _, _, _, _, _, _, _ => none
 | k + 1, x0, x1, x2, x9, x10, x11, x119000, x119001, x119002, x119003 => if x11 ≥ 0 then (if 0 ≤ x11 then (if x11 < (x0.length : Int) then ((jacquardref16_changes.f ((rd_T37 x0 x11).f0.f0) ((rd_T37 x0 x11).f0.f1) ((rd_T37 x0 x11).f0.f2) ((rd_T37 x0 x11).f0.f3) ((rd_T37 x0 x11).f0.f4) ((rd_T37 x0 x11).f0.f5) ((rd_T37 x0 x11).f0.f6) ((rd_T37 x0 x11).f0.f7)).bind fun t121 => (if 0 ≤ x10 then (if x10 < (x2.length : Int) then ((jacquardref16_has.f k t121 (rd x2 x10)).bind fun t125 => (if t125 = true then (if x11 < (x1.length : Int) then ((jacquardref16_Late.f ((rd_T37 x0 x11).f0.f0) ((rd_T37 x0 x11).f0.f1) ((rd_T37 x0 x11).f0.f2) ((rd_T37 x0 x11).f0.f3) ((rd_T37 x0 x11).f0.f4) ((rd_T37 x0 x11).f0.f5) ((rd_T37 x0 x11).f0.f6) ((rd_T37 x0 x11).f0.f7) x119000 x119001 x119002 x119003).bind fun t128 => (jacquardref16_issue.l0 k x0 x1 x2 (mx x9 (wrap64 ((rd x1 x11) + t128))) (wrap64 (x10 + 1)) x119000 x119001 x119002 x119003)) else (none)) else (jacquardref16_issue.l1 k x0 x1 x2 x9 x10 (wrap64 (x11 - 1)) x119000 x119001 x119002 x119003))) else (none)) else (none))) else (none)) else (none)) else (jacquardref16_issue.l0 k x0 x1 x2 x9 (wrap64 (x10 + 1)) x119000 x119001 x119002 x119003)
end
def jacquardref16_issue.f (k : Nat) (l0 : List (S37)) (l1 : List Int) (l2 : List Int) (a3_0 : Int) (a3_1 : Int) (a3_2 : Int) (a3_3 : Int) : Option (Int) := if (l1.length : Int) > 0 then (if 0 ≤ (wrap64 ((l1.length : Int) - 1)) then (if (wrap64 ((l1.length : Int) - 1)) < (l1.length : Int) then (jacquardref16_issue.j0 k l0 l1 l2 (wrap64 ((rd l1 (wrap64 ((l1.length : Int) - 1))) + 1)) a3_0 a3_1 a3_2 a3_3) else (none)) else (none)) else (jacquardref16_issue.j0 k l0 l1 l2 0 a3_0 a3_1 a3_2 a3_3)
theorem jacquardref16_issue.mono_l : ∀ k, (∀ y0 y1 y2 y3 y4 y5 y6 y7, LeO (jacquardref16_issue.j0 k y0 y1 y2 y3 y4 y5 y6 y7) (jacquardref16_issue.j0 (k + 1) y0 y1 y2 y3 y4 y5 y6 y7)) ∧ (∀ y0 y1 y2 y3 y4 y5 y6 y7 y8, LeO (jacquardref16_issue.l0 k y0 y1 y2 y3 y4 y5 y6 y7 y8) (jacquardref16_issue.l0 (k + 1) y0 y1 y2 y3 y4 y5 y6 y7 y8)) ∧ (∀ y0 y1 y2 y3 y4 y5 y6 y7 y8 y9, LeO (jacquardref16_issue.l1 k y0 y1 y2 y3 y4 y5 y6 y7 y8 y9) (jacquardref16_issue.l1 (k + 1) y0 y1 y2 y3 y4 y5 y6 y7 y8 y9))
 | 0 => ⟨fun _ _ _ _ _ _ _ _ r h => by simp [jacquardref16_issue.j0] at h, fun _ _ _ _ _ _ _ _ _ r h => by simp [jacquardref16_issue.l0] at h, fun _ _ _ _ _ _ _ _ _ _ r h => by simp [jacquardref16_issue.l1] at h⟩
 | k + 1 => by
  obtain ⟨ih0, ih1, ih2⟩ := jacquardref16_issue.mono_l k
  refine ⟨?_, ?_, ?_⟩
  · intro y0 y1 y2 y3 y4 y5 y6 y7
    unfold jacquardref16_issue.j0
    repeat' first
    | (with_reducible exact ih0 _ _ _ _ _ _ _ _)
    | (with_reducible exact ih1 _ _ _ _ _ _ _ _ _)
    | (with_reducible exact ih2 _ _ _ _ _ _ _ _ _ _)
    | (with_reducible exact jacquardref16_has.mono _ _ _)
    | (with_reducible exact LeO.refl _)
    | (with_reducible exact LeO.none _)
    | (with_reducible refine LeO.ite ?_ ?_)
    | (with_reducible refine LeO.bind ?_ (fun _ => ?_))
    | exact ih0 _ _ _ _ _ _ _ _
    | exact ih1 _ _ _ _ _ _ _ _ _
    | exact ih2 _ _ _ _ _ _ _ _ _ _
    | exact jacquardref16_has.mono _ _ _
    | exact LeO.none _
    | refine LeO.ite ?_ ?_
    | refine LeO.bind ?_ (fun _ => ?_)
  · intro y0 y1 y2 y3 y4 y5 y6 y7 y8
    unfold jacquardref16_issue.l0
    repeat' first
    | (with_reducible exact ih0 _ _ _ _ _ _ _ _)
    | (with_reducible exact ih1 _ _ _ _ _ _ _ _ _)
    | (with_reducible exact ih2 _ _ _ _ _ _ _ _ _ _)
    | (with_reducible exact jacquardref16_has.mono _ _ _)
    | (with_reducible exact LeO.refl _)
    | (with_reducible exact LeO.none _)
    | (with_reducible refine LeO.ite ?_ ?_)
    | (with_reducible refine LeO.bind ?_ (fun _ => ?_))
    | exact ih0 _ _ _ _ _ _ _ _
    | exact ih1 _ _ _ _ _ _ _ _ _
    | exact ih2 _ _ _ _ _ _ _ _ _ _
    | exact jacquardref16_has.mono _ _ _
    | exact LeO.none _
    | refine LeO.ite ?_ ?_
    | refine LeO.bind ?_ (fun _ => ?_)
  · intro y0 y1 y2 y3 y4 y5 y6 y7 y8 y9
    unfold jacquardref16_issue.l1
    repeat' first
    | (with_reducible exact ih0 _ _ _ _ _ _ _ _)
    | (with_reducible exact ih1 _ _ _ _ _ _ _ _ _)
    | (with_reducible exact ih2 _ _ _ _ _ _ _ _ _ _)
    | (with_reducible exact jacquardref16_has.mono _ _ _)
    | (with_reducible exact LeO.refl _)
    | (with_reducible exact LeO.none _)
    | (with_reducible refine LeO.ite ?_ ?_)
    | (with_reducible refine LeO.bind ?_ (fun _ => ?_))
    | exact ih0 _ _ _ _ _ _ _ _
    | exact ih1 _ _ _ _ _ _ _ _ _
    | exact ih2 _ _ _ _ _ _ _ _ _ _
    | exact jacquardref16_has.mono _ _ _
    | exact LeO.none _
    | refine LeO.ite ?_ ?_
    | refine LeO.bind ?_ (fun _ => ?_)
theorem jacquardref16_issue.mono : ∀ a0 a1 a2 a3 a4 a5 a6 k, LeO (jacquardref16_issue.f k a0 a1 a2 a3 a4 a5 a6) (jacquardref16_issue.f (k + 1) a0 a1 a2 a3 a4 a5 a6) := by
 intro a0 a1 a2 a3 a4 a5 a6 k
 obtain ⟨ih0, ih1, ih2⟩ := jacquardref16_issue.mono_l k
 unfold jacquardref16_issue.f
 repeat' first
     | (with_reducible exact ih0 _ _ _ _ _ _ _ _)
     | (with_reducible exact ih1 _ _ _ _ _ _ _ _ _)
     | (with_reducible exact ih2 _ _ _ _ _ _ _ _ _ _)
     | (with_reducible exact jacquardref16_has.mono _ _ _)
     | (with_reducible exact LeO.refl _)
     | (with_reducible exact LeO.none _)
     | (with_reducible refine LeO.ite ?_ ?_)
     | (with_reducible refine LeO.bind ?_ (fun _ => ?_))
     | exact ih0 _ _ _ _ _ _ _ _
     | exact ih1 _ _ _ _ _ _ _ _ _
     | exact ih2 _ _ _ _ _ _ _ _ _ _
     | exact jacquardref16_has.mono _ _ _
     | exact LeO.none _
     | refine LeO.ite ?_ ?_
     | refine LeO.bind ?_ (fun _ => ?_)
def jacquardref16_issue.T10 : Bool × List (List Nat × List Nat) := (true, [([], []), ([], []), ([0, 1], [0, 1]), ([2], [2]), ([3], [3]), ([4], [4]), ([], []), ([], []), ([6, 7], [6, 7]), ([8], [8]), ([5, 9, 5], [5, 9])])
def jacquardref16_issue.B10 : List Nat := [0, 0, 3, 7, 15, 31, 0, 0, 192, 448, 1023]
theorem jacquardref16_issue.tab10 : rtab .any (opsOf Try.f26 10) = jacquardref16_issue.T10 := by kernel_rfl
theorem jacquardref16_issue.bits10 : waitsOk jacquardref16_issue.T10.2 jacquardref16_issue.B10 = true := by kernel_rfl
def jacquardref16_issue.T11 : Bool × List (List Nat × List Nat) := (true, [([], []), ([], []), ([], []), ([1, 2], [1, 2]), ([3], [3]), ([], []), ([], []), ([5, 6], [5, 6]), ([7], [7]), ([8], [8]), ([], []), ([9, 10], [9, 10]), ([4, 11], [4, 11]), ([0, 12], [0, 12]), ([13, 11, 0, 1, 2, 3, 4, 5, 6, 7, 8, 9, 10, 11, 12, 13], [0, 13])])
def jacquardref16_issue.B11 : List Nat := [0, 0, 0, 6, 14, 0, 0, 96, 224, 480, 0, 2016, 4094, 8191, 16383]
theorem jacquardref16_issue.tab11 : rtab .any (opsOf Try.f26 11) = jacquardref16_issue.T11 := by kernel_rfl
theorem jacquardref16_issue.bits11 : waitsOk jacquardref16_issue.T11.2 jacquardref16_issue.B11 = true := by kernel_rfl
set_option maxHeartbeats 8000000 in
set_option maxRecDepth 100000 in
theorem jacquardref16_issue.calls (k : Nat) (A0 : Option Addr) (c0 : Nat) (l0 : List (S37)) (A1 : Option Addr) (c1 : Nat) (l1 : List Int) (A2 : Option Addr) (c2 : Nat) (l2 : List Int) (a3_0 : Int) (a3_1 : Int) (a3_2 : Int) (a3_3 : Int) (r : Int) (w : World) (hr0 : Kd.C k37 w A0 l0.length l0) (hc0 : l0.length ≤ c0) (hr1 : Kd.C (Kd.int .i64) w A1 l1.length l1) (hc1 : l1.length ≤ c1) (hr2 : Kd.C (Kd.int .i64) w A2 l2.length l2) (hc2 : l2.length ≤ c2) (h : jacquardref16_issue.f k l0 l1 l2 a3_0 a3_1 a3_2 a3_3 = some r) :
    Calls Try.prog 26 #[.slice A0 l0.length c0, .slice A1 l1.length c1, .slice A2 l2.length c2, .agg #[.int .i64 a3_0, .int .i64 a3_1, .int .i64 a3_2, .int .i64 a3_3]] w fun e w' => e = .returned (.int .i64 r) ∧ Below w.heap.size w w' := by
 have hu27 := Try.underlying27
 have hu35 := Try.underlying35
 have HR0 := Aside0.mk hr0
 have HC0 := Aside0.mk hc0
 clear hr0 hc0
 have HR1 := Aside0.mk hr1
 have HC1 := Aside0.mk hc1
 clear hr1 hc1
 have HR2 := Aside0.mk hr2
 have HC2 := Aside0.mk hc2
 clear hr2 hc2
 have HB := Aside0.mk (Below.refl w.heap.size w)
 have H : (if (l1.length : Int) > 0 then (if 0 ≤ (wrap64 ((l1.length : Int) - 1)) then (if (wrap64 ((l1.length : Int) - 1)) < (l1.length : Int) then (jacquardref16_issue.j0 k l0 l1 l2 (wrap64 ((rd l1 (wrap64 ((l1.length : Int) - 1))) + 1)) a3_0 a3_1 a3_2 a3_3) else (none)) else (none)) else (jacquardref16_issue.j0 k l0 l1 l2 0 a3_0 a3_1 a3_2 a3_3)) = some r := h
 clear h
 have HC5 := Aside0.mk H
 clear H
 go_enter Try.func26, Try.ntmps26
 go_upto_if 14 with (first | ((with_reducible refine gate_dst (N := 7) rfl ?_); refine box_event ?hg (N := 7) ?hd (cs := #[.int .i64 a3_0, .int .i64 a3_1, .int .i64 a3_2, .int .i64 a3_3]) (t := 27) ?hr ?_; (case hd => rfl); (case hg => rfl); (case hr => first | (go_simp; done) | (go_simp; rfl)); intro gb118 hg w6 hbox hb; have n0_ := Aside0.mk (below_step (by repeat (first | (with_reducible first | exact HB.out | apply below_alloc | apply pw_below_drewN | apply below_drew1) | exact HB.out)) hb); have n1_ := Aside0.mk (hbox); have n2_ := Aside0.mk ((by rw [hg]; exact (below_size (by repeat (first | (with_reducible first | exact HB.out | apply below_alloc | apply pw_below_drewN | apply below_drew1) | exact HB.out))) : w.heap.size ≤ gb118)); have n3_ := Aside0.mk ((by rw [hg]; exact (below_size (by repeat (first | (with_reducible first | exact HB.out | apply below_alloc | apply pw_below_drewN | apply below_drew1) | exact HB.out))) : w.heap.size ≤ gb118)); clear HB; have HB := n0_; have BK118 := n1_; have GW118 := n2_; have GE118 := n3_; clear n0_ n1_ n2_ n3_; clear hb hbox hg))
 (try simp only [np])
 go_cut [9] (fun v9 wc => ∃ (kq : Nat) (x9_4 : Int), v9 = .int .i64 x9_4 ∧ Aside0 (jacquardref16_issue.j0 kq l0 l1 l2 x9_4 a3_0 a3_1 a3_2 a3_3 = some r) ∧ Aside0 (kq ≤ k) ∧ Aside0 (wc.heap[gb118]? = some (.cells #[.int .i64 a3_0, .int .i64 a3_1, .int .i64 a3_2, .int .i64 a3_3] 27 (0, 0))) ∧ Aside0 (Below w.heap.size w wc))
 case first =>
  have H := HC5.out
  clear HC5
  by_cases c7 : (l1.length : Int) > 0
  · rw [if_pos c7] at H
    have c7b0 : decide (0 < (l1.length : Int)) = true := decide_eq_true c7
    have c7b1 : decide (0 < l1.length) = true := decide_eq_true (by omega)
    clear c7
    (first | rw [c7b0] | (simp only [i64_w, i32_w]; rw [c7b0]) | rw [c7b1] | skip)
    obtain ⟨ji8, hji8⟩ : ∃ j_ : Int, (wrap64 ((l1.length : Int) - 1)) = j_ := ⟨_, rfl⟩
    replace H : (if 0 ≤ (ji8) then (if (ji8) < (l1.length : Int) then (jacquardref16_issue.j0 k l0 l1 l2 (wrap64 ((rd l1 (ji8)) + 1)) a3_0 a3_1 a3_2 a3_3) else (none)) else (none)) = some r := by first | (rw [hji8] at H; exact H) | (simp only [hji8] at H ⊢; exact H)
    have hji8w : (IntKind.i64.wrap ((l1.length : Int) - 1)) = ji8 := (i64_w _).trans hji8
    by_cases c9 : 0 ≤ (ji8)
    · rw [if_pos c9] at H
      have c9b0 : decide (0 ≤ (ji8)) = true := decide_eq_true c9
      clear c9
      by_cases c10 : (ji8) < (l1.length : Int)
      · rw [if_pos c10] at H
        have c10b0 : decide ((ji8) < (l1.length : Int)) = true := decide_eq_true c10
        clear c10
        have H' := Aside0.mk H
        clear H
        have p119 : 0 ≤ ((ji8) : Int) := of_decide_eq_true (by first | (with_reducible assumption) | assumption)
        have q119 : (ji8) < (l1.length : Int) := of_decide_eq_true (by first | (with_reducible assumption) | assumption)
        obtain ⟨ad119, e119, hx119_0⟩ := Kd.at_int HR1.out (ji8) p119 q119
        cases e119
        replace hx119_0 := (HB.out.cell (World.block_lt_of_cell? w _ hx119_0)).trans hx119_0
        replace p119 := eq_true p119
        replace q119 := eq_true q119
        go_wp2
        go_meet
        case rel => exact ⟨_, (wrap64 ((rd l1 (ji8)) + 1)), (by first | rfl | (simp; done) | (simp only [← hji8] <;> (first | rfl | simp)) | (simp [*]; done)), H', ⟨by first | omega | exact Nat.le_refl _⟩, ⟨by (with_reducible repeat (first | refine blk_drewN ?_ _ | refine blk_drew ?_ | refine blk_alloc ?_ _)); exact BK118.out⟩, ⟨by repeat (first | (with_reducible first | exact HB.out | apply below_alloc | apply pw_below_drewN | apply below_drew1 | refine below_set ?_ GE118.out) | exact HB.out)⟩⟩
      · rw [if_neg c10] at H
        exact absurd H (by simp)
    · rw [if_neg c9] at H
      exact absurd H (by simp)
  · rw [if_neg c7] at H
    have c7b0 : decide (0 < (l1.length : Int)) = false := decide_eq_false c7
    have c7b1 : decide (0 < l1.length) = false := decide_eq_false (by omega)
    clear c7
    (first | rw [c7b0] | (simp only [i64_w, i32_w]; rw [c7b0]) | rw [c7b1] | skip)
    have H' := Aside0.mk H
    clear H; go_wp2
    go_meet
    case rel => exact ⟨_, (0), (by first | rfl | (simp; done) | (simp [*]; done)), H', ⟨by first | omega | exact Nat.le_refl _⟩, ⟨by (with_reducible repeat (first | refine blk_drewN ?_ _ | refine blk_drew ?_ | refine blk_alloc ?_ _)); exact BK118.out⟩, ⟨by repeat (first | (with_reducible first | exact HB.out | apply below_alloc | apply pw_below_drewN | apply below_drew1 | refine below_set ?_ GE118.out) | exact HB.out)⟩⟩
 case rest =>
  clear HC5
  (try clear c1); (try clear p1); (try clear q1); (try clear hx1); (try clear c2); (try clear p2); (try clear p6); (try clear c7); (try clear c7b0); (try clear c7b1); (try clear c9); (try clear c9b0); (try clear c10); (try clear c10b0); (try clear hx119_0); (try clear p119); (try clear q119)
  obtain ⟨kq, x9_4, rfl, HA, HJ4, BK118, HB⟩ := hcut
  cases kq with
  | zero => exact absurd HA.out (by simp [jacquardref16_issue.j0])
  | succ kj4 =>
   have H := HA.out
   clear HA
   simp only [jacquardref16_issue.j0] at H
   have H' := Aside0.mk H
   clear H; go_wp2
   go_loopg [9, 10] kj4 (fun kq v9 v10 w' => ∃ (x9_2 : Int) (x10_2 : Int), v9 = .int .i64 x9_2 ∧ v10 = .int .i64 x10_2 ∧ Aside0 (jacquardref16_issue.l0 kq l0 l1 l2 x9_2 x10_2 a3_0 a3_1 a3_2 a3_3 = some r) ∧ Aside0 (kq ≤ kj4) ∧ Aside0 (w'.heap[gb118]? = some (.cells #[.int .i64 a3_0, .int .i64 a3_1, .int .i64 a3_2, .int .i64 a3_3] 27 (0, 0))) ∧ Aside0 (Below w.heap.size w w'))
   case atStart => exact ⟨(x9_4), (0), (by first | rfl | (simp; done) | (simp [*]; done)), (by first | rfl | (simp; done) | (simp [*]; done)), H', ⟨Nat.le_refl _⟩, ⟨by (with_reducible repeat (first | refine blk_drewN ?_ _ | refine blk_drew ?_ | refine blk_alloc ?_ _)); exact BK118.out⟩, ⟨by repeat (first | (with_reducible first | exact HB.out | apply below_alloc | apply pw_below_drewN | apply below_drew1 | refine below_set ?_ GE118.out) | exact HB.out)⟩⟩
   case round =>
    clear H'
    (try clear c1); (try clear p1); (try clear q1); (try clear hx1); (try clear c2); (try clear p2); (try clear p6); (try clear c7); (try clear c7b0); (try clear c7b1); (try clear c9); (try clear c9b0); (try clear c10); (try clear c10b0); (try clear hx119_0); (try clear p1); (try clear p119); (try clear p2); (try clear p6); (try clear q1); (try clear q119)
    obtain ⟨x9_2, x10_2, rfl, rfl, HA, HK2, BK118, HB⟩ := hrel
    cases gk with
    | zero => exact absurd HA.out (by simp [jacquardref16_issue.l0])
    | succ k2 =>
     have H := HA.out
     clear HA
     simp only [jacquardref16_issue.l0] at H
     by_cases c11 : x10_2 < (l2.length : Int)
     · rw [if_pos c11] at H
       have c11b0 : decide (x10_2 < (l2.length : Int)) = true := decide_eq_true c11
       clear c11
       have H' := Aside0.mk H
       clear H; go_wp2
       go_loopg [9, 11] k2 (fun kq v9 v11 w' => ∃ (x9_3 : Int) (x11_3 : Int), v9 = .int .i64 x9_3 ∧ v11 = .int .i64 x11_3 ∧ Aside0 (jacquardref16_issue.l1 kq l0 l1 l2 x9_3 x10_2 x11_3 a3_0 a3_1 a3_2 a3_3 = some r) ∧ Aside0 (kq ≤ k2) ∧ Aside0 (w'.heap[gb118]? = some (.cells #[.int .i64 a3_0, .int .i64 a3_1, .int .i64 a3_2, .int .i64 a3_3] 27 (0, 0))) ∧ Aside0 (Below w.heap.size w w'))
       case atStart => exact ⟨(x9_2), (wrap64 ((l1.length : Int) - 1)), (by first | rfl | (simp; done) | (simp [*]; done)), (by first | rfl | (simp; done) | (simp [*]; done)), H', ⟨Nat.le_refl _⟩, ⟨by (with_reducible repeat (first | refine blk_drewN ?_ _ | refine blk_drew ?_ | refine blk_alloc ?_ _)); exact BK118.out⟩, ⟨by repeat (first | (with_reducible first | exact HB.out | apply below_alloc | apply pw_below_drewN | apply below_drew1 | refine below_set ?_ GE118.out) | exact HB.out)⟩⟩
       case round =>
        clear H'
        (try clear c1); (try clear p1); (try clear q1); (try clear hx1); (try clear c2); (try clear p2); (try clear p6); (try clear c7); (try clear c7b0); (try clear c7b1); (try clear c9); (try clear c9b0); (try clear c10); (try clear c10b0); (try clear c11); (try clear c11b0); (try clear p11); (try clear q11); (try clear hx11); (try clear hx119_0); (try clear p1); (try clear p119); (try clear p2); (try clear p6); (try clear q1); (try clear q119)
        obtain ⟨x9_3, x11_3, rfl, rfl, HA, HK3, BK118, HB⟩ := hrel
        cases gk with
        | zero => exact absurd HA.out (by simp [jacquardref16_issue.l1])
        | succ k3 =>
         have H := HA.out
         clear HA
         simp only [jacquardref16_issue.l1] at H
         by_cases c12 : x11_3 ≥ 0
         · rw [if_pos c12] at H
           have c12b0 : decide (0 ≤ x11_3) = true := decide_eq_true c12
           clear c12
           by_cases c13 : 0 ≤ x11_3
           · rw [if_pos c13] at H
             have c13b0 : decide (0 ≤ x11_3) = true := decide_eq_true c13
             clear c13
             by_cases c14 : x11_3 < (l0.length : Int)
             · rw [if_pos c14] at H
               have c14b0 : decide (x11_3 < (l0.length : Int)) = true := decide_eq_true c14
               clear c14
               replace H := Option.bind_eq_some_iff.mp H
               obtain ⟨t121, A150, H⟩ := H
               replace H : (if 0 ≤ x10_2 then (if x10_2 < (l2.length : Int) then ((jacquardref16_has.f k3 t121 (rd l2 x10_2)).bind fun t125 => (if t125 = true then (if x11_3 < (l1.length : Int) then ((jacquardref16_Late.f ((rd_T37 l0 x11_3).f0.f0) ((rd_T37 l0 x11_3).f0.f1) ((rd_T37 l0 x11_3).f0.f2) ((rd_T37 l0 x11_3).f0.f3) ((rd_T37 l0 x11_3).f0.f4) ((rd_T37 l0 x11_3).f0.f5) ((rd_T37 l0 x11_3).f0.f6) ((rd_T37 l0 x11_3).f0.f7) a3_0 a3_1 a3_2 a3_3).bind fun t128 => (jacquardref16_issue.l0 k3 l0 l1 l2 (mx x9_3 (wrap64 ((rd l1 x11_3) + t128))) (wrap64 (x10_2 + 1)) a3_0 a3_1 a3_2 a3_3)) else (none)) else (jacquardref16_issue.l1 k3 l0 l1 l2 x9_3 x10_2 (wrap64 (x11_3 - 1)) a3_0 a3_1 a3_2 a3_3))) else (none)) else (none)) = some r := H
               have A15 := Aside0.mk A150
               clear A150
               by_cases c16 : 0 ≤ x10_2
               · rw [if_pos c16] at H
                 have c16b0 : decide (0 ≤ x10_2) = true := decide_eq_true c16
                 clear c16
                 by_cases c17 : x10_2 < (l2.length : Int)
                 · rw [if_pos c17] at H
                   have c17b0 : decide (x10_2 < (l2.length : Int)) = true := decide_eq_true c17
                   clear c17
                   replace H := Option.bind_eq_some_iff.mp H
                   obtain ⟨t125, A180, H⟩ := H
                   replace H : (if t125 = true then (if x11_3 < (l1.length : Int) then ((jacquardref16_Late.f ((rd_T37 l0 x11_3).f0.f0) ((rd_T37 l0 x11_3).f0.f1) ((rd_T37 l0 x11_3).f0.f2) ((rd_T37 l0 x11_3).f0.f3) ((rd_T37 l0 x11_3).f0.f4) ((rd_T37 l0 x11_3).f0.f5) ((rd_T37 l0 x11_3).f0.f6) ((rd_T37 l0 x11_3).f0.f7) a3_0 a3_1 a3_2 a3_3).bind fun t128 => (jacquardref16_issue.l0 k3 l0 l1 l2 (mx x9_3 (wrap64 ((rd l1 x11_3) + t128))) (wrap64 (x10_2 + 1)) a3_0 a3_1 a3_2 a3_3)) else (none)) else (jacquardref16_issue.l1 k3 l0 l1 l2 x9_3 x10_2 (wrap64 (x11_3 - 1)) a3_0 a3_1 a3_2 a3_3)) = some r := H
                   have A18 := Aside0.mk A180
                   clear A180
                   by_cases c19 : t125 = true
                   · subst c19
                     have H1 : (if x11_3 < (l1.length : Int) then ((jacquardref16_Late.f ((rd_T37 l0 x11_3).f0.f0) ((rd_T37 l0 x11_3).f0.f1) ((rd_T37 l0 x11_3).f0.f2) ((rd_T37 l0 x11_3).f0.f3) ((rd_T37 l0 x11_3).f0.f4) ((rd_T37 l0 x11_3).f0.f5) ((rd_T37 l0 x11_3).f0.f6) ((rd_T37 l0 x11_3).f0.f7) a3_0 a3_1 a3_2 a3_3).bind fun t128 => (jacquardref16_issue.l0 k3 l0 l1 l2 (mx x9_3 (wrap64 ((rd l1 x11_3) + t128))) (wrap64 (x10_2 + 1)) a3_0 a3_1 a3_2 a3_3)) else (none)) = some r := by rw [if_pos rfl] at H; exact H
                     clear H
                     have H := H1
                     clear H1
                     by_cases c20 : x11_3 < (l1.length : Int)
                     · rw [if_pos c20] at H
                       have c20b0 : decide (x11_3 < (l1.length : Int)) = true := decide_eq_true c20
                       clear c20
                       replace H := Option.bind_eq_some_iff.mp H
                       obtain ⟨t128, A210, H⟩ := H
                       replace H : (jacquardref16_issue.l0 k3 l0 l1 l2 (mx x9_3 (wrap64 ((rd l1 x11_3) + t128))) (wrap64 (x10_2 + 1)) a3_0 a3_1 a3_2 a3_3) = some r := H
                       have A21 := Aside0.mk A210
                       clear A210
                       obtain ⟨ji22, hji22⟩ : ∃ j_ : Int, (mx x9_3 (wrap64 ((rd l1 x11_3) + t128))) = j_ := ⟨_, rfl⟩
                       replace H : (jacquardref16_issue.l0 k3 l0 l1 l2 ji22 (wrap64 (x10_2 + 1)) a3_0 a3_1 a3_2 a3_3) = some r := by first | (rw [hji22] at H; exact H) | (simp only [hji22] at H ⊢; exact H)
                       (try rw [hji22] at A15)
                       (try rw [hji22] at A18)
                       (try rw [hji22] at A21)
                       have hji22_ : (if x9_3 < (wrap64 ((rd l1 x11_3) + t128)) then (wrap64 ((rd l1 x11_3) + t128)) else x9_3) = ji22 := hji22
                       have H' := Aside0.mk H
                       clear H
                       try go_wp2
                       have n0_ := Aside0.mk (blk_drew BK118.out)
                       have n1_ := Aside0.mk (below_drew1 HB.out)
                       clear BK118; clear HB
                       have BK118 := n0_
                       have HB := n1_
                       clear n0_ n1_
                       have p120 : 0 ≤ (x11_3 : Int) := of_decide_eq_true (by first | (with_reducible assumption) | assumption)
                       have q120 : x11_3 < (l0.length : Int) := of_decide_eq_true (by first | (with_reducible assumption) | assumption)
                       obtain ⟨ad120, A120_7, c120_7, e120, hx120_0, hx120_1, hx120_2, hx120_3, hx120_4, hx120_5, hx120_6, hx120_7, hx120_8, hl120_7, hi120_7⟩ := at_T37 HR0.out x11_3 p120 q120
                       have hw120_8 := hx120_8
                       have hw120_7 := hx120_7
                       have hw120_6 := hx120_6
                       have hw120_5 := hx120_5
                       have hw120_4 := hx120_4
                       have hw120_3 := hx120_3
                       have hw120_2 := hx120_2
                       have hw120_1 := hx120_1
                       have hw120_0 := hx120_0
                       cases e120
                       replace hx120_0 := (HB.out.cell (World.block_lt_of_cell? w _ hx120_0)).trans hx120_0
                       replace hx120_1 := (HB.out.cell (World.block_lt_of_cell? w _ hx120_1)).trans hx120_1
                       replace hx120_2 := (HB.out.cell (World.block_lt_of_cell? w _ hx120_2)).trans hx120_2
                       replace hx120_3 := (HB.out.cell (World.block_lt_of_cell? w _ hx120_3)).trans hx120_3
                       replace hx120_4 := (HB.out.cell (World.block_lt_of_cell? w _ hx120_4)).trans hx120_4
                       replace hx120_5 := (HB.out.cell (World.block_lt_of_cell? w _ hx120_5)).trans hx120_5
                       replace hx120_6 := (HB.out.cell (World.block_lt_of_cell? w _ hx120_6)).trans hx120_6
                       replace hx120_7 := (HB.out.cell (World.block_lt_of_cell? w _ hx120_7)).trans hx120_7
                       replace hx120_8 := (HB.out.cell (World.block_lt_of_cell? w _ hx120_8)).trans hx120_8
                       have HR120_7 := Aside0.mk hi120_7
                       have HC120_7 := Aside0.mk hl120_7
                       clear hi120_7 hl120_7
                       replace p120 := eq_true p120
                       replace q120 := eq_true q120
                       have p124 : 0 ≤ (x10_2 : Int) := of_decide_eq_true (by first | (with_reducible assumption) | assumption)
                       have q124 : x10_2 < (l2.length : Int) := of_decide_eq_true (by first | (with_reducible assumption) | assumption)
                       obtain ⟨ad124, e124, hx124_0⟩ := Kd.at_int HR2.out x10_2 p124 q124
                       have hw124_0 := hx124_0
                       cases e124
                       replace hx124_0 := (HB.out.cell (World.block_lt_of_cell? w _ hx124_0)).trans hx124_0
                       replace p124 := eq_true p124
                       replace q124 := eq_true q124
                       refine start_ (n := 11) (S := fun w' => w'.cell? (ad120.add ((x11_3).toNat * 9)) = some (.int .i64 ((rd_T37 l0 x11_3).f0.f0)) ∧ w'.cell? ⟨(ad120.add ((x11_3).toNat * 9)).block, (ad120.add ((x11_3).toNat * 9)).off + 1, none⟩ = some (.int .i64 ((rd_T37 l0 x11_3).f0.f1)) ∧ w'.cell? ⟨(ad120.add ((x11_3).toNat * 9)).block, (ad120.add ((x11_3).toNat * 9)).off + 2, none⟩ = some (.int .i64 ((rd_T37 l0 x11_3).f0.f2)) ∧ w'.cell? ⟨(ad120.add ((x11_3).toNat * 9)).block, (ad120.add ((x11_3).toNat * 9)).off + 3, none⟩ = some (.int .i64 ((rd_T37 l0 x11_3).f0.f3)) ∧ w'.cell? ⟨(ad120.add ((x11_3).toNat * 9)).block, (ad120.add ((x11_3).toNat * 9)).off + 4, none⟩ = some (.int .i64 ((rd_T37 l0 x11_3).f0.f4)) ∧ w'.cell? ⟨(ad120.add ((x11_3).toNat * 9)).block, (ad120.add ((x11_3).toNat * 9)).off + 5, none⟩ = some (.int .i64 ((rd_T37 l0 x11_3).f0.f5)) ∧ w'.cell? ⟨(ad120.add ((x11_3).toNat * 9)).block, (ad120.add ((x11_3).toNat * 9)).off + 6, none⟩ = some (.int .i32 ((rd_T37 l0 x11_3).f0.f6)) ∧ w'.cell? ⟨(ad120.add ((x11_3).toNat * 9)).block, (ad120.add ((x11_3).toNat * 9)).off + 7, none⟩ = some (.slice A120_7 ((rd_T37 l0 x11_3).f0.f7).length c120_7) ∧ w'.cell? ⟨(ad120.add ((x11_3).toNat * 9)).block, (ad120.add ((x11_3).toNat * 9)).off + 8, none⟩ = some (.int .i64 ((rd_T37 l0 x11_3).f1)) ∧ w'.cell? (ad124.add (x10_2).toNat) = some (.int .i64 (rd l2 x10_2))) (ds := []) (bm 11 0) (by kernel_rfl) rfl rfl ⟨((HB.out.cell (World.block_lt_of_cell? w _ hw120_0)).trans hw120_0), ((HB.out.cell (World.block_lt_of_cell? w _ hw120_1)).trans hw120_1), ((HB.out.cell (World.block_lt_of_cell? w _ hw120_2)).trans hw120_2), ((HB.out.cell (World.block_lt_of_cell? w _ hw120_3)).trans hw120_3), ((HB.out.cell (World.block_lt_of_cell? w _ hw120_4)).trans hw120_4), ((HB.out.cell (World.block_lt_of_cell? w _ hw120_5)).trans hw120_5), ((HB.out.cell (World.block_lt_of_cell? w _ hw120_6)).trans hw120_6), ((HB.out.cell (World.block_lt_of_cell? w _ hw120_7)).trans hw120_7), ((HB.out.cell (World.block_lt_of_cell? w _ hw120_8)).trans hw120_8), ((HB.out.cell (World.block_lt_of_cell? w _ hw124_0)).trans hw124_0)⟩ (fun hHeld => ?_); refine with_tabW jacquardref16_issue.tab10 jacquardref16_issue.bits10 (fun HT_ HW_ => ?_)
                       generalize wr.drew = w23 at BK118 HB HR120_7 hx120_0 hx120_1 hx120_2 hx120_3 hx120_4 hx120_5 hx120_6 hx120_7 hx120_8 hx124_0 hHeld ⊢
                       refine pu 0 35 (bm 11 1) rfl rfl (any_of HT_.out (by kernel_rfl)) (fun _ _ _ h => h) (by rfl) (v := ?_) (a' := ?_) (by intro w'; go_simp; with_reducible rfl) (by simp only [np]; rfl) ?_
                       refine pu 1 36 (bm 11 3) rfl rfl (any_of HT_.out (by kernel_rfl)) (fun _ _ _ h => h) (by rfl) (v := ?_) (a' := ?_) (by intro w'; go_simp; with_reducible rfl) (by simp only [np]; rfl) ?_
                       refine pu 2 37 (bm 11 7) rfl rfl (any_of HT_.out (by kernel_rfl)) (fun _ _ _ h => h) (by rfl) (v := ?_) (a' := ?_) (by intro w'; go_simp; with_reducible rfl) (by simp only [np]; rfl) ?_
                       refine pu 3 38 (bm 11 15) rfl rfl (any_of HT_.out (by kernel_rfl)) (fun _ _ _ h => h) (by rfl) (v := ?_) (a' := ?_) (by intro w'; go_simp; with_reducible rfl) (by simp only [np]; rfl) ?_
                       refine pu 6 41 (bm 11 79) rfl rfl (any_of HT_.out (by kernel_rfl)) (fun _ _ _ h => h) (by rfl) (v := ?_) (a' := ?_) (by intro w'; go_simp; with_reducible rfl) (by simp only [np]; rfl) ?_
                       refine pu 7 42 (bm 11 207) rfl rfl (any_of HT_.out (by kernel_rfl)) (fun _ _ _ h => h) (by rfl) (v := ?_) (a' := ?_) (by intro w'; go_simp; with_reducible rfl) (by simp only [np]; rfl) ?_
                       refine pu 8 43 (bm 11 463) rfl rfl (any_of HT_.out (by kernel_rfl)) (fun _ _ _ h => h) (by rfl) (v := ?_) (a' := ?_) (by intro w'; go_simp; with_reducible rfl) (by simp only [np]; rfl) ?_
                       refine take_ (i := 4) (N := some 39) (v := ?_) (a' := ?_) (bm 11 479) rfl rfl (take_ofW HT_.out HW_.out (by kernel_rfl)) (fun _ _ _ h => h) (Or.inl ⟨by rfl, ?_⟩) hHeld ?_ ?_
                       rotate_left
                       · rintro w' ⟨s0, s1, s2, s3, s4, s5, s6, s7, s8, s9⟩; go_simp; with_reducible rfl
                       rotate_left
                       · simp only [np]; rfl
                       refine take_ (i := 9) (N := some 44) (v := ?_) (a' := ?_) (bm 11 991) rfl rfl (take_ofW HT_.out HW_.out (by kernel_rfl)) (fun _ _ _ h => h) (Or.inl ⟨by rfl, ?_⟩) hHeld ?_ ?_
                       rotate_left
                       · rintro w' ⟨s0, s1, s2, s3, s4, s5, s6, s7, s8, s9⟩; go_simp; with_reducible rfl
                       rotate_left
                       · simp only [np]; rfl
                       refine one_ (i := 5) (N := some 40) (bm 11 1023) rfl rfl (one_of HT_.out (by kernel_rfl)) (by decide) (fun K hK => ?_)
                       refine goes_ Try.func48 (by kernel_rfl) rfl #[.agg #[.int .i64 ((rd_T37 l0 x11_3).f0.f0), .int .i64 ((rd_T37 l0 x11_3).f0.f1), .int .i64 ((rd_T37 l0 x11_3).f0.f2), .int .i64 ((rd_T37 l0 x11_3).f0.f3), .int .i64 ((rd_T37 l0 x11_3).f0.f4), .int .i64 ((rd_T37 l0 x11_3).f0.f5), .int .i32 ((rd_T37 l0 x11_3).f0.f6), .slice A120_7 ((rd_T37 l0 x11_3).f0.f7).length c120_7]] (by rfl) rfl rfl (by (try simp only [List.map_toArray, List.map_cons, List.map_nil]); first | done | rfl | (simp only [List.length_drop, List.length_take]; rfl)) ?_
                       with_reducible refine (jacquardref16_changes.calls ((rd_T37 l0 x11_3).f0.f0) ((rd_T37 l0 x11_3).f0.f1) ((rd_T37 l0 x11_3).f0.f2) ((rd_T37 l0 x11_3).f0.f3) ((rd_T37 l0 x11_3).f0.f4) ((rd_T37 l0 x11_3).f0.f5) ((rd_T37 l0 x11_3).f0.f6) _ _ ((rd_T37 l0 x11_3).f0.f7) t121 _ ?side1 ?side2 A15.out).mono ?_
                       (case side1 => repeat (first | exact (Kd.C_below HR120_7.out HB.out) | (with_reducible refine Kd.C_alloc ?_ _) | (with_reducible refine Kd.C_drewN ?_ _) | (with_reducible refine Kd.C_drew ?_)))
                       (case side2 => exact HC120_7.out)
                       rintro e w24 ⟨v122, rfl, ho0, hb⟩
                       refine ⟨_, rfl, ?_⟩
                       have n0_ := Aside0.mk (Kd.R_lower ho0 (below_size (by repeat (first | (with_reducible first | exact HB.out | apply below_alloc | apply pw_below_drewN | apply below_drew1 | refine below_set ?_ GE118.out) | exact HB.out))))
                       have n1_ := Aside0.mk (blk_below (g := gb118) (o := .cells #[.int .i64 a3_0, .int .i64 a3_1, .int .i64 a3_2, .int .i64 a3_3] 27 (0, 0)) (by (with_reducible repeat (first | refine blk_drewN ?_ _ | refine blk_drew ?_ | refine blk_alloc ?_ _)); exact BK118.out) hb)
                       have n2_ := Aside0.mk (below_step (by repeat (first | (with_reducible first | exact HB.out | apply below_alloc | apply pw_below_drewN | apply below_drew1 | refine below_set ?_ GE118.out) | exact HB.out)) hb)
                       clear BK118; clear HB
                       have HO123 := n0_
                       have BK118 := n1_
                       have HB := n2_
                       clear n0_ n1_ n2_
                       (try clear hb)
                       (try clear hb2)
                       (try clear hk)
                       (try clear hi)
                       (try clear ho0)
                       obtain ⟨Ao25, co25, eo25⟩ := Kd.R_slice HO123.out
                       (first | subst eo25 | (injection eo25 with f1_ f2_ f3_; have f4_ := f1_.symm; have f5_ := f3_.symm; clear f1_ f2_ f3_; subst f4_; subst f5_))
                       refine hK.out _ _ ⟨((HB.out.cell (World.block_lt_of_cell? w _ hw120_0)).trans hw120_0), ((HB.out.cell (World.block_lt_of_cell? w _ hw120_1)).trans hw120_1), ((HB.out.cell (World.block_lt_of_cell? w _ hw120_2)).trans hw120_2), ((HB.out.cell (World.block_lt_of_cell? w _ hw120_3)).trans hw120_3), ((HB.out.cell (World.block_lt_of_cell? w _ hw120_4)).trans hw120_4), ((HB.out.cell (World.block_lt_of_cell? w _ hw120_5)).trans hw120_5), ((HB.out.cell (World.block_lt_of_cell? w _ hw120_6)).trans hw120_6), ((HB.out.cell (World.block_lt_of_cell? w _ hw120_7)).trans hw120_7), ((HB.out.cell (World.block_lt_of_cell? w _ hw120_8)).trans hw120_8), ((HB.out.cell (World.block_lt_of_cell? w _ hw124_0)).trans hw124_0)⟩ (fun hHeld => ?_)
                       clear hK K
                       refine norm_ (a' := ?_) ?_ ?_
                       rotate_left
                       · show Act.put _ (some 40) _ = _; simp only [np]; rfl
                       refine one_ (i := 10) (N := some 45) (bm 11 2047) rfl rfl (one_of HT_.out (by kernel_rfl)) (by decide) (fun K hK => ?_)
                       refine goes_ Try.func47 (by kernel_rfl) rfl #[.slice Ao25 t121.length co25, .int .i64 (rd l2 x10_2)] (by rfl) rfl rfl (by (try simp only [List.map_toArray, List.map_cons, List.map_nil]); first | done | rfl | (simp only [List.length_drop, List.length_take]; rfl)) ?_
                       with_reducible refine (jacquardref16_has.calls k3 _ _ t121 (rd l2 x10_2) true _ ?side1 ?side2 A18.out).mono ?_
                       (case side1 => repeat (first | exact (Kd.R_reads' HO123.out).2.2 | (with_reducible refine Kd.C_alloc ?_ _) | (with_reducible refine Kd.C_drewN ?_ _) | (with_reducible refine Kd.C_drew ?_)))
                       (case side2 => exact (Kd.R_reads' HO123.out).2.1)
                       rintro e w' ⟨rfl, ⟨nd, rfl⟩⟩
                       refine ⟨_, rfl, ?_⟩
                       refine hK.out _ _ ⟨((HB.out.cell (World.block_lt_of_cell? w _ hw120_0)).trans hw120_0), ((HB.out.cell (World.block_lt_of_cell? w _ hw120_1)).trans hw120_1), ((HB.out.cell (World.block_lt_of_cell? w _ hw120_2)).trans hw120_2), ((HB.out.cell (World.block_lt_of_cell? w _ hw120_3)).trans hw120_3), ((HB.out.cell (World.block_lt_of_cell? w _ hw120_4)).trans hw120_4), ((HB.out.cell (World.block_lt_of_cell? w _ hw120_5)).trans hw120_5), ((HB.out.cell (World.block_lt_of_cell? w _ hw120_6)).trans hw120_6), ((HB.out.cell (World.block_lt_of_cell? w _ hw120_7)).trans hw120_7), ((HB.out.cell (World.block_lt_of_cell? w _ hw120_8)).trans hw120_8), ((HB.out.cell (World.block_lt_of_cell? w _ hw124_0)).trans hw124_0)⟩ (fun hHeld => ?_)
                       clear hK K
                       refine norm_ (a' := ?_) ?_ ?_
                       rotate_left
                       · show Act.put _ (some 45) _ = _; simp only [np]; rfl
                       refine done_ (done_of HT_.out (by kernel_rfl)) ?_
                       try go_wp2
                       (try (rw [drewN_self w24]; generalize hq_ : World.drewN w24 _ = w24; have n0_ : Aside0 (Kd.R (Kd.int .i64) 3 w24 w.heap.size (fun _ => True) (.slice Ao25 t121.length co25) t121) := ⟨by rw [← hq_]; exact (by (with_reducible repeat (first | apply Kd.R_alloc | apply Kd.R_drewN | apply Kd.R_drew)); exact HO123.out)⟩; have n1_ : Aside0 (w24.heap[gb118]? = some (.cells #[.int .i64 a3_0, .int .i64 a3_1, .int .i64 a3_2, .int .i64 a3_3] 27 (0, 0))) := ⟨by rw [← hq_]; exact (by (with_reducible repeat (first | refine blk_drewN ?_ _ | refine blk_drew ?_ | refine blk_alloc ?_ _)); exact BK118.out)⟩; have n2_ : Aside0 (Below w.heap.size w w24) := ⟨by rw [← hq_]; exact (by repeat (first | (with_reducible first | exact HB.out | apply below_alloc | apply pw_below_drewN | apply below_drew1 | refine below_set ?_ GE118.out) | exact HB.out))⟩; clear HO123 BK118 HB hq_; have HO123 := n0_; have BK118 := n1_; have HB := n2_; clear n0_ n1_ n2_))
                       have n0_ := Aside0.mk (Kd.R_drew HO123.out)
                       have n1_ := Aside0.mk (blk_drew BK118.out)
                       have n2_ := Aside0.mk (below_drew1 HB.out)
                       clear HO123; clear BK118; clear HB
                       have HO123 := n0_
                       have BK118 := n1_
                       have HB := n2_
                       clear n0_ n1_ n2_
                       have p126 : 0 ≤ (x11_3 : Int) := of_decide_eq_true (by first | (with_reducible assumption) | assumption)
                       have q126 : x11_3 < (l1.length : Int) := of_decide_eq_true (by first | (with_reducible assumption) | assumption)
                       obtain ⟨ad126, e126, hx126_0⟩ := Kd.at_int HR1.out x11_3 p126 q126
                       have hw126_0 := hx126_0
                       cases e126
                       replace hx126_0 := (HB.out.cell (World.block_lt_of_cell? w _ hx126_0)).trans hx126_0
                       replace p126 := eq_true p126
                       replace q126 := eq_true q126
                       have p127 : 0 ≤ (x11_3 : Int) := of_decide_eq_true (by first | (with_reducible assumption) | assumption)
                       have q127 : x11_3 < (l0.length : Int) := of_decide_eq_true (by first | (with_reducible assumption) | assumption)
                       obtain ⟨ad127, A127_7, c127_7, e127, hx127_0, hx127_1, hx127_2, hx127_3, hx127_4, hx127_5, hx127_6, hx127_7, hx127_8, hl127_7, hi127_7⟩ := at_T37 HR0.out x11_3 p127 q127
                       have hw127_8 := hx127_8
                       have hw127_7 := hx127_7
                       have hw127_6 := hx127_6
                       have hw127_5 := hx127_5
                       have hw127_4 := hx127_4
                       have hw127_3 := hx127_3
                       have hw127_2 := hx127_2
                       have hw127_1 := hx127_1
                       have hw127_0 := hx127_0
                       obtain rfl : ad120 = ad127 := (by injection e127)
                       replace hx127_0 := (HB.out.cell (World.block_lt_of_cell? w _ hx127_0)).trans hx127_0
                       replace hx127_1 := (HB.out.cell (World.block_lt_of_cell? w _ hx127_1)).trans hx127_1
                       replace hx127_2 := (HB.out.cell (World.block_lt_of_cell? w _ hx127_2)).trans hx127_2
                       replace hx127_3 := (HB.out.cell (World.block_lt_of_cell? w _ hx127_3)).trans hx127_3
                       replace hx127_4 := (HB.out.cell (World.block_lt_of_cell? w _ hx127_4)).trans hx127_4
                       replace hx127_5 := (HB.out.cell (World.block_lt_of_cell? w _ hx127_5)).trans hx127_5
                       replace hx127_6 := (HB.out.cell (World.block_lt_of_cell? w _ hx127_6)).trans hx127_6
                       replace hx127_7 := (HB.out.cell (World.block_lt_of_cell? w _ hx127_7)).trans hx127_7
                       replace hx127_8 := (HB.out.cell (World.block_lt_of_cell? w _ hx127_8)).trans hx127_8
                       have HR127_7 := Aside0.mk hi127_7
                       have HC127_7 := Aside0.mk hl127_7
                       clear hi127_7 hl127_7
                       replace p127 := eq_true p127
                       replace q127 := eq_true q127
                       refine start_ (n := 15) (S := fun w' => w'.cell? ⟨gb118, 0, none⟩ = some (.int .i64 a3_0) ∧ w'.cell? ⟨gb118, 1, none⟩ = some (.int .i64 a3_1) ∧ w'.cell? ⟨gb118, 2, none⟩ = some (.int .i64 a3_2) ∧ w'.cell? ⟨gb118, 3, none⟩ = some (.int .i64 a3_3) ∧ w'.cell? (ad126.add (x11_3).toNat) = some (.int .i64 (rd l1 x11_3)) ∧ w'.cell? (ad120.add ((x11_3).toNat * 9)) = some (.int .i64 ((rd_T37 l0 x11_3).f0.f0)) ∧ w'.cell? ⟨(ad120.add ((x11_3).toNat * 9)).block, (ad120.add ((x11_3).toNat * 9)).off + 1, none⟩ = some (.int .i64 ((rd_T37 l0 x11_3).f0.f1)) ∧ w'.cell? ⟨(ad120.add ((x11_3).toNat * 9)).block, (ad120.add ((x11_3).toNat * 9)).off + 2, none⟩ = some (.int .i64 ((rd_T37 l0 x11_3).f0.f2)) ∧ w'.cell? ⟨(ad120.add ((x11_3).toNat * 9)).block, (ad120.add ((x11_3).toNat * 9)).off + 3, none⟩ = some (.int .i64 ((rd_T37 l0 x11_3).f0.f3)) ∧ w'.cell? ⟨(ad120.add ((x11_3).toNat * 9)).block, (ad120.add ((x11_3).toNat * 9)).off + 4, none⟩ = some (.int .i64 ((rd_T37 l0 x11_3).f0.f4)) ∧ w'.cell? ⟨(ad120.add ((x11_3).toNat * 9)).block, (ad120.add ((x11_3).toNat * 9)).off + 5, none⟩ = some (.int .i64 ((rd_T37 l0 x11_3).f0.f5)) ∧ w'.cell? ⟨(ad120.add ((x11_3).toNat * 9)).block, (ad120.add ((x11_3).toNat * 9)).off + 6, none⟩ = some (.int .i32 ((rd_T37 l0 x11_3).f0.f6)) ∧ w'.cell? ⟨(ad120.add ((x11_3).toNat * 9)).block, (ad120.add ((x11_3).toNat * 9)).off + 7, none⟩ = some (.slice A127_7 ((rd_T37 l0 x11_3).f0.f7).length c127_7) ∧ w'.cell? ⟨(ad120.add ((x11_3).toNat * 9)).block, (ad120.add ((x11_3).toNat * 9)).off + 8, none⟩ = some (.int .i64 ((rd_T37 l0 x11_3).f1))) (ds := []) (bm 15 0) (by kernel_rfl) rfl rfl ⟨(blk_cell BK118.out 0).trans rfl, (blk_cell BK118.out 1).trans rfl, (blk_cell BK118.out 2).trans rfl, (blk_cell BK118.out 3).trans rfl, ((HB.out.cell (World.block_lt_of_cell? w _ hw126_0)).trans hw126_0), ((HB.out.cell (World.block_lt_of_cell? w _ hw127_0)).trans hw127_0), ((HB.out.cell (World.block_lt_of_cell? w _ hw127_1)).trans hw127_1), ((HB.out.cell (World.block_lt_of_cell? w _ hw127_2)).trans hw127_2), ((HB.out.cell (World.block_lt_of_cell? w _ hw127_3)).trans hw127_3), ((HB.out.cell (World.block_lt_of_cell? w _ hw127_4)).trans hw127_4), ((HB.out.cell (World.block_lt_of_cell? w _ hw127_5)).trans hw127_5), ((HB.out.cell (World.block_lt_of_cell? w _ hw127_6)).trans hw127_6), ((HB.out.cell (World.block_lt_of_cell? w _ hw127_7)).trans hw127_7), ((HB.out.cell (World.block_lt_of_cell? w _ hw127_8)).trans hw127_8)⟩ (fun hHeld => ?_); refine with_tabW jacquardref16_issue.tab11 jacquardref16_issue.bits11 (fun HT_ HW_ => ?_)
                       generalize w24.drew = w26 at HO123 BK118 HB HR127_7 hx126_0 hx127_0 hx127_1 hx127_2 hx127_3 hx127_4 hx127_5 hx127_6 hx127_7 hx127_8 hHeld ⊢
                       refine pu 0 46 (bm 15 1) rfl rfl (any_of HT_.out (by kernel_rfl)) (fun _ _ _ h => h) (by rfl) (v := ?_) (a' := ?_) (by intro w'; go_simp; with_reducible rfl) (by simp only [np]; rfl) ?_
                       refine pu 1 47 (bm 15 3) rfl rfl (any_of HT_.out (by kernel_rfl)) (fun _ _ _ h => h) (by rfl) (v := ?_) (a' := ?_) (by intro w'; go_simp; with_reducible rfl) (by simp only [np]; rfl) ?_
                       refine pu 2 48 (bm 15 7) rfl rfl (any_of HT_.out (by kernel_rfl)) (fun _ _ _ h => h) (by rfl) (v := ?_) (a' := ?_) (by intro w'; go_simp; with_reducible rfl) (by simp only [np]; rfl) ?_
                       refine pu 3 49 (bm 15 15) rfl rfl (any_of HT_.out (by kernel_rfl)) (fun _ _ _ h => h) (by rfl) (v := ?_) (a' := ?_) (by intro w'; go_simp; with_reducible rfl) (by simp only [np]; rfl) ?_
                       refine pu 5 51 (bm 15 47) rfl rfl (any_of HT_.out (by kernel_rfl)) (fun _ _ _ h => h) (by rfl) (v := ?_) (a' := ?_) (by intro w'; go_simp; with_reducible rfl) (by simp only [np]; rfl) ?_
                       refine pu 6 52 (bm 15 111) rfl rfl (any_of HT_.out (by kernel_rfl)) (fun _ _ _ h => h) (by rfl) (v := ?_) (a' := ?_) (by intro w'; go_simp; with_reducible rfl) (by simp only [np]; rfl) ?_
                       refine pu 7 53 (bm 15 239) rfl rfl (any_of HT_.out (by kernel_rfl)) (fun _ _ _ h => h) (by rfl) (v := ?_) (a' := ?_) (by intro w'; go_simp; with_reducible rfl) (by simp only [np]; rfl) ?_
                       refine pu 8 54 (bm 15 495) rfl rfl (any_of HT_.out (by kernel_rfl)) (fun _ _ _ h => h) (by rfl) (v := ?_) (a' := ?_) (by intro w'; go_simp; with_reducible rfl) (by simp only [np]; rfl) ?_
                       refine take_ (i := 4) (N := some 50) (v := ?_) (a' := ?_) (bm 15 511) rfl rfl (take_ofW HT_.out HW_.out (by kernel_rfl)) (fun _ _ _ h => h) (Or.inl ⟨by rfl, ?_⟩) hHeld ?_ ?_
                       rotate_left
                       · rintro w' ⟨s0, s1, s2, s3, s4, s5, s6, s7, s8, s9, s10, s11, s12, s13⟩; go_simp; with_reducible rfl
                       rotate_left
                       · simp only [np]; rfl
                       refine take_ (i := 9) (N := some 55) (v := ?_) (a' := ?_) (bm 15 1023) rfl rfl (take_ofW HT_.out HW_.out (by kernel_rfl)) (fun _ _ _ h => h) (Or.inl ⟨by rfl, ?_⟩) hHeld ?_ ?_
                       rotate_left
                       · rintro w' ⟨s0, s1, s2, s3, s4, s5, s6, s7, s8, s9, s10, s11, s12, s13⟩; go_simp; with_reducible rfl
                       rotate_left
                       · simp only [np]; rfl
                       refine take_ (i := 10) (N := some 56) (v := ?_) (a' := ?_) (bm 15 2047) rfl rfl (take_ofW HT_.out HW_.out (by kernel_rfl)) (fun _ _ _ h => h) (Or.inl ⟨by rfl, ?_⟩) hHeld ?_ ?_
                       rotate_left
                       · rintro w' ⟨s0, s1, s2, s3, s4, s5, s6, s7, s8, s9, s10, s11, s12, s13⟩; go_simp; with_reducible rfl
                       rotate_left
                       · simp only [np]; rfl
                       refine one_ (i := 11) (N := some 57) (bm 15 4095) rfl rfl (one_of HT_.out (by kernel_rfl)) (by decide) (fun K hK => ?_)
                       refine goes_ Try.func14 (by kernel_rfl) rfl #[.agg #[.int .i64 ((rd_T37 l0 x11_3).f0.f0), .int .i64 ((rd_T37 l0 x11_3).f0.f1), .int .i64 ((rd_T37 l0 x11_3).f0.f2), .int .i64 ((rd_T37 l0 x11_3).f0.f3), .int .i64 ((rd_T37 l0 x11_3).f0.f4), .int .i64 ((rd_T37 l0 x11_3).f0.f5), .int .i32 ((rd_T37 l0 x11_3).f0.f6), .slice A127_7 ((rd_T37 l0 x11_3).f0.f7).length c127_7], .agg #[.int .i64 a3_0, .int .i64 a3_1, .int .i64 a3_2, .int .i64 a3_3]] (by rfl) rfl rfl (by (try simp only [List.map_toArray, List.map_cons, List.map_nil]); first | done | rfl | (simp only [List.length_drop, List.length_take]; rfl)) ?_
                       with_reducible refine (jacquardref16_Late.calls ((rd_T37 l0 x11_3).f0.f0) ((rd_T37 l0 x11_3).f0.f1) ((rd_T37 l0 x11_3).f0.f2) ((rd_T37 l0 x11_3).f0.f3) ((rd_T37 l0 x11_3).f0.f4) ((rd_T37 l0 x11_3).f0.f5) ((rd_T37 l0 x11_3).f0.f6) _ _ ((rd_T37 l0 x11_3).f0.f7) a3_0 a3_1 a3_2 a3_3 t128 _ ?side1 ?side2 A21.out).mono ?_
                       (case side1 => repeat (first | exact (Kd.C_below HR127_7.out HB.out) | (with_reducible refine Kd.C_alloc ?_ _) | (with_reducible refine Kd.C_drewN ?_ _) | (with_reducible refine Kd.C_drew ?_)))
                       (case side2 => exact HC127_7.out)
                       rintro e w27 ⟨rfl, hb⟩
                       refine ⟨_, rfl, ?_⟩
                       have n0_ := Aside0.mk (Kd.R_below (by (with_reducible repeat (first | apply Kd.R_alloc | apply Kd.R_drewN | apply Kd.R_drew)); exact HO123.out) hb)
                       have n1_ := Aside0.mk (blk_below (g := gb118) (o := .cells #[.int .i64 a3_0, .int .i64 a3_1, .int .i64 a3_2, .int .i64 a3_3] 27 (0, 0)) (by (with_reducible repeat (first | refine blk_drewN ?_ _ | refine blk_drew ?_ | refine blk_alloc ?_ _)); exact BK118.out) hb)
                       have n2_ := Aside0.mk (below_step (by repeat (first | (with_reducible first | exact HB.out | apply below_alloc | apply pw_below_drewN | apply below_drew1 | refine below_set ?_ GE118.out) | exact HB.out)) hb)
                       clear HO123; clear BK118; clear HB
                       have HO123 := n0_
                       have BK118 := n1_
                       have HB := n2_
                       clear n0_ n1_ n2_
                       (try clear hb)
                       (try clear hb2)
                       (try clear hk)
                       (try clear hi)
                       refine hK.out _ _ ⟨(blk_cell BK118.out 0).trans rfl, (blk_cell BK118.out 1).trans rfl, (blk_cell BK118.out 2).trans rfl, (blk_cell BK118.out 3).trans rfl, ((HB.out.cell (World.block_lt_of_cell? w _ hw126_0)).trans hw126_0), ((HB.out.cell (World.block_lt_of_cell? w _ hw127_0)).trans hw127_0), ((HB.out.cell (World.block_lt_of_cell? w _ hw127_1)).trans hw127_1), ((HB.out.cell (World.block_lt_of_cell? w _ hw127_2)).trans hw127_2), ((HB.out.cell (World.block_lt_of_cell? w _ hw127_3)).trans hw127_3), ((HB.out.cell (World.block_lt_of_cell? w _ hw127_4)).trans hw127_4), ((HB.out.cell (World.block_lt_of_cell? w _ hw127_5)).trans hw127_5), ((HB.out.cell (World.block_lt_of_cell? w _ hw127_6)).trans hw127_6), ((HB.out.cell (World.block_lt_of_cell? w _ hw127_7)).trans hw127_7), ((HB.out.cell (World.block_lt_of_cell? w _ hw127_8)).trans hw127_8)⟩ (fun hHeld => ?_)
                       clear hK K
                       refine norm_ (a' := ?_) ?_ ?_
                       rotate_left
                       · show Act.put _ (some 57) _ = _; simp only [np]; rfl
                       refine pu 12 58 (bm 15 8191) rfl rfl (any_of HT_.out (by kernel_rfl)) (fun _ _ _ h => h) (by rfl) (v := ?_) (a' := ?_) (by intro w'; go_simp; with_reducible rfl) (by simp only [np]; rfl) ?_
                       refine pu 13 59 (bm 15 16383) rfl rfl (any_of HT_.out (by kernel_rfl)) (fun _ _ _ h => h) (by rfl) (v := ?_) (a' := ?_) (by intro w'; go_simp; with_reducible rfl) (by simp only [np]; rfl) ?_
                       refine pu 14 9 (bm 15 32767) rfl rfl (any_of HT_.out (by kernel_rfl)) (fun _ _ _ h => h) (by rfl) (v := ?_) (a' := ?_) (by intro w'; go_simp; with_reducible rfl) (by simp only [np]; rfl) ?_
                       refine done_ (done_of HT_.out (by kernel_rfl)) ?_
                       try go_wp2
                       go_roundg k3
                       case measure => have := HJ4.out; have := HK2.out; have := HK3.out; omega
                       case rel => exact ⟨(ji22), (wrap64 (x10_2 + 1)), (by first | rfl | (simp; done) | (simp only [← hji22] <;> (first | rfl | simp)) | (simp [*]; done)), (by first | rfl | (simp; done) | (simp [*]; done)), H', ⟨by have := HJ4.out; have := HK2.out; have := HK3.out; omega⟩, ⟨by (with_reducible repeat (first | refine blk_drewN ?_ _ | refine blk_drew ?_ | refine blk_alloc ?_ _)); exact BK118.out⟩, ⟨by repeat (first | (with_reducible first | exact HB.out | apply below_alloc | apply pw_below_drewN | apply below_drew1 | refine below_set ?_ GE118.out) | exact HB.out)⟩⟩
                     · rw [if_neg c20] at H
                       exact absurd H (by simp)
                   · replace c19 := Bool.eq_false_iff.mpr c19
                     subst c19
                     have H1 : (jacquardref16_issue.l1 k3 l0 l1 l2 x9_3 x10_2 (wrap64 (x11_3 - 1)) a3_0 a3_1 a3_2 a3_3) = some r := by rw [if_neg (show ¬ (false = true) by decide)] at H; exact H
                     clear H
                     have H := H1
                     clear H1
                     have H' := Aside0.mk H
                     clear H
                     try go_wp2
                     have n0_ := Aside0.mk (blk_drew BK118.out)
                     have n1_ := Aside0.mk (below_drew1 HB.out)
                     clear BK118; clear HB
                     have BK118 := n0_
                     have HB := n1_
                     clear n0_ n1_
                     have p120 : 0 ≤ (x11_3 : Int) := of_decide_eq_true (by first | (with_reducible assumption) | assumption)
                     have q120 : x11_3 < (l0.length : Int) := of_decide_eq_true (by first | (with_reducible assumption) | assumption)
                     obtain ⟨ad120, A120_7, c120_7, e120, hx120_0, hx120_1, hx120_2, hx120_3, hx120_4, hx120_5, hx120_6, hx120_7, hx120_8, hl120_7, hi120_7⟩ := at_T37 HR0.out x11_3 p120 q120
                     have hw120_8 := hx120_8
                     have hw120_7 := hx120_7
                     have hw120_6 := hx120_6
                     have hw120_5 := hx120_5
                     have hw120_4 := hx120_4
                     have hw120_3 := hx120_3
                     have hw120_2 := hx120_2
                     have hw120_1 := hx120_1
                     have hw120_0 := hx120_0
                     cases e120
                     replace hx120_0 := (HB.out.cell (World.block_lt_of_cell? w _ hx120_0)).trans hx120_0
                     replace hx120_1 := (HB.out.cell (World.block_lt_of_cell? w _ hx120_1)).trans hx120_1
                     replace hx120_2 := (HB.out.cell (World.block_lt_of_cell? w _ hx120_2)).trans hx120_2
                     replace hx120_3 := (HB.out.cell (World.block_lt_of_cell? w _ hx120_3)).trans hx120_3
                     replace hx120_4 := (HB.out.cell (World.block_lt_of_cell? w _ hx120_4)).trans hx120_4
                     replace hx120_5 := (HB.out.cell (World.block_lt_of_cell? w _ hx120_5)).trans hx120_5
                     replace hx120_6 := (HB.out.cell (World.block_lt_of_cell? w _ hx120_6)).trans hx120_6
                     replace hx120_7 := (HB.out.cell (World.block_lt_of_cell? w _ hx120_7)).trans hx120_7
                     replace hx120_8 := (HB.out.cell (World.block_lt_of_cell? w _ hx120_8)).trans hx120_8
                     have HR120_7 := Aside0.mk hi120_7
                     have HC120_7 := Aside0.mk hl120_7
                     clear hi120_7 hl120_7
                     replace p120 := eq_true p120
                     replace q120 := eq_true q120
                     have p124 : 0 ≤ (x10_2 : Int) := of_decide_eq_true (by first | (with_reducible assumption) | assumption)
                     have q124 : x10_2 < (l2.length : Int) := of_decide_eq_true (by first | (with_reducible assumption) | assumption)
                     obtain ⟨ad124, e124, hx124_0⟩ := Kd.at_int HR2.out x10_2 p124 q124
                     have hw124_0 := hx124_0
                     cases e124
                     replace hx124_0 := (HB.out.cell (World.block_lt_of_cell? w _ hx124_0)).trans hx124_0
                     replace p124 := eq_true p124
                     replace q124 := eq_true q124
                     refine start_ (n := 11) (S := fun w' => w'.cell? (ad120.add ((x11_3).toNat * 9)) = some (.int .i64 ((rd_T37 l0 x11_3).f0.f0)) ∧ w'.cell? ⟨(ad120.add ((x11_3).toNat * 9)).block, (ad120.add ((x11_3).toNat * 9)).off + 1, none⟩ = some (.int .i64 ((rd_T37 l0 x11_3).f0.f1)) ∧ w'.cell? ⟨(ad120.add ((x11_3).toNat * 9)).block, (ad120.add ((x11_3).toNat * 9)).off + 2, none⟩ = some (.int .i64 ((rd_T37 l0 x11_3).f0.f2)) ∧ w'.cell? ⟨(ad120.add ((x11_3).toNat * 9)).block, (ad120.add ((x11_3).toNat * 9)).off + 3, none⟩ = some (.int .i64 ((rd_T37 l0 x11_3).f0.f3)) ∧ w'.cell? ⟨(ad120.add ((x11_3).toNat * 9)).block, (ad120.add ((x11_3).toNat * 9)).off + 4, none⟩ = some (.int .i64 ((rd_T37 l0 x11_3).f0.f4)) ∧ w'.cell? ⟨(ad120.add ((x11_3).toNat * 9)).block, (ad120.add ((x11_3).toNat * 9)).off + 5, none⟩ = some (.int .i64 ((rd_T37 l0 x11_3).f0.f5)) ∧ w'.cell? ⟨(ad120.add ((x11_3).toNat * 9)).block, (ad120.add ((x11_3).toNat * 9)).off + 6, none⟩ = some (.int .i32 ((rd_T37 l0 x11_3).f0.f6)) ∧ w'.cell? ⟨(ad120.add ((x11_3).toNat * 9)).block, (ad120.add ((x11_3).toNat * 9)).off + 7, none⟩ = some (.slice A120_7 ((rd_T37 l0 x11_3).f0.f7).length c120_7) ∧ w'.cell? ⟨(ad120.add ((x11_3).toNat * 9)).block, (ad120.add ((x11_3).toNat * 9)).off + 8, none⟩ = some (.int .i64 ((rd_T37 l0 x11_3).f1)) ∧ w'.cell? (ad124.add (x10_2).toNat) = some (.int .i64 (rd l2 x10_2))) (ds := []) (bm 11 0) (by kernel_rfl) rfl rfl ⟨((HB.out.cell (World.block_lt_of_cell? w _ hw120_0)).trans hw120_0), ((HB.out.cell (World.block_lt_of_cell? w _ hw120_1)).trans hw120_1), ((HB.out.cell (World.block_lt_of_cell? w _ hw120_2)).trans hw120_2), ((HB.out.cell (World.block_lt_of_cell? w _ hw120_3)).trans hw120_3), ((HB.out.cell (World.block_lt_of_cell? w _ hw120_4)).trans hw120_4), ((HB.out.cell (World.block_lt_of_cell? w _ hw120_5)).trans hw120_5), ((HB.out.cell (World.block_lt_of_cell? w _ hw120_6)).trans hw120_6), ((HB.out.cell (World.block_lt_of_cell? w _ hw120_7)).trans hw120_7), ((HB.out.cell (World.block_lt_of_cell? w _ hw120_8)).trans hw120_8), ((HB.out.cell (World.block_lt_of_cell? w _ hw124_0)).trans hw124_0)⟩ (fun hHeld => ?_); refine with_tabW jacquardref16_issue.tab10 jacquardref16_issue.bits10 (fun HT_ HW_ => ?_)
                     generalize wr.drew = w28 at BK118 HB HR120_7 hx120_0 hx120_1 hx120_2 hx120_3 hx120_4 hx120_5 hx120_6 hx120_7 hx120_8 hx124_0 hHeld ⊢
                     refine pu 0 35 (bm 11 1) rfl rfl (any_of HT_.out (by kernel_rfl)) (fun _ _ _ h => h) (by rfl) (v := ?_) (a' := ?_) (by intro w'; go_simp; with_reducible rfl) (by simp only [np]; rfl) ?_
                     refine pu 1 36 (bm 11 3) rfl rfl (any_of HT_.out (by kernel_rfl)) (fun _ _ _ h => h) (by rfl) (v := ?_) (a' := ?_) (by intro w'; go_simp; with_reducible rfl) (by simp only [np]; rfl) ?_
                     refine pu 2 37 (bm 11 7) rfl rfl (any_of HT_.out (by kernel_rfl)) (fun _ _ _ h => h) (by rfl) (v := ?_) (a' := ?_) (by intro w'; go_simp; with_reducible rfl) (by simp only [np]; rfl) ?_
                     refine pu 3 38 (bm 11 15) rfl rfl (any_of HT_.out (by kernel_rfl)) (fun _ _ _ h => h) (by rfl) (v := ?_) (a' := ?_) (by intro w'; go_simp; with_reducible rfl) (by simp only [np]; rfl) ?_
                     refine pu 6 41 (bm 11 79) rfl rfl (any_of HT_.out (by kernel_rfl)) (fun _ _ _ h => h) (by rfl) (v := ?_) (a' := ?_) (by intro w'; go_simp; with_reducible rfl) (by simp only [np]; rfl) ?_
                     refine pu 7 42 (bm 11 207) rfl rfl (any_of HT_.out (by kernel_rfl)) (fun _ _ _ h => h) (by rfl) (v := ?_) (a' := ?_) (by intro w'; go_simp; with_reducible rfl) (by simp only [np]; rfl) ?_
                     refine pu 8 43 (bm 11 463) rfl rfl (any_of HT_.out (by kernel_rfl)) (fun _ _ _ h => h) (by rfl) (v := ?_) (a' := ?_) (by intro w'; go_simp; with_reducible rfl) (by simp only [np]; rfl) ?_
                     refine take_ (i := 4) (N := some 39) (v := ?_) (a' := ?_) (bm 11 479) rfl rfl (take_ofW HT_.out HW_.out (by kernel_rfl)) (fun _ _ _ h => h) (Or.inl ⟨by rfl, ?_⟩) hHeld ?_ ?_
                     rotate_left
                     · rintro w' ⟨s0, s1, s2, s3, s4, s5, s6, s7, s8, s9⟩; go_simp; with_reducible rfl
                     rotate_left
                     · simp only [np]; rfl
                     refine take_ (i := 9) (N := some 44) (v := ?_) (a' := ?_) (bm 11 991) rfl rfl (take_ofW HT_.out HW_.out (by kernel_rfl)) (fun _ _ _ h => h) (Or.inl ⟨by rfl, ?_⟩) hHeld ?_ ?_
                     rotate_left
                     · rintro w' ⟨s0, s1, s2, s3, s4, s5, s6, s7, s8, s9⟩; go_simp; with_reducible rfl
                     rotate_left
                     · simp only [np]; rfl
                     refine one_ (i := 5) (N := some 40) (bm 11 1023) rfl rfl (one_of HT_.out (by kernel_rfl)) (by decide) (fun K hK => ?_)
                     refine goes_ Try.func48 (by kernel_rfl) rfl #[.agg #[.int .i64 ((rd_T37 l0 x11_3).f0.f0), .int .i64 ((rd_T37 l0 x11_3).f0.f1), .int .i64 ((rd_T37 l0 x11_3).f0.f2), .int .i64 ((rd_T37 l0 x11_3).f0.f3), .int .i64 ((rd_T37 l0 x11_3).f0.f4), .int .i64 ((rd_T37 l0 x11_3).f0.f5), .int .i32 ((rd_T37 l0 x11_3).f0.f6), .slice A120_7 ((rd_T37 l0 x11_3).f0.f7).length c120_7]] (by rfl) rfl rfl (by (try simp only [List.map_toArray, List.map_cons, List.map_nil]); first | done | rfl | (simp only [List.length_drop, List.length_take]; rfl)) ?_
                     with_reducible refine (jacquardref16_changes.calls ((rd_T37 l0 x11_3).f0.f0) ((rd_T37 l0 x11_3).f0.f1) ((rd_T37 l0 x11_3).f0.f2) ((rd_T37 l0 x11_3).f0.f3) ((rd_T37 l0 x11_3).f0.f4) ((rd_T37 l0 x11_3).f0.f5) ((rd_T37 l0 x11_3).f0.f6) _ _ ((rd_T37 l0 x11_3).f0.f7) t121 _ ?side1 ?side2 A15.out).mono ?_
                     (case side1 => repeat (first | exact (Kd.C_below HR120_7.out HB.out) | (with_reducible refine Kd.C_alloc ?_ _) | (with_reducible refine Kd.C_drewN ?_ _) | (with_reducible refine Kd.C_drew ?_)))
                     (case side2 => exact HC120_7.out)
                     rintro e w29 ⟨v122, rfl, ho0, hb⟩
                     refine ⟨_, rfl, ?_⟩
                     have n0_ := Aside0.mk (Kd.R_lower ho0 (below_size (by repeat (first | (with_reducible first | exact HB.out | apply below_alloc | apply pw_below_drewN | apply below_drew1 | refine below_set ?_ GE118.out) | exact HB.out))))
                     have n1_ := Aside0.mk (blk_below (g := gb118) (o := .cells #[.int .i64 a3_0, .int .i64 a3_1, .int .i64 a3_2, .int .i64 a3_3] 27 (0, 0)) (by (with_reducible repeat (first | refine blk_drewN ?_ _ | refine blk_drew ?_ | refine blk_alloc ?_ _)); exact BK118.out) hb)
                     have n2_ := Aside0.mk (below_step (by repeat (first | (with_reducible first | exact HB.out | apply below_alloc | apply pw_below_drewN | apply below_drew1 | refine below_set ?_ GE118.out) | exact HB.out)) hb)
                     clear BK118; clear HB
                     have HO123 := n0_
                     have BK118 := n1_
                     have HB := n2_
                     clear n0_ n1_ n2_
                     (try clear hb)
                     (try clear hb2)
                     (try clear hk)
                     (try clear hi)
                     (try clear ho0)
                     obtain ⟨Ao30, co30, eo30⟩ := Kd.R_slice HO123.out
                     (first | subst eo30 | (injection eo30 with f1_ f2_ f3_; have f4_ := f1_.symm; have f5_ := f3_.symm; clear f1_ f2_ f3_; subst f4_; subst f5_))
                     refine hK.out _ _ ⟨((HB.out.cell (World.block_lt_of_cell? w _ hw120_0)).trans hw120_0), ((HB.out.cell (World.block_lt_of_cell? w _ hw120_1)).trans hw120_1), ((HB.out.cell (World.block_lt_of_cell? w _ hw120_2)).trans hw120_2), ((HB.out.cell (World.block_lt_of_cell? w _ hw120_3)).trans hw120_3), ((HB.out.cell (World.block_lt_of_cell? w _ hw120_4)).trans hw120_4), ((HB.out.cell (World.block_lt_of_cell? w _ hw120_5)).trans hw120_5), ((HB.out.cell (World.block_lt_of_cell? w _ hw120_6)).trans hw120_6), ((HB.out.cell (World.block_lt_of_cell? w _ hw120_7)).trans hw120_7), ((HB.out.cell (World.block_lt_of_cell? w _ hw120_8)).trans hw120_8), ((HB.out.cell (World.block_lt_of_cell? w _ hw124_0)).trans hw124_0)⟩ (fun hHeld => ?_)
                     clear hK K
                     refine norm_ (a' := ?_) ?_ ?_
                     rotate_left
                     · show Act.put _ (some 40) _ = _; simp only [np]; rfl
                     refine one_ (i := 10) (N := some 45) (bm 11 2047) rfl rfl (one_of HT_.out (by kernel_rfl)) (by decide) (fun K hK => ?_)
                     refine goes_ Try.func47 (by kernel_rfl) rfl #[.slice Ao30 t121.length co30, .int .i64 (rd l2 x10_2)] (by rfl) rfl rfl (by (try simp only [List.map_toArray, List.map_cons, List.map_nil]); first | done | rfl | (simp only [List.length_drop, List.length_take]; rfl)) ?_
                     with_reducible refine (jacquardref16_has.calls k3 _ _ t121 (rd l2 x10_2) false _ ?side1 ?side2 A18.out).mono ?_
                     (case side1 => repeat (first | exact (Kd.R_reads' HO123.out).2.2 | (with_reducible refine Kd.C_alloc ?_ _) | (with_reducible refine Kd.C_drewN ?_ _) | (with_reducible refine Kd.C_drew ?_)))
                     (case side2 => exact (Kd.R_reads' HO123.out).2.1)
                     rintro e w' ⟨rfl, ⟨nd, rfl⟩⟩
                     refine ⟨_, rfl, ?_⟩
                     refine hK.out _ _ ⟨((HB.out.cell (World.block_lt_of_cell? w _ hw120_0)).trans hw120_0), ((HB.out.cell (World.block_lt_of_cell? w _ hw120_1)).trans hw120_1), ((HB.out.cell (World.block_lt_of_cell? w _ hw120_2)).trans hw120_2), ((HB.out.cell (World.block_lt_of_cell? w _ hw120_3)).trans hw120_3), ((HB.out.cell (World.block_lt_of_cell? w _ hw120_4)).trans hw120_4), ((HB.out.cell (World.block_lt_of_cell? w _ hw120_5)).trans hw120_5), ((HB.out.cell (World.block_lt_of_cell? w _ hw120_6)).trans hw120_6), ((HB.out.cell (World.block_lt_of_cell? w _ hw120_7)).trans hw120_7), ((HB.out.cell (World.block_lt_of_cell? w _ hw120_8)).trans hw120_8), ((HB.out.cell (World.block_lt_of_cell? w _ hw124_0)).trans hw124_0)⟩ (fun hHeld => ?_)
                     clear hK K
                     refine norm_ (a' := ?_) ?_ ?_
                     rotate_left
                     · show Act.put _ (some 45) _ = _; simp only [np]; rfl
                     refine done_ (done_of HT_.out (by kernel_rfl)) ?_
                     try go_wp2
                     go_roundg k3
                     case measure => have := HJ4.out; have := HK2.out; have := HK3.out; omega
                     case rel => exact ⟨(x9_3), (wrap64 (x11_3 - 1)), (by first | rfl | (simp; done) | (simp [*]; done)), (by first | rfl | (simp; done) | (simp [*]; done)), H', ⟨by have := HJ4.out; have := HK2.out; have := HK3.out; omega⟩, ⟨by (with_reducible repeat (first | refine blk_drewN ?_ _ | refine blk_drew ?_ | refine blk_alloc ?_ _)); exact BK118.out⟩, ⟨by repeat (first | (with_reducible first | exact HB.out | apply below_alloc | apply pw_below_drewN | apply below_drew1 | refine below_set ?_ GE118.out) | exact HB.out)⟩⟩
                 · rw [if_neg c17] at H
                   exact absurd H (by simp)
               · rw [if_neg c16] at H
                 exact absurd H (by simp)
             · rw [if_neg c14] at H
               exact absurd H (by simp)
           · rw [if_neg c13] at H
             exact absurd H (by simp)
         · rw [if_neg c12] at H
           have c12b0 : decide (0 ≤ x11_3) = false := decide_eq_false c12
           clear c12
           have H' := Aside0.mk H
           clear H; go_wp2
           go_roundg k3
           case measure => have := HJ4.out; have := HK2.out; have := HK3.out; omega
           case rel => exact ⟨(x9_3), (wrap64 (x10_2 + 1)), (by first | rfl | (simp; done) | (simp [*]; done)), (by first | rfl | (simp; done) | (simp [*]; done)), H', ⟨by have := HJ4.out; have := HK2.out; have := HK3.out; omega⟩, ⟨by (with_reducible repeat (first | refine blk_drewN ?_ _ | refine blk_drew ?_ | refine blk_alloc ?_ _)); exact BK118.out⟩, ⟨by repeat (first | (with_reducible first | exact HB.out | apply below_alloc | apply pw_below_drewN | apply below_drew1 | refine below_set ?_ GE118.out) | exact HB.out)⟩⟩
     · rw [if_neg c11] at H
       have c11b0 : decide (x10_2 < (l2.length : Int)) = false := decide_eq_false c11
       clear c11
       obtain rfl := Option.some.inj H
       go_wp2; go_ret
       exact ⟨by first | rfl | (simp [errW_none, errW_some] <;> rfl) | (simp [*, errW_none, errW_some] <;> rfl), by repeat (first | (with_reducible first | exact HB.out | apply below_alloc | apply pw_below_drewN | apply below_drew1 | refine below_set ?_ GE118.out) | exact HB.out)⟩
end Go.Proofs.Ytocndmielggnpaa.PAll
end
section
namespace Go.Proofs.Ytocndmielggnpaa.PAll
open Go.RowKit Go.Proofs.YtocndmielggnpaaW.PrintWords Go.Proofs.YtocndmielggnpaaW.PrintLast Go.Proofs.YtocndmielggnpaaW.PrintMore
attribute [local go_sem] max2_int min2_int max_two min_two max_three min_three max_four min_four   -- for this text's walks alone
def jacquardref16_Cycles.l0 : Nat → List (S37) → List Int → Int → Int → Int → Int → List Int → Int → Int → Int → Int → Int → Option (Int)
 | 0, _, _, _, _, _, _, _, _, _, _, _, _ => none
 | k + 1, x0, x7, x8, x130000, x130001, x130002, x130003, x130004, x131000, x131001, x131002, x131003 => if x8 < (x0.length : Int) then (if 0 ≤ x8 then ((jacquardref12_Takes.f ((rd_T37 x0 x8).f0.f0) ((rd_T37 x0 x8).f0.f1) ((rd_T37 x0 x8).f0.f2) ((rd_T37 x0 x8).f0.f3) ((rd_T37 x0 x8).f0.f4) ((rd_T37 x0 x8).f0.f5) ((rd_T37 x0 x8).f0.f6) ((rd_T37 x0 x8).f0.f7)).bind fun t135 => ((jacquardref16_issue.f k x0 x7 t135 x131000 x131001 x131002 x131003).bind fun t138 => (if x7.length < 17592186044416 then (jacquardref16_Cycles.l0 k x0 (x7 ++ [t138]) (wrap64 (x8 + 1)) x130000 x130001 x130002 x130003 x130004 x131000 x131001 x131002 x131003) else (none)))) else (none)) else ((jacquardref16_needs.f x130000 x130001 x130002 x130003 x130004).bind fun t142 => ((jacquardref16_issue.f k x0 x7 t142 x131000 x131001 x131002 x131003).bind fun t145 => (some (wrap64 (t145 + 1)))))
def jacquardref16_Cycles.f (k : Nat) (l0 : List (S37)) (a1_0 : Int) (a1_1 : Int) (a1_2 : Int) (l1_3 : List Int) (a1_4 : Int) (a2_0 : Int) (a2_1 : Int) (a2_2 : Int) (a2_3 : Int) : Option (Int) := jacquardref16_Cycles.l0 k l0 (([] : List Int)) 0 a1_0 a1_1 a1_2 l1_3 a1_4 a2_0 a2_1 a2_2 a2_3
theorem jacquardref16_Cycles.mono_l : ∀ k, (∀ y0 y1 y2 y3 y4 y5 y6 y7 y8 y9 y10 y11, LeO (jacquardref16_Cycles.l0 k y0 y1 y2 y3 y4 y5 y6 y7 y8 y9 y10 y11) (jacquardref16_Cycles.l0 (k + 1) y0 y1 y2 y3 y4 y5 y6 y7 y8 y9 y10 y11))
 | 0 => fun _ _ _ _ _ _ _ _ _ _ _ _ r h => by simp [jacquardref16_Cycles.l0] at h
 | k + 1 => by
  have ih0 := jacquardref16_Cycles.mono_l k
  · intro y0 y1 y2 y3 y4 y5 y6 y7 y8 y9 y10 y11
    unfold jacquardref16_Cycles.l0
    repeat' first
    | (with_reducible exact ih0 _ _ _ _ _ _ _ _ _ _ _ _)
    | (with_reducible exact jacquardref16_issue.mono _ _ _ _ _ _ _ _)
    | (with_reducible exact LeO.refl _)
    | (with_reducible exact LeO.none _)
    | (with_reducible refine LeO.ite ?_ ?_)
    | (with_reducible refine LeO.bind ?_ (fun _ => ?_))
    | exact ih0 _ _ _ _ _ _ _ _ _ _ _ _
    | exact jacquardref16_issue.mono _ _ _ _ _ _ _ _
    | exact LeO.none _
    | refine LeO.ite ?_ ?_
    | refine LeO.bind ?_ (fun _ => ?_)
theorem jacquardref16_Cycles.mono : ∀ a0 a1 a2 a3 a4 a5 a6 a7 a8 a9 k, LeO (jacquardref16_Cycles.f k a0 a1 a2 a3 a4 a5 a6 a7 a8 a9) (jacquardref16_Cycles.f (k + 1) a0 a1 a2 a3 a4 a5 a6 a7 a8 a9) := by
 intro a0 a1 a2 a3 a4 a5 a6 a7 a8 a9 k
 have ih0 := jacquardref16_Cycles.mono_l k
 unfold jacquardref16_Cycles.f
 repeat' first
     | (with_reducible exact ih0 _ _ _ _ _ _ _ _ _ _ _ _)
     | (with_reducible exact jacquardref16_issue.mono _ _ _ _ _ _ _ _)
     | (with_reducible exact LeO.refl _)
     | (with_reducible exact LeO.none _)
     | (with_reducible refine LeO.ite ?_ ?_)
     | (with_reducible refine LeO.bind ?_ (fun _ => ?_))
     | exact ih0 _ _ _ _ _ _ _ _ _ _ _ _
     | exact jacquardref16_issue.mono _ _ _ _ _ _ _ _
     | exact LeO.none _
     | refine LeO.ite ?_ ?_
     | refine LeO.bind ?_ (fun _ => ?_)
def jacquardref16_Cycles.T5 : Bool × List (List Nat × List Nat) := (true, [([], []), ([], []), ([], []), ([], []), ([], []), ([3, 4], [3, 4]), ([5], [5]), ([6], [6]), ([7], [7]), ([], []), ([1, 2, 8, 9, 8], [1, 2, 8, 9]), ([10], [10]), ([0, 11, 10], [0, 11]), ([12, 12, 0, 1, 2, 3, 4, 5, 6, 7, 8, 9, 10, 11, 12], [0, 2, 12])])
def jacquardref16_Cycles.B5 : List Nat := [0, 0, 0, 0, 0, 24, 56, 120, 248, 0, 1022, 2046, 4095, 8191]
theorem jacquardref16_Cycles.tab5 : rtab .any (opsOf Try.f11 5) = jacquardref16_Cycles.T5 := by kernel_rfl
theorem jacquardref16_Cycles.bits5 : waitsOk jacquardref16_Cycles.T5.2 jacquardref16_Cycles.B5 = true := by kernel_rfl
def jacquardref16_Cycles.T6 : Bool × List (List Nat × List Nat) := (true, [([], []), ([], []), ([], []), ([2], [2]), ([], []), ([0, 1, 3, 4, 3], [0, 1, 3, 4]), ([5], [5]), ([6, 5, 0, 1, 2, 3, 4, 5, 6], [6])])
def jacquardref16_Cycles.B6 : List Nat := [0, 0, 0, 4, 0, 31, 63, 127]
theorem jacquardref16_Cycles.tab6 : rtab .any (opsOf Try.f11 6) = jacquardref16_Cycles.T6 := by kernel_rfl
theorem jacquardref16_Cycles.bits6 : waitsOk jacquardref16_Cycles.T6.2 jacquardref16_Cycles.B6 = true := by kernel_rfl
set_option maxHeartbeats 8000000 in
set_option maxRecDepth 100000 in
theorem jacquardref16_Cycles.calls (k : Nat) (A0 : Option Addr) (c0 : Nat) (l0 : List (S37)) (a1_0 : Int) (a1_1 : Int) (a1_2 : Int) (A1_3 : Option Addr) (c1_3 : Nat) (l1_3 : List Int) (a1_4 : Int) (a2_0 : Int) (a2_1 : Int) (a2_2 : Int) (a2_3 : Int) (r : Int) (w : World) (hr0 : Kd.C k37 w A0 l0.length l0) (hc0 : l0.length ≤ c0) (hr1_3 : Kd.C (Kd.int .i64) w A1_3 l1_3.length l1_3) (hc1_3 : l1_3.length ≤ c1_3) (h : jacquardref16_Cycles.f k l0 a1_0 a1_1 a1_2 l1_3 a1_4 a2_0 a2_1 a2_2 a2_3 = some r) :
    Calls Try.prog 11 #[.slice A0 l0.length c0, .agg #[.int .i64 a1_0, .int .i64 a1_1, .int .i64 a1_2, .slice A1_3 l1_3.length c1_3, .int .i32 a1_4], .agg #[.int .i64 a2_0, .int .i64 a2_1, .int .i64 a2_2, .int .i64 a2_3]] w fun e w' => e = .returned (.int .i64 r) ∧ Below w.heap.size w w' := by
 have hu25 := Try.underlying25
 have hu27 := Try.underlying27
 have hu35 := Try.underlying35
 have HR0 := Aside0.mk hr0
 have HC0 := Aside0.mk hc0
 clear hr0 hc0
 have HR1_3 := Aside0.mk hr1_3
 have HC1_3 := Aside0.mk hc1_3
 clear hr1_3 hc1_3
 have HB := Aside0.mk (Below.refl w.heap.size w)
 have H : (jacquardref16_Cycles.l0 k l0 (([] : List Int)) 0 a1_0 a1_1 a1_2 l1_3 a1_4 a2_0 a2_1 a2_2 a2_3) = some r := h
 clear h
 obtain ⟨y131, hy131⟩ : ∃ y_ : List Int, y_ = (([] : List Int)) := ⟨_, rfl⟩
 replace H : (jacquardref16_Cycles.l0 k l0 y131 0 a1_0 a1_1 a1_2 l1_3 a1_4 a2_0 a2_1 a2_2 a2_3) = some r := by first | (rw [hy131]; with_reducible exact H) | (have H2_ := (Option.bind_some _ _).symm.trans H; rw [hy131]; with_reducible exact H2_) | (have H2_ := (Option.bind_some _ _).symm.trans H; with_reducible exact H2_) | with_reducible exact H | (rw [hy131]; exact H) | exact H
 have Ny131 := Aside0.mk hy131
 clear hy131
 have H' := Aside0.mk H
 clear H
 go_enter Try.func11, Try.ntmps11
 go_wp2_with (first | ((with_reducible refine gate_dst (N := 4) rfl ?_); refine box_event ?hg (N := 4) ?hd (cs := #[.int .i64 a1_0, .int .i64 a1_1, .int .i64 a1_2, .slice A1_3 l1_3.length c1_3, .int .i32 a1_4]) (t := 25) ?hr ?_; (case hd => rfl); (case hg => rfl); (case hr => first | (go_simp; done) | (go_simp; rfl)); intro gb129 hg w4 hbox hb; have n0_ := Aside0.mk (below_step (by repeat (first | (with_reducible first | exact HB.out | apply below_alloc | apply pw_below_drewN | apply below_drew1) | exact HB.out)) hb); have n1_ := Aside0.mk (hbox); have n2_ := Aside0.mk ((by rw [hg]; exact (below_size (by repeat (first | (with_reducible first | exact HB.out | apply below_alloc | apply pw_below_drewN | apply below_drew1) | exact HB.out))) : w.heap.size ≤ gb129)); have n3_ := Aside0.mk ((by rw [hg]; exact (below_size (by repeat (first | (with_reducible first | exact HB.out | apply below_alloc | apply pw_below_drewN | apply below_drew1) | exact HB.out))) : w.heap.size ≤ gb129)); clear HB; have HB := n0_; have BK129 := n1_; have GW129 := n2_; have GE129 := n3_; clear n0_ n1_ n2_ n3_; clear hb hbox hg) | ((with_reducible refine gate_dst (N := 5) rfl ?_); refine box_event ?hg (N := 5) ?hd (cs := #[.int .i64 a2_0, .int .i64 a2_1, .int .i64 a2_2, .int .i64 a2_3]) (t := 27) ?hr ?_; (case hd => rfl); (case hg => rfl); (case hr => first | (go_simp; done) | (go_simp; rfl)); intro gb130 hg w5 hbox hb; have n0_ := Aside0.mk (blk_below (g := gb129) (o := .cells #[.int .i64 a1_0, .int .i64 a1_1, .int .i64 a1_2, .slice A1_3 l1_3.length c1_3, .int .i32 a1_4] 25 (0, 0)) (by (with_reducible repeat (first | refine blk_drewN ?_ _ | refine blk_drew ?_ | refine blk_alloc ?_ _)); exact BK129.out) hb); have n1_ := Aside0.mk (below_step (by repeat (first | (with_reducible first | exact HB.out | apply below_alloc | apply pw_below_drewN | apply below_drew1 | refine below_set ?_ GE129.out) | exact HB.out)) hb); have n2_ := Aside0.mk (hbox); have n3_ := Aside0.mk ((by rw [hg]; exact (below_size (by repeat (first | (with_reducible first | exact HB.out | apply below_alloc | apply pw_below_drewN | apply below_drew1 | refine below_set ?_ GE129.out) | exact HB.out))) : w.heap.size ≤ gb130)); have n4_ := Aside0.mk ((by rw [hg]; exact (below_size (by repeat (first | (with_reducible first | exact HB.out | apply below_alloc | apply pw_below_drewN | apply below_drew1 | refine below_set ?_ GE129.out) | exact HB.out))) : w.heap.size ≤ gb130)); have n5_ := Aside0.mk ((by rw [hg]; exact Nat.ne_of_lt (blk_lt (g := gb129) (o := .cells #[.int .i64 a1_0, .int .i64 a1_1, .int .i64 a1_2, .slice A1_3 l1_3.length c1_3, .int .i32 a1_4] 25 (0, 0)) (by (with_reducible repeat (first | refine blk_drewN ?_ _ | refine blk_drew ?_ | refine blk_alloc ?_ _)); exact BK129.out)) : gb129 ≠ gb130)); have n6_ := Aside0.mk ((by rw [hg]; exact Nat.ne_of_gt (blk_lt (g := gb129) (o := .cells #[.int .i64 a1_0, .int .i64 a1_1, .int .i64 a1_2, .slice A1_3 l1_3.length c1_3, .int .i32 a1_4] 25 (0, 0)) (by (with_reducible repeat (first | refine blk_drewN ?_ _ | refine blk_drew ?_ | refine blk_alloc ?_ _)); exact BK129.out)) : gb130 ≠ gb129)); clear BK129; clear HB; have BK129 := n0_; have HB := n1_; have BK130 := n2_; have GW130 := n3_; have GE130 := n4_; have NB129_130 := n5_; have NB130_129 := n6_; clear n0_ n1_ n2_ n3_ n4_ n5_ n6_; clear hb hbox hg) | ((with_reducible refine gate_dst (N := 9) rfl ?_); refine Kd.R_lit (Kd.int .i64) _ 3 ?hg (N := 9) ?hd (xs := ([] : List Int)) (inner := []) (ok := fun _ => True) (okp := fun _ => True) ?hr ?hp (fun _ hk => hk) trivial (Below.refl _ _) (Nat.le_refl _) (by simp) ?_; (case hd => rfl); (case hg => rfl); (case hr => first | (go_simp; done) | (go_simp; rfl)); (case hp => exact (Reps.none _ _)); intro v132 w6 ho7 hb hg_ hnew_; clear hg_ hnew_; (first | rw [← Ny131.out] at ho7 | (simp only [Int.reduceToNat] at ho7; rw [← Ny131.out] at ho7)); have n0_ := Aside0.mk (Kd.R_lower ho7 (below_size (by repeat (first | (with_reducible first | exact HB.out | apply below_alloc | apply pw_below_drewN | apply below_drew1 | refine below_set ?_ GE129.out | refine below_set ?_ GE130.out) | exact HB.out)))); have n1_ := Aside0.mk (blk_below (g := gb129) (o := .cells #[.int .i64 a1_0, .int .i64 a1_1, .int .i64 a1_2, .slice A1_3 l1_3.length c1_3, .int .i32 a1_4] 25 (0, 0)) (by (with_reducible repeat (first | refine blk_drewN ?_ _ | refine blk_drew ?_ | refine blk_alloc ?_ _)); exact BK129.out) hb); have n2_ := Aside0.mk (blk_below (g := gb130) (o := .cells #[.int .i64 a2_0, .int .i64 a2_1, .int .i64 a2_2, .int .i64 a2_3] 27 (0, 0)) (by (with_reducible repeat (first | refine blk_drewN ?_ _ | refine blk_drew ?_ | refine blk_alloc ?_ _)); exact BK130.out) hb); have n3_ := Aside0.mk (below_step (by repeat (first | (with_reducible first | exact HB.out | apply below_alloc | apply pw_below_drewN | apply below_drew1 | refine below_set ?_ GE129.out | refine below_set ?_ GE130.out) | exact HB.out)) hb); clear BK129; clear BK130; clear HB; have HO133 := n0_; have BK129 := n1_; have BK130 := n2_; have HB := n3_; clear n0_ n1_ n2_ n3_; clear hb ho7))
 go_loopg [7, 8] k (fun kq v7 v8 w' => ∃ (x7_1 : List Int) (x8_1 : Int), v8 = .int .i64 x8_1 ∧ Aside0 (jacquardref16_Cycles.l0 kq l0 x7_1 x8_1 a1_0 a1_1 a1_2 l1_3 a1_4 a2_0 a2_1 a2_2 a2_3 = some r) ∧ Aside0 (kq ≤ k) ∧ Aside0 (Kd.R (Kd.int .i64) 3 w' w.heap.size (fun _ => True) v7 x7_1) ∧ Aside0 (w'.heap[gb129]? = some (.cells #[.int .i64 a1_0, .int .i64 a1_1, .int .i64 a1_2, (.slice A1_3 l1_3.length c1_3), .int .i32 a1_4] 25 (0, 0))) ∧ Aside0 (w'.heap[gb130]? = some (.cells #[.int .i64 a2_0, .int .i64 a2_1, .int .i64 a2_2, .int .i64 a2_3] 27 (0, 0))) ∧ Aside0 (Below w.heap.size w w'))
 case atStart => exact ⟨(y131), (0), (by first | rfl | (simp; done) | (simp [*]; done)), H', ⟨Nat.le_refl _⟩, ⟨by (with_reducible repeat (first | apply Kd.R_alloc | apply Kd.R_drewN | apply Kd.R_drew)); exact HO133.out⟩, ⟨by (with_reducible repeat (first | refine blk_drewN ?_ _ | refine blk_drew ?_ | refine blk_alloc ?_ _)); exact BK129.out⟩, ⟨by (with_reducible repeat (first | refine blk_drewN ?_ _ | refine blk_drew ?_ | refine blk_alloc ?_ _)); exact BK130.out⟩, ⟨by repeat (first | (with_reducible first | exact HB.out | apply below_alloc | apply pw_below_drewN | apply below_drew1 | refine below_set ?_ GE129.out | refine below_set ?_ GE130.out) | exact HB.out)⟩⟩
 case round =>
  clear H'
  (try clear c1); (try clear p2)
  obtain ⟨x7_1, x8_1, rfl, HA, HK1, HO_7, BK129, BK130, HB⟩ := hrel
  cases gk with
  | zero => exact absurd HA.out (by simp [jacquardref16_Cycles.l0])
  | succ k1 =>
   have H := HA.out
   clear HA
   simp only [jacquardref16_Cycles.l0] at H
   by_cases c8 : x8_1 < (l0.length : Int)
   · rw [if_pos c8] at H
     have c8b0 : decide (x8_1 < (l0.length : Int)) = true := decide_eq_true c8
     clear c8
     by_cases c9 : 0 ≤ x8_1
     · rw [if_pos c9] at H
       have c9b0 : decide (0 ≤ x8_1) = true := decide_eq_true c9
       clear c9
       replace H := Option.bind_eq_some_iff.mp H
       obtain ⟨t135, A100, H⟩ := H
       replace H : ((jacquardref16_issue.f k1 l0 x7_1 t135 a2_0 a2_1 a2_2 a2_3).bind fun t138 => (if x7_1.length < 17592186044416 then (jacquardref16_Cycles.l0 k1 l0 (x7_1 ++ [t138]) (wrap64 (x8_1 + 1)) a1_0 a1_1 a1_2 l1_3 a1_4 a2_0 a2_1 a2_2 a2_3) else (none))) = some r := H
       have A10 := Aside0.mk A100
       clear A100
       replace H := Option.bind_eq_some_iff.mp H
       obtain ⟨t138, A110, H⟩ := H
       replace H : (if x7_1.length < 17592186044416 then (jacquardref16_Cycles.l0 k1 l0 (x7_1 ++ [t138]) (wrap64 (x8_1 + 1)) a1_0 a1_1 a1_2 l1_3 a1_4 a2_0 a2_1 a2_2 a2_3) else (none)) = some r := H
       have A11 := Aside0.mk A110
       clear A110
       by_cases c12 : x7_1.length < 17592186044416
       · rw [if_pos c12] at H
         have LMc12 := Aside0.mk c12
         clear c12
         obtain ⟨y139, hy139⟩ : ∃ y_ : List Int, y_ = (x7_1 ++ [t138]) := ⟨_, rfl⟩
         replace H : (jacquardref16_Cycles.l0 k1 l0 y139 (wrap64 (x8_1 + 1)) a1_0 a1_1 a1_2 l1_3 a1_4 a2_0 a2_1 a2_2 a2_3) = some r := by first | (rw [hy139]; with_reducible exact H) | (have H2_ := (Option.bind_some _ _).symm.trans H; rw [hy139]; with_reducible exact H2_) | (have H2_ := (Option.bind_some _ _).symm.trans H; with_reducible exact H2_) | with_reducible exact H | (rw [hy139]; exact H) | exact H
         have Ny139 := Aside0.mk hy139
         clear hy139
         have H' := Aside0.mk H
         clear H
         try go_wp2
         have n0_ := Aside0.mk (Kd.R_drew HO_7.out)
         have n1_ := Aside0.mk (blk_drew BK129.out)
         have n2_ := Aside0.mk (blk_drew BK130.out)
         have n3_ := Aside0.mk (below_drew1 HB.out)
         clear HO_7; clear BK129; clear BK130; clear HB
         have HO_7 := n0_
         have BK129 := n1_
         have BK130 := n2_
         have HB := n3_
         clear n0_ n1_ n2_ n3_
         have p134 : 0 ≤ (x8_1 : Int) := of_decide_eq_true (by first | (with_reducible assumption) | assumption)
         have q134 : x8_1 < (l0.length : Int) := of_decide_eq_true (by first | (with_reducible assumption) | assumption)
         obtain ⟨ad134, A134_7, c134_7, e134, hx134_0, hx134_1, hx134_2, hx134_3, hx134_4, hx134_5, hx134_6, hx134_7, hx134_8, hl134_7, hi134_7⟩ := at_T37 HR0.out x8_1 p134 q134
         have hw134_8 := hx134_8
         have hw134_7 := hx134_7
         have hw134_6 := hx134_6
         have hw134_5 := hx134_5
         have hw134_4 := hx134_4
         have hw134_3 := hx134_3
         have hw134_2 := hx134_2
         have hw134_1 := hx134_1
         have hw134_0 := hx134_0
         cases e134
         replace hx134_0 := (HB.out.cell (World.block_lt_of_cell? w _ hx134_0)).trans hx134_0
         replace hx134_1 := (HB.out.cell (World.block_lt_of_cell? w _ hx134_1)).trans hx134_1
         replace hx134_2 := (HB.out.cell (World.block_lt_of_cell? w _ hx134_2)).trans hx134_2
         replace hx134_3 := (HB.out.cell (World.block_lt_of_cell? w _ hx134_3)).trans hx134_3
         replace hx134_4 := (HB.out.cell (World.block_lt_of_cell? w _ hx134_4)).trans hx134_4
         replace hx134_5 := (HB.out.cell (World.block_lt_of_cell? w _ hx134_5)).trans hx134_5
         replace hx134_6 := (HB.out.cell (World.block_lt_of_cell? w _ hx134_6)).trans hx134_6
         replace hx134_7 := (HB.out.cell (World.block_lt_of_cell? w _ hx134_7)).trans hx134_7
         replace hx134_8 := (HB.out.cell (World.block_lt_of_cell? w _ hx134_8)).trans hx134_8
         have HR134_7 := Aside0.mk hi134_7
         have HC134_7 := Aside0.mk hl134_7
         clear hi134_7 hl134_7
         replace p134 := eq_true p134
         replace q134 := eq_true q134
         refine start_ (n := 14) (S := fun w' => w'.cell? ⟨gb130, 0, none⟩ = some (.int .i64 a2_0) ∧ w'.cell? ⟨gb130, 1, none⟩ = some (.int .i64 a2_1) ∧ w'.cell? ⟨gb130, 2, none⟩ = some (.int .i64 a2_2) ∧ w'.cell? ⟨gb130, 3, none⟩ = some (.int .i64 a2_3) ∧ w'.cell? (ad134.add ((x8_1).toNat * 9)) = some (.int .i64 ((rd_T37 l0 x8_1).f0.f0)) ∧ w'.cell? ⟨(ad134.add ((x8_1).toNat * 9)).block, (ad134.add ((x8_1).toNat * 9)).off + 1, none⟩ = some (.int .i64 ((rd_T37 l0 x8_1).f0.f1)) ∧ w'.cell? ⟨(ad134.add ((x8_1).toNat * 9)).block, (ad134.add ((x8_1).toNat * 9)).off + 2, none⟩ = some (.int .i64 ((rd_T37 l0 x8_1).f0.f2)) ∧ w'.cell? ⟨(ad134.add ((x8_1).toNat * 9)).block, (ad134.add ((x8_1).toNat * 9)).off + 3, none⟩ = some (.int .i64 ((rd_T37 l0 x8_1).f0.f3)) ∧ w'.cell? ⟨(ad134.add ((x8_1).toNat * 9)).block, (ad134.add ((x8_1).toNat * 9)).off + 4, none⟩ = some (.int .i64 ((rd_T37 l0 x8_1).f0.f4)) ∧ w'.cell? ⟨(ad134.add ((x8_1).toNat * 9)).block, (ad134.add ((x8_1).toNat * 9)).off + 5, none⟩ = some (.int .i64 ((rd_T37 l0 x8_1).f0.f5)) ∧ w'.cell? ⟨(ad134.add ((x8_1).toNat * 9)).block, (ad134.add ((x8_1).toNat * 9)).off + 6, none⟩ = some (.int .i32 ((rd_T37 l0 x8_1).f0.f6)) ∧ w'.cell? ⟨(ad134.add ((x8_1).toNat * 9)).block, (ad134.add ((x8_1).toNat * 9)).off + 7, none⟩ = some (.slice A134_7 ((rd_T37 l0 x8_1).f0.f7).length c134_7) ∧ w'.cell? ⟨(ad134.add ((x8_1).toNat * 9)).block, (ad134.add ((x8_1).toNat * 9)).off + 8, none⟩ = some (.int .i64 ((rd_T37 l0 x8_1).f1))) (ds := []) (bm 14 0) (by kernel_rfl) rfl rfl ⟨(blk_cell BK130.out 0).trans rfl, (blk_cell BK130.out 1).trans rfl, (blk_cell BK130.out 2).trans rfl, (blk_cell BK130.out 3).trans rfl, ((HB.out.cell (World.block_lt_of_cell? w _ hw134_0)).trans hw134_0), ((HB.out.cell (World.block_lt_of_cell? w _ hw134_1)).trans hw134_1), ((HB.out.cell (World.block_lt_of_cell? w _ hw134_2)).trans hw134_2), ((HB.out.cell (World.block_lt_of_cell? w _ hw134_3)).trans hw134_3), ((HB.out.cell (World.block_lt_of_cell? w _ hw134_4)).trans hw134_4), ((HB.out.cell (World.block_lt_of_cell? w _ hw134_5)).trans hw134_5), ((HB.out.cell (World.block_lt_of_cell? w _ hw134_6)).trans hw134_6), ((HB.out.cell (World.block_lt_of_cell? w _ hw134_7)).trans hw134_7), ((HB.out.cell (World.block_lt_of_cell? w _ hw134_8)).trans hw134_8)⟩ (fun hHeld => ?_); refine with_tabW jacquardref16_Cycles.tab5 jacquardref16_Cycles.bits5 (fun HT_ HW_ => ?_)
         generalize wr.drew = w13 at HO_7 BK129 BK130 HB HR134_7 hx134_0 hx134_1 hx134_2 hx134_3 hx134_4 hx134_5 hx134_6 hx134_7 hx134_8 hHeld ⊢
         refine pu 0 16 (bm 14 1) rfl rfl (any_of HT_.out (by kernel_rfl)) (fun _ _ _ h => h) (by rfl) (v := ?_) (a' := ?_) (by intro w'; go_simp; with_reducible rfl) (by simp only [np]; rfl) ?_
         refine pu 1 17 (bm 14 3) rfl rfl (any_of HT_.out (by kernel_rfl)) (fun _ _ _ h => h) (by rfl) (v := ?_) (a' := ?_) (by intro w'; go_simp; with_reducible rfl) (by simp only [np]; rfl) ?_
         refine pu 2 18 (bm 14 7) rfl rfl (any_of HT_.out (by kernel_rfl)) (fun _ _ _ h => h) (by rfl) (v := ?_) (a' := ?_) (by intro w'; go_simp; with_reducible rfl) (by simp only [np]; rfl) ?_
         refine pu 3 19 (bm 14 15) rfl rfl (any_of HT_.out (by kernel_rfl)) (fun _ _ _ h => h) (by rfl) (v := ?_) (a' := ?_) (by intro w'; go_simp; with_reducible rfl) (by simp only [np]; rfl) ?_
         refine pu 4 20 (bm 14 31) rfl rfl (any_of HT_.out (by kernel_rfl)) (fun _ _ _ h => h) (by rfl) (v := ?_) (a' := ?_) (by intro w'; go_simp; with_reducible rfl) (by simp only [np]; rfl) ?_
         refine pu 5 21 (bm 14 63) rfl rfl (any_of HT_.out (by kernel_rfl)) (fun _ _ _ h => h) (by rfl) (v := ?_) (a' := ?_) (by intro w'; go_simp; with_reducible rfl) (by simp only [np]; rfl) ?_
         refine pu 6 22 (bm 14 127) rfl rfl (any_of HT_.out (by kernel_rfl)) (fun _ _ _ h => h) (by rfl) (v := ?_) (a' := ?_) (by intro w'; go_simp; with_reducible rfl) (by simp only [np]; rfl) ?_
         refine take_ (i := 7) (N := some 23) (v := ?_) (a' := ?_) (bm 14 255) rfl rfl (take_ofW HT_.out HW_.out (by kernel_rfl)) (fun _ _ _ h => h) (Or.inl ⟨by rfl, ?_⟩) hHeld ?_ ?_
         rotate_left
         · rintro w' ⟨s0, s1, s2, s3, s4, s5, s6, s7, s8, s9, s10, s11, s12⟩; go_simp; with_reducible rfl
         rotate_left
         · simp only [np]; rfl
         refine take_ (i := 9) (N := some 25) (v := ?_) (a' := ?_) (bm 14 767) rfl rfl (take_ofW HT_.out HW_.out (by kernel_rfl)) (fun _ _ _ h => h) (Or.inl ⟨by rfl, ?_⟩) hHeld ?_ ?_
         rotate_left
         · rintro w' ⟨s0, s1, s2, s3, s4, s5, s6, s7, s8, s9, s10, s11, s12⟩; go_simp; with_reducible rfl
         rotate_left
         · simp only [np]; rfl
         refine one_ (i := 8) (N := some 24) (bm 14 1023) rfl rfl (one_of HT_.out (by kernel_rfl)) (by decide) (fun K hK => ?_)
         refine goes_ Try.func27 (by kernel_rfl) rfl #[.agg #[.int .i64 ((rd_T37 l0 x8_1).f0.f0), .int .i64 ((rd_T37 l0 x8_1).f0.f1), .int .i64 ((rd_T37 l0 x8_1).f0.f2), .int .i64 ((rd_T37 l0 x8_1).f0.f3), .int .i64 ((rd_T37 l0 x8_1).f0.f4), .int .i64 ((rd_T37 l0 x8_1).f0.f5), .int .i32 ((rd_T37 l0 x8_1).f0.f6), .slice A134_7 ((rd_T37 l0 x8_1).f0.f7).length c134_7]] (by rfl) rfl rfl (by (try simp only [List.map_toArray, List.map_cons, List.map_nil]); first | done | rfl | (simp only [List.length_drop, List.length_take]; rfl)) ?_
         with_reducible refine (jacquardref12_Takes.calls ((rd_T37 l0 x8_1).f0.f0) ((rd_T37 l0 x8_1).f0.f1) ((rd_T37 l0 x8_1).f0.f2) ((rd_T37 l0 x8_1).f0.f3) ((rd_T37 l0 x8_1).f0.f4) ((rd_T37 l0 x8_1).f0.f5) ((rd_T37 l0 x8_1).f0.f6) _ _ ((rd_T37 l0 x8_1).f0.f7) t135 _ ?side1 ?side2 A10.out).mono ?_
         (case side1 => repeat (first | exact (Kd.C_below HR134_7.out HB.out) | (with_reducible refine Kd.C_alloc ?_ _) | (with_reducible refine Kd.C_drewN ?_ _) | (with_reducible refine Kd.C_drew ?_)))
         (case side2 => exact HC134_7.out)
         rintro e w14 ⟨v136, rfl, ho0, hb⟩
         refine ⟨_, rfl, ?_⟩
         have n0_ := Aside0.mk (Kd.R_elder' (by (with_reducible repeat (first | apply Kd.R_alloc | apply Kd.R_drewN | apply Kd.R_drew)); exact HO_7.out) (Kd.R_base ho0) hb)
         have n1_ := Aside0.mk (Kd.R_lower (Kd.R_new' ho0 (Kd.R_lt (by (with_reducible repeat (first | apply Kd.R_alloc | apply Kd.R_drewN | apply Kd.R_drew)); exact HO_7.out))) (below_size (by repeat (first | (with_reducible first | exact HB.out | apply below_alloc | apply pw_below_drewN | apply below_drew1 | refine below_set ?_ GE129.out | refine below_set ?_ GE130.out) | exact HB.out))))
         have n2_ := Aside0.mk (blk_below (g := gb129) (o := .cells #[.int .i64 a1_0, .int .i64 a1_1, .int .i64 a1_2, .slice A1_3 l1_3.length c1_3, .int .i32 a1_4] 25 (0, 0)) (by (with_reducible repeat (first | refine blk_drewN ?_ _ | refine blk_drew ?_ | refine blk_alloc ?_ _)); exact BK129.out) hb)
         have n3_ := Aside0.mk (blk_below (g := gb130) (o := .cells #[.int .i64 a2_0, .int .i64 a2_1, .int .i64 a2_2, .int .i64 a2_3] 27 (0, 0)) (by (with_reducible repeat (first | refine blk_drewN ?_ _ | refine blk_drew ?_ | refine blk_alloc ?_ _)); exact BK130.out) hb)
         have n4_ := Aside0.mk (below_step (by repeat (first | (with_reducible first | exact HB.out | apply below_alloc | apply pw_below_drewN | apply below_drew1 | refine below_set ?_ GE129.out | refine below_set ?_ GE130.out) | exact HB.out)) hb)
         clear HO_7; clear BK129; clear BK130; clear HB
         have HO_7 := n0_
         have HO137 := n1_
         have BK129 := n2_
         have BK130 := n3_
         have HB := n4_
         clear n0_ n1_ n2_ n3_ n4_
         (try clear hb)
         (try clear hb2)
         (try clear hk)
         (try clear hi)
         (try clear ho0)
         obtain ⟨Ao15, co15, eo15⟩ := Kd.R_slice HO_7.out
         (first | subst eo15 | (injection eo15 with f1_ f2_ f3_; have f4_ := f1_.symm; have f5_ := f3_.symm; clear f1_ f2_ f3_; subst f4_; subst f5_))
         obtain ⟨Ao16, co16, eo16⟩ := Kd.R_slice HO137.out
         (first | subst eo16 | (injection eo16 with f1_ f2_ f3_; have f4_ := f1_.symm; have f5_ := f3_.symm; clear f1_ f2_ f3_; subst f4_; subst f5_))
         refine hK.out _ _ ⟨(blk_cell BK130.out 0).trans rfl, (blk_cell BK130.out 1).trans rfl, (blk_cell BK130.out 2).trans rfl, (blk_cell BK130.out 3).trans rfl, ((HB.out.cell (World.block_lt_of_cell? w _ hw134_0)).trans hw134_0), ((HB.out.cell (World.block_lt_of_cell? w _ hw134_1)).trans hw134_1), ((HB.out.cell (World.block_lt_of_cell? w _ hw134_2)).trans hw134_2), ((HB.out.cell (World.block_lt_of_cell? w _ hw134_3)).trans hw134_3), ((HB.out.cell (World.block_lt_of_cell? w _ hw134_4)).trans hw134_4), ((HB.out.cell (World.block_lt_of_cell? w _ hw134_5)).trans hw134_5), ((HB.out.cell (World.block_lt_of_cell? w _ hw134_6)).trans hw134_6), ((HB.out.cell (World.block_lt_of_cell? w _ hw134_7)).trans hw134_7), ((HB.out.cell (World.block_lt_of_cell? w _ hw134_8)).trans hw134_8)⟩ (fun hHeld => ?_)
         clear hK K
         refine norm_ (a' := ?_) ?_ ?_
         rotate_left
         · show Act.put _ (some 24) _ = _; simp only [np]; rfl
         refine one_ (i := 10) (N := some 26) (bm 14 2047) rfl rfl (one_of HT_.out (by kernel_rfl)) (by decide) (fun K hK => ?_)
         refine goes_ Try.func26 (by kernel_rfl) rfl #[.slice (some ad134) l0.length c0, .slice Ao15 x7_1.length co15, .slice Ao16 t135.length co16, .agg #[.int .i64 a2_0, .int .i64 a2_1, .int .i64 a2_2, .int .i64 a2_3]] (by rfl) rfl rfl (by (try simp only [List.map_toArray, List.map_cons, List.map_nil]); first | done | rfl | (simp only [List.length_drop, List.length_take]; rfl)) ?_
         with_reducible refine (jacquardref16_issue.calls k1 _ _ l0 _ _ x7_1 _ _ t135 a2_0 a2_1 a2_2 a2_3 t138 _ ?side1 ?side2 ?side3 ?side4 ?side5 ?side6 A11.out).mono ?_
         (case side1 => repeat (first | exact (Kd.C_below HR0.out HB.out) | (with_reducible refine Kd.C_alloc ?_ _) | (with_reducible refine Kd.C_drewN ?_ _) | (with_reducible refine Kd.C_drew ?_)))
         (case side2 => exact HC0.out)
         (case side3 => repeat (first | exact (Kd.R_reads' HO_7.out).2.2 | (with_reducible refine Kd.C_alloc ?_ _) | (with_reducible refine Kd.C_drewN ?_ _) | (with_reducible refine Kd.C_drew ?_)))
         (case side4 => exact (Kd.R_reads' HO_7.out).2.1)
         (case side5 => repeat (first | exact (Kd.R_reads' HO137.out).2.2 | (with_reducible refine Kd.C_alloc ?_ _) | (with_reducible refine Kd.C_drewN ?_ _) | (with_reducible refine Kd.C_drew ?_)))
         (case side6 => exact (Kd.R_reads' HO137.out).2.1)
         rintro e w17 ⟨rfl, hb⟩
         refine ⟨_, rfl, ?_⟩
         have n0_ := Aside0.mk (Kd.R_below (by (with_reducible repeat (first | apply Kd.R_alloc | apply Kd.R_drewN | apply Kd.R_drew)); exact HO_7.out) hb)
         have n1_ := Aside0.mk (Kd.R_below (by (with_reducible repeat (first | apply Kd.R_alloc | apply Kd.R_drewN | apply Kd.R_drew)); exact HO137.out) hb)
         have n2_ := Aside0.mk (blk_below (g := gb129) (o := .cells #[.int .i64 a1_0, .int .i64 a1_1, .int .i64 a1_2, .slice A1_3 l1_3.length c1_3, .int .i32 a1_4] 25 (0, 0)) (by (with_reducible repeat (first | refine blk_drewN ?_ _ | refine blk_drew ?_ | refine blk_alloc ?_ _)); exact BK129.out) hb)
         have n3_ := Aside0.mk (blk_below (g := gb130) (o := .cells #[.int .i64 a2_0, .int .i64 a2_1, .int .i64 a2_2, .int .i64 a2_3] 27 (0, 0)) (by (with_reducible repeat (first | refine blk_drewN ?_ _ | refine blk_drew ?_ | refine blk_alloc ?_ _)); exact BK130.out) hb)
         have n4_ := Aside0.mk (below_step (by repeat (first | (with_reducible first | exact HB.out | apply below_alloc | apply pw_below_drewN | apply below_drew1 | refine below_set ?_ GE129.out | refine below_set ?_ GE130.out) | exact HB.out)) hb)
         clear HO_7; clear HO137; clear BK129; clear BK130; clear HB
         have HO_7 := n0_
         have HO137 := n1_
         have BK129 := n2_
         have BK130 := n3_
         have HB := n4_
         clear n0_ n1_ n2_ n3_ n4_
         (try clear hb)
         (try clear hb2)
         (try clear hk)
         (try clear hi)
         refine hK.out _ _ ⟨(blk_cell BK130.out 0).trans rfl, (blk_cell BK130.out 1).trans rfl, (blk_cell BK130.out 2).trans rfl, (blk_cell BK130.out 3).trans rfl, ((HB.out.cell (World.block_lt_of_cell? w _ hw134_0)).trans hw134_0), ((HB.out.cell (World.block_lt_of_cell? w _ hw134_1)).trans hw134_1), ((HB.out.cell (World.block_lt_of_cell? w _ hw134_2)).trans hw134_2), ((HB.out.cell (World.block_lt_of_cell? w _ hw134_3)).trans hw134_3), ((HB.out.cell (World.block_lt_of_cell? w _ hw134_4)).trans hw134_4), ((HB.out.cell (World.block_lt_of_cell? w _ hw134_5)).trans hw134_5), ((HB.out.cell (World.block_lt_of_cell? w _ hw134_6)).trans hw134_6), ((HB.out.cell (World.block_lt_of_cell? w _ hw134_7)).trans hw134_7), ((HB.out.cell (World.block_lt_of_cell? w _ hw134_8)).trans hw134_8)⟩ (fun hHeld => ?_)
         clear hK K
         refine norm_ (a' := ?_) ?_ ?_
         rotate_left
         · show Act.put _ (some 26) _ = _; simp only [np]; rfl
         refine one_ (i := 11) (N := some 27) (bm 14 4095) rfl rfl (one_of HT_.out (by kernel_rfl)) (by decide) (fun K hK => ?_)
         refine value_ (w1 := ?_) (v := ?_) (by rfl) rfl ?_ ?_
         rotate_left 2
         · go_simp
           constructor
           · rfl
           · rfl
         refine hK.out _ _ ⟨(blk_cell (blk_alloc BK130.out _) 0).trans rfl, (blk_cell (blk_alloc BK130.out _) 1).trans rfl, (blk_cell (blk_alloc BK130.out _) 2).trans rfl, (blk_cell (blk_alloc BK130.out _) 3).trans rfl, (World.cell?_alloc_lt _ _ _ (World.block_lt_of_cell? _ _ (((HB.out.cell (World.block_lt_of_cell? w _ hw134_0)).trans hw134_0)))).trans (((HB.out.cell (World.block_lt_of_cell? w _ hw134_0)).trans hw134_0)), (World.cell?_alloc_lt _ _ _ (World.block_lt_of_cell? _ _ (((HB.out.cell (World.block_lt_of_cell? w _ hw134_1)).trans hw134_1)))).trans (((HB.out.cell (World.block_lt_of_cell? w _ hw134_1)).trans hw134_1)), (World.cell?_alloc_lt _ _ _ (World.block_lt_of_cell? _ _ (((HB.out.cell (World.block_lt_of_cell? w _ hw134_2)).trans hw134_2)))).trans (((HB.out.cell (World.block_lt_of_cell? w _ hw134_2)).trans hw134_2)), (World.cell?_alloc_lt _ _ _ (World.block_lt_of_cell? _ _ (((HB.out.cell (World.block_lt_of_cell? w _ hw134_3)).trans hw134_3)))).trans (((HB.out.cell (World.block_lt_of_cell? w _ hw134_3)).trans hw134_3)), (World.cell?_alloc_lt _ _ _ (World.block_lt_of_cell? _ _ (((HB.out.cell (World.block_lt_of_cell? w _ hw134_4)).trans hw134_4)))).trans (((HB.out.cell (World.block_lt_of_cell? w _ hw134_4)).trans hw134_4)), (World.cell?_alloc_lt _ _ _ (World.block_lt_of_cell? _ _ (((HB.out.cell (World.block_lt_of_cell? w _ hw134_5)).trans hw134_5)))).trans (((HB.out.cell (World.block_lt_of_cell? w _ hw134_5)).trans hw134_5)), (World.cell?_alloc_lt _ _ _ (World.block_lt_of_cell? _ _ (((HB.out.cell (World.block_lt_of_cell? w _ hw134_6)).trans hw134_6)))).trans (((HB.out.cell (World.block_lt_of_cell? w _ hw134_6)).trans hw134_6)), (World.cell?_alloc_lt _ _ _ (World.block_lt_of_cell? _ _ (((HB.out.cell (World.block_lt_of_cell? w _ hw134_7)).trans hw134_7)))).trans (((HB.out.cell (World.block_lt_of_cell? w _ hw134_7)).trans hw134_7)), (World.cell?_alloc_lt _ _ _ (World.block_lt_of_cell? _ _ (((HB.out.cell (World.block_lt_of_cell? w _ hw134_8)).trans hw134_8)))).trans (((HB.out.cell (World.block_lt_of_cell? w _ hw134_8)).trans hw134_8))⟩ (fun hHeld => ?_)
         clear hK K
         refine norm_ (a' := ?_) ?_ ?_
         rotate_left
         · show Act.put _ (some 27) _ = _; simp only [np]; rfl
         refine one_ (i := 12) (N := some 28) (bm 14 8191) rfl rfl (one_of HT_.out (by kernel_rfl)) (by decide) (fun K hK => ?_)
         refine Kd.R_append_step (Kd.int .i64) (w0 := w) w.heap.size (by rfl) (.tmp 16) (.tmp 27) 23 3 (.int .i64 0) 8 rfl Try.underlying23 info3 rfl (by decide) (by omega) (.slice Ao15 x7_1.length co15) x7_1 t138 [.int .i64 t138] (fun k_ => some k_ ≠ (.slice Ao16 t135.length co16 : Value).ownBlock) (fun _ => False) rfl rfl ?aP (fun _ hk => hk.elim) ?aF ?aO ?aB ?aS ?aL ?_
         (case aP => exact rfl)
         (case aB => exact (by repeat (first | (with_reducible first | exact HB.out | apply below_alloc | apply pw_below_drewN | apply below_drew1 | refine below_set ?_ GE129.out | refine below_set ?_ GE130.out) | exact HB.out)))
         (case aF => exact (fun k_ hk => Kd.fresh' (Kd.R_lt (by (with_reducible repeat (first | apply Kd.R_alloc | apply Kd.R_drewN | apply Kd.R_drew)); exact HO137.out)) k_ hk))
         (case aO => exact (by (with_reducible repeat (first | apply Kd.R_alloc | apply Kd.R_drewN | apply Kd.R_drew)); exact Kd.R_mono HO_7.out (fun _ hk => hk.2)))
         (case aS => exact (below_size (by repeat (first | (with_reducible first | exact HB.out | apply below_alloc | apply pw_below_drewN | apply below_drew1 | refine below_set ?_ GE129.out | refine below_set ?_ GE130.out) | exact HB.out))))
         (case aL => have := LMc12.out; omega)
         intro v140 w18 ho hb hg hat
         rw [← Ny139.out] at ho
         have n0_ := Aside0.mk (blk_grown (g := gb129) (o := .cells #[.int .i64 a1_0, .int .i64 a1_1, .int .i64 a1_2, .slice A1_3 l1_3.length c1_3, .int .i32 a1_4] 25 (0, 0)) (by (with_reducible repeat (first | refine blk_drewN ?_ _ | refine blk_drew ?_ | refine blk_alloc ?_ _)); exact BK129.out) hg (Kd.R_ne HO_7.out BK129.out (by decide)))
         have n1_ := Aside0.mk (blk_grown (g := gb130) (o := .cells #[.int .i64 a2_0, .int .i64 a2_1, .int .i64 a2_2, .int .i64 a2_3] 27 (0, 0)) (by (with_reducible repeat (first | refine blk_drewN ?_ _ | refine blk_drew ?_ | refine blk_alloc ?_ _)); exact BK130.out) hg (Kd.R_ne HO_7.out BK130.out (by decide)))
         have n2_ := Aside0.mk (Kd.R_after (ok := (fun _ => True)) (by (with_reducible repeat (first | apply Kd.R_alloc | apply Kd.R_drewN | apply Kd.R_drew)); exact HO137.out) hg hat)
         have n3_ := Aside0.mk (hb)
         have n4_ := Aside0.mk (ho)
         clear BK129; clear BK130; clear HO137; clear HB; clear HO_7
         have BK129 := n0_
         have BK130 := n1_
         have HO137 := n2_
         have HB := n3_
         have HO141 := n4_
         clear n0_ n1_ n2_ n3_ n4_; clear ho hb hg hat
         refine hK.out _ _ ⟨(blk_cell BK130.out 0).trans rfl, (blk_cell BK130.out 1).trans rfl, (blk_cell BK130.out 2).trans rfl, (blk_cell BK130.out 3).trans rfl, ((HB.out.cell (World.block_lt_of_cell? w _ hw134_0)).trans hw134_0), ((HB.out.cell (World.block_lt_of_cell? w _ hw134_1)).trans hw134_1), ((HB.out.cell (World.block_lt_of_cell? w _ hw134_2)).trans hw134_2), ((HB.out.cell (World.block_lt_of_cell? w _ hw134_3)).trans hw134_3), ((HB.out.cell (World.block_lt_of_cell? w _ hw134_4)).trans hw134_4), ((HB.out.cell (World.block_lt_of_cell? w _ hw134_5)).trans hw134_5), ((HB.out.cell (World.block_lt_of_cell? w _ hw134_6)).trans hw134_6), ((HB.out.cell (World.block_lt_of_cell? w _ hw134_7)).trans hw134_7), ((HB.out.cell (World.block_lt_of_cell? w _ hw134_8)).trans hw134_8)⟩ (fun hHeld => ?_)
         clear hK K
         refine norm_ (a' := ?_) ?_ ?_
         rotate_left
         · show Act.put _ (some 28) _ = _; simp only [np]; rfl
         refine pu 13 7 (bm 14 16383) rfl rfl (any_of HT_.out (by kernel_rfl)) (fun _ _ _ h => h) (by rfl) (v := ?_) (a' := ?_) (by intro w'; go_simp; with_reducible rfl) (by simp only [np]; rfl) ?_
         refine done_ (done_of HT_.out (by kernel_rfl)) ?_
         try go_wp2
         go_roundg k1
         case measure => have := HK1.out; omega
         case rel => exact ⟨(y139), (wrap64 (x8_1 + 1)), (by first | rfl | (simp; done) | (simp [*]; done)), H', ⟨by have := HK1.out; omega⟩, ⟨by (with_reducible repeat (first | apply Kd.R_alloc | apply Kd.R_drewN | apply Kd.R_drew)); exact Kd.R_mono HO141.out (fun _ hk => trivial)⟩, ⟨by (with_reducible repeat (first | refine blk_drewN ?_ _ | refine blk_drew ?_ | refine blk_alloc ?_ _)); exact BK129.out⟩, ⟨by (with_reducible repeat (first | refine blk_drewN ?_ _ | refine blk_drew ?_ | refine blk_alloc ?_ _)); exact BK130.out⟩, ⟨by repeat (first | (with_reducible first | exact HB.out | apply below_alloc | apply pw_below_drewN | apply below_drew1 | refine below_set ?_ GE129.out | refine below_set ?_ GE130.out) | exact HB.out)⟩⟩
       · rw [if_neg c12] at H
         exact absurd H (by simp)
     · rw [if_neg c9] at H
       exact absurd H (by simp)
   · rw [if_neg c8] at H
     have c8b0 : decide (x8_1 < (l0.length : Int)) = false := decide_eq_false c8
     clear c8
     replace H := Option.bind_eq_some_iff.mp H
     obtain ⟨t142, A190, H⟩ := H
     replace H : ((jacquardref16_issue.f k1 l0 x7_1 t142 a2_0 a2_1 a2_2 a2_3).bind fun t145 => (some (wrap64 (t145 + 1)))) = some r := H
     have A19 := Aside0.mk A190
     clear A190
     replace H := Option.bind_eq_some_iff.mp H
     obtain ⟨t145, A200, H⟩ := H
     replace H : (some (wrap64 (t145 + 1))) = some r := H
     have A20 := Aside0.mk A200
     clear A200
     obtain rfl := Option.some.inj H
     try go_wp2
     have n0_ := Aside0.mk (Kd.R_drew HO_7.out)
     have n1_ := Aside0.mk (blk_drew BK129.out)
     have n2_ := Aside0.mk (blk_drew BK130.out)
     have n3_ := Aside0.mk (below_drew1 HB.out)
     clear HO_7; clear BK129; clear BK130; clear HB
     have HO_7 := n0_
     have BK129 := n1_
     have BK130 := n2_
     have HB := n3_
     clear n0_ n1_ n2_ n3_
     refine start_ (n := 8) (S := fun w' => w'.cell? ⟨gb129, 0, none⟩ = some (.int .i64 a1_0) ∧ w'.cell? ⟨gb129, 1, none⟩ = some (.int .i64 a1_1) ∧ w'.cell? ⟨gb129, 2, none⟩ = some (.int .i64 a1_2) ∧ w'.cell? ⟨gb129, 3, none⟩ = some (.slice A1_3 l1_3.length c1_3) ∧ w'.cell? ⟨gb129, 4, none⟩ = some (.int .i32 a1_4) ∧ w'.cell? ⟨gb130, 0, none⟩ = some (.int .i64 a2_0) ∧ w'.cell? ⟨gb130, 1, none⟩ = some (.int .i64 a2_1) ∧ w'.cell? ⟨gb130, 2, none⟩ = some (.int .i64 a2_2) ∧ w'.cell? ⟨gb130, 3, none⟩ = some (.int .i64 a2_3)) (ds := []) (bm 8 0) (by kernel_rfl) rfl rfl ⟨(blk_cell BK129.out 0).trans rfl, (blk_cell BK129.out 1).trans rfl, (blk_cell BK129.out 2).trans rfl, (blk_cell BK129.out 3).trans rfl, (blk_cell BK129.out 4).trans rfl, (blk_cell BK130.out 0).trans rfl, (blk_cell BK130.out 1).trans rfl, (blk_cell BK130.out 2).trans rfl, (blk_cell BK130.out 3).trans rfl⟩ (fun hHeld => ?_); refine with_tabW jacquardref16_Cycles.tab6 jacquardref16_Cycles.bits6 (fun HT_ HW_ => ?_)
     generalize wr.drew = w21 at HO_7 BK129 BK130 HB hHeld ⊢
     refine pu 0 29 (bm 8 1) rfl rfl (any_of HT_.out (by kernel_rfl)) (fun _ _ _ h => h) (by rfl) (v := ?_) (a' := ?_) (by intro w'; go_simp; with_reducible rfl) (by simp only [np]; rfl) ?_
     refine pu 1 30 (bm 8 3) rfl rfl (any_of HT_.out (by kernel_rfl)) (fun _ _ _ h => h) (by rfl) (v := ?_) (a' := ?_) (by intro w'; go_simp; with_reducible rfl) (by simp only [np]; rfl) ?_
     refine take_ (i := 2) (N := some 31) (v := ?_) (a' := ?_) (bm 8 7) rfl rfl (take_ofW HT_.out HW_.out (by kernel_rfl)) (fun _ _ _ h => h) (Or.inl ⟨by rfl, ?_⟩) hHeld ?_ ?_
     rotate_left
     · rintro w' ⟨s0, s1, s2, s3, s4, s5, s6, s7, s8⟩; go_simp; with_reducible rfl
     rotate_left
     · simp only [np]; rfl
     refine take_ (i := 4) (N := some 33) (v := ?_) (a' := ?_) (bm 8 23) rfl rfl (take_ofW HT_.out HW_.out (by kernel_rfl)) (fun _ _ _ h => h) (Or.inl ⟨by rfl, ?_⟩) hHeld ?_ ?_
     rotate_left
     · rintro w' ⟨s0, s1, s2, s3, s4, s5, s6, s7, s8⟩; go_simp; with_reducible rfl
     rotate_left
     · simp only [np]; rfl
     refine one_ (i := 3) (N := some 32) (bm 8 31) rfl rfl (one_of HT_.out (by kernel_rfl)) (by decide) (fun K hK => ?_)
     refine goes_ Try.func28 (by kernel_rfl) rfl #[.agg #[.int .i64 a1_0, .int .i64 a1_1, .int .i64 a1_2, .slice A1_3 l1_3.length c1_3, .int .i32 a1_4]] (by rfl) rfl rfl (by (try simp only [List.map_toArray, List.map_cons, List.map_nil]); first | done | rfl | (simp only [List.length_drop, List.length_take]; rfl)) ?_
     with_reducible refine (jacquardref16_needs.calls a1_0 a1_1 a1_2 _ _ l1_3 a1_4 t142 _ ?side1 ?side2 A19.out).mono ?_
     (case side1 => repeat (first | exact (Kd.C_below HR1_3.out HB.out) | (with_reducible refine Kd.C_alloc ?_ _) | (with_reducible refine Kd.C_drewN ?_ _) | (with_reducible refine Kd.C_drew ?_)))
     (case side2 => exact HC1_3.out)
     rintro e w22 ⟨v143, rfl, ho0, hb⟩
     refine ⟨_, rfl, ?_⟩
     have n0_ := Aside0.mk (Kd.R_elder' (by (with_reducible repeat (first | apply Kd.R_alloc | apply Kd.R_drewN | apply Kd.R_drew)); exact HO_7.out) (Kd.R_base ho0) hb)
     have n1_ := Aside0.mk (Kd.R_lower (Kd.R_new' ho0 (Kd.R_lt (by (with_reducible repeat (first | apply Kd.R_alloc | apply Kd.R_drewN | apply Kd.R_drew)); exact HO_7.out))) (below_size (by repeat (first | (with_reducible first | exact HB.out | apply below_alloc | apply pw_below_drewN | apply below_drew1 | refine below_set ?_ GE129.out | refine below_set ?_ GE130.out) | exact HB.out))))
     have n2_ := Aside0.mk (blk_below (g := gb129) (o := .cells #[.int .i64 a1_0, .int .i64 a1_1, .int .i64 a1_2, .slice A1_3 l1_3.length c1_3, .int .i32 a1_4] 25 (0, 0)) (by (with_reducible repeat (first | refine blk_drewN ?_ _ | refine blk_drew ?_ | refine blk_alloc ?_ _)); exact BK129.out) hb)
     have n3_ := Aside0.mk (blk_below (g := gb130) (o := .cells #[.int .i64 a2_0, .int .i64 a2_1, .int .i64 a2_2, .int .i64 a2_3] 27 (0, 0)) (by (with_reducible repeat (first | refine blk_drewN ?_ _ | refine blk_drew ?_ | refine blk_alloc ?_ _)); exact BK130.out) hb)
     have n4_ := Aside0.mk (below_step (by repeat (first | (with_reducible first | exact HB.out | apply below_alloc | apply pw_below_drewN | apply below_drew1 | refine below_set ?_ GE129.out | refine below_set ?_ GE130.out) | exact HB.out)) hb)
     clear HO_7; clear BK129; clear BK130; clear HB
     have HO_7 := n0_
     have HO144 := n1_
     have BK129 := n2_
     have BK130 := n3_
     have HB := n4_
     clear n0_ n1_ n2_ n3_ n4_
     (try clear hb)
     (try clear hb2)
     (try clear hk)
     (try clear hi)
     (try clear ho0)
     obtain ⟨Ao23, co23, eo23⟩ := Kd.R_slice HO_7.out
     (first | subst eo23 | (injection eo23 with f1_ f2_ f3_; have f4_ := f1_.symm; have f5_ := f3_.symm; clear f1_ f2_ f3_; subst f4_; subst f5_))
     obtain ⟨Ao24, co24, eo24⟩ := Kd.R_slice HO144.out
     (first | subst eo24 | (injection eo24 with f1_ f2_ f3_; have f4_ := f1_.symm; have f5_ := f3_.symm; clear f1_ f2_ f3_; subst f4_; subst f5_))
     refine hK.out _ _ ⟨(blk_cell BK129.out 0).trans rfl, (blk_cell BK129.out 1).trans rfl, (blk_cell BK129.out 2).trans rfl, (blk_cell BK129.out 3).trans rfl, (blk_cell BK129.out 4).trans rfl, (blk_cell BK130.out 0).trans rfl, (blk_cell BK130.out 1).trans rfl, (blk_cell BK130.out 2).trans rfl, (blk_cell BK130.out 3).trans rfl⟩ (fun hHeld => ?_)
     clear hK K
     refine norm_ (a' := ?_) ?_ ?_
     rotate_left
     · show Act.put _ (some 32) _ = _; simp only [np]; rfl
     refine one_ (i := 5) (N := some 34) (bm 8 63) rfl rfl (one_of HT_.out (by kernel_rfl)) (by decide) (fun K hK => ?_)
     refine goes_ Try.func26 (by kernel_rfl) rfl #[.slice A0 l0.length c0, .slice Ao23 x7_1.length co23, .slice Ao24 t142.length co24, .agg #[.int .i64 a2_0, .int .i64 a2_1, .int .i64 a2_2, .int .i64 a2_3]] (by rfl) rfl rfl (by (try simp only [List.map_toArray, List.map_cons, List.map_nil]); first | done | rfl | (simp only [List.length_drop, List.length_take]; rfl)) ?_
     with_reducible refine (jacquardref16_issue.calls k1 _ _ l0 _ _ x7_1 _ _ t142 a2_0 a2_1 a2_2 a2_3 t145 _ ?side1 ?side2 ?side3 ?side4 ?side5 ?side6 A20.out).mono ?_
     (case side1 => repeat (first | exact (Kd.C_below HR0.out HB.out) | (with_reducible refine Kd.C_alloc ?_ _) | (with_reducible refine Kd.C_drewN ?_ _) | (with_reducible refine Kd.C_drew ?_)))
     (case side2 => exact HC0.out)
     (case side3 => repeat (first | exact (Kd.R_reads' HO_7.out).2.2 | (with_reducible refine Kd.C_alloc ?_ _) | (with_reducible refine Kd.C_drewN ?_ _) | (with_reducible refine Kd.C_drew ?_)))
     (case side4 => exact (Kd.R_reads' HO_7.out).2.1)
     (case side5 => repeat (first | exact (Kd.R_reads' HO144.out).2.2 | (with_reducible refine Kd.C_alloc ?_ _) | (with_reducible refine Kd.C_drewN ?_ _) | (with_reducible refine Kd.C_drew ?_)))
     (case side6 => exact (Kd.R_reads' HO144.out).2.1)
     rintro e w25 ⟨rfl, hb⟩
     refine ⟨_, rfl, ?_⟩
     have n0_ := Aside0.mk (Kd.R_below (by (with_reducible repeat (first | apply Kd.R_alloc | apply Kd.R_drewN | apply Kd.R_drew)); exact HO_7.out) hb)
     have n1_ := Aside0.mk (Kd.R_below (by (with_reducible repeat (first | apply Kd.R_alloc | apply Kd.R_drewN | apply Kd.R_drew)); exact HO144.out) hb)
     have n2_ := Aside0.mk (blk_below (g := gb129) (o := .cells #[.int .i64 a1_0, .int .i64 a1_1, .int .i64 a1_2, .slice A1_3 l1_3.length c1_3, .int .i32 a1_4] 25 (0, 0)) (by (with_reducible repeat (first | refine blk_drewN ?_ _ | refine blk_drew ?_ | refine blk_alloc ?_ _)); exact BK129.out) hb)
     have n3_ := Aside0.mk (blk_below (g := gb130) (o := .cells #[.int .i64 a2_0, .int .i64 a2_1, .int .i64 a2_2, .int .i64 a2_3] 27 (0, 0)) (by (with_reducible repeat (first | refine blk_drewN ?_ _ | refine blk_drew ?_ | refine blk_alloc ?_ _)); exact BK130.out) hb)
     have n4_ := Aside0.mk (below_step (by repeat (first | (with_reducible first | exact HB.out | apply below_alloc | apply pw_below_drewN | apply below_drew1 | refine below_set ?_ GE129.out | refine below_set ?_ GE130.out) | exact HB.out)) hb)
     clear HO_7; clear HO144; clear BK129; clear BK130; clear HB
     have HO_7 := n0_
     have HO144 := n1_
     have BK129 := n2_
     have BK130 := n3_
     have HB := n4_
     clear n0_ n1_ n2_ n3_ n4_
     (try clear hb)
     (try clear hb2)
     (try clear hk)
     (try clear hi)
     refine hK.out _ _ ⟨(blk_cell BK129.out 0).trans rfl, (blk_cell BK129.out 1).trans rfl, (blk_cell BK129.out 2).trans rfl, (blk_cell BK129.out 3).trans rfl, (blk_cell BK129.out 4).trans rfl, (blk_cell BK130.out 0).trans rfl, (blk_cell BK130.out 1).trans rfl, (blk_cell BK130.out 2).trans rfl, (blk_cell BK130.out 3).trans rfl⟩ (fun hHeld => ?_)
     clear hK K
     refine norm_ (a' := ?_) ?_ ?_
     rotate_left
     · show Act.put _ (some 34) _ = _; simp only [np]; rfl
     refine pu 6 35 (bm 8 127) rfl rfl (any_of HT_.out (by kernel_rfl)) (fun _ _ _ h => h) (by rfl) (v := ?_) (a' := ?_) (by intro w'; go_simp; with_reducible rfl) (by simp only [np]; rfl) ?_
     refine pu 7 6 (bm 8 255) rfl rfl (any_of HT_.out (by kernel_rfl)) (fun _ _ _ h => h) (by rfl) (v := ?_) (a' := ?_) (by intro w'; go_simp; with_reducible rfl) (by simp only [np]; rfl) ?_
     refine done_ (done_of HT_.out (by kernel_rfl)) ?_
     try go_wp2
     go_ret
     exact ⟨by first | rfl | (simp [errW_none, errW_some] <;> rfl) | (simp [*, errW_none, errW_some] <;> rfl), by repeat (first | (with_reducible first | exact HB.out | apply below_alloc | apply pw_below_drewN | apply below_drew1 | refine below_set ?_ GE129.out | refine below_set ?_ GE130.out) | exact HB.out)⟩
end Go.Proofs.Ytocndmielggnpaa.PAll
end
section
namespace Go.Proofs.Ytocndmielggnpaa.PAll
open Go.RowKit Go.Proofs.YtocndmielggnpaaW.PrintWords Go.Proofs.YtocndmielggnpaaW.PrintLast Go.Proofs.YtocndmielggnpaaW.PrintMore
open Go.Proofs.Ytocndmielggnpaa.Kind Go.Proofs.Ytocndmielggnpaa.AMap
theorem Ev.s {α : Type} {g : Nat → Option α} {r : α} (h : Ev (fun k => g (k + 1)) r) : Ev g r := Ev.step (fun _ => rfl) h
theorem wr1 (i : Nat) (h : i ≤ 1000000000000) : wrap64 ((i : Int) + 1) = ((i + 1 : Nat) : Int) := by unfold wrap64; omega
theorem wrb (x : Int) (h0 : -1000000000000 ≤ x) (h1 : x ≤ 1000000000000) : wrap64 x = x := by unfold wrap64; omega
theorem rd_nat (l : List Int) (i : Nat) : rd l (i : Int) = l.getD i 0 := by simp [rd]
theorem rdT_nat (l : List S37) (i : Nat) : rd_T37 l (i : Int) = l.getD i z37 := by simp [rd_T37]
theorem has_l0 (l : List Int) (p : Int) (hl : l.length ≤ 1000000000) : ∀ d i : Nat, i + d = l.length → Ev (fun k => jacquardref16_has.l0 k l p i) (decide (p ∈ l.drop i)) := by
 intro d
 induction d with
 | zero =>
  intro i hi
  refine Ev.s ?_
  simp only [jacquardref16_has.l0]; simp only [if_neg (show ¬ ((i : Int) < (l.length : Int)) by omega)]
  rw [show l.drop i = [] from List.drop_eq_nil_of_le (by omega)]
  simpa using Ev.now false
 | succ d ih =>
  intro i hi
  have hlt : i < l.length := by omega
  have hd : l.drop i = l.getD i 0 :: l.drop (i + 1) := by
   rw [List.drop_eq_getElem_cons hlt, List.getD_eq_getElem?_getD, List.getElem?_eq_getElem hlt]; rfl
  refine Ev.s ?_
  simp only [jacquardref16_has.l0]; simp only [if_pos (show ((i : Int) < (l.length : Int)) by omega), if_pos (show (0 : Int) ≤ (i : Int) by omega), rd_nat, wr1 i (by omega)]
  by_cases h : l.getD i 0 = p
  · simp only [if_pos h]
    rw [hd, h]
    simpa using Ev.now true
  · simp only [if_neg h]
    rw [hd]
    rw [show decide (p ∈ l.getD i 0 :: l.drop (i + 1)) = decide (p ∈ l.drop (i + 1)) from by rw [decide_eq_decide, List.mem_cons]; exact ⟨fun hh => hh.resolve_left (fun e => h e.symm), .inr⟩]
    exact ih (i + 1) (by omega)
theorem has_ev (l : List Int) (p : Int) (hl : l.length ≤ 1000000000) : Ev (fun k => jacquardref16_has.f k l p) (decide (p ∈ l)) := by
 have := has_l0 l p hl l.length 0 (by omega)
 simpa [jacquardref16_has.f] using this
theorem late16_eq (x : S35) (d : De) : jacquardref16_Late.f x.f0 x.f1 x.f2 x.f3 x.f4 x.f5 x.f6 x.f7 d.mul d.dv d.ld d.tk = some (ltP x d) := by
 unfold jacquardref16_Late.f
 rw [lateP_eq]
theorem late16_ev (x : S35) (d : De) : Ev (fun _ => jacquardref16_Late.f x.f0 x.f1 x.f2 x.f3 x.f4 x.f5 x.f6 x.f7 d.mul d.dv d.ld d.tk) (ltP x d) := ⟨0, fun _ _ => late16_eq x d⟩
theorem op_cases (n : Int) (h1 : 1 ≤ n) (h2 : n ≤ 31) : n = 1 ∨ n = 2 ∨ n = 3 ∨ n = 4 ∨ n = 5 ∨ n = 6 ∨ n = 7 ∨ n = 8 ∨ n = 9 ∨ n = 10 ∨ n = 11 ∨ n = 12 ∨ n = 13 ∨ n = 14 ∨ n = 15 ∨ n = 16 ∨ n = 17 ∨ n = 18 ∨ n = 19 ∨ n = 20 ∨ n = 21 ∨ n = 22 ∨ n = 23 ∨ n = 24 ∨ n = 25 ∨ n = 26 ∨ n = 27 ∨ n = 28 ∨ n = 29 ∨ n = 30 ∨ n = 31 := by omega
theorem kt_out (n : Int) (h : ¬ (1 ≤ n ∧ n ≤ 31)) : kt n = (68, 68) := by
 have hk : ∀ j : Int, 1 ≤ j → j ≤ 31 → ¬ n = j := fun j h1 h2 e => h (by omega)
 have ht : tbl n = none := by unfold tbl upd; simp [hk]
 unfold kt
 rw [ht, Option.getD_none, if_neg (by omega), if_neg (by omega)]
theorem takes12_eq (x : S35) (hf : Few x) : jacquardref12_Takes.f x.f0 x.f1 x.f2 x.f3 x.f4 x.f5 x.f6 x.f7 = some (tkP x) := by
 unfold Few at hf
 have h2 : x.f7.length < 17592186044416 := by omega
 obtain ⟨op, hop⟩ : ∃ op, x.f0 = op := ⟨_, rfl⟩
 simp only [jacquardref12_Takes.f, jacquardref07_Takes.f, tkP]
 rw [hop]
 by_cases h : 1 ≤ op ∧ op ≤ 31
 · rcases op_cases op h.1 h.2 with rfl | rfl | rfl | rfl | rfl | rfl | rfl | rfl | rfl | rfl | rfl | rfl | rfl | rfl | rfl | rfl | rfl | rfl | rfl | rfl | rfl | rfl | rfl | rfl | rfl | rfl | rfl | rfl | rfl | rfl | rfl <;>
    simp [tk07, rowOf, kt, tbl, upd, h2]
 · rw [kt_out op h]
   have hk : ∀ j : Int, 1 ≤ j → j ≤ 31 → ¬ op = j := fun j h1 h2 e => h (by omega)
   have e1 : ¬ (18 ≤ op ∧ op ≤ 22) := by omega
   have e2 : ¬ (5 ≤ op ∧ op ≤ 17) := by omega
   simp [tk07, rowOf, hk, e1, e2, h2]
theorem takes12_ev (x : S35) (hf : Few x) : Ev (fun _ => jacquardref12_Takes.f x.f0 x.f1 x.f2 x.f3 x.f4 x.f5 x.f6 x.f7) (tkP x) := ⟨0, fun _ _ => takes12_eq x hf⟩
theorem changes16_eq (x : S35) (hf : Few x) : jacquardref16_changes.f x.f0 x.f1 x.f2 x.f3 x.f4 x.f5 x.f6 x.f7 = some (chP x) := by
 unfold Few at hf
 have h2 : x.f7.length < 17592186044416 := by omega
 obtain ⟨op, hop⟩ : ∃ op, x.f0 = op := ⟨_, rfl⟩
 unfold jacquardref16_changes.f jacquardref12_Makes.f jacquardref07_Makes.f jacquardref12_Spoils.f chP mkP spP
 rw [hop]
 by_cases h : 1 ≤ op ∧ op ≤ 31
 · rcases op_cases op h.1 h.2 with rfl | rfl | rfl | rfl | rfl | rfl | rfl | rfl | rfl | rfl | rfl | rfl | rfl | rfl | rfl | rfl | rfl | rfl | rfl | rfl | rfl | rfl | rfl | rfl | rfl | rfl | rfl | rfl | rfl | rfl | rfl <;>
    simp [rowOf, kt, tbl, upd]
 · rw [kt_out op h]
   have hk : ∀ j : Int, 1 ≤ j → j ≤ 31 → ¬ op = j := fun j h1 h2 e => h (by omega)
   by_cases h1 : op < 1
   · simp [rowOf, hk, h1]
   · have h3 : op > 31 := by omega
     simp [rowOf, hk, h1, h3]
theorem needs16_ev (e : En) : Ev (fun _ => jacquardref16_needs.f e.op e.a e.b e.tos e.imm) (ndP e) := ⟨0, fun _ _ => rfl⟩
def nowK (d : De) (l : List S37) (n : Nat) : Int := (cySt d (l.take n)).1
def rdyK (d : De) (l : List S37) (n : Nat) (p : Int) : Int := (cySt d (l.take n)).2 p
def atK (d : De) (l : List S37) (n : Nat) : List Int := (List.range n).map fun i => nowK d l (i + 1)
theorem atK_len (d : De) (l : List S37) (n : Nat) : (atK d l n).length = n := by simp [atK]
theorem atK_get (d : De) (l : List S37) (n i : Nat) (h : i < n) : (atK d l n).getD i 0 = nowK d l (i + 1) := by
 simp [atK, List.getD_eq_getElem?_getD, h]
theorem atK_succ (d : De) (l : List S37) (n : Nat) : atK d l n ++ [nowK d l (n + 1)] = atK d l (n + 1) := by
 simp [atK, List.range_succ]
theorem nowK_bd (d : De) (l : List S37) (n : Nat) : -1 ≤ nowK d l n ∧ nowK d l n ≤ 21 * l.length := by
 have h := cySt_bd d (l.take n)
 have : (l.take n).length ≤ l.length := List.length_take_le' _ _
 unfold nowK
 omega
theorem rdyK_bd (d : De) (l : List S37) (n : Nat) (p : Int) : 0 ≤ rdyK d l n p ∧ rdyK d l n p ≤ 21 * l.length := by
 have h := (cySt_bd d (l.take n)).2.2 p
 have : (l.take n).length ≤ l.length := List.length_take_le' _ _
 unfold rdyK
 omega
theorem rdyK_succ (d : De) (l : List S37) (n : Nat) (hn : n < l.length) (p : Int) : rdyK d l (n + 1) p = if p ∈ chP (l.getD n z37).f0 then nowK d l (n + 1) + ltP (l.getD n z37).f0 d else rdyK d l n p := by
 unfold rdyK nowK
 rw [cySt_snoc d l n hn]
 rfl
theorem nowK_succ (d : De) (l : List S37) (n : Nat) (hn : n < l.length) : nowK d l (n + 1) = issueP (rdyK d l n) (nowK d l n) (tkP (l.getD n z37).f0) := by
 unfold rdyK nowK
 rw [cySt_snoc d l n hn]
 rfl
theorem ch_len' (x : S35) : (chP x).length ≤ x.f7.length + 6 := by have := mk_len x; have := sp_len x; simp [chP]; omega
structure Small (l : List S37) : Prop where
 len : l.length ≤ 1000000
 few : ∀ k, (l.getD k z37).f0.f7.length ≤ 1000000
theorem Small.fw {l : List S37} (h : Small l) (k : Nat) : Few (l.getD k z37).f0 := by have := h.few k; unfold Few; omega
section
variable {d : De} {l : List S37}
theorem issue_l1 (h : Small l) (n : Nat) (hn : n ≤ l.length) (tk : List Int) (x9 : Int) (j : Nat) (hj : j < tk.length) (htk : tk.length ≤ 1000000000) (hx : 0 ≤ x9) {r : Int} : ∀ m, m ≤ n →
    Ev (fun k => jacquardref16_issue.l0 k l (atK d l n) tk (max x9 (rdyK d l m (tk.getD j 0))) ((j + 1 : Nat) : Int) d.mul d.dv d.ld d.tk) r → Ev (fun k => jacquardref16_issue.l1 k l (atK d l n) tk x9 j ((m : Int) - 1) d.mul d.dv d.ld d.tk) r := by
 intro m
 induction m with
 | zero =>
  intro _ hr
  refine Ev.s ?_
  simp only [jacquardref16_issue.l1]; simp only [if_neg (show ¬ (((0 : Nat) : Int) - 1 ≥ 0) by omega), wr1 j (by omega)]
  have : rdyK d l 0 (tk.getD j 0) = 0 := rfl
  rw [this, show max x9 0 = x9 by omega] at hr
  exact hr
 | succ m ih =>
  intro hm hr
  have hml : m < l.length := by omega
  refine Ev.s ?_
  simp only [jacquardref16_issue.l1]
  have e0 : ((m + 1 : Nat) : Int) - 1 = (m : Int) := by omega
  have hw : wrap64 ((m : Int) - 1) = (m : Int) - 1 := wrb _ (by omega) (by have := h.len; omega)
  have hn1 := nowK_bd d l (m + 1)
  have hlt := lt_bd (l.getD m z37).f0 d
  have hll := h.len
  have hw2 : wrap64 (nowK d l (m + 1) + ltP (l.getD m z37).f0 d) = nowK d l (m + 1) + ltP (l.getD m z37).f0 d := wrb _ (by omega) (by omega)
  have hR := rdyK_succ d l m hml (tk.getD j 0)
  simp only [e0, if_pos (show (m : Int) ≥ 0 by omega), if_pos (show (0 : Int) ≤ (m : Int) by omega), if_pos (show (m : Int) < (l.length : Int) by omega), rdT_nat, changes16_eq _ (h.fw m), Option.bind_some,
   if_pos (show (0 : Int) ≤ (j : Int) by omega), if_pos (show (j : Int) < (tk.length : Int) by omega), rd_nat, atK_len, if_pos (show (m : Int) < (n : Int) by omega), atK_get d l n m (by omega), mx_eq, wr1 j (by omega), hw]
  refine Ev.bind (has_ev _ _ (by have := ch_len' (l.getD m z37).f0; have := h.few m; omega)) ?_
  by_cases hin : tk.getD j 0 ∈ chP (l.getD m z37).f0
  · simp only [decide_eq_true hin, if_true]
    refine Ev.bind (late16_ev _ d) ?_
    rw [hw2]
    rw [hR, if_pos hin] at hr
    exact hr
  · simp only [decide_eq_false hin, Bool.false_eq_true, if_false]
    rw [hR, if_neg hin] at hr
    exact ih (by omega) hr
theorem issue_l0 (h : Small l) (n : Nat) (hn : n ≤ l.length) (tk : List Int) (htk : tk.length ≤ 1000000000) : ∀ (c j : Nat) (x9 : Int), j + c = tk.length → 0 ≤ x9 →
    Ev (fun k => jacquardref16_issue.l0 k l (atK d l n) tk x9 j d.mul d.dv d.ld d.tk) ((tk.drop j).foldl (fun a p => max a (rdyK d l n p)) x9) := by
 intro c
 induction c with
 | zero =>
  intro j x9 hj hx
  refine Ev.s ?_
  simp only [jacquardref16_issue.l0]; simp only [if_neg (show ¬ ((j : Int) < (tk.length : Int)) by omega)]
  rw [show tk.drop j = [] from List.drop_eq_nil_of_le (by omega)]
  exact Ev.now _
 | succ c ih =>
  intro j x9 hj hx
  have hlt : j < tk.length := by omega
  have hd : tk.drop j = tk.getD j 0 :: tk.drop (j + 1) := by
   rw [List.drop_eq_getElem_cons hlt, List.getD_eq_getElem?_getD, List.getElem?_eq_getElem hlt]; rfl
  refine Ev.s ?_
  simp only [jacquardref16_issue.l0]
  have hll := h.len
  simp only [if_pos (show ((j : Int) < (tk.length : Int)) by omega), atK_len, wrb ((n : Int) - 1) (by omega) (by omega)]
  refine issue_l1 h n hn tk x9 j hlt htk hx n (Nat.le_refl _) ?_
  rw [hd, List.foldl_cons]
  exact ih (j + 1) _ (by omega) (by omega)
theorem issue_ev (h : Small l) (n : Nat) (hn : n ≤ l.length) (tk : List Int) (htk : tk.length ≤ 1000000000) :
    Ev (fun k => jacquardref16_issue.f k l (atK d l n) tk d.mul d.dv d.ld d.tk) (issueP (rdyK d l n) (nowK d l n) tk) := by
 have hll := h.len
 unfold jacquardref16_issue.f
 simp only [atK_len]
 have hb := nowK_bd d l n
 have key : ∀ x9 : Int, x9 = nowK d l n + 1 → Ev (fun k => jacquardref16_issue.j0 k l (atK d l n) tk x9 d.mul d.dv d.ld d.tk) (issueP (rdyK d l n) (nowK d l n) tk) := by
  intro x9 hx
  refine Ev.s ?_
  simp only [jacquardref16_issue.j0]
  have := issue_l0 (d := d) h n hn tk htk tk.length 0 x9 (by omega) (by omega)
  rw [hx] at this ⊢
  simpa [issueP] using this
 by_cases h0 : n = 0
 · subst h0
   simp only [if_neg (show ¬ (((0 : Nat) : Int) > 0) by omega)]
   exact key 0 (by simp [nowK, cySt])
 · obtain ⟨m, rfl⟩ : ∃ m, n = m + 1 := ⟨n - 1, by omega⟩
   have e : ((m + 1 : Nat) : Int) - 1 = (m : Int) := by omega
   simp only [if_pos (show (((m + 1 : Nat) : Int) > 0) by omega), e, wrb (m : Int) (by omega) (by omega), if_pos (show (0 : Int) ≤ (m : Int) by omega), if_pos (show (m : Int) < ((m + 1 : Nat) : Int) by omega), rd_nat,
    atK_get d l (m + 1) m (by omega), wrb (nowK d l (m + 1) + 1) (by omega) (by omega)]
   exact key _ rfl
theorem tk_len' (h : Small l) (k : Nat) : (tkP (l.getD k z37).f0).length ≤ 1000000000 := by have := tk_len (l.getD k z37).f0; have := h.few k; omega
theorem nd_len (e : En) : (ndP e).length ≤ 2 := by unfold ndP; (repeat' split) <;> simp
theorem cycles_l0 (h : Small l) (e : En) : ∀ c n : Nat, n + c = l.length →
    Ev (fun k => jacquardref16_Cycles.l0 k l (atK d l n) n e.op e.a e.b e.tos e.imm d.mul d.dv d.ld d.tk) (cyP l e d) := by
 have hll := h.len
 intro c
 induction c with
 | zero =>
  intro n hn
  have hnl : n = l.length := by omega
  subst hnl
  refine Ev.s ?_
  simp only [jacquardref16_Cycles.l0]; simp only [if_neg (show ¬ ((l.length : Int) < (l.length : Int)) by omega)]
  refine Ev.bind (needs16_ev e) ?_
  refine Ev.bind (issue_ev h l.length (Nat.le_refl _) (ndP e) (by have := nd_len e; omega)) ?_
  have hb := nowK_bd d l l.length
  have h1 := issueP_ge (rdyK d l l.length) (nowK d l l.length) (ndP e)
  have h2 := issueP_le (rdyK d l l.length) (nowK d l l.length) (21 * l.length + 1) (fun p => by have := rdyK_bd d l l.length p; omega) (by omega) (ndP e)
  rw [wrb _ (by omega) (by omega)]
  have : cyP l e d = issueP (rdyK d l l.length) (nowK d l l.length) (ndP e) + 1 := by
   unfold cyP rdyK nowK
   rw [List.take_length]
  rw [this]
  exact Ev.now _
 | succ c ih =>
  intro n hn
  refine Ev.s ?_
  simp only [jacquardref16_Cycles.l0]; simp only [if_pos (show ((n : Int) < (l.length : Int)) by omega), if_pos (show (0 : Int) ≤ (n : Int) by omega), rdT_nat]
  refine Ev.bind (takes12_ev _ (h.fw n)) ?_
  refine Ev.bind (issue_ev h n (by omega) _ (tk_len' h n)) ?_
  rw [← nowK_succ d l n (by omega)]
  simp only [atK_len, atK_succ, wr1 n (by omega), if_pos (show n < 17592186044416 by omega)]
  exact ih (n + 1) (by omega)
theorem cycles16_ev (h : Small l) (e : En) : Ev (fun k => jacquardref16_Cycles.f k l e.op e.a e.b e.tos e.imm d.mul d.dv d.ld d.tk) (cyP l e d) := by
 have := cycles_l0 (d := d) h e l.length 0 (by omega)
 simpa [jacquardref16_Cycles.f, atK] using this
end
end Go.Proofs.Ytocndmielggnpaa.PAll
end
