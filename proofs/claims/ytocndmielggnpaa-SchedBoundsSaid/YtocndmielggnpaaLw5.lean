/- jacquardlaw16.SchedBounds, walked. -/
import Derived.Test.YtocndmielggnpaaM12
import Derived.Test.YtocndmielggnpaaLp5
set_option linter.unusedSimpArgs false
set_option linter.unusedVariables false
section
namespace Go.Proofs.Ytocndmielggnpaa.PAll
open Go.RowKit Go.Proofs.YtocndmielggnpaaW.PrintWords Go.Proofs.YtocndmielggnpaaW.PrintLast Go.Proofs.YtocndmielggnpaaW.PrintMore
open Go.Proofs.Ytocndmielggnpaa.AMap Go.Proofs.Ytocndmielggnpaa.Env Go.Proofs.Ytocndmielggnpaa.Kind
theorem max2_max (k k' : IntKind) (x y : Int) : Builtin.max2 (.int k x) (.int k' y) = pure (.int k (max x y)) := by
 rw [max2_int]
 congr 2
 split <;> omega
attribute [local go_sem] max2_max max_two
def d8Cells (d0 d1 : De) : Array Value := #[.int .i64 d0.mul, .int .i64 d0.dv, .int .i64 d0.ld, .int .i64 d0.tk, .int .i64 d1.mul, .int .i64 d1.dv, .int .i64 d1.ld, .int .i64 d1.tk]
theorem sum_step {s n : Int} (h : 0 ≤ s) (h2 : s ≤ 1000) (h3 : 1 ≤ n) (h4 : n ≤ 20) : wrap64 (s + n) = s + n := by unfold wrap64; omega
set_option maxHeartbeats 8000000 in
set_option maxRecDepth 100000 in
theorem law5_calls (A0 : Option Addr) (c0 : Nat) (l : List S37) (e : En) (A1 : Option Addr) (c1 : Nat) (d0 d1 : De) (w : World) (hr0 : Rw w A0 c0 l) (hr1 : Ew w A1 c1 e.tos) :
    Calls Try.prog 5 #[.slice A0 l.length c0, .agg (eCells e A1 c1), .agg (d8Cells d0 d1)] w fun en w' => en = .returned (.bool true) ∧ Below w.heap.size w w' := by
 obtain ⟨w1, hw1⟩ : ∃ w1, w1 = (w.alloc (.cells (eCells e A1 c1) 25)).alloc (.cells (d8Cells d0 d1) 39) := ⟨_, rfl⟩
 have hbx : w1.heap[w.heap.size]? = some (.cells (eCells e A1 c1) 25 (0, 0)) := by rw [hw1]; exact blk_alloc (heap_alloc_new w _) _
 have hby : w1.heap[w.heap.size + 1]? = some (.cells (d8Cells d0 d1) 39 (0, 0)) := by rw [hw1]; exact new_at _ _ _ (by simp)
 have hb1 : Below w.heap.size w w1 := by rw [hw1]; exact below_alloc (below_alloc (Below.refl _ _) _) _
 have HBX := Aside0.mk hbx
 have HBY := Aside0.mk hby
 have HB1 := Aside0.mk hb1
 have HW1 := Aside0.mk hw1
 have HR0 := Aside0.mk (hr0.below hb1)
 have HR1 := Aside0.mk (hr1.below hb1)
 clear hr0 hr1 hbx hby hb1 hw1
 unfold eCells d8Cells
 go_enter Try.func5, Try.ntmps5
 go_wp2_with fail
 refine calls_world HW1.out ?_
 refine (shown_calls _).mono ?_
 rintro en w2 ⟨rfl, hb⟩
 have HB2 := Aside0.mk hb
 clear hb
 go_wp2_with fail
 refine (few_at HR0.out true _ HB2.out).mono ?_
 rintro en w3 ⟨An, cn, rfl, hO, hb⟩
 have hb13 := below_then HB2.out HB2.out.size hb
 have HB3 := Aside0.mk hb13
 have HRN := Aside0.mk (hO.rw (Below.refl _ _))
 have HX3 := Aside0.mk (blk_b hb13 HBX.out)
 have HY3 := Aside0.mk (blk_b hb13 HBY.out)
 have HE3 := Aside0.mk (HR1.out.below hb13)
 have HBB3 := Aside0.mk (below_then HB1.out HB1.out.size hb13)
 clear hb hO HB2 HR0 HR1 HBX HBY HB1 hb13 HB3 HW1
 obtain ⟨X, hX⟩ : ∃ X, X = fewP true l := ⟨_, rfl⟩
 rw [← hX] at HRN ⊢
 have hsh : Sh X := by rw [hX]; exact few_sh _ _
 have hx24 : X.length ≤ 24 := by rw [hX]; exact few_len _ _
 have HSH := Aside0.mk hsh
 clear hX hsh
 have q0 : w3.cell? ⟨w.heap.size + 1, 0, none⟩ = some (.int .i64 d0.mul) := (blk_cell HY3.out 0).trans rfl
 have q1 : w3.cell? ⟨w.heap.size + 1, 1, none⟩ = some (.int .i64 d0.dv) := (blk_cell HY3.out 1).trans rfl
 have q2 : w3.cell? ⟨w.heap.size + 1, 2, none⟩ = some (.int .i64 d0.ld) := (blk_cell HY3.out 2).trans rfl
 have q3 : w3.cell? ⟨w.heap.size + 1, 3, none⟩ = some (.int .i64 d0.tk) := (blk_cell HY3.out 3).trans rfl
 go_wp2_with fail
 refine (desc_c d0 _).mono ?_
 rintro en w4 ⟨rfl, hb⟩
 have hb4 : Below w3.heap.size w3 (w4.alloc (.cells #[.int .i64 (descP d0).mul, .int .i64 (descP d0).dv, .int .i64 (descP d0).ld, .int .i64 (descP d0).tk] 27)) := below_alloc hb _
 have ha4 : (w4.alloc (.cells #[.int .i64 (descP d0).mul, .int .i64 (descP d0).dv, .int .i64 (descP d0).ld, .int .i64 (descP d0).tk] 27)).heap[w4.heap.size]? = some (.cells #[.int .i64 (descP d0).mul, .int .i64 (descP d0).dv, .int .i64 (descP d0).ld, .int .i64 (descP d0).tk] 27 (0, 0)) := heap_alloc_new w4 _
 clear hb q0 q1 q2 q3
 go_upto_region 4 with fail
 generalize w4.alloc (.cells #[.int .i64 (descP d0).mul, .int .i64 (descP d0).dv, .int .i64 (descP d0).ld, .int .i64 (descP d0).tk] 27) = w5 at hb4 ha4 ⊢
 generalize w4.heap.size = ga at ha4 ⊢
 have HB5 := Aside0.mk hb4
 have HA5 := Aside0.mk ha4
 clear hb4 ha4
 have q4 : w5.cell? ⟨w.heap.size + 1, 4, none⟩ = some (.int .i64 d1.mul) := cell_b HB5.out ((blk_cell HY3.out 4).trans rfl)
 have q5 : w5.cell? ⟨w.heap.size + 1, 5, none⟩ = some (.int .i64 d1.dv) := cell_b HB5.out ((blk_cell HY3.out 5).trans rfl)
 have q6 : w5.cell? ⟨w.heap.size + 1, 6, none⟩ = some (.int .i64 d1.ld) := cell_b HB5.out ((blk_cell HY3.out 6).trans rfl)
 have q7 : w5.cell? ⟨w.heap.size + 1, 7, none⟩ = some (.int .i64 d1.tk) := cell_b HB5.out ((blk_cell HY3.out 7).trans rfl)
 go_wp2_with fail
 refine (desc_c d1 _).mono ?_
 rintro en w6 ⟨rfl, hb⟩
 have hb6 : Below w5.heap.size w5 (w6.alloc (.cells #[.int .i64 (descP d1).mul, .int .i64 (descP d1).dv, .int .i64 (descP d1).ld, .int .i64 (descP d1).tk] 27)) := below_alloc hb _
 have ha6 : (w6.alloc (.cells #[.int .i64 (descP d1).mul, .int .i64 (descP d1).dv, .int .i64 (descP d1).ld, .int .i64 (descP d1).tk] 27)).heap[w6.heap.size]? = some (.cells #[.int .i64 (descP d1).mul, .int .i64 (descP d1).dv, .int .i64 (descP d1).ld, .int .i64 (descP d1).tk] 27 (0, 0)) := heap_alloc_new w6 _
 clear hb q4 q5 q6 q7
 go_upto_region 5 with fail
 generalize w6.alloc (.cells #[.int .i64 (descP d1).mul, .int .i64 (descP d1).dv, .int .i64 (descP d1).ld, .int .i64 (descP d1).tk] 27) = w7 at hb6 ha6 ⊢
 generalize w6.heap.size = gb at ha6 ⊢
 have HB7 := Aside0.mk (below_then HB5.out HB5.out.size hb6)
 have HB57 := Aside0.mk hb6
 have HA7 := Aside0.mk (blk_b hb6 HA5.out)
 have HD7 := Aside0.mk ha6
 clear hb6 ha6 HB5 HA5
 have q0 : w7.cell? ⟨ga, 0, none⟩ = some (.int .i64 (descP d0).mul) := (blk_cell HA7.out 0).trans rfl
 have p0 : w7.cell? ⟨gb, 0, none⟩ = some (.int .i64 (descP d1).mul) := (blk_cell HD7.out 0).trans rfl
 have q1 : w7.cell? ⟨ga, 1, none⟩ = some (.int .i64 (descP d0).dv) := (blk_cell HA7.out 1).trans rfl
 have p1 : w7.cell? ⟨gb, 1, none⟩ = some (.int .i64 (descP d1).dv) := (blk_cell HD7.out 1).trans rfl
 have q2 : w7.cell? ⟨ga, 2, none⟩ = some (.int .i64 (descP d0).ld) := (blk_cell HA7.out 2).trans rfl
 have p2 : w7.cell? ⟨gb, 2, none⟩ = some (.int .i64 (descP d1).ld) := (blk_cell HD7.out 2).trans rfl
 have q3 : w7.cell? ⟨ga, 3, none⟩ = some (.int .i64 (descP d0).tk) := (blk_cell HA7.out 3).trans rfl
 have p3 : w7.cell? ⟨gb, 3, none⟩ = some (.int .i64 (descP d1).tk) := (blk_cell HD7.out 3).trans rfl
 go_upto_region 6 with fail
 have hb8 : Below w7.heap.size w7 (w7.alloc (.cells #[.int .i64 (moreD (descP d0) (descP d1)).mul, .int .i64 (moreD (descP d0) (descP d1)).dv, .int .i64 (moreD (descP d0) (descP d1)).ld, .int .i64 (moreD (descP d0) (descP d1)).tk] 27)) := below_alloc (Below.refl _ _) _
 have ha8 : (w7.alloc (.cells #[.int .i64 (moreD (descP d0) (descP d1)).mul, .int .i64 (moreD (descP d0) (descP d1)).dv, .int .i64 (moreD (descP d0) (descP d1)).ld, .int .i64 (moreD (descP d0) (descP d1)).tk] 27)).heap[w7.heap.size]? = some (.cells #[.int .i64 (moreD (descP d0) (descP d1)).mul, .int .i64 (moreD (descP d0) (descP d1)).dv, .int .i64 (moreD (descP d0) (descP d1)).ld, .int .i64 (moreD (descP d0) (descP d1)).tk] 27 (0, 0)) := heap_alloc_new w7 _
 clear q0 p0 q1 p1 q2 p2 q3 p3
 change Code.wp _ _ _ _ (w7.alloc (.cells #[.int .i64 (moreD (descP d0) (descP d1)).mul, .int .i64 (moreD (descP d0) (descP d1)).dv, .int .i64 (moreD (descP d0) (descP d1)).ld, .int .i64 (moreD (descP d0) (descP d1)).tk] 27))
 generalize w7.alloc (.cells #[.int .i64 (moreD (descP d0) (descP d1)).mul, .int .i64 (moreD (descP d0) (descP d1)).dv, .int .i64 (moreD (descP d0) (descP d1)).ld, .int .i64 (moreD (descP d0) (descP d1)).tk] 27) = w8 at hb8 ha8 ⊢
 generalize w7.heap.size = gm at ha8 ⊢
 have HB8 := Aside0.mk (below_then HB7.out HB7.out.size hb8)
 have HA8 := Aside0.mk (blk_b hb8 HA7.out)
 have HM8 := Aside0.mk ha8
 have HX8 := Aside0.mk (blk_b (below_then HB7.out HB7.out.size hb8) HX3.out)
 have HRN8 := Aside0.mk (HRN.out.below (below_then HB7.out HB7.out.size hb8))
 have HE8 := Aside0.mk (HE3.out.below (below_then HB7.out HB7.out.size hb8))
 have HBB8 := Aside0.mk (below_then HBB3.out HBB3.out.size (below_then HB7.out HB7.out.size hb8))
 clear hb8 ha8 HB7 HB57 HA7 HD7 HX3 HY3 HRN HE3 HBB3
 go_wp2_with fail
 go_loopw [12, 13] (fun v12 v13 wr => ∃ j : Nat, j ≤ X.length ∧ v13 = .int .i64 j ∧ v12 = .int .i64 (1 + sumLt (descP d0) X j) ∧ Aside0 (Below w8.heap.size w8 wr)) (fun _ v13 _ => X.length - (intOf v13).toNat)
 case atStart => exact ⟨0, Nat.zero_le _, rfl, rfl, ⟨Below.refl _ _⟩⟩
 case round =>
  obtain ⟨j, hj, rfl, rfl, HB⟩ := hrel
  by_cases hjl : j < X.length
  · obtain ⟨ad, A7, c7, x, eA, hx, x0, x1, x2, x3, x4, x5, x6, x7, x8, hl7, hC7⟩ := at37 HRN8.out.reads j hjl
    subst eA
    have HXS := Aside0.mk (And.intro x0 (And.intro x1 (And.intro x2 (And.intro x3 (And.intro x4 (And.intro x5 (And.intro x6 x7)))))))
    have HL7 := Aside0.mk hl7
    have HC7 := Aside0.mk hC7
    have HLa : Aside0 (∀ w', Below w8.heap.size w8 w' → Calls Try.prog 13 #[.agg #[.int .i64 x.f0.f0, .int .i64 x.f0.f1, .int .i64 x.f0.f2, .int .i64 x.f0.f3, .int .i64 x.f0.f4, .int .i64 x.f0.f5, .int .i32 x.f0.f6, .slice A7 x.f0.f7.length c7], .agg #[.int .i64 (descP d0).mul, .int .i64 (descP d0).dv, .int .i64 (descP d0).ld, .int .i64 (descP d0).tk]] w' fun en w'' => en = .returned (.int .i64 (ltP x.f0 (descP d0))) ∧ Below w'.heap.size w' w'') := ⟨fun w' hb => sched_Late.calls _ _ _ _ _ _ _ A7 c7 x.f0.f7 (descP d0).mul (descP d0).dv (descP d0).ld (descP d0).tk _ w' (Kd.C_below HC7.out hb) HL7.out (lt_eq x.f0 (descP d0))⟩
    have hsm := sumLt_bd (descP d0) X j
    have hlb := lt_bd x.f0 (descP d0)
    have hst : sumLt (descP d0) X (j + 1) = sumLt (descP d0) X j + ltP x.f0 (descP d0) := by rw [hx]; rfl
    obtain ⟨n3, hn3⟩ : ∃ n, n = ltP x.f0 (descP d0) := ⟨_, rfl⟩
    obtain ⟨sm, hs⟩ : ∃ sm, sm = 1 + sumLt (descP d0) X j := ⟨_, rfl⟩
    rw [← hn3] at HLa hlb hst
    rw [← hs]
    have hwr : wrap64 (sm + n3) = 1 + sumLt (descP d0) X (j + 1) := by rw [hst, hs, sum_step (by omega) (by omega) hlb.1 hlb.2]; omega
    have HWR := Aside0.mk hwr
    clear x0 x1 x2 x3 x4 x5 x6 x7 x8 hl7 hC7 hx hn3 hs hst hsm hlb hwr
    obtain ⟨wz, rfl⟩ : ∃ wz : World, wz = wr := ⟨_, rfl⟩
    have HBn := Aside0.mk (below_drew1 HB.out)
    go_wp2_with fail
    refine start_ (n := 10) (S := fun w' => w'.cell? (ad.add (j * 9)) = some (.int .i64 x.f0.f0) ∧ w'.cell? ⟨(ad.add (j * 9)).block, (ad.add (j * 9)).off + 1, none⟩ = some (.int .i64 x.f0.f1) ∧ w'.cell? ⟨(ad.add (j * 9)).block, (ad.add (j * 9)).off + 2, none⟩ = some (.int .i64 x.f0.f2) ∧ w'.cell? ⟨(ad.add (j * 9)).block, (ad.add (j * 9)).off + 3, none⟩ = some (.int .i64 x.f0.f3) ∧ w'.cell? ⟨(ad.add (j * 9)).block, (ad.add (j * 9)).off + 4, none⟩ = some (.int .i64 x.f0.f4) ∧ w'.cell? ⟨(ad.add (j * 9)).block, (ad.add (j * 9)).off + 5, none⟩ = some (.int .i64 x.f0.f5) ∧ w'.cell? ⟨(ad.add (j * 9)).block, (ad.add (j * 9)).off + 6, none⟩ = some (.int .i32 x.f0.f6) ∧ w'.cell? ⟨(ad.add (j * 9)).block, (ad.add (j * 9)).off + 7, none⟩ = some (.slice A7 x.f0.f7.length c7) ∧ w'.cell? ⟨ga, 0, none⟩ = some (.int .i64 (descP d0).mul) ∧ w'.cell? ⟨ga, 1, none⟩ = some (.int .i64 (descP d0).dv) ∧ w'.cell? ⟨ga, 2, none⟩ = some (.int .i64 (descP d0).ld) ∧ w'.cell? ⟨ga, 3, none⟩ = some (.int .i64 (descP d0).tk)) (ds := []) (bm 10 0) (by kernel_rfl) rfl rfl ⟨cell_b HBn.out HXS.out.1, cell_b HBn.out HXS.out.2.1, cell_b HBn.out HXS.out.2.2.1, cell_b HBn.out HXS.out.2.2.2.1, cell_b HBn.out HXS.out.2.2.2.2.1, cell_b HBn.out HXS.out.2.2.2.2.2.1, cell_b HBn.out HXS.out.2.2.2.2.2.2.1, cell_b HBn.out HXS.out.2.2.2.2.2.2.2, cell_b HBn.out ((blk_cell HA8.out 0).trans rfl), cell_b HBn.out ((blk_cell HA8.out 1).trans rfl), cell_b HBn.out ((blk_cell HA8.out 2).trans rfl), cell_b HBn.out ((blk_cell HA8.out 3).trans rfl)⟩ (fun hHeld => ?_)
    refine pu 0 52 (bm 10 1) rfl rfl (by kernel_rfl) (fun _ _ _ h => h) (by rfl) (v := ?_) (a' := ?_) (by intro w'; go_simp; with_reducible rfl) (by simp only [np]; rfl) ?_
    refine pu 1 53 (bm 10 3) rfl rfl (by kernel_rfl) (fun _ _ _ h => h) (by rfl) (v := ?_) (a' := ?_) (by intro w'; go_simp; with_reducible rfl) (by simp only [np]; rfl) ?_
    refine pu 2 54 (bm 10 7) rfl rfl (by kernel_rfl) (fun _ _ _ h => h) (by rfl) (v := ?_) (a' := ?_) (by intro w'; go_simp; with_reducible rfl) (by simp only [np]; rfl) ?_
    refine pu 3 55 (bm 10 15) rfl rfl (by kernel_rfl) (fun _ _ _ h => h) (by rfl) (v := ?_) (a' := ?_) (by intro w'; go_simp; with_reducible rfl) (by simp only [np]; rfl) ?_
    refine pu 4 56 (bm 10 31) rfl rfl (by kernel_rfl) (fun _ _ _ h => h) (by rfl) (v := ?_) (a' := ?_) (by intro w'; go_simp; with_reducible rfl) (by simp only [np]; rfl) ?_
    refine tu 5 57 (bm 10 63) rfl rfl (by kernel_rfl) (fun _ _ _ h => h) (by rfl) (v := ?_) (a' := ?_) (by rintro w' ⟨s0, s1, s2, s3, s4, s5, s6, s7, s8, s9, s10, s11⟩; go_simp; with_reducible rfl) hHeld (by simp only [np]; rfl) ?_
    refine tu 6 58 (bm 10 127) rfl rfl (by kernel_rfl) (fun _ _ _ h => h) (by rfl) (v := ?_) (a' := ?_) (by rintro w' ⟨s0, s1, s2, s3, s4, s5, s6, s7, s8, s9, s10, s11⟩; go_simp; with_reducible rfl) hHeld (by simp only [np]; rfl) ?_
    refine one_ (i := 7) (N := some 59) (bm 10 255) rfl rfl (by kernel_rfl) (by decide) (fun K hK => ?_)
    refine goes_ Try.func13 (by kernel_rfl) rfl #[.agg #[.int .i64 x.f0.f0, .int .i64 x.f0.f1, .int .i64 x.f0.f2, .int .i64 x.f0.f3, .int .i64 x.f0.f4, .int .i64 x.f0.f5, .int .i32 x.f0.f6, .slice A7 x.f0.f7.length c7], .agg #[.int .i64 (descP d0).mul, .int .i64 (descP d0).dv, .int .i64 (descP d0).ld, .int .i64 (descP d0).tk]] (by rfl) rfl rfl (by simp only [List.map_toArray, List.map_cons, List.map_nil]; rfl) ?_
    with_reducible refine (HLa.out _ HBn.out).mono ?_
    rintro en w9 ⟨rfl, hb⟩
    refine ⟨_, rfl, ?_⟩
    have HBm := Aside0.mk (below_then HBn.out HBn.out.size hb)
    clear HBn; have HBn := HBm; clear HBm
    refine hK.out _ _ ⟨cell_b hb (hHeld.1), cell_b hb (hHeld.2.1), cell_b hb (hHeld.2.2.1), cell_b hb (hHeld.2.2.2.1), cell_b hb (hHeld.2.2.2.2.1), cell_b hb (hHeld.2.2.2.2.2.1), cell_b hb (hHeld.2.2.2.2.2.2.1), cell_b hb (hHeld.2.2.2.2.2.2.2.1), cell_b hb (hHeld.2.2.2.2.2.2.2.2.1), cell_b hb (hHeld.2.2.2.2.2.2.2.2.2.1), cell_b hb (hHeld.2.2.2.2.2.2.2.2.2.2.1), cell_b hb (hHeld.2.2.2.2.2.2.2.2.2.2.2)⟩ (fun hHeld => ?_)
    clear hK K
    refine norm_ (a' := ?_) ?_ ?_
    rotate_left
    · show Act.put _ (some 59) _ = _; simp only [np]; rfl
    refine pu 8 60 (bm 10 511) rfl rfl (by kernel_rfl) (fun _ _ _ h => h) (by rfl) (v := ?_) (a' := ?_) (by intro w'; go_simp; with_reducible rfl) (by simp only [np]; rfl) ?_
    refine pu 9 12 (bm 10 1023) rfl rfl (by kernel_rfl) (fun _ _ _ h => h) (by rfl) (v := ?_) (a' := ?_) (by intro w'; go_simp; with_reducible rfl) (by simp only [np]; rfl) ?_
    refine done_ (by kernel_rfl) ?_
    clear hHeld; go_wp2
    go_roundw
    case rel => exact ⟨j + 1, by omega, by go_num, by rw [← HWR.out], HBn⟩
    case measure => simp [intOf]; omega
  · have hjx : j = X.length := by omega
    subst hjx; clear hjl hj
    have HCa := Aside0.mk (cyc_at (descP d0) HRN8.out HE8.out HSH.out)
    have HCm := Aside0.mk (cyc_at (moreD (descP d0) (descP d1)) HRN8.out HE8.out HSH.out)
    have HC1 : Aside0 (∀ w', Below w8.heap.size w8 w' → Calls Try.prog 10 #[.slice An X.length cn, .agg #[.int .i64 e.op, .int .i64 e.a, .int .i64 e.b, .slice A1 e.tos.length c1, .int .i32 e.imm], .agg #[.int .i64 1, .int .i64 1, .int .i64 1, .int .i64 0]] w' fun en w'' => en = .returned (.int .i64 ((X.length : Int) + 1)) ∧ Below w'.heap.size w' w'') := ⟨fun w' hb => by
     have := cyc_at oneD HRN8.out HE8.out HSH.out w' hb
     rwa [cy_one] at this⟩
    have HCn : Aside0 (∀ w', Below w8.heap.size w8 w' → Calls Try.prog 10 #[.slice none 0 0, .agg #[.int .i64 e.op, .int .i64 e.a, .int .i64 e.b, .slice A1 e.tos.length c1, .int .i32 e.imm], .agg #[.int .i64 (descP d0).mul, .int .i64 (descP d0).dv, .int .i64 (descP d0).ld, .int .i64 (descP d0).tk]] w' fun en w'' => en = .returned (.int .i64 1) ∧ Below w'.heap.size w' w'') := ⟨fun w' hb => by
     have := cyc_at (A := none) (c := 0) (X := []) (descP d0) (w := w8) ⟨Nat.le_refl _, ⟨rfl, by decide, fun h => by simp at h⟩⟩ HE8.out ⟨by decide, fun x hx => by simp at hx⟩ w' hb
     rwa [cy_nil] at this⟩
    have hge := cy_ge X e (descP d0)
    have hle := cy_le X e (descP d0)
    have hmo := cy_more X e (descP d0) (descP d1)
    obtain ⟨n0, hn0⟩ : ∃ n, n = cyP X e (descP d0) := ⟨_, rfl⟩
    obtain ⟨n2, hn2⟩ : ∃ n, n = cyP X e (moreD (descP d0) (descP d1)) := ⟨_, rfl⟩
    obtain ⟨sm, hsm⟩ : ∃ n, n = 1 + sumLt (descP d0) X X.length := ⟨_, rfl⟩
    rw [← hn0] at hge hle hmo HCa
    rw [← hn2] at hmo HCm
    rw [← hsm]
    have hb1 : decide ((X.length : Int) + 1 ≤ n0) = true := decide_eq_true hge
    have hb2 : decide (n0 ≤ sm) = true := decide_eq_true (by omega)
    have hb3 : decide (n0 ≤ n2) = true := decide_eq_true hmo
    clear hn0 hn2 hsm hge hle hmo
    have y0 : wr.cell? ⟨w.heap.size, 0, none⟩ = some (.int .i64 e.op) := cell_b HB.out ((blk_cell HX8.out 0).trans rfl)
    have y1 : wr.cell? ⟨w.heap.size, 1, none⟩ = some (.int .i64 e.a) := cell_b HB.out ((blk_cell HX8.out 1).trans rfl)
    have y2 : wr.cell? ⟨w.heap.size, 2, none⟩ = some (.int .i64 e.b) := cell_b HB.out ((blk_cell HX8.out 2).trans rfl)
    have y3 : wr.cell? ⟨w.heap.size, 3, none⟩ = some (.slice A1 e.tos.length c1) := cell_b HB.out ((blk_cell HX8.out 3).trans rfl)
    have y4 : wr.cell? ⟨w.heap.size, 4, none⟩ = some (.int .i32 e.imm) := cell_b HB.out ((blk_cell HX8.out 4).trans rfl)
    have z0 : wr.cell? ⟨ga, 0, none⟩ = some (.int .i64 (descP d0).mul) := cell_b HB.out ((blk_cell HA8.out 0).trans rfl)
    have z1 : wr.cell? ⟨ga, 1, none⟩ = some (.int .i64 (descP d0).dv) := cell_b HB.out ((blk_cell HA8.out 1).trans rfl)
    have z2 : wr.cell? ⟨ga, 2, none⟩ = some (.int .i64 (descP d0).ld) := cell_b HB.out ((blk_cell HA8.out 2).trans rfl)
    have z3 : wr.cell? ⟨ga, 3, none⟩ = some (.int .i64 (descP d0).tk) := cell_b HB.out ((blk_cell HA8.out 3).trans rfl)
    go_wp2_with fail
    refine (HCa.out _ HB.out).mono ?_
    rintro en w9 ⟨rfl, hb⟩
    have hb9 := below_then HB.out HB.out.size hb
    clear y0 y1 y2 y3 y4 z0 z1 z2 z3
    have y0 : w9.cell? ⟨w.heap.size, 0, none⟩ = some (.int .i64 e.op) := cell_b hb9 ((blk_cell HX8.out 0).trans rfl)
    have y1 : w9.cell? ⟨w.heap.size, 1, none⟩ = some (.int .i64 e.a) := cell_b hb9 ((blk_cell HX8.out 1).trans rfl)
    have y2 : w9.cell? ⟨w.heap.size, 2, none⟩ = some (.int .i64 e.b) := cell_b hb9 ((blk_cell HX8.out 2).trans rfl)
    have y3 : w9.cell? ⟨w.heap.size, 3, none⟩ = some (.slice A1 e.tos.length c1) := cell_b hb9 ((blk_cell HX8.out 3).trans rfl)
    have y4 : w9.cell? ⟨w.heap.size, 4, none⟩ = some (.int .i32 e.imm) := cell_b hb9 ((blk_cell HX8.out 4).trans rfl)
    have z0 : w9.cell? ⟨ga, 0, none⟩ = some (.int .i64 (descP d0).mul) := cell_b hb9 ((blk_cell HA8.out 0).trans rfl)
    have z1 : w9.cell? ⟨ga, 1, none⟩ = some (.int .i64 (descP d0).dv) := cell_b hb9 ((blk_cell HA8.out 1).trans rfl)
    have z2 : w9.cell? ⟨ga, 2, none⟩ = some (.int .i64 (descP d0).ld) := cell_b hb9 ((blk_cell HA8.out 2).trans rfl)
    have z3 : w9.cell? ⟨ga, 3, none⟩ = some (.int .i64 (descP d0).tk) := cell_b hb9 ((blk_cell HA8.out 3).trans rfl)
    have HB9 := Aside0.mk hb9
    clear hb hb9
    go_wp2_with fail
    refine (HC1.out _ HB9.out).mono ?_
    rintro en w10 ⟨rfl, hb⟩
    have hb10 := below_then HB9.out HB9.out.size hb
    clear y0 y1 y2 y3 y4 z0 z1 z2 z3
    have y0 : w10.cell? ⟨w.heap.size, 0, none⟩ = some (.int .i64 e.op) := cell_b hb10 ((blk_cell HX8.out 0).trans rfl)
    have y1 : w10.cell? ⟨w.heap.size, 1, none⟩ = some (.int .i64 e.a) := cell_b hb10 ((blk_cell HX8.out 1).trans rfl)
    have y2 : w10.cell? ⟨w.heap.size, 2, none⟩ = some (.int .i64 e.b) := cell_b hb10 ((blk_cell HX8.out 2).trans rfl)
    have y3 : w10.cell? ⟨w.heap.size, 3, none⟩ = some (.slice A1 e.tos.length c1) := cell_b hb10 ((blk_cell HX8.out 3).trans rfl)
    have y4 : w10.cell? ⟨w.heap.size, 4, none⟩ = some (.int .i32 e.imm) := cell_b hb10 ((blk_cell HX8.out 4).trans rfl)
    have z0 : w10.cell? ⟨gm, 0, none⟩ = some (.int .i64 (moreD (descP d0) (descP d1)).mul) := cell_b hb10 ((blk_cell HM8.out 0).trans rfl)
    have z1 : w10.cell? ⟨gm, 1, none⟩ = some (.int .i64 (moreD (descP d0) (descP d1)).dv) := cell_b hb10 ((blk_cell HM8.out 1).trans rfl)
    have z2 : w10.cell? ⟨gm, 2, none⟩ = some (.int .i64 (moreD (descP d0) (descP d1)).ld) := cell_b hb10 ((blk_cell HM8.out 2).trans rfl)
    have z3 : w10.cell? ⟨gm, 3, none⟩ = some (.int .i64 (moreD (descP d0) (descP d1)).tk) := cell_b hb10 ((blk_cell HM8.out 3).trans rfl)
    have HB10 := Aside0.mk hb10
    clear hb hb10
    go_wp2_with fail
    refine (HCm.out _ HB10.out).mono ?_
    rintro en w11 ⟨rfl, hb⟩
    have hb11 := below_then HB10.out HB10.out.size hb
    clear y0 y1 y2 y3 y4 z0 z1 z2 z3
    have y0 : w11.cell? ⟨w.heap.size, 0, none⟩ = some (.int .i64 e.op) := cell_b hb11 ((blk_cell HX8.out 0).trans rfl)
    have y1 : w11.cell? ⟨w.heap.size, 1, none⟩ = some (.int .i64 e.a) := cell_b hb11 ((blk_cell HX8.out 1).trans rfl)
    have y2 : w11.cell? ⟨w.heap.size, 2, none⟩ = some (.int .i64 e.b) := cell_b hb11 ((blk_cell HX8.out 2).trans rfl)
    have y3 : w11.cell? ⟨w.heap.size, 3, none⟩ = some (.slice A1 e.tos.length c1) := cell_b hb11 ((blk_cell HX8.out 3).trans rfl)
    have y4 : w11.cell? ⟨w.heap.size, 4, none⟩ = some (.int .i32 e.imm) := cell_b hb11 ((blk_cell HX8.out 4).trans rfl)
    have z0 : w11.cell? ⟨ga, 0, none⟩ = some (.int .i64 (descP d0).mul) := cell_b hb11 ((blk_cell HA8.out 0).trans rfl)
    have z1 : w11.cell? ⟨ga, 1, none⟩ = some (.int .i64 (descP d0).dv) := cell_b hb11 ((blk_cell HA8.out 1).trans rfl)
    have z2 : w11.cell? ⟨ga, 2, none⟩ = some (.int .i64 (descP d0).ld) := cell_b hb11 ((blk_cell HA8.out 2).trans rfl)
    have z3 : w11.cell? ⟨ga, 3, none⟩ = some (.int .i64 (descP d0).tk) := cell_b hb11 ((blk_cell HA8.out 3).trans rfl)
    have HB11 := Aside0.mk hb11
    clear hb hb11
    go_wp2_with fail
    refine (HCn.out _ HB11.out).mono ?_
    rintro en w12 ⟨rfl, hb⟩
    have HB12 := Aside0.mk (below_then HB11.out HB11.out.size hb)
    clear hb; go_wp2; go_ret
    exact ⟨rfl, below_then HBB8.out HBB8.out.size HB12.out⟩
end Go.Proofs.Ytocndmielggnpaa.PAll
end
