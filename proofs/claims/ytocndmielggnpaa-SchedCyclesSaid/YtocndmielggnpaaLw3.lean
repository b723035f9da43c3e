/- jacquardlaw16.SchedCycles, walked. -/
import Derived.Test.YtocndmielggnpaaM12
set_option linter.unusedSimpArgs false
set_option linter.unusedVariables false
section
namespace Go.Proofs.Ytocndmielggnpaa.PAll
open Go.RowKit Go.Proofs.YtocndmielggnpaaW.PrintWords Go.Proofs.YtocndmielggnpaaW.PrintLast Go.Proofs.YtocndmielggnpaaW.PrintMore
open Go.Proofs.Ytocndmielggnpaa.AMap Go.Proofs.Ytocndmielggnpaa.Env Go.Proofs.Ytocndmielggnpaa.Kind
set_option maxHeartbeats 4000000 in
set_option maxRecDepth 100000 in
theorem law3_calls (A0 : Option Addr) (c0 : Nat) (l : List S37) (e : En) (A1 : Option Addr) (c1 : Nat) (d : De) (w : World) (hr0 : Rw w A0 c0 l) (hr1 : Ew w A1 c1 e.tos) :
    Calls Try.prog 3 #[.slice A0 l.length c0, .agg (eCells e A1 c1), .agg (dCells d)] w fun en w' => en = .returned (.bool true) ∧ Below w.heap.size w w' := by
 obtain ⟨w1, hw1⟩ : ∃ w1, w1 = (w.alloc (.cells (eCells e A1 c1) 25)).alloc (.cells (dCells d) 27) := ⟨_, rfl⟩
 have hbx : w1.heap[w.heap.size]? = some (.cells (eCells e A1 c1) 25 (0, 0)) := by rw [hw1]; exact blk_alloc (heap_alloc_new w _) _
 have hby : w1.heap[w.heap.size + 1]? = some (.cells (dCells d) 27 (0, 0)) := by rw [hw1]; exact new_at _ _ _ (by simp)
 have hb1 : Below w.heap.size w w1 := by rw [hw1]; exact below_alloc (below_alloc (Below.refl _ _) _) _
 have HBX := Aside0.mk hbx
 have HBY := Aside0.mk hby
 have HB1 := Aside0.mk hb1
 have HW1 := Aside0.mk hw1
 have HR0 := Aside0.mk (hr0.below hb1)
 have HR1 := Aside0.mk (hr1.below hb1)
 clear hr0 hr1 hbx hby hb1 hw1
 unfold eCells dCells
 go_enter Try.func3, Try.ntmps3
 go_wp2_with fail
 refine calls_world HW1.out ?_
 refine (shown_calls _).mono ?_
 rintro en w2 ⟨rfl, hb⟩
 have HB2 := Aside0.mk hb
 clear hb
 go_wp2_with fail
 refine (few_at HR0.out false _ HB2.out).mono ?_
 rintro en w3 ⟨Af, cf, rfl, hO, hb⟩
 have HO3 := Aside0.mk hO
 have HB3 := Aside0.mk (below_then HB2.out HB2.out.size hb)
 clear hb hO HB2
 go_wp2_with fail
 refine (few_at HR0.out true _ HB3.out).mono ?_
 rintro en w4 ⟨An, cn, rfl, hO, hb⟩
 have HB4 := Aside0.mk (below_then HB3.out HB3.out.size hb)
 have HRF := Aside0.mk (HO3.out.rw hb)
 have HRN := Aside0.mk (hO.rw (Below.refl _ _))
 clear hb hO HB3 HO3
 go_wp2_with fail
 obtain ⟨w5, hw5⟩ : ∃ w5, w5 = w4.alloc (.cells #[.slice Af (fewP false l).length cf, .slice An (fewP true l).length cn] 30) := ⟨_, rfl⟩
 have ht5 : w5.heap[w4.heap.size]? = some (.cells #[.slice Af (fewP false l).length cf, .slice An (fewP true l).length cn] 30 (0, 0)) := by rw [hw5]; exact heap_alloc_new w4 _
 have hb5 : Below w4.heap.size w4 w5 := by rw [hw5]; exact below_alloc (Below.refl _ _) _
 have hb15 : Below w1.heap.size w1 w5 := below_then HB4.out HB4.out.size hb5
 rw [← hw5]
 obtain ⟨g, hg⟩ : ∃ g, g = w4.heap.size := ⟨_, rfl⟩
 rw [← hg] at ht5 ⊢
 have HRF5 := Aside0.mk (HRF.out.below hb5)
 have HRN5 := Aside0.mk (HRN.out.below hb5)
 have HEW := Aside0.mk (HR1.out.below hb15)
 have HX5 := Aside0.mk (blk_b hb15 HBX.out)
 have HY5 := Aside0.mk (blk_b hb15 HBY.out)
 have HB5 := Aside0.mk (below_then HB1.out HB1.out.size hb15)
 have HT5 := Aside0.mk ht5
 clear hb5 hb15 ht5 hw5 hg HB4 HRF HRN HBX HBY HR1 HR0
 go_loopw [9] (fun v9 wr => ∃ k : Nat, k ≤ 2 ∧ v9 = .int .i64 k ∧ Aside0 (Below w5.heap.size w5 wr)) (fun v9 _ => 2 - (intOf v9).toNat)
 case atStart => exact ⟨0, by omega, rfl, ⟨Below.refl _ _⟩⟩
 case round =>
  obtain ⟨k, hk, rfl, HB⟩ := hrel
  by_cases hlt : k < 2
  · obtain ⟨A, c, X, hcell, hrw, hsh⟩ : ∃ A c X, w5.cell? ⟨g, k, none⟩ = some (.slice A X.length c) ∧ Rw w5 A c X ∧ Sh X := by
     have : k = 0 ∨ k = 1 := by omega
     rcases this with rfl | rfl
     · exact ⟨Af, cf, _, (blk_cell HT5.out 0).trans rfl, HRF5.out, few_sh _ _⟩
     · exact ⟨An, cn, _, (blk_cell HT5.out 1).trans rfl, HRN5.out, few_sh _ _⟩
    have hxl : X.length ≤ 100 := hsh.1
    have HCELL := Aside0.mk hcell
    have HRW := Aside0.mk hrw
    have HSH := Aside0.mk hsh
    have HCa := Aside0.mk (cyc_at d hrw HEW.out hsh)
    have HRa := Aside0.mk (ref_at d hrw HEW.out hsh)
    have HCb := Aside0.mk (cyc_at (descP d) hrw HEW.out hsh)
    have HRb := Aside0.mk (ref_at (descP d) hrw HEW.out hsh)
    obtain ⟨n1, hn1⟩ : ∃ n, n = cyP X e d := ⟨_, rfl⟩
    obtain ⟨n2, hn2⟩ : ∃ n, n = cyP X e (descP d) := ⟨_, rfl⟩
    rw [← hn1] at HCa HRa
    rw [← hn2] at HCb HRb
    clear hcell hrw hsh hn1 hn2
    have HBn := Aside0.mk (below_drew1 HB.out)
    have hne1 : (n1 != n1) = false := by simp
    have hne2 : (n2 != n2) = false := by simp
    obtain ⟨wq, rfl⟩ : ∃ wq : World, wq = wr := ⟨_, rfl⟩
    go_wp2_with fail
    refine start_ (n := 30) (S := fun w' => w'.cell? ⟨g, k, none⟩ = some (.slice A X.length c) ∧ w'.cell? ⟨w.heap.size, 0, none⟩ = some (.int .i64 e.op) ∧ w'.cell? ⟨w.heap.size, 1, none⟩ = some (.int .i64 e.a) ∧ w'.cell? ⟨w.heap.size, 2, none⟩ = some (.int .i64 e.b) ∧ w'.cell? ⟨w.heap.size, 3, none⟩ = some (.slice A1 e.tos.length c1) ∧ w'.cell? ⟨w.heap.size, 4, none⟩ = some (.int .i32 e.imm) ∧ w'.cell? ⟨w.heap.size + 1, 0, none⟩ = some (.int .i64 d.mul) ∧ w'.cell? ⟨w.heap.size + 1, 1, none⟩ = some (.int .i64 d.dv) ∧ w'.cell? ⟨w.heap.size + 1, 2, none⟩ = some (.int .i64 d.ld) ∧ w'.cell? ⟨w.heap.size + 1, 3, none⟩ = some (.int .i64 d.tk)) (ds := []) (bm 30 0) (by kernel_rfl) rfl rfl ⟨cell_b HBn.out HCELL.out, cell_b HBn.out ((blk_cell HX5.out 0).trans rfl), cell_b HBn.out ((blk_cell HX5.out 1).trans rfl), cell_b HBn.out ((blk_cell HX5.out 2).trans rfl), cell_b HBn.out ((blk_cell HX5.out 3).trans rfl), cell_b HBn.out ((blk_cell HX5.out 4).trans rfl), cell_b HBn.out ((blk_cell HY5.out 0).trans rfl), cell_b HBn.out ((blk_cell HY5.out 1).trans rfl), cell_b HBn.out ((blk_cell HY5.out 2).trans rfl), cell_b HBn.out ((blk_cell HY5.out 3).trans rfl)⟩ (fun hHeld => ?_)
    refine pu 0 21 (bm 30 1) rfl rfl (by kernel_rfl) (fun _ _ _ h => h) (by rfl) (v := ?_) (a' := ?_) (by intro w'; go_simp; with_reducible rfl) (by simp only [np]; rfl) ?_
    refine pu 1 22 (bm 30 3) rfl rfl (by kernel_rfl) (fun _ _ _ h => h) (by rfl) (v := ?_) (a' := ?_) (by intro w'; go_simp; with_reducible rfl) (by simp only [np]; rfl) ?_
    refine pu 6 27 (bm 30 67) rfl rfl (by kernel_rfl) (fun _ _ _ h => h) (by rfl) (v := ?_) (a' := ?_) (by intro w'; go_simp; with_reducible rfl) (by simp only [np]; rfl) ?_
    refine pu 7 28 (bm 30 195) rfl rfl (by kernel_rfl) (fun _ _ _ h => h) (by rfl) (v := ?_) (a' := ?_) (by intro w'; go_simp; with_reducible rfl) (by simp only [np]; rfl) ?_
    refine tu 2 23 (bm 30 199) rfl rfl (by kernel_rfl) (fun _ _ _ h => h) (by rfl) (v := ?_) (a' := ?_) (by rintro w' ⟨s0, s1, s2, s3, s4, s5, s6, s7, s8, s9⟩; go_simp; with_reducible rfl) hHeld (by simp only [np]; rfl) ?_
    refine tu 3 24 (bm 30 207) rfl rfl (by kernel_rfl) (fun _ _ _ h => h) (by rfl) (v := ?_) (a' := ?_) (by rintro w' ⟨s0, s1, s2, s3, s4, s5, s6, s7, s8, s9⟩; go_simp; with_reducible rfl) hHeld (by simp only [np]; rfl) ?_
    refine tu 4 25 (bm 30 223) rfl rfl (by kernel_rfl) (fun _ _ _ h => h) (by rfl) (v := ?_) (a' := ?_) (by rintro w' ⟨s0, s1, s2, s3, s4, s5, s6, s7, s8, s9⟩; go_simp; with_reducible rfl) hHeld (by simp only [np]; rfl) ?_
    refine tu 8 29 (bm 30 479) rfl rfl (by kernel_rfl) (fun _ _ _ h => h) (by rfl) (v := ?_) (a' := ?_) (by rintro w' ⟨s0, s1, s2, s3, s4, s5, s6, s7, s8, s9⟩; go_simp; with_reducible rfl) hHeld (by simp only [np]; rfl) ?_
    refine tu 9 30 (bm 30 991) rfl rfl (by kernel_rfl) (fun _ _ _ h => h) (by rfl) (v := ?_) (a' := ?_) (by rintro w' ⟨s0, s1, s2, s3, s4, s5, s6, s7, s8, s9⟩; go_simp; with_reducible rfl) hHeld (by simp only [np]; rfl) ?_
    refine tu 10 31 (bm 30 2015) rfl rfl (by kernel_rfl) (fun _ _ _ h => h) (by rfl) (v := ?_) (a' := ?_) (by rintro w' ⟨s0, s1, s2, s3, s4, s5, s6, s7, s8, s9⟩; go_simp; with_reducible rfl) hHeld (by simp only [np]; rfl) ?_
    refine one_ (i := 5) (N := some 26) (bm 30 2047) rfl rfl (by kernel_rfl) (by decide) (fun K hK => ?_)
    refine goes_ Try.func10 (by kernel_rfl) rfl #[.slice A X.length c, .agg #[.int .i64 e.op, .int .i64 e.a, .int .i64 e.b, .slice A1 e.tos.length c1, .int .i32 e.imm], .agg #[.int .i64 d.mul, .int .i64 d.dv, .int .i64 d.ld, .int .i64 d.tk]] (by rfl) rfl rfl (by simp only [List.map_toArray, List.map_cons, List.map_nil]; rfl) ?_
    with_reducible refine (HCa.out _ HBn.out).mono ?_
    rintro en w7 ⟨rfl, hb⟩
    refine ⟨_, rfl, ?_⟩
    have HBm := Aside0.mk (below_then HBn.out HBn.out.size hb)
    clear HBn; have HBn := HBm; clear HBm
    refine hK.out _ _ ⟨cell_b hb (hHeld.1), cell_b hb (hHeld.2.1), cell_b hb (hHeld.2.2.1), cell_b hb (hHeld.2.2.2.1), cell_b hb (hHeld.2.2.2.2.1), cell_b hb (hHeld.2.2.2.2.2.1), cell_b hb (hHeld.2.2.2.2.2.2.1), cell_b hb (hHeld.2.2.2.2.2.2.2.1), cell_b hb (hHeld.2.2.2.2.2.2.2.2.1), cell_b hb (hHeld.2.2.2.2.2.2.2.2.2)⟩ (fun hHeld => ?_)
    clear hK K
    refine norm_ (a' := ?_) ?_ ?_
    rotate_left
    · show Act.put _ (some 26) _ = _; simp only [np]; rfl
    refine one_ (i := 11) (N := some 32) (bm 30 4095) rfl rfl (by kernel_rfl) (by decide) (fun K hK => ?_)
    refine goes_ Try.func11 (by kernel_rfl) rfl #[.slice A X.length c, .agg #[.int .i64 e.op, .int .i64 e.a, .int .i64 e.b, .slice A1 e.tos.length c1, .int .i32 e.imm], .agg #[.int .i64 d.mul, .int .i64 d.dv, .int .i64 d.ld, .int .i64 d.tk]] (by rfl) rfl rfl (by simp only [List.map_toArray, List.map_cons, List.map_nil]; rfl) ?_
    with_reducible refine (HRa.out _ HBn.out).mono ?_
    rintro en w7 ⟨rfl, hb⟩
    refine ⟨_, rfl, ?_⟩
    have HBm := Aside0.mk (below_then HBn.out HBn.out.size hb)
    clear HBn; have HBn := HBm; clear HBm
    refine hK.out _ _ ⟨cell_b hb (hHeld.1), cell_b hb (hHeld.2.1), cell_b hb (hHeld.2.2.1), cell_b hb (hHeld.2.2.2.1), cell_b hb (hHeld.2.2.2.2.1), cell_b hb (hHeld.2.2.2.2.2.1), cell_b hb (hHeld.2.2.2.2.2.2.1), cell_b hb (hHeld.2.2.2.2.2.2.2.1), cell_b hb (hHeld.2.2.2.2.2.2.2.2.1), cell_b hb (hHeld.2.2.2.2.2.2.2.2.2)⟩ (fun hHeld => ?_)
    clear hK K
    refine norm_ (a' := ?_) ?_ ?_
    rotate_left
    · show Act.put _ (some 32) _ = _; simp only [np]; rfl
    refine pu 12 33 (bm 30 8191) rfl rfl (by kernel_rfl) (fun _ _ _ h => h) (by rfl) (v := ?_) (a' := ?_) (by intro w'; go_simp; with_reducible rfl) (by simp only [np]; rfl) ?_
    refine pu 13 34 (bm 30 16383) rfl rfl (by kernel_rfl) (fun _ _ _ h => h) (by rfl) (v := ?_) (a' := ?_) (by intro w'; go_simp; with_reducible rfl) (by simp only [np]; rfl) ?_
    refine pu 14 35 (bm 30 32767) rfl rfl (by kernel_rfl) (fun _ _ _ h => h) (by rfl) (v := ?_) (a' := ?_) (by intro w'; go_simp; with_reducible rfl) (by simp only [np]; rfl) ?_
    refine pu 15 36 (bm 30 65535) rfl rfl (by kernel_rfl) (fun _ _ _ h => h) (by rfl) (v := ?_) (a' := ?_) (by intro w'; go_simp; with_reducible rfl) (by simp only [np]; rfl) ?_
    refine pu 21 42 (bm 30 2162687) rfl rfl (by kernel_rfl) (fun _ _ _ h => h) (by rfl) (v := ?_) (a' := ?_) (by intro w'; go_simp; with_reducible rfl) (by simp only [np]; rfl) ?_
    refine pu 22 43 (bm 30 6356991) rfl rfl (by kernel_rfl) (fun _ _ _ h => h) (by rfl) (v := ?_) (a' := ?_) (by intro w'; go_simp; with_reducible rfl) (by simp only [np]; rfl) ?_
    refine tu 16 37 (bm 30 6422527) rfl rfl (by kernel_rfl) (fun _ _ _ h => h) (by rfl) (v := ?_) (a' := ?_) (by rintro w' ⟨s0, s1, s2, s3, s4, s5, s6, s7, s8, s9⟩; go_simp; with_reducible rfl) hHeld (by simp only [np]; rfl) ?_
    refine tu 17 38 (bm 30 6553599) rfl rfl (by kernel_rfl) (fun _ _ _ h => h) (by rfl) (v := ?_) (a' := ?_) (by rintro w' ⟨s0, s1, s2, s3, s4, s5, s6, s7, s8, s9⟩; go_simp; with_reducible rfl) hHeld (by simp only [np]; rfl) ?_
    refine tu 18 39 (bm 30 6815743) rfl rfl (by kernel_rfl) (fun _ _ _ h => h) (by rfl) (v := ?_) (a' := ?_) (by rintro w' ⟨s0, s1, s2, s3, s4, s5, s6, s7, s8, s9⟩; go_simp; with_reducible rfl) hHeld (by simp only [np]; rfl) ?_
    refine tu 23 44 (bm 30 15204351) rfl rfl (by kernel_rfl) (fun _ _ _ h => h) (by rfl) (v := ?_) (a' := ?_) (by rintro w' ⟨s0, s1, s2, s3, s4, s5, s6, s7, s8, s9⟩; go_simp; with_reducible rfl) hHeld (by simp only [np]; rfl) ?_
    refine tu 24 45 (bm 30 31981567) rfl rfl (by kernel_rfl) (fun _ _ _ h => h) (by rfl) (v := ?_) (a' := ?_) (by rintro w' ⟨s0, s1, s2, s3, s4, s5, s6, s7, s8, s9⟩; go_simp; with_reducible rfl) hHeld (by simp only [np]; rfl) ?_
    refine tu 25 46 (bm 30 65535999) rfl rfl (by kernel_rfl) (fun _ _ _ h => h) (by rfl) (v := ?_) (a' := ?_) (by rintro w' ⟨s0, s1, s2, s3, s4, s5, s6, s7, s8, s9⟩; go_simp; with_reducible rfl) hHeld (by simp only [np]; rfl) ?_
    refine one_ (i := 19) (N := some 40) (bm 30 66060287) rfl rfl (by kernel_rfl) (by decide) (fun K hK => ?_)
    refine goes_ Try.func12 (by kernel_rfl) rfl #[.agg #[.int .i64 d.mul, .int .i64 d.dv, .int .i64 d.ld, .int .i64 d.tk]] (by rfl) rfl rfl (by simp only [List.map_toArray, List.map_cons, List.map_nil]; rfl) ?_
    with_reducible refine (desc_c d _).mono ?_
    rintro en w7 ⟨rfl, hb⟩
    refine ⟨_, rfl, ?_⟩
    have HBm := Aside0.mk (below_then HBn.out HBn.out.size hb)
    clear HBn; have HBn := HBm; clear HBm
    refine hK.out _ _ ⟨cell_b hb (hHeld.1), cell_b hb (hHeld.2.1), cell_b hb (hHeld.2.2.1), cell_b hb (hHeld.2.2.2.1), cell_b hb (hHeld.2.2.2.2.1), cell_b hb (hHeld.2.2.2.2.2.1), cell_b hb (hHeld.2.2.2.2.2.2.1), cell_b hb (hHeld.2.2.2.2.2.2.2.1), cell_b hb (hHeld.2.2.2.2.2.2.2.2.1), cell_b hb (hHeld.2.2.2.2.2.2.2.2.2)⟩ (fun hHeld => ?_)
    clear hK K
    refine norm_ (a' := ?_) ?_ ?_
    rotate_left
    · show Act.put _ (some 40) _ = _; simp only [np]; rfl
    refine one_ (i := 20) (N := some 41) (bm 30 67108863) rfl rfl (by kernel_rfl) (by decide) (fun K hK => ?_)
    refine goes_ Try.func10 (by kernel_rfl) rfl #[.slice A X.length c, .agg #[.int .i64 e.op, .int .i64 e.a, .int .i64 e.b, .slice A1 e.tos.length c1, .int .i32 e.imm], .agg #[.int .i64 (descP d).mul, .int .i64 (descP d).dv, .int .i64 (descP d).ld, .int .i64 (descP d).tk]] (by rfl) rfl rfl (by simp only [List.map_toArray, List.map_cons, List.map_nil]; rfl) ?_
    with_reducible refine (HCb.out _ HBn.out).mono ?_
    rintro en w7 ⟨rfl, hb⟩
    refine ⟨_, rfl, ?_⟩
    have HBm := Aside0.mk (below_then HBn.out HBn.out.size hb)
    clear HBn; have HBn := HBm; clear HBm
    refine hK.out _ _ ⟨cell_b hb (hHeld.1), cell_b hb (hHeld.2.1), cell_b hb (hHeld.2.2.1), cell_b hb (hHeld.2.2.2.1), cell_b hb (hHeld.2.2.2.2.1), cell_b hb (hHeld.2.2.2.2.2.1), cell_b hb (hHeld.2.2.2.2.2.2.1), cell_b hb (hHeld.2.2.2.2.2.2.2.1), cell_b hb (hHeld.2.2.2.2.2.2.2.2.1), cell_b hb (hHeld.2.2.2.2.2.2.2.2.2)⟩ (fun hHeld => ?_)
    clear hK K
    refine norm_ (a' := ?_) ?_ ?_
    rotate_left
    · show Act.put _ (some 41) _ = _; simp only [np]; rfl
    refine one_ (i := 26) (N := some 47) (bm 30 134217727) rfl rfl (by kernel_rfl) (by decide) (fun K hK => ?_)
    refine goes_ Try.func12 (by kernel_rfl) rfl #[.agg #[.int .i64 d.mul, .int .i64 d.dv, .int .i64 d.ld, .int .i64 d.tk]] (by rfl) rfl rfl (by simp only [List.map_toArray, List.map_cons, List.map_nil]; rfl) ?_
    with_reducible refine (desc_c d _).mono ?_
    rintro en w7 ⟨rfl, hb⟩
    refine ⟨_, rfl, ?_⟩
    have HBm := Aside0.mk (below_then HBn.out HBn.out.size hb)
    clear HBn; have HBn := HBm; clear HBm
    refine hK.out _ _ ⟨cell_b hb (hHeld.1), cell_b hb (hHeld.2.1), cell_b hb (hHeld.2.2.1), cell_b hb (hHeld.2.2.2.1), cell_b hb (hHeld.2.2.2.2.1), cell_b hb (hHeld.2.2.2.2.2.1), cell_b hb (hHeld.2.2.2.2.2.2.1), cell_b hb (hHeld.2.2.2.2.2.2.2.1), cell_b hb (hHeld.2.2.2.2.2.2.2.2.1), cell_b hb (hHeld.2.2.2.2.2.2.2.2.2)⟩ (fun hHeld => ?_)
    clear hK K
    refine norm_ (a' := ?_) ?_ ?_
    rotate_left
    · show Act.put _ (some 47) _ = _; simp only [np]; rfl
    refine one_ (i := 27) (N := some 48) (bm 30 268435455) rfl rfl (by kernel_rfl) (by decide) (fun K hK => ?_)
    refine goes_ Try.func11 (by kernel_rfl) rfl #[.slice A X.length c, .agg #[.int .i64 e.op, .int .i64 e.a, .int .i64 e.b, .slice A1 e.tos.length c1, .int .i32 e.imm], .agg #[.int .i64 (descP d).mul, .int .i64 (descP d).dv, .int .i64 (descP d).ld, .int .i64 (descP d).tk]] (by rfl) rfl rfl (by simp only [List.map_toArray, List.map_cons, List.map_nil]; rfl) ?_
    with_reducible refine (HRb.out _ HBn.out).mono ?_
    rintro en w7 ⟨rfl, hb⟩
    refine ⟨_, rfl, ?_⟩
    have HBm := Aside0.mk (below_then HBn.out HBn.out.size hb)
    clear HBn; have HBn := HBm; clear HBm
    refine hK.out _ _ ⟨cell_b hb (hHeld.1), cell_b hb (hHeld.2.1), cell_b hb (hHeld.2.2.1), cell_b hb (hHeld.2.2.2.1), cell_b hb (hHeld.2.2.2.2.1), cell_b hb (hHeld.2.2.2.2.2.1), cell_b hb (hHeld.2.2.2.2.2.2.1), cell_b hb (hHeld.2.2.2.2.2.2.2.1), cell_b hb (hHeld.2.2.2.2.2.2.2.2.1), cell_b hb (hHeld.2.2.2.2.2.2.2.2.2)⟩ (fun hHeld => ?_)
    clear hK K
    refine norm_ (a' := ?_) ?_ ?_
    rotate_left
    · show Act.put _ (some 48) _ = _; simp only [np]; rfl
    refine pu 28 49 (bm 30 536870911) rfl rfl (by kernel_rfl) (fun _ _ _ h => h) (by rfl) (v := ?_) (a' := ?_) (by intro w'; go_simp; with_reducible rfl) (by simp only [np]; rfl) ?_
    refine pu 29 50 (bm 30 1073741823) rfl rfl (by kernel_rfl) (fun _ _ _ h => h) (by rfl) (v := ?_) (a' := ?_) (by intro w'; go_simp; with_reducible rfl) (by simp only [np]; rfl) ?_
    refine done_ (by kernel_rfl) ?_
    clear hHeld
    go_wp2_with fail
    have HB7 := Aside0.mk HBn.out
    clear HBn HCa HRa HCb HRb hne1 hne2 HB
    go_loopw [10] (fun v10 wx => ∃ j : Nat, j ≤ X.length ∧ v10 = .int .i64 j ∧ Aside0 (Below w5.heap.size w5 wx)) (fun v10 _ => X.length - (intOf v10).toNat)
    case atStart => exact ⟨0, Nat.zero_le _, rfl, HB7⟩
    case round =>
     clear HB7
     obtain ⟨j, hj, rfl, HB⟩ := hrel
     have cq := cell_b HB.out HCELL.out
     by_cases hjl : j < X.length
     · obtain ⟨ad, A7, c7, x, eA, hx, x0, x1, x2, x3, x4, x5, x6, x7, x8, hl7, hC7⟩ := at37 HRW.out.reads j hjl
       subst eA
       have HXS := Aside0.mk (And.intro x0 (And.intro x1 (And.intro x2 (And.intro x3 (And.intro x4 (And.intro x5 (And.intro x6 x7)))))))
       have HL7 := Aside0.mk hl7
       have HC7 := Aside0.mk hC7
       have HLa : Aside0 (∀ w', Below w5.heap.size w5 w' → Calls Try.prog 13 #[.agg #[.int .i64 x.f0.f0, .int .i64 x.f0.f1, .int .i64 x.f0.f2, .int .i64 x.f0.f3, .int .i64 x.f0.f4, .int .i64 x.f0.f5, .int .i32 x.f0.f6, .slice A7 x.f0.f7.length c7], .agg #[.int .i64 d.mul, .int .i64 d.dv, .int .i64 d.ld, .int .i64 d.tk]] w' fun en w'' => en = .returned (.int .i64 (ltP x.f0 d)) ∧ Below w'.heap.size w' w'') := ⟨fun w' hb => sched_Late.calls _ _ _ _ _ _ _ A7 c7 x.f0.f7 d.mul d.dv d.ld d.tk _ w' (Kd.C_below HC7.out hb) HL7.out (lt_eq x.f0 d)⟩
       have HLb : Aside0 (∀ w', Below w5.heap.size w5 w' → Calls Try.prog 14 #[.agg #[.int .i64 x.f0.f0, .int .i64 x.f0.f1, .int .i64 x.f0.f2, .int .i64 x.f0.f3, .int .i64 x.f0.f4, .int .i64 x.f0.f5, .int .i32 x.f0.f6, .slice A7 x.f0.f7.length c7], .agg #[.int .i64 d.mul, .int .i64 d.dv, .int .i64 d.ld, .int .i64 d.tk]] w' fun en w'' => en = .returned (.int .i64 (ltP x.f0 d)) ∧ Below w'.heap.size w' w'') := ⟨fun w' hb => by
        have hq := late16_eq x.f0 d
        exact jacquardref16_Late.calls _ _ _ _ _ _ _ A7 c7 x.f0.f7 d.mul d.dv d.ld d.tk _ w' (Kd.C_below HC7.out hb) HL7.out hq⟩
       obtain ⟨n3, hn3⟩ : ∃ n, n = ltP x.f0 d := ⟨_, rfl⟩
       rw [← hn3] at HLa HLb
       have hne3 : (n3 != n3) = false := by simp
       clear x0 x1 x2 x3 x4 x5 x6 x7 x8 hl7 hC7 hx hn3
       obtain ⟨wz, rfl⟩ : ∃ wz : World, wz = wr := ⟨_, rfl⟩
       have HBn := Aside0.mk (below_drew1 HB.out)
       go_wp2_with fail
       refine start_ (n := 19) (S := fun w' => w'.cell? ⟨g, k, none⟩ = some (.slice (some ad) X.length c) ∧ w'.cell? (ad.add (j * 9)) = some (.int .i64 x.f0.f0) ∧ w'.cell? ⟨(ad.add (j * 9)).block, (ad.add (j * 9)).off + 1, none⟩ = some (.int .i64 x.f0.f1) ∧ w'.cell? ⟨(ad.add (j * 9)).block, (ad.add (j * 9)).off + 2, none⟩ = some (.int .i64 x.f0.f2) ∧ w'.cell? ⟨(ad.add (j * 9)).block, (ad.add (j * 9)).off + 3, none⟩ = some (.int .i64 x.f0.f3) ∧ w'.cell? ⟨(ad.add (j * 9)).block, (ad.add (j * 9)).off + 4, none⟩ = some (.int .i64 x.f0.f4) ∧ w'.cell? ⟨(ad.add (j * 9)).block, (ad.add (j * 9)).off + 5, none⟩ = some (.int .i64 x.f0.f5) ∧ w'.cell? ⟨(ad.add (j * 9)).block, (ad.add (j * 9)).off + 6, none⟩ = some (.int .i32 x.f0.f6) ∧ w'.cell? ⟨(ad.add (j * 9)).block, (ad.add (j * 9)).off + 7, none⟩ = some (.slice A7 x.f0.f7.length c7) ∧ w'.cell? ⟨w.heap.size + 1, 0, none⟩ = some (.int .i64 d.mul) ∧ w'.cell? ⟨w.heap.size + 1, 1, none⟩ = some (.int .i64 d.dv) ∧ w'.cell? ⟨w.heap.size + 1, 2, none⟩ = some (.int .i64 d.ld) ∧ w'.cell? ⟨w.heap.size + 1, 3, none⟩ = some (.int .i64 d.tk)) (ds := []) (bm 19 0) (by kernel_rfl) rfl rfl ⟨cell_b HBn.out HCELL.out, cell_b HBn.out HXS.out.1, cell_b HBn.out HXS.out.2.1, cell_b HBn.out HXS.out.2.2.1, cell_b HBn.out HXS.out.2.2.2.1, cell_b HBn.out HXS.out.2.2.2.2.1, cell_b HBn.out HXS.out.2.2.2.2.2.1, cell_b HBn.out HXS.out.2.2.2.2.2.2.1, cell_b HBn.out HXS.out.2.2.2.2.2.2.2, cell_b HBn.out ((blk_cell HY5.out 0).trans rfl), cell_b HBn.out ((blk_cell HY5.out 1).trans rfl), cell_b HBn.out ((blk_cell HY5.out 2).trans rfl), cell_b HBn.out ((blk_cell HY5.out 3).trans rfl)⟩ (fun hHeld => ?_)
       refine pu 0 59 (bm 19 1) rfl rfl (by kernel_rfl) (fun _ _ _ h => h) (by rfl) (v := ?_) (a' := ?_) (by intro w'; go_simp; with_reducible rfl) (by simp only [np]; rfl) ?_
       refine pu 1 60 (bm 19 3) rfl rfl (by kernel_rfl) (fun _ _ _ h => h) (by rfl) (v := ?_) (a' := ?_) (by intro w'; go_simp; with_reducible rfl) (by simp only [np]; rfl) ?_
       refine pu 3 62 (bm 19 11) rfl rfl (by kernel_rfl) (fun _ _ _ h => h) (by rfl) (v := ?_) (a' := ?_) (by intro w'; go_simp; with_reducible rfl) (by simp only [np]; rfl) ?_
       refine pu 9 68 (bm 19 523) rfl rfl (by kernel_rfl) (fun _ _ _ h => h) (by rfl) (v := ?_) (a' := ?_) (by intro w'; go_simp; with_reducible rfl) (by simp only [np]; rfl) ?_
       refine pu 10 69 (bm 19 1547) rfl rfl (by kernel_rfl) (fun _ _ _ h => h) (by rfl) (v := ?_) (a' := ?_) (by intro w'; go_simp; with_reducible rfl) (by simp only [np]; rfl) ?_
       refine pu 12 71 (bm 19 5643) rfl rfl (by kernel_rfl) (fun _ _ _ h => h) (by rfl) (v := ?_) (a' := ?_) (by intro w'; go_simp; with_reducible rfl) (by simp only [np]; rfl) ?_
       refine tu 2 61 (bm 19 5647) rfl rfl (by kernel_rfl) (fun _ _ _ h => h) (by rfl) (v := ?_) (a' := ?_) (by rintro w' ⟨s0, s1, s2, s3, s4, s5, s6, s7, s8, s9, s10, s11, s12⟩; go_simp; with_reducible rfl) hHeld (by simp only [np]; rfl) ?_
       refine pu 4 63 (bm 19 5663) rfl rfl (by kernel_rfl) (fun _ _ _ h => h) (by rfl) (v := ?_) (a' := ?_) (by intro w'; go_simp; with_reducible rfl) (by simp only [np]; rfl) ?_
       refine pu 5 64 (bm 19 5695) rfl rfl (by kernel_rfl) (fun _ _ _ h => h) (by rfl) (v := ?_) (a' := ?_) (by intro w'; go_simp; with_reducible rfl) (by simp only [np]; rfl) ?_
       refine tu 6 65 (bm 19 5759) rfl rfl (by kernel_rfl) (fun _ _ _ h => h) (by rfl) (v := ?_) (a' := ?_) (by rintro w' ⟨s0, s1, s2, s3, s4, s5, s6, s7, s8, s9, s10, s11, s12⟩; go_simp; with_reducible rfl) hHeld (by simp only [np]; rfl) ?_
       refine tu 7 66 (bm 19 5887) rfl rfl (by kernel_rfl) (fun _ _ _ h => h) (by rfl) (v := ?_) (a' := ?_) (by rintro w' ⟨s0, s1, s2, s3, s4, s5, s6, s7, s8, s9, s10, s11, s12⟩; go_simp; with_reducible rfl) hHeld (by simp only [np]; rfl) ?_
       refine tu 11 70 (bm 19 7935) rfl rfl (by kernel_rfl) (fun _ _ _ h => h) (by rfl) (v := ?_) (a' := ?_) (by rintro w' ⟨s0, s1, s2, s3, s4, s5, s6, s7, s8, s9, s10, s11, s12⟩; go_simp; with_reducible rfl) hHeld (by simp only [np]; rfl) ?_
       refine pu 13 72 (bm 19 16127) rfl rfl (by kernel_rfl) (fun _ _ _ h => h) (by rfl) (v := ?_) (a' := ?_) (by intro w'; go_simp; with_reducible rfl) (by simp only [np]; rfl) ?_
       refine pu 14 73 (bm 19 32511) rfl rfl (by kernel_rfl) (fun _ _ _ h => h) (by rfl) (v := ?_) (a' := ?_) (by intro w'; go_simp; with_reducible rfl) (by simp only [np]; rfl) ?_
       refine tu 15 74 (bm 19 65279) rfl rfl (by kernel_rfl) (fun _ _ _ h => h) (by rfl) (v := ?_) (a' := ?_) (by rintro w' ⟨s0, s1, s2, s3, s4, s5, s6, s7, s8, s9, s10, s11, s12⟩; go_simp; with_reducible rfl) hHeld (by simp only [np]; rfl) ?_
       refine tu 16 75 (bm 19 130815) rfl rfl (by kernel_rfl) (fun _ _ _ h => h) (by rfl) (v := ?_) (a' := ?_) (by rintro w' ⟨s0, s1, s2, s3, s4, s5, s6, s7, s8, s9, s10, s11, s12⟩; go_simp; with_reducible rfl) hHeld (by simp only [np]; rfl) ?_
       refine one_ (i := 8) (N := some 67) (bm 19 131071) rfl rfl (by kernel_rfl) (by decide) (fun K hK => ?_)
       refine goes_ Try.func13 (by kernel_rfl) rfl #[.agg #[.int .i64 x.f0.f0, .int .i64 x.f0.f1, .int .i64 x.f0.f2, .int .i64 x.f0.f3, .int .i64 x.f0.f4, .int .i64 x.f0.f5, .int .i32 x.f0.f6, .slice A7 x.f0.f7.length c7], .agg #[.int .i64 d.mul, .int .i64 d.dv, .int .i64 d.ld, .int .i64 d.tk]] (by rfl) rfl rfl (by simp only [List.map_toArray, List.map_cons, List.map_nil]; rfl) ?_
       with_reducible refine (HLa.out _ HBn.out).mono ?_
       rintro en w7 ⟨rfl, hb⟩
       refine ⟨_, rfl, ?_⟩
       have HBm := Aside0.mk (below_then HBn.out HBn.out.size hb)
       clear HBn; have HBn := HBm; clear HBm
       refine hK.out _ _ ⟨cell_b hb (hHeld.1), cell_b hb (hHeld.2.1), cell_b hb (hHeld.2.2.1), cell_b hb (hHeld.2.2.2.1), cell_b hb (hHeld.2.2.2.2.1), cell_b hb (hHeld.2.2.2.2.2.1), cell_b hb (hHeld.2.2.2.2.2.2.1), cell_b hb (hHeld.2.2.2.2.2.2.2.1), cell_b hb (hHeld.2.2.2.2.2.2.2.2.1), cell_b hb (hHeld.2.2.2.2.2.2.2.2.2.1), cell_b hb (hHeld.2.2.2.2.2.2.2.2.2.2.1), cell_b hb (hHeld.2.2.2.2.2.2.2.2.2.2.2.1), cell_b hb (hHeld.2.2.2.2.2.2.2.2.2.2.2.2)⟩ (fun hHeld => ?_)
       clear hK K
       refine norm_ (a' := ?_) ?_ ?_
       rotate_left
       · show Act.put _ (some 67) _ = _; simp only [np]; rfl
       refine one_ (i := 17) (N := some 76) (bm 19 262143) rfl rfl (by kernel_rfl) (by decide) (fun K hK => ?_)
       refine goes_ Try.func14 (by kernel_rfl) rfl #[.agg #[.int .i64 x.f0.f0, .int .i64 x.f0.f1, .int .i64 x.f0.f2, .int .i64 x.f0.f3, .int .i64 x.f0.f4, .int .i64 x.f0.f5, .int .i32 x.f0.f6, .slice A7 x.f0.f7.length c7], .agg #[.int .i64 d.mul, .int .i64 d.dv, .int .i64 d.ld, .int .i64 d.tk]] (by rfl) rfl rfl (by simp only [List.map_toArray, List.map_cons, List.map_nil]; rfl) ?_
       with_reducible refine (HLb.out _ HBn.out).mono ?_
       rintro en w7 ⟨rfl, hb⟩
       refine ⟨_, rfl, ?_⟩
       have HBm := Aside0.mk (below_then HBn.out HBn.out.size hb)
       clear HBn; have HBn := HBm; clear HBm
       refine hK.out _ _ ⟨cell_b hb (hHeld.1), cell_b hb (hHeld.2.1), cell_b hb (hHeld.2.2.1), cell_b hb (hHeld.2.2.2.1), cell_b hb (hHeld.2.2.2.2.1), cell_b hb (hHeld.2.2.2.2.2.1), cell_b hb (hHeld.2.2.2.2.2.2.1), cell_b hb (hHeld.2.2.2.2.2.2.2.1), cell_b hb (hHeld.2.2.2.2.2.2.2.2.1), cell_b hb (hHeld.2.2.2.2.2.2.2.2.2.1), cell_b hb (hHeld.2.2.2.2.2.2.2.2.2.2.1), cell_b hb (hHeld.2.2.2.2.2.2.2.2.2.2.2.1), cell_b hb (hHeld.2.2.2.2.2.2.2.2.2.2.2.2)⟩ (fun hHeld => ?_)
       clear hK K
       refine norm_ (a' := ?_) ?_ ?_
       rotate_left
       · show Act.put _ (some 76) _ = _; simp only [np]; rfl
       refine pu 18 77 (bm 19 524287) rfl rfl (by kernel_rfl) (fun _ _ _ h => h) (by rfl) (v := ?_) (a' := ?_) (by intro w'; go_simp; with_reducible rfl) (by simp only [np]; rfl) ?_
       refine done_ (by kernel_rfl) ?_
       clear hHeld cq; go_wp2
       go_roundw
       case rel => exact ⟨j + 1, by omega, by go_num, HBn⟩
       case measure => simp [intOf]; omega
     · go_wp2
       go_roundw
       case rel => exact ⟨k + 1, by omega, by go_num, HB⟩
       case measure => simp [intOf]; omega
  · go_wp2
    go_ret
    exact ⟨rfl, below_then HB5.out HB5.out.size HB.out⟩
end Go.Proofs.Ytocndmielggnpaa.PAll
end
