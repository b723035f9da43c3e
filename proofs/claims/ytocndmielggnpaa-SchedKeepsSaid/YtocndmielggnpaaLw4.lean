/- jacquardlaw16.SchedKeeps, walked. -/
import Derived.Test.YtocndmielggnpaaM12
set_option linter.unusedSimpArgs false
set_option linter.unusedVariables false
section
namespace Go.Proofs.Ytocndmielggnpaa.PAll
open Go.RowKit Go.Proofs.YtocndmielggnpaaW.PrintWords Go.Proofs.YtocndmielggnpaaW.PrintLast Go.Proofs.YtocndmielggnpaaW.PrintMore
open Go.Proofs.Ytocndmielggnpaa.AMap Go.Proofs.Ytocndmielggnpaa.Env Go.Proofs.Ytocndmielggnpaa.Kind
set_option maxHeartbeats 8000000 in
set_option maxRecDepth 100000 in
theorem law4_calls (A0 : Option Addr) (c0 : Nat) (l : List S37) (e : En) (A1 : Option Addr) (c1 : Nat) (d : De) (w : World) (hr0 : Rw w A0 c0 l) (hr1 : Ew w A1 c1 e.tos) :
    Calls Try.prog 4 #[.slice A0 l.length c0, .agg (eCells e A1 c1), .agg (dCells d)] w fun en w' => en = .returned (.bool true) ∧ Below w.heap.size w w' := by
 obtain ⟨w1, hw1⟩ : ∃ w1, w1 = (w.alloc (.cells (eCells e A1 c1) 25)).alloc (.cells (dCells d) 27) := ⟨_, rfl⟩
 have hbx : w1.heap[w.heap.size]? = some (.cells (eCells e A1 c1) 25 (0, 0)) := by rw [hw1]; exact blk_alloc (heap_alloc_new w _) _
 have hby : w1.heap[w.heap.size + 1]? = some (.cells (dCells d) 27 (0, 0)) := by rw [hw1]; exact new_at _ _ _ (by simp)
 have hb1 : Below w.heap.size w w1 := by rw [hw1]; exact below_alloc (below_alloc (Below.refl _ _) _) _
 have HBX := Aside0.mk hbx
 have HBY := Aside0.mk hby
 have HB1 := Aside0.mk hb1
 have HW1 := Aside0.mk hw1
 have HR0 := Aside0.mk (hr0.below hb1)
 have HR1 := Aside0.mk (hr1.below hb1)
 clear hr0 hr1 hbx hby hb1 hw1
 unfold eCells dCells
 go_enter Try.func4, Try.ntmps4
 go_wp2_with fail
 refine calls_world HW1.out ?_
 refine (shown_calls _).mono ?_
 rintro en w2 ⟨rfl, hb⟩
 have HB2 := Aside0.mk hb
 clear hb
 go_wp2_with fail
 refine (few_at HR0.out false _ HB2.out).mono ?_
 rintro en w3 ⟨Af, cf, rfl, hO, hb⟩
 have HO3 := Aside0.mk hO
 have HB3 := Aside0.mk (below_then HB2.out HB2.out.size hb)
 clear hb hO HB2
 go_wp2_with fail
 refine (few_at HR0.out true _ HB3.out).mono ?_
 rintro en w4 ⟨An, cn, rfl, hO, hb⟩
 have HB4 := Aside0.mk (below_then HB3.out HB3.out.size hb)
 have HRF := Aside0.mk (HO3.out.rw hb)
 have HRN := Aside0.mk (hO.rw (Below.refl _ _))
 clear hb hO HB3 HO3
 go_wp2_with fail
 obtain ⟨w5, hw5⟩ : ∃ w5, w5 = w4.alloc (.cells #[.slice Af (fewP false l).length cf, .slice An (fewP true l).length cn] 30) := ⟨_, rfl⟩
 have ht5 : w5.heap[w4.heap.size]? = some (.cells #[.slice Af (fewP false l).length cf, .slice An (fewP true l).length cn] 30 (0, 0)) := by rw [hw5]; exact heap_alloc_new w4 _
 have hb5 : Below w4.heap.size w4 w5 := by rw [hw5]; exact below_alloc (Below.refl _ _) _
 have hb15 : Below w1.heap.size w1 w5 := below_then HB4.out HB4.out.size hb5
 rw [← hw5]
 obtain ⟨g, hg⟩ : ∃ g, g = w4.heap.size := ⟨_, rfl⟩
 rw [← hg] at ht5 ⊢
 have HRF5 := Aside0.mk (HRF.out.below hb5)
 have HRN5 := Aside0.mk (HRN.out.below hb5)
 have HEW := Aside0.mk (HR1.out.below hb15)
 have HX5 := Aside0.mk (blk_b hb15 HBX.out)
 have HY5 := Aside0.mk (blk_b hb15 HBY.out)
 have HB5 := Aside0.mk (below_then HB1.out HB1.out.size hb15)
 have HT5 := Aside0.mk ht5
 clear hb5 hb15 ht5 hw5 hg HB4 HRF HRN HBX HBY HR1 HR0
 have HBn := Aside0.mk (below_drew1 (Below.refl w5.heap.size w5))
 refine start_ (n := 6) (S := fun w' => w'.cell? ⟨w.heap.size + 1, 0, none⟩ = some (.int .i64 d.mul) ∧ w'.cell? ⟨w.heap.size + 1, 1, none⟩ = some (.int .i64 d.dv) ∧ w'.cell? ⟨w.heap.size + 1, 2, none⟩ = some (.int .i64 d.ld) ∧ w'.cell? ⟨w.heap.size + 1, 3, none⟩ = some (.int .i64 d.tk)) (ds := [5]) (bm 6 0) (by kernel_rfl) rfl rfl ⟨cell_b (below_drew1 (Below.refl _ _)) ((blk_cell HY5.out 0).trans rfl), cell_b (below_drew1 (Below.refl _ _)) ((blk_cell HY5.out 1).trans rfl), cell_b (below_drew1 (Below.refl _ _)) ((blk_cell HY5.out 2).trans rfl), cell_b (below_drew1 (Below.refl _ _)) ((blk_cell HY5.out 3).trans rfl)⟩ (fun hHeld => ?_)
 refine tu 0 19 (bm 6 1) rfl rfl (by kernel_rfl) (fun _ _ _ h => h) (by rfl) (v := ?_) (a' := ?_) (by rintro w' ⟨s0, s1, s2, s3⟩; go_simp; with_reducible rfl) hHeld (by simp only [np]; rfl) ?_
 refine tu 1 20 (bm 6 3) rfl rfl (by kernel_rfl) (fun _ _ _ h => h) (by rfl) (v := ?_) (a' := ?_) (by rintro w' ⟨s0, s1, s2, s3⟩; go_simp; with_reducible rfl) hHeld (by simp only [np]; rfl) ?_
 refine join_ (σ := Nat) 1 (bm 6 31) (fun s => [(21, .agg #[.int .i64 (descP d).mul, .int .i64 (descP d).dv, .int .i64 (descP d).ld, .int .i64 (descP d).tk]), (22, .agg #[.int .i64 d.mul, .int .i64 d.dv, .int .i64 d.ld, .int .i64 d.tk, .int .i64 (descP d).mul, .int .i64 (descP d).dv, .int .i64 (descP d).ld, .int .i64 (descP d).tk]), (9, .pointer (some ⟨s, 0, none⟩))]) (fun s w' => (w'.cell? ⟨w.heap.size + 1, 0, none⟩ = some (.int .i64 d.mul) ∧ w'.cell? ⟨w.heap.size + 1, 1, none⟩ = some (.int .i64 d.dv) ∧ w'.cell? ⟨w.heap.size + 1, 2, none⟩ = some (.int .i64 d.ld) ∧ w'.cell? ⟨w.heap.size + 1, 3, none⟩ = some (.int .i64 d.tk)) ∧ Below w5.heap.size w5 w' ∧ w'.heap[s]? = some (.cells #[.int .i64 0, .int .i64 0, .int .i64 0, .int .i64 0, .int .i64 0, .int .i64 0, .int .i64 0, .int .i64 0] 39 (0, 0)) ∧ w5.heap.size ≤ s) ?_ ?_
 rotate_left
 · intro hCont
   refine two_ (i := 2) (j := 4) (Ni := some 21) (Nj := some 9) (bm 6 7) (bm 6 19) rfl rfl rfl rfl (by kernel_rfl) (by decide) (by decide) (fun K hK => ?_) (fun K hK => ?_)
   · skip
     refine goes_ Try.func12 (by kernel_rfl) rfl #[.agg #[.int .i64 d.mul, .int .i64 d.dv, .int .i64 d.ld, .int .i64 d.tk]] (by rfl) rfl rfl (by simp only [List.map_toArray, List.map_cons, List.map_nil]; rfl) ?_
     with_reducible refine (desc_c d _).mono ?_
     rintro en w7 ⟨rfl, hb⟩
     refine ⟨_, rfl, ?_⟩
     have HBm := Aside0.mk (below_then HBn.out HBn.out.size hb)
     clear HBn; have HBn := HBm; clear HBm
     refine hK.out _ _ ⟨cell_b hb (hHeld.1), cell_b hb (hHeld.2.1), cell_b hb (hHeld.2.2.1), cell_b hb (hHeld.2.2.2)⟩ (fun hHeld => ?_)
     clear hK K
     refine norm_ (a' := ?_) ?_ ?_
     rotate_left
     · show Act.put _ (some 21) _ = _; simp only [np]; rfl
     refine pu 3 22 (bm 6 15) rfl rfl (by kernel_rfl) (fun _ _ _ h => h) (by rfl) (v := ?_) (a' := ?_) (by intro w'; go_simp; with_reducible rfl) (by simp only [np]; rfl) ?_
     refine one_ (i := 4) (N := some 9) (bm 6 31) rfl rfl (by kernel_rfl) (by decide) (fun K hK => ?_)
     refine value_ (w1 := ?_) (v := ?_) (by rfl) rfl ?_ ?_
     rotate_left 2
     · go_simp
       constructor
       · rfl
       · rfl
     have HAL := Aside0.mk (heap_alloc_new (w7) (.cells #[.int .i64 0, .int .i64 0, .int .i64 0, .int .i64 0, .int .i64 0, .int .i64 0, .int .i64 0, .int .i64 0] 39))
     have HSL := Aside0.mk (HBn.out.size)
     have HBm := Aside0.mk (below_alloc HBn.out (.cells #[.int .i64 0, .int .i64 0, .int .i64 0, .int .i64 0, .int .i64 0, .int .i64 0, .int .i64 0, .int .i64 0] 39))
     clear HBn; have HBn := HBm; clear HBm
     refine hK.out _ _ ⟨cell_b (below_alloc (Below.refl _ _) _) (hHeld.1), cell_b (below_alloc (Below.refl _ _) _) (hHeld.2.1), cell_b (below_alloc (Below.refl _ _) _) (hHeld.2.2.1), cell_b (below_alloc (Below.refl _ _) _) (hHeld.2.2.2)⟩ (fun hHeld => ?_)
     clear hK K
     refine norm_ (a' := ?_) ?_ ?_
     rotate_left
     · show Act.put _ (some 9) _ = _; simp only [np]; rfl
     exact norm_ (by simp only [putAll, Act.put, List.setIfInBounds_toArray, List.set_cons_zero, List.set_cons_succ]) (hCont w7.heap.size _ ⟨⟨hHeld.1, hHeld.2.1, hHeld.2.2.1, hHeld.2.2.2⟩, HBn.out, HAL.out, HSL.out⟩)
   · skip
     refine value_ (w1 := ?_) (v := ?_) (by rfl) rfl ?_ ?_
     rotate_left 2
     · go_simp
       constructor
       · rfl
       · rfl
     have HAL := Aside0.mk (heap_alloc_new (w5.drew) (.cells #[.int .i64 0, .int .i64 0, .int .i64 0, .int .i64 0, .int .i64 0, .int .i64 0, .int .i64 0, .int .i64 0] 39))
     have HSL := Aside0.mk (HBn.out.size)
     have HBm := Aside0.mk (below_alloc HBn.out (.cells #[.int .i64 0, .int .i64 0, .int .i64 0, .int .i64 0, .int .i64 0, .int .i64 0, .int .i64 0, .int .i64 0] 39))
     clear HBn; have HBn := HBm; clear HBm
     refine hK.out _ _ ⟨cell_b (below_alloc (Below.refl _ _) _) (hHeld.1), cell_b (below_alloc (Below.refl _ _) _) (hHeld.2.1), cell_b (below_alloc (Below.refl _ _) _) (hHeld.2.2.1), cell_b (below_alloc (Below.refl _ _) _) (hHeld.2.2.2)⟩ (fun hHeld => ?_)
     clear hK K
     refine norm_ (a' := ?_) ?_ ?_
     rotate_left
     · show Act.put _ (some 9) _ = _; simp only [np]; rfl
     refine one_ (i := 2) (N := some 21) (bm 6 23) rfl rfl (by kernel_rfl) (by decide) (fun K hK => ?_)
     refine goes_ Try.func12 (by kernel_rfl) rfl #[.agg #[.int .i64 d.mul, .int .i64 d.dv, .int .i64 d.ld, .int .i64 d.tk]] (by rfl) rfl rfl (by simp only [List.map_toArray, List.map_cons, List.map_nil]; rfl) ?_
     with_reducible refine (desc_c d _).mono ?_
     rintro en w7 ⟨rfl, hb⟩
     refine ⟨_, rfl, ?_⟩
     have HBm := Aside0.mk (below_then HBn.out HBn.out.size hb)
     clear HBn; have HBn := HBm; clear HBm
     have HAL2 := Aside0.mk (blk_b hb HAL.out)
     clear HAL
     have HAL := HAL2
     clear HAL2
     refine hK.out _ _ ⟨cell_b hb (hHeld.1), cell_b hb (hHeld.2.1), cell_b hb (hHeld.2.2.1), cell_b hb (hHeld.2.2.2)⟩ (fun hHeld => ?_)
     clear hK K
     refine norm_ (a' := ?_) ?_ ?_
     rotate_left
     · show Act.put _ (some 21) _ = _; simp only [np]; rfl
     refine pu 3 22 (bm 6 31) rfl rfl (by kernel_rfl) (fun _ _ _ h => h) (by rfl) (v := ?_) (a' := ?_) (by intro w'; go_simp; with_reducible rfl) (by simp only [np]; rfl) ?_
     exact norm_ (by simp only [putAll, Act.put, List.setIfInBounds_toArray, List.set_cons_zero, List.set_cons_succ]) (hCont w5.heap.size _ ⟨⟨hHeld.1, hHeld.2.1, hHeld.2.2.1, hHeld.2.2.2⟩, HBn.out, HAL.out, HSL.out⟩)
 rintro s w' ⟨hHeld, hBJ, hAJ, hsJ⟩
 have z0 : w'.cell? ⟨s, 0, none⟩ = some (.int .i64 0) := (blk_cell hAJ 0).trans rfl
 have z1 : w'.cell? ⟨s, 1, none⟩ = some (.int .i64 0) := (blk_cell hAJ 1).trans rfl
 have z2 : w'.cell? ⟨s, 2, none⟩ = some (.int .i64 0) := (blk_cell hAJ 2).trans rfl
 have z3 : w'.cell? ⟨s, 3, none⟩ = some (.int .i64 0) := (blk_cell hAJ 3).trans rfl
 have z4 : w'.cell? ⟨s, 4, none⟩ = some (.int .i64 0) := (blk_cell hAJ 4).trans rfl
 have z5 : w'.cell? ⟨s, 5, none⟩ = some (.int .i64 0) := (blk_cell hAJ 5).trans rfl
 have z6 : w'.cell? ⟨s, 6, none⟩ = some (.int .i64 0) := (blk_cell hAJ 6).trans rfl
 have z7 : w'.cell? ⟨s, 7, none⟩ = some (.int .i64 0) := (blk_cell hAJ 7).trans rfl
 have y0 : w'.frozen? ⟨s, 0, none⟩ = false := by simp [World.frozen?, hAJ]
 have y1 : w'.frozen? ⟨s, 1, none⟩ = false := by simp [World.frozen?, hAJ]
 have y2 : w'.frozen? ⟨s, 2, none⟩ = false := by simp [World.frozen?, hAJ]
 have y3 : w'.frozen? ⟨s, 3, none⟩ = false := by simp [World.frozen?, hAJ]
 have y4 : w'.frozen? ⟨s, 4, none⟩ = false := by simp [World.frozen?, hAJ]
 have y5 : w'.frozen? ⟨s, 5, none⟩ = false := by simp [World.frozen?, hAJ]
 have y6 : w'.frozen? ⟨s, 6, none⟩ = false := by simp [World.frozen?, hAJ]
 have y7 : w'.frozen? ⟨s, 7, none⟩ = false := by simp [World.frozen?, hAJ]
 refine norm_ (a' := ?_) ?_ ?_
 rotate_left
 · simp only [putAll, Act.put, List.setIfInBounds_toArray, List.set_cons_zero, List.set_cons_succ]; rfl
 refine last_ (i := 5) (N := none) (bm 6 63) rfl rfl (by kernel_rfl) (by decide) (fun K hK => ?_)
 refine skip_ (w1 := ?_) (by rfl) rfl ?_ ?_
 rotate_left
 · go_simp; rfl
 refine hK.out _ _ ?_
 clear hK K
 refine done_ (by kernel_rfl) ?_
 have hB3 := hBJ.setCell (p := ⟨s, 0, none⟩) hsJ (.int .i64 d.mul)
 have hA3 := blk_set hAJ 0 (.int .i64 d.mul)
 replace hB3 := hB3.setCell (p := ⟨s, 1, none⟩) hsJ (.int .i64 d.dv)
 replace hA3 := blk_set hA3 1 (.int .i64 d.dv)
 replace hB3 := hB3.setCell (p := ⟨s, 2, none⟩) hsJ (.int .i64 d.ld)
 replace hA3 := blk_set hA3 2 (.int .i64 d.ld)
 replace hB3 := hB3.setCell (p := ⟨s, 3, none⟩) hsJ (.int .i64 d.tk)
 replace hA3 := blk_set hA3 3 (.int .i64 d.tk)
 replace hB3 := hB3.setCell (p := ⟨s, 4, none⟩) hsJ (.int .i64 (descP d).mul)
 replace hA3 := blk_set hA3 4 (.int .i64 (descP d).mul)
 replace hB3 := hB3.setCell (p := ⟨s, 5, none⟩) hsJ (.int .i64 (descP d).dv)
 replace hA3 := blk_set hA3 5 (.int .i64 (descP d).dv)
 replace hB3 := hB3.setCell (p := ⟨s, 6, none⟩) hsJ (.int .i64 (descP d).ld)
 replace hA3 := blk_set hA3 6 (.int .i64 (descP d).ld)
 replace hB3 := hB3.setCell (p := ⟨s, 7, none⟩) hsJ (.int .i64 (descP d).tk)
 replace hA3 := blk_set hA3 7 (.int .i64 (descP d).tk)
 obtain ⟨w6, hw6⟩ : ∃ w6, w6 = (((((((w'.setCell ⟨s, 0, none⟩ (.int .i64 d.mul)).setCell ⟨s, 1, none⟩ (.int .i64 d.dv)).setCell ⟨s, 2, none⟩ (.int .i64 d.ld)).setCell ⟨s, 3, none⟩ (.int .i64 d.tk)).setCell ⟨s, 4, none⟩ (.int .i64 (descP d).mul)).setCell ⟨s, 5, none⟩ (.int .i64 (descP d).dv)).setCell ⟨s, 6, none⟩ (.int .i64 (descP d).ld)).setCell ⟨s, 7, none⟩ (.int .i64 (descP d).tk) := ⟨_, rfl⟩
 rw [← hw6] at hB3 hA3 ⊢
 replace hA3 : w6.heap[s]? = some (.cells #[.int .i64 d.mul, .int .i64 d.dv, .int .i64 d.ld, .int .i64 d.tk, .int .i64 (descP d).mul, .int .i64 (descP d).dv, .int .i64 (descP d).ld, .int .i64 (descP d).tk] 39 (0, 0)) := hA3
 have HT6 := Aside0.mk (blk_b hB3 HT5.out)
 have HX6 := Aside0.mk (blk_b hB3 HX5.out)
 have HD6 := Aside0.mk hA3
 have HRF6 := Aside0.mk (HRF5.out.below hB3)
 have HRN6 := Aside0.mk (HRN5.out.below hB3)
 have HEW6 := Aside0.mk (HEW.out.below hB3)
 have HB6 := Aside0.mk (below_then HB5.out HB5.out.size hB3)
 clear HT5 HX5 HY5 HRF5 HRN5 HEW HB5 HBn hB3 hA3 hw6 hBJ hAJ hsJ z0 y0 z1 y1 z2 y2 z3 y3 z4 y4 z5 y5 z6 y6 z7 y7
 go_wp2_with fail
 go_loopw [10] (fun v10 wr => ∃ k : Nat, k ≤ 4 ∧ v10 = .int .i64 k ∧ Aside0 (Below w6.heap.size w6 wr)) (fun v10 _ => 4 - (intOf v10).toNat)
 case atStart => exact ⟨0, by omega, rfl, ⟨Below.refl _ _⟩⟩
 case round =>
  obtain ⟨k, hk, rfl, HB⟩ := hrel
  by_cases hlt : k < 4
  · have hd4 : decide ((k : Int) < 4) = true := decide_eq_true (by omega)
    obtain ⟨A, c, X, hcell, hrw, hsh⟩ : ∃ A c X, w6.cell? ⟨g, k / 2, none⟩ = some (.slice A X.length c) ∧ Rw w6 A c X ∧ Sh X := by
     have : k / 2 = 0 ∨ k / 2 = 1 := by omega
     rcases this with h | h <;> rw [h]
     · exact ⟨Af, cf, _, (blk_cell HT6.out 0).trans rfl, HRF6.out, few_sh _ _⟩
     · exact ⟨An, cn, _, (blk_cell HT6.out 1).trans rfl, HRN6.out, few_sh _ _⟩
    obtain ⟨D, hD0, hD1, hD2, hD3⟩ : ∃ D : De, w6.cell? ⟨s, k % 2 * 4, none⟩ = some (.int .i64 D.mul) ∧ w6.cell? ⟨s, k % 2 * 4 + 1, none⟩ = some (.int .i64 D.dv) ∧ w6.cell? ⟨s, k % 2 * 4 + 2, none⟩ = some (.int .i64 D.ld) ∧ w6.cell? ⟨s, k % 2 * 4 + 3, none⟩ = some (.int .i64 D.tk) := by
     have : k % 2 = 0 ∨ k % 2 = 1 := by omega
     rcases this with h | h <;> rw [h]
     · exact ⟨d, (blk_cell HD6.out 0).trans rfl, (blk_cell HD6.out 1).trans rfl, (blk_cell HD6.out 2).trans rfl, (blk_cell HD6.out 3).trans rfl⟩
     · exact ⟨descP d, (blk_cell HD6.out 4).trans rfl, (blk_cell HD6.out 5).trans rfl, (blk_cell HD6.out 6).trans rfl, (blk_cell HD6.out 7).trans rfl⟩
    have HDD := Aside0.mk (And.intro hD0 (And.intro hD1 (And.intro hD2 hD3)))
    have HRW := Aside0.mk hrw
    have HSH := Aside0.mk hsh
    have cq := cell_b HB.out hcell
    clear hcell hrw hsh hD0 hD1 hD2 hD3
    obtain ⟨wq, rfl⟩ : ∃ wq : World, wq = wr := ⟨_, rfl⟩
    go_upto_region 8 with fail
    have HBn := Aside0.mk (below_drew1 HB.out)
    have HBL := Aside0.mk (blk_at D HRW.out HEW6.out HSH.out)
    obtain ⟨ht0, ht1, ht2⟩ : 0 ≤ (k : Int).tmod 2 ∧ (k : Int).tmod 2 < 2 ∧ ((k : Int).tmod 2).toNat = k % 2 := by
     rw [Int.tmod_eq_emod_of_nonneg (by omega)]; omega
    refine start_ (n := 8) (S := fun w' => w'.cell? ⟨w.heap.size, 0, none⟩ = some (.int .i64 e.op) ∧ w'.cell? ⟨w.heap.size, 1, none⟩ = some (.int .i64 e.a) ∧ w'.cell? ⟨w.heap.size, 2, none⟩ = some (.int .i64 e.b) ∧ w'.cell? ⟨w.heap.size, 3, none⟩ = some (.slice A1 e.tos.length c1) ∧ w'.cell? ⟨w.heap.size, 4, none⟩ = some (.int .i32 e.imm) ∧ w'.cell? ⟨s, k % 2 * 4, none⟩ = some (.int .i64 D.mul) ∧ w'.cell? ⟨s, k % 2 * 4 + 1, none⟩ = some (.int .i64 D.dv) ∧ w'.cell? ⟨s, k % 2 * 4 + 2, none⟩ = some (.int .i64 D.ld) ∧ w'.cell? ⟨s, k % 2 * 4 + 3, none⟩ = some (.int .i64 D.tk)) (ds := []) (bm 8 0) (by kernel_rfl) rfl rfl ⟨cell_b HBn.out ((blk_cell HX6.out 0).trans rfl), cell_b HBn.out ((blk_cell HX6.out 1).trans rfl), cell_b HBn.out ((blk_cell HX6.out 2).trans rfl), cell_b HBn.out ((blk_cell HX6.out 3).trans rfl), cell_b HBn.out ((blk_cell HX6.out 4).trans rfl), cell_b HBn.out HDD.out.1, cell_b HBn.out HDD.out.2.1, cell_b HBn.out HDD.out.2.2.1, cell_b HBn.out HDD.out.2.2.2⟩ (fun hHeld => ?_)
    refine pu 0 31 (bm 8 1) rfl rfl (by kernel_rfl) (fun _ _ _ h => h) (by rfl) (v := ?_) (a' := ?_) (by intro w'; go_simp; with_reducible rfl) (by simp only [np]; rfl) ?_
    refine pu 2 33 (bm 8 5) rfl rfl (by kernel_rfl) (fun _ _ _ h => h) (by rfl) (v := ?_) (a' := ?_) (by intro w'; go_simp; with_reducible rfl) (by simp only [np]; rfl) ?_
    refine pu 3 34 (bm 8 13) rfl rfl (by kernel_rfl) (fun _ _ _ h => h) (by rfl) (v := ?_) (a' := ?_) (by intro w'; go_simp; with_reducible rfl) (by simp only [np]; rfl) ?_
    refine pu 4 35 (bm 8 29) rfl rfl (by kernel_rfl) (fun _ _ _ h => h) (by rfl) (v := ?_) (a' := ?_) (by intro w'; go_simp; with_reducible rfl) (by simp only [np]; rfl) ?_
    refine tu 1 32 (bm 8 31) rfl rfl (by kernel_rfl) (fun _ _ _ h => h) (by rfl) (v := ?_) (a' := ?_) (by rintro w' ⟨s0, s1, s2, s3, s4, s5, s6, s7, s8⟩; go_simp; with_reducible rfl) hHeld (by simp only [np]; rfl) ?_
    refine tu 5 36 (bm 8 63) rfl rfl (by kernel_rfl) (fun _ _ _ h => h) (by rfl) (v := ?_) (a' := ?_) (by rintro w' ⟨s0, s1, s2, s3, s4, s5, s6, s7, s8⟩; go_simp; with_reducible rfl) hHeld (by simp only [np]; rfl) ?_
    refine one_ (i := 6) (N := some 37) (bm 8 127) rfl rfl (by kernel_rfl) (by decide) (fun K hK => ?_)
    refine goes_ Try.func15 (by kernel_rfl) rfl #[.slice A X.length c, .agg #[.int .i64 e.op, .int .i64 e.a, .int .i64 e.b, .slice A1 e.tos.length c1, .int .i32 e.imm], .agg #[.int .i64 D.mul, .int .i64 D.dv, .int .i64 D.ld, .int .i64 D.tk]] (by rfl) rfl rfl (by simp only [List.map_toArray, List.map_cons, List.map_nil]; rfl) ?_
    with_reducible refine (HBL.out _ HBn.out).mono ?_
    rintro en w7 ⟨A2, c2, rfl, hO, hb⟩
    refine ⟨_, rfl, ?_⟩
    have HBm := Aside0.mk (below_then HBn.out HBn.out.size hb)
    clear HBn; have HBn := HBm; clear HBm
    refine hK.out _ _ ⟨cell_b hb (hHeld.1), cell_b hb (hHeld.2.1), cell_b hb (hHeld.2.2.1), cell_b hb (hHeld.2.2.2.1), cell_b hb (hHeld.2.2.2.2.1), cell_b hb (hHeld.2.2.2.2.2.1), cell_b hb (hHeld.2.2.2.2.2.2.1), cell_b hb (hHeld.2.2.2.2.2.2.2.1), cell_b hb (hHeld.2.2.2.2.2.2.2.2)⟩ (fun hHeld => ?_)
    clear hK K
    refine norm_ (a' := ?_) ?_ ?_
    rotate_left
    · show Act.put _ (some 37) _ = _; simp only [np]; rfl
    refine pu 7 12 (bm 8 255) rfl rfl (by kernel_rfl) (fun _ _ _ h => h) (by rfl) (v := ?_) (a' := ?_) (by intro w'; go_simp; with_reducible rfl) (by simp only [np]; rfl) ?_
    refine done_ (by kernel_rfl) ?_
    clear hHeld HBL cq
    have hrw7 := hO.rw (Below.refl _ _)
    have HR7 := Aside0.mk hrw7
    have HB7 := Aside0.mk HBn.out
    have HKP := Aside0.mk (keeps_at (HRW.out.below HBn.out) HSH.out hrw7)
    have HCY := Aside0.mk (ref_at D hrw7 (HEW6.out.below HBn.out) (block_sh HSH.out e D))
    have HCX := Aside0.mk (ref_at D (HRW.out.below HBn.out) (HEW6.out.below HBn.out) HSH.out)
    have hle := block_le (l := X) e D
    obtain ⟨n1, hn1⟩ : ∃ n, n = cyP (blockP X e D) e D := ⟨_, rfl⟩
    obtain ⟨n2, hn2⟩ : ∃ n, n = cyP X e D := ⟨_, rfl⟩
    rw [← hn1] at HCY hle
    rw [← hn2] at HCX hle
    have hgt : decide (n2 < n1) = false := decide_eq_false (by omega)
    clear hn1 hn2 hle hrw7 hO HBn
    have hw8 : Below w7.heap.size w7 w7.drew := below_drew1 (Below.refl _ _)
    have HBn := Aside0.mk hw8
    clear hw8
    go_upto_region 9 with fail
    refine start_ (n := 21) (S := fun w' => w'.cell? ⟨w.heap.size, 0, none⟩ = some (.int .i64 e.op) ∧ w'.cell? ⟨w.heap.size, 1, none⟩ = some (.int .i64 e.a) ∧ w'.cell? ⟨w.heap.size, 2, none⟩ = some (.int .i64 e.b) ∧ w'.cell? ⟨w.heap.size, 3, none⟩ = some (.slice A1 e.tos.length c1) ∧ w'.cell? ⟨w.heap.size, 4, none⟩ = some (.int .i32 e.imm) ∧ w'.cell? ⟨s, k % 2 * 4, none⟩ = some (.int .i64 D.mul) ∧ w'.cell? ⟨s, k % 2 * 4 + 1, none⟩ = some (.int .i64 D.dv) ∧ w'.cell? ⟨s, k % 2 * 4 + 2, none⟩ = some (.int .i64 D.ld) ∧ w'.cell? ⟨s, k % 2 * 4 + 3, none⟩ = some (.int .i64 D.tk)) (ds := []) (bm 21 0) (by kernel_rfl) rfl rfl ⟨cell_b HBn.out (cell_b HB7.out ((blk_cell HX6.out 0).trans rfl)), cell_b HBn.out (cell_b HB7.out ((blk_cell HX6.out 1).trans rfl)), cell_b HBn.out (cell_b HB7.out ((blk_cell HX6.out 2).trans rfl)), cell_b HBn.out (cell_b HB7.out ((blk_cell HX6.out 3).trans rfl)), cell_b HBn.out (cell_b HB7.out ((blk_cell HX6.out 4).trans rfl)), cell_b HBn.out (cell_b HB7.out HDD.out.1), cell_b HBn.out (cell_b HB7.out HDD.out.2.1), cell_b HBn.out (cell_b HB7.out HDD.out.2.2.1), cell_b HBn.out (cell_b HB7.out HDD.out.2.2.2)⟩ (fun hHeld => ?_)
    refine pu 0 38 (bm 21 1) rfl rfl (by kernel_rfl) (fun _ _ _ h => h) (by rfl) (v := ?_) (a' := ?_) (by intro w'; go_simp; with_reducible rfl) (by simp only [np]; rfl) ?_
    refine pu 1 39 (bm 21 3) rfl rfl (by kernel_rfl) (fun _ _ _ h => h) (by rfl) (v := ?_) (a' := ?_) (by intro w'; go_simp; with_reducible rfl) (by simp only [np]; rfl) ?_
    refine one_ (i := 2) (N := some 40) (bm 21 7) rfl rfl (by kernel_rfl) (by decide) (fun K hK => ?_)
    refine goes_ Try.func16 (by kernel_rfl) rfl #[.slice A X.length c, .slice A2 (blockP X e D).length c2] (by rfl) rfl rfl (by simp only [List.map_toArray, List.map_cons, List.map_nil]; rfl) ?_
    with_reducible refine (HKP.out _ HBn.out).mono ?_
    rintro en w8 ⟨rfl, hb⟩
    refine ⟨_, rfl, ?_⟩
    have HBm := Aside0.mk (below_then HBn.out HBn.out.size hb)
    clear HBn; have HBn := HBm; clear HBm
    refine hK.out _ _ ⟨cell_b hb (hHeld.1), cell_b hb (hHeld.2.1), cell_b hb (hHeld.2.2.1), cell_b hb (hHeld.2.2.2.1), cell_b hb (hHeld.2.2.2.2.1), cell_b hb (hHeld.2.2.2.2.2.1), cell_b hb (hHeld.2.2.2.2.2.2.1), cell_b hb (hHeld.2.2.2.2.2.2.2.1), cell_b hb (hHeld.2.2.2.2.2.2.2.2)⟩ (fun hHeld => ?_)
    clear hK K
    refine norm_ (a' := ?_) ?_ ?_
    rotate_left
    · show Act.put _ (some 40) _ = _; simp only [np]; rfl
    refine pu 3 41 (bm 21 15) rfl rfl (by kernel_rfl) (fun _ _ _ h => h) (by rfl) (v := ?_) (a' := ?_) (by intro w'; go_simp; with_reducible rfl) (by simp only [np]; rfl) ?_
    refine pu 4 42 (bm 21 31) rfl rfl (by kernel_rfl) (fun _ _ _ h => h) (by rfl) (v := ?_) (a' := ?_) (by intro w'; go_simp; with_reducible rfl) (by simp only [np]; rfl) ?_
    refine pu 5 43 (bm 21 63) rfl rfl (by kernel_rfl) (fun _ _ _ h => h) (by rfl) (v := ?_) (a' := ?_) (by intro w'; go_simp; with_reducible rfl) (by simp only [np]; rfl) ?_
    refine pu 7 45 (bm 21 191) rfl rfl (by kernel_rfl) (fun _ _ _ h => h) (by rfl) (v := ?_) (a' := ?_) (by intro w'; go_simp; with_reducible rfl) (by simp only [np]; rfl) ?_
    refine pu 8 46 (bm 21 447) rfl rfl (by kernel_rfl) (fun _ _ _ h => h) (by rfl) (v := ?_) (a' := ?_) (by intro w'; go_simp; with_reducible rfl) (by simp only [np]; rfl) ?_
    refine pu 9 47 (bm 21 959) rfl rfl (by kernel_rfl) (fun _ _ _ h => h) (by rfl) (v := ?_) (a' := ?_) (by intro w'; go_simp; with_reducible rfl) (by simp only [np]; rfl) ?_
    refine pu 12 50 (bm 21 5055) rfl rfl (by kernel_rfl) (fun _ _ _ h => h) (by rfl) (v := ?_) (a' := ?_) (by intro w'; go_simp; with_reducible rfl) (by simp only [np]; rfl) ?_
    refine pu 14 52 (bm 21 21439) rfl rfl (by kernel_rfl) (fun _ _ _ h => h) (by rfl) (v := ?_) (a' := ?_) (by intro w'; go_simp; with_reducible rfl) (by simp only [np]; rfl) ?_
    refine pu 15 53 (bm 21 54207) rfl rfl (by kernel_rfl) (fun _ _ _ h => h) (by rfl) (v := ?_) (a' := ?_) (by intro w'; go_simp; with_reducible rfl) (by simp only [np]; rfl) ?_
    refine pu 16 54 (bm 21 119743) rfl rfl (by kernel_rfl) (fun _ _ _ h => h) (by rfl) (v := ?_) (a' := ?_) (by intro w'; go_simp; with_reducible rfl) (by simp only [np]; rfl) ?_
    refine tu 6 44 (bm 21 119807) rfl rfl (by kernel_rfl) (fun _ _ _ h => h) (by rfl) (v := ?_) (a' := ?_) (by rintro w' ⟨s0, s1, s2, s3, s4, s5, s6, s7, s8⟩; go_simp; with_reducible rfl) hHeld (by simp only [np]; rfl) ?_
    refine tu 10 48 (bm 21 120831) rfl rfl (by kernel_rfl) (fun _ _ _ h => h) (by rfl) (v := ?_) (a' := ?_) (by rintro w' ⟨s0, s1, s2, s3, s4, s5, s6, s7, s8⟩; go_simp; with_reducible rfl) hHeld (by simp only [np]; rfl) ?_
    refine tu 13 51 (bm 21 129023) rfl rfl (by kernel_rfl) (fun _ _ _ h => h) (by rfl) (v := ?_) (a' := ?_) (by rintro w' ⟨s0, s1, s2, s3, s4, s5, s6, s7, s8⟩; go_simp; with_reducible rfl) hHeld (by simp only [np]; rfl) ?_
    refine tu 17 55 (bm 21 260095) rfl rfl (by kernel_rfl) (fun _ _ _ h => h) (by rfl) (v := ?_) (a' := ?_) (by rintro w' ⟨s0, s1, s2, s3, s4, s5, s6, s7, s8⟩; go_simp; with_reducible rfl) hHeld (by simp only [np]; rfl) ?_
    refine one_ (i := 11) (N := some 49) (bm 21 262143) rfl rfl (by kernel_rfl) (by decide) (fun K hK => ?_)
    refine goes_ Try.func11 (by kernel_rfl) rfl #[.slice A2 (blockP X e D).length c2, .agg #[.int .i64 e.op, .int .i64 e.a, .int .i64 e.b, .slice A1 e.tos.length c1, .int .i32 e.imm], .agg #[.int .i64 D.mul, .int .i64 D.dv, .int .i64 D.ld, .int .i64 D.tk]] (by rfl) rfl rfl (by simp only [List.map_toArray, List.map_cons, List.map_nil]; rfl) ?_
    with_reducible refine (HCY.out _ HBn.out).mono ?_
    rintro en w8 ⟨rfl, hb⟩
    refine ⟨_, rfl, ?_⟩
    have HBm := Aside0.mk (below_then HBn.out HBn.out.size hb)
    clear HBn; have HBn := HBm; clear HBm
    refine hK.out _ _ ⟨cell_b hb (hHeld.1), cell_b hb (hHeld.2.1), cell_b hb (hHeld.2.2.1), cell_b hb (hHeld.2.2.2.1), cell_b hb (hHeld.2.2.2.2.1), cell_b hb (hHeld.2.2.2.2.2.1), cell_b hb (hHeld.2.2.2.2.2.2.1), cell_b hb (hHeld.2.2.2.2.2.2.2.1), cell_b hb (hHeld.2.2.2.2.2.2.2.2)⟩ (fun hHeld => ?_)
    clear hK K
    refine norm_ (a' := ?_) ?_ ?_
    rotate_left
    · show Act.put _ (some 49) _ = _; simp only [np]; rfl
    refine one_ (i := 18) (N := some 56) (bm 21 524287) rfl rfl (by kernel_rfl) (by decide) (fun K hK => ?_)
    refine goes_ Try.func11 (by kernel_rfl) rfl #[.slice A X.length c, .agg #[.int .i64 e.op, .int .i64 e.a, .int .i64 e.b, .slice A1 e.tos.length c1, .int .i32 e.imm], .agg #[.int .i64 D.mul, .int .i64 D.dv, .int .i64 D.ld, .int .i64 D.tk]] (by rfl) rfl rfl (by simp only [List.map_toArray, List.map_cons, List.map_nil]; rfl) ?_
    with_reducible refine (HCX.out _ HBn.out).mono ?_
    rintro en w8 ⟨rfl, hb⟩
    refine ⟨_, rfl, ?_⟩
    have HBm := Aside0.mk (below_then HBn.out HBn.out.size hb)
    clear HBn; have HBn := HBm; clear HBm
    refine hK.out _ _ ⟨cell_b hb (hHeld.1), cell_b hb (hHeld.2.1), cell_b hb (hHeld.2.2.1), cell_b hb (hHeld.2.2.2.1), cell_b hb (hHeld.2.2.2.2.1), cell_b hb (hHeld.2.2.2.2.2.1), cell_b hb (hHeld.2.2.2.2.2.2.1), cell_b hb (hHeld.2.2.2.2.2.2.2.1), cell_b hb (hHeld.2.2.2.2.2.2.2.2)⟩ (fun hHeld => ?_)
    clear hK K
    refine norm_ (a' := ?_) ?_ ?_
    rotate_left
    · show Act.put _ (some 56) _ = _; simp only [np]; rfl
    refine pu 19 57 (bm 21 1048575) rfl rfl (by kernel_rfl) (fun _ _ _ h => h) (by rfl) (v := ?_) (a' := ?_) (by intro w'; go_simp; with_reducible rfl) (by simp only [np]; rfl) ?_
    refine pu 20 58 (bm 21 2097151) rfl rfl (by kernel_rfl) (fun _ _ _ h => h) (by rfl) (v := ?_) (a' := ?_) (by intro w'; go_simp; with_reducible rfl) (by simp only [np]; rfl) ?_
    refine done_ (by kernel_rfl) ?_
    clear hHeld
    have HBf := Aside0.mk (below_then HB7.out HB7.out.size HBn.out)
    clear HBn; go_wp2
    go_roundw
    case rel => exact ⟨k + 1, by omega, by go_num, HBf⟩
    case measure => simp [intOf]; omega
  · go_wp2
    go_ret
    exact ⟨rfl, below_then HB6.out HB6.out.size HB.out⟩
end Go.Proofs.Ytocndmielggnpaa.PAll
end
