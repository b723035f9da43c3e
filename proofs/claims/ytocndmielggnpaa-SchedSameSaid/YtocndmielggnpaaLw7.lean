/- jacquardlaw16.SchedSame, walked. -/
import Derived.Test.YtocndmielggnpaaS11
set_option linter.unusedSimpArgs false
set_option linter.unusedVariables false
section
namespace Go.Proofs.Ytocndmielggnpaa.PAll
open Go.RowKit Go.Proofs.YtocndmielggnpaaW.PrintWords Go.Proofs.YtocndmielggnpaaW.PrintLast Go.Proofs.YtocndmielggnpaaW.PrintMore
open Go.Proofs.Ytocndmielggnpaa.AMap Go.Proofs.Ytocndmielggnpaa.Env Go.Proofs.Ytocndmielggnpaa.Kind
theorem out_block {base : Nat} {w : World} {A : Option Addr} {n c : Nat} {X : List S37} (h : OutR base w (.slice A n c) X) (hx : 0 < X.length) :
    ∃ g cur, A = some ⟨g, 0, none⟩ ∧ base ≤ g ∧ w.heap[g]? = some (.cells cur 37 (0, 0)) ∧ X.length * 9 ≤ cur.size := by
 obtain ⟨inner, _, h2⟩ := Kd.R_own h
 rcases h2 with ⟨_, h0⟩ | ⟨g, cap, cur, hv, hb, hg, hn, _, hs, _⟩
 · omega
 · injection hv with e1 e2 e3
   subst e1
   refine ⟨g, cur, rfl, hb, hg, ?_⟩
   rw [hs]; exact Nat.mul_le_mul_right 9 hn
/-- The rows of a block that may be written. -/
def Wr (base : Nat) (A : Option Addr) (n : Nat) (w : World) : Prop := 0 < n → ∃ g cur, A = some ⟨g, 0, none⟩ ∧ base ≤ g ∧ w.heap[g]? = some (.cells cur 37 (0, 0)) ∧ n * 9 ≤ cur.size
theorem Wr.below {base n : Nat} {A : Option Addr} {w w' : World} (h : Wr base A n w) (hb : Below w.heap.size w w') : Wr base A n w' := fun hn => by
 obtain ⟨g, cur, e, h1, h2, h3⟩ := h hn
 exact ⟨g, cur, e, h1, blk_b hb h2, h3⟩
set_option maxHeartbeats 8000000 in
set_option maxRecDepth 100000 in
theorem law7_calls (A0 : Option Addr) (c0 : Nat) (l : List S37) (e : En) (A1 : Option Addr) (c1 : Nat) (d : De) (w : World) (hr0 : Rw w A0 c0 l) (hr1 : Ew w A1 c1 e.tos) :
    Calls Try.prog 7 #[.slice A0 l.length c0, .agg (eCells e A1 c1), .agg (dCells d)] w fun en w' => en = .returned (.bool true) ∧ Below w.heap.size w w' := by
 obtain ⟨w1, hw1⟩ : ∃ w1, w1 = (w.alloc (.cells (eCells e A1 c1) 25)).alloc (.cells (dCells d) 27) := ⟨_, rfl⟩
 have hbx : w1.heap[w.heap.size]? = some (.cells (eCells e A1 c1) 25 (0, 0)) := by rw [hw1]; exact blk_alloc (heap_alloc_new w _) _
 have hby : w1.heap[w.heap.size + 1]? = some (.cells (dCells d) 27 (0, 0)) := by rw [hw1]; exact new_at _ _ _ (by simp)
 have hb1 : Below w.heap.size w w1 := by rw [hw1]; exact below_alloc (below_alloc (Below.refl _ _) _) _
 have HBX := Aside0.mk hbx
 have HBY := Aside0.mk hby
 have HB1 := Aside0.mk hb1
 have HW1 := Aside0.mk hw1
 have HR0 := Aside0.mk (hr0.below hb1)
 have HR1 := Aside0.mk (hr1.below hb1)
 clear hr0 hr1 hbx hby hb1 hw1
 unfold eCells dCells
 go_enter Try.func7, Try.ntmps7
 go_wp2_with fail
 refine calls_world HW1.out ?_
 refine (shown_calls _).mono ?_
 rintro en w2 ⟨rfl, hb⟩
 have HB2 := Aside0.mk hb
 clear hb
 go_wp2_with fail
 refine (few_at HR0.out true _ HB2.out).mono ?_
 rintro en w3 ⟨An, cn, rfl, hO, hb⟩
 have hb13 := below_then HB2.out HB2.out.size hb
 have HB3 := Aside0.mk hb13
 have HRN := Aside0.mk (hO.rw (Below.refl _ _))
 have HX3 := Aside0.mk (blk_b hb13 HBX.out)
 have HY3 := Aside0.mk (blk_b hb13 HBY.out)
 have HE3 := Aside0.mk (HR1.out.below hb13)
 clear hb hO HB2 HR1 HBX HBY hb13 HW1
 obtain ⟨X, hX⟩ : ∃ X, X = fewP true l := ⟨_, rfl⟩
 rw [← hX] at HRN ⊢
 have hsh : Sh X := by rw [hX]; exact few_sh _ _
 have hx24 : X.length ≤ 24 := by rw [hX]; exact few_len _ _
 have HSH := Aside0.mk hsh
 have HXE := Aside0.mk hX
 clear hX hsh
 have q0 : w3.cell? ⟨w.heap.size + 1, 0, none⟩ = some (.int .i64 d.mul) := (blk_cell HY3.out 0).trans rfl
 have q1 : w3.cell? ⟨w.heap.size + 1, 1, none⟩ = some (.int .i64 d.dv) := (blk_cell HY3.out 1).trans rfl
 have q2 : w3.cell? ⟨w.heap.size + 1, 2, none⟩ = some (.int .i64 d.ld) := (blk_cell HY3.out 2).trans rfl
 have q3 : w3.cell? ⟨w.heap.size + 1, 3, none⟩ = some (.int .i64 d.tk) := (blk_cell HY3.out 3).trans rfl
 go_wp2_with fail
 refine (desc_c d _).mono ?_
 obtain ⟨D, hD⟩ : ∃ D, D = descP d := ⟨_, rfl⟩
 rw [← hD]
 clear hD
 rintro en w4 ⟨rfl, hb⟩
 have hb4 : Below w3.heap.size w3 (w4.alloc (.cells #[.int .i64 D.mul, .int .i64 D.dv, .int .i64 D.ld, .int .i64 D.tk] 27)) := below_alloc hb _
 have ha4 : (w4.alloc (.cells #[.int .i64 D.mul, .int .i64 D.dv, .int .i64 D.ld, .int .i64 D.tk] 27)).heap[w4.heap.size]? = some (.cells #[.int .i64 D.mul, .int .i64 D.dv, .int .i64 D.ld, .int .i64 D.tk] 27 (0, 0)) := heap_alloc_new w4 _
 clear hb q0 q1 q2 q3
 go_upto_region 4 with fail
 generalize w4.alloc (.cells #[.int .i64 D.mul, .int .i64 D.dv, .int .i64 D.ld, .int .i64 D.tk] 27) = w5 at hb4 ha4 ⊢
 generalize w4.heap.size = ga at ha4 ⊢
 have HA5 := Aside0.mk ha4
 have HX5 := Aside0.mk (blk_b hb4 HX3.out)
 have HE5 := Aside0.mk (HE3.out.below hb4)
 have HN5 := Aside0.mk (HRN.out.below hb4)
 have HB15 := Aside0.mk (below_then HB3.out HB3.out.size hb4)
 clear hb4 ha4 HX3 HY3 HE3 HRN HB3
 have HBK := Aside0.mk (blk_at D HN5.out HE5.out HSH.out)
 obtain ⟨Y, hY⟩ : ∃ Y, Y = blockP X e D := ⟨_, rfl⟩
 have HYE := Aside0.mk hY
 have hyx : Y.length = X.length := by rw [hY]; exact block_len HSH.out e D
 have hys : Sh Y := by rw [hY]; exact block_sh HSH.out e D
 have HYS := Aside0.mk hys
 rw [← hY] at HBK
 clear hY hys
 have ye0 : w5.cell? ⟨w.heap.size, 0, none⟩ = some (.int .i64 e.op) := ((blk_cell HX5.out 0).trans rfl)
 have ye1 : w5.cell? ⟨w.heap.size, 1, none⟩ = some (.int .i64 e.a) := ((blk_cell HX5.out 1).trans rfl)
 have ye2 : w5.cell? ⟨w.heap.size, 2, none⟩ = some (.int .i64 e.b) := ((blk_cell HX5.out 2).trans rfl)
 have ye3 : w5.cell? ⟨w.heap.size, 3, none⟩ = some (.slice A1 e.tos.length c1) := ((blk_cell HX5.out 3).trans rfl)
 have ye4 : w5.cell? ⟨w.heap.size, 4, none⟩ = some (.int .i32 e.imm) := ((blk_cell HX5.out 4).trans rfl)
 have yd0 : w5.cell? ⟨ga, 0, none⟩ = some (.int .i64 D.mul) := ((blk_cell HA5.out 0).trans rfl)
 have yd1 : w5.cell? ⟨ga, 1, none⟩ = some (.int .i64 D.dv) := ((blk_cell HA5.out 1).trans rfl)
 have yd2 : w5.cell? ⟨ga, 2, none⟩ = some (.int .i64 D.ld) := ((blk_cell HA5.out 2).trans rfl)
 have yd3 : w5.cell? ⟨ga, 3, none⟩ = some (.int .i64 D.tk) := ((blk_cell HA5.out 3).trans rfl)
 go_wp2_with fail
 refine (HBK.out _ (Below.refl _ _)).mono ?_
 rintro en w6 ⟨A2, c2, rfl, hO, hb⟩
 have HO2 := Aside0.mk hO
 have HB6 := Aside0.mk hb
 clear hO; clear ye0 ye1 ye2 ye3 ye4 yd0 yd1 yd2 yd3
 have ze0 : w6.cell? ⟨w.heap.size, 0, none⟩ = some (.int .i64 e.op) := cell_b HB6.out ((blk_cell HX5.out 0).trans rfl)
 have ze1 : w6.cell? ⟨w.heap.size, 1, none⟩ = some (.int .i64 e.a) := cell_b HB6.out ((blk_cell HX5.out 1).trans rfl)
 have ze2 : w6.cell? ⟨w.heap.size, 2, none⟩ = some (.int .i64 e.b) := cell_b HB6.out ((blk_cell HX5.out 2).trans rfl)
 have ze3 : w6.cell? ⟨w.heap.size, 3, none⟩ = some (.slice A1 e.tos.length c1) := cell_b HB6.out ((blk_cell HX5.out 3).trans rfl)
 have ze4 : w6.cell? ⟨w.heap.size, 4, none⟩ = some (.int .i32 e.imm) := cell_b HB6.out ((blk_cell HX5.out 4).trans rfl)
 have zd0 : w6.cell? ⟨ga, 0, none⟩ = some (.int .i64 D.mul) := cell_b HB6.out ((blk_cell HA5.out 0).trans rfl)
 have zd1 : w6.cell? ⟨ga, 1, none⟩ = some (.int .i64 D.dv) := cell_b HB6.out ((blk_cell HA5.out 1).trans rfl)
 have zd2 : w6.cell? ⟨ga, 2, none⟩ = some (.int .i64 D.ld) := cell_b HB6.out ((blk_cell HA5.out 2).trans rfl)
 have zd3 : w6.cell? ⟨ga, 3, none⟩ = some (.int .i64 D.tk) := cell_b HB6.out ((blk_cell HA5.out 3).trans rfl)
 clear hb
 go_wp2_with fail
 refine (HBK.out _ HB6.out).mono ?_
 rintro en w7 ⟨A3, c3, rfl, hO, hb⟩
 rw [hyx]
 have HRB := Aside0.mk (hO.rw (Below.refl _ _))
 have HRA := Aside0.mk (HO2.out.rw hb)
 have HW2 := Aside0.mk (show Wr w5.heap.size A2 Y.length w7 from Wr.below (fun hn => out_block HO2.out hn) hb)
 have HB7 := Aside0.mk (below_then HB6.out HB6.out.size hb)
 clear hO hb HO2 HB6 HBK ze0 ze1 ze2 ze3 ze4 zd0 zd1 zd2 zd3
 go_wp2_with fail
 go_loopw [12] (fun v12 wr => ∃ j : Nat, j ≤ X.length ∧ v12 = .int .i64 j ∧ Aside0 (Below w7.heap.size w7 wr)) (fun v12 _ => X.length - (intOf v12).toNat)
 case atStart => exact ⟨0, Nat.zero_le _, rfl, ⟨Below.refl _ _⟩⟩
 case round =>
  obtain ⟨j, hj, rfl, HB⟩ := hrel
  by_cases hjl : j < X.length
  · skip
    obtain ⟨ad, A7, c7, x, eA, hx, x0, x1, x2, x3, x4, x5, x6, x7, x8, hl7, hC7⟩ := at37 HRA.out.reads j (by omega)
    obtain ⟨ae, A8, c8, x', eB, hx', y0, y1, y2, y3, y4, y5, y6, y7, y8, hl8, hC8⟩ := at37 HRB.out.reads j (by omega)
    obtain rfl : x' = x := hx'.trans hx.symm
    have hl1000 : x'.f0.f7.length ≤ 1000 := by have := HYS.out.at j; rw [← hx] at this; omega
    subst eA eB
    have HXS := Aside0.mk (And.intro x0 (And.intro x1 (And.intro x2 (And.intro x3 (And.intro x4 (And.intro x5 (And.intro x6 (And.intro x7 x8))))))))
    have HYS2 := Aside0.mk (And.intro y0 (And.intro y1 (And.intro y2 (And.intro y3 (And.intro y4 (And.intro y5 (And.intro y6 (And.intro y7 y8))))))))
    have HC7 := Aside0.mk (fun w' (hb : Below w7.heap.size w7 w') => pi_calls x'.f0 w' (Kd.C_below hC7 hb) hl7 hl1000)
    have HC7b := Aside0.mk (fun w' (hb : Below w7.heap.size w7 w') => pi_calls x'.f0 w' (Kd.C_below hC8 hb) hl8 hl1000)
    clear x0 x1 x2 x3 x4 x5 x6 x7 x8 hl7 hC7 hx y0 y1 y2 y3 y4 y5 y6 y7 y8 hl8 hC8 hx'
    obtain ⟨wz, rfl⟩ : ∃ wz : World, wz = wr := ⟨_, rfl⟩
    have HBn := Aside0.mk (below_drew1 HB.out)
    go_wp2_with fail
    refine start_ (n := 26) (S := fun w' => w'.cell? (ad.add (j * 9)) = some (.int .i64 x'.f0.f0) ∧ w'.cell? ⟨(ad.add (j * 9)).block, (ad.add (j * 9)).off + 1, none⟩ = some (.int .i64 x'.f0.f1) ∧ w'.cell? ⟨(ad.add (j * 9)).block, (ad.add (j * 9)).off + 2, none⟩ = some (.int .i64 x'.f0.f2) ∧ w'.cell? ⟨(ad.add (j * 9)).block, (ad.add (j * 9)).off + 3, none⟩ = some (.int .i64 x'.f0.f3) ∧ w'.cell? ⟨(ad.add (j * 9)).block, (ad.add (j * 9)).off + 4, none⟩ = some (.int .i64 x'.f0.f4) ∧ w'.cell? ⟨(ad.add (j * 9)).block, (ad.add (j * 9)).off + 5, none⟩ = some (.int .i64 x'.f0.f5) ∧ w'.cell? ⟨(ad.add (j * 9)).block, (ad.add (j * 9)).off + 6, none⟩ = some (.int .i32 x'.f0.f6) ∧ w'.cell? ⟨(ad.add (j * 9)).block, (ad.add (j * 9)).off + 7, none⟩ = some (.slice A7 x'.f0.f7.length c7) ∧ w'.cell? ⟨(ad.add (j * 9)).block, (ad.add (j * 9)).off + 8, none⟩ = some (.int .i64 x'.f1) ∧ w'.cell? (ae.add (j * 9)) = some (.int .i64 x'.f0.f0) ∧ w'.cell? ⟨(ae.add (j * 9)).block, (ae.add (j * 9)).off + 1, none⟩ = some (.int .i64 x'.f0.f1) ∧ w'.cell? ⟨(ae.add (j * 9)).block, (ae.add (j * 9)).off + 2, none⟩ = some (.int .i64 x'.f0.f2) ∧ w'.cell? ⟨(ae.add (j * 9)).block, (ae.add (j * 9)).off + 3, none⟩ = some (.int .i64 x'.f0.f3) ∧ w'.cell? ⟨(ae.add (j * 9)).block, (ae.add (j * 9)).off + 4, none⟩ = some (.int .i64 x'.f0.f4) ∧ w'.cell? ⟨(ae.add (j * 9)).block, (ae.add (j * 9)).off + 5, none⟩ = some (.int .i64 x'.f0.f5) ∧ w'.cell? ⟨(ae.add (j * 9)).block, (ae.add (j * 9)).off + 6, none⟩ = some (.int .i32 x'.f0.f6) ∧ w'.cell? ⟨(ae.add (j * 9)).block, (ae.add (j * 9)).off + 7, none⟩ = some (.slice A8 x'.f0.f7.length c8) ∧ w'.cell? ⟨(ae.add (j * 9)).block, (ae.add (j * 9)).off + 8, none⟩ = some (.int .i64 x'.f1)) (ds := []) (bm 26 0) (by kernel_rfl) rfl rfl ⟨cell_b HBn.out (HXS.out.1), cell_b HBn.out (HXS.out.2.1), cell_b HBn.out (HXS.out.2.2.1), cell_b HBn.out (HXS.out.2.2.2.1), cell_b HBn.out (HXS.out.2.2.2.2.1), cell_b HBn.out (HXS.out.2.2.2.2.2.1), cell_b HBn.out (HXS.out.2.2.2.2.2.2.1), cell_b HBn.out (HXS.out.2.2.2.2.2.2.2.1), cell_b HBn.out (HXS.out.2.2.2.2.2.2.2.2), cell_b HBn.out (HYS2.out.1), cell_b HBn.out (HYS2.out.2.1), cell_b HBn.out (HYS2.out.2.2.1), cell_b HBn.out (HYS2.out.2.2.2.1), cell_b HBn.out (HYS2.out.2.2.2.2.1), cell_b HBn.out (HYS2.out.2.2.2.2.2.1), cell_b HBn.out (HYS2.out.2.2.2.2.2.2.1), cell_b HBn.out (HYS2.out.2.2.2.2.2.2.2.1), cell_b HBn.out (HYS2.out.2.2.2.2.2.2.2.2)⟩ (fun hHeld => ?_)
    refine pu 0 49 (bm 26 1) rfl rfl (by kernel_rfl) (fun _ _ _ h => h) (by rfl) (v := ?_) (a' := ?_) (by intro w'; go_simp; with_reducible rfl) (by simp only [np]; rfl) ?_
    refine pu 1 50 (bm 26 3) rfl rfl (by kernel_rfl) (fun _ _ _ h => h) (by rfl) (v := ?_) (a' := ?_) (by intro w'; go_simp; with_reducible rfl) (by simp only [np]; rfl) ?_
    refine pu 2 51 (bm 26 7) rfl rfl (by kernel_rfl) (fun _ _ _ h => h) (by rfl) (v := ?_) (a' := ?_) (by intro w'; go_simp; with_reducible rfl) (by simp only [np]; rfl) ?_
    refine pu 3 52 (bm 26 15) rfl rfl (by kernel_rfl) (fun _ _ _ h => h) (by rfl) (v := ?_) (a' := ?_) (by intro w'; go_simp; with_reducible rfl) (by simp only [np]; rfl) ?_
    refine pu 6 55 (bm 26 79) rfl rfl (by kernel_rfl) (fun _ _ _ h => h) (by rfl) (v := ?_) (a' := ?_) (by intro w'; go_simp; with_reducible rfl) (by simp only [np]; rfl) ?_
    refine pu 7 56 (bm 26 207) rfl rfl (by kernel_rfl) (fun _ _ _ h => h) (by rfl) (v := ?_) (a' := ?_) (by intro w'; go_simp; with_reducible rfl) (by simp only [np]; rfl) ?_
    refine pu 8 57 (bm 26 463) rfl rfl (by kernel_rfl) (fun _ _ _ h => h) (by rfl) (v := ?_) (a' := ?_) (by intro w'; go_simp; with_reducible rfl) (by simp only [np]; rfl) ?_
    refine pu 9 58 (bm 26 975) rfl rfl (by kernel_rfl) (fun _ _ _ h => h) (by rfl) (v := ?_) (a' := ?_) (by intro w'; go_simp; with_reducible rfl) (by simp only [np]; rfl) ?_
    refine tu 4 53 (bm 26 991) rfl rfl (by kernel_rfl) (fun _ _ _ h => h) (by rfl) (v := ?_) (a' := ?_) (by rintro w' ⟨s0, s1, s2, s3, s4, s5, s6, s7, s8, s9, s10, s11, s12, s13, s14, s15, s16, s17⟩; go_simp; with_reducible rfl) hHeld (by simp only [np]; rfl) ?_
    refine tu 10 59 (bm 26 2015) rfl rfl (by kernel_rfl) (fun _ _ _ h => h) (by rfl) (v := ?_) (a' := ?_) (by rintro w' ⟨s0, s1, s2, s3, s4, s5, s6, s7, s8, s9, s10, s11, s12, s13, s14, s15, s16, s17⟩; go_simp; with_reducible rfl) hHeld (by simp only [np]; rfl) ?_
    refine one_ (i := 5) (N := some 54) (bm 26 2047) rfl rfl (by kernel_rfl) (by decide) (fun K hK => ?_)
    refine goes_ Try.func17 (by kernel_rfl) rfl #[.agg #[.int .i64 x'.f0.f0, .int .i64 x'.f0.f1, .int .i64 x'.f0.f2, .int .i64 x'.f0.f3, .int .i64 x'.f0.f4, .int .i64 x'.f0.f5, .int .i32 x'.f0.f6, .slice A7 x'.f0.f7.length c7]] (by rfl) rfl rfl (by simp only [List.map_toArray, List.map_cons, List.map_nil]; rfl) ?_
    with_reducible refine (HC7.out _ HBn.out).mono ?_
    rintro en w9 ⟨rfl, hb⟩
    refine ⟨_, rfl, ?_⟩
    have HBm := Aside0.mk (below_then HBn.out HBn.out.size hb)
    clear HBn; have HBn := HBm; clear HBm
    refine hK.out _ _ ⟨cell_b hb (hHeld.1), cell_b hb (hHeld.2.1), cell_b hb (hHeld.2.2.1), cell_b hb (hHeld.2.2.2.1), cell_b hb (hHeld.2.2.2.2.1), cell_b hb (hHeld.2.2.2.2.2.1), cell_b hb (hHeld.2.2.2.2.2.2.1), cell_b hb (hHeld.2.2.2.2.2.2.2.1), cell_b hb (hHeld.2.2.2.2.2.2.2.2.1), cell_b hb (hHeld.2.2.2.2.2.2.2.2.2.1), cell_b hb (hHeld.2.2.2.2.2.2.2.2.2.2.1), cell_b hb (hHeld.2.2.2.2.2.2.2.2.2.2.2.1), cell_b hb (hHeld.2.2.2.2.2.2.2.2.2.2.2.2.1), cell_b hb (hHeld.2.2.2.2.2.2.2.2.2.2.2.2.2.1), cell_b hb (hHeld.2.2.2.2.2.2.2.2.2.2.2.2.2.2.1), cell_b hb (hHeld.2.2.2.2.2.2.2.2.2.2.2.2.2.2.2.1), cell_b hb (hHeld.2.2.2.2.2.2.2.2.2.2.2.2.2.2.2.2.1), cell_b hb (hHeld.2.2.2.2.2.2.2.2.2.2.2.2.2.2.2.2.2)⟩ (fun hHeld => ?_)
    clear hK K
    refine norm_ (a' := ?_) ?_ ?_
    rotate_left
    · show Act.put _ (some 54) _ = _; simp only [np]; rfl
    refine one_ (i := 11) (N := some 60) (bm 26 4095) rfl rfl (by kernel_rfl) (by decide) (fun K hK => ?_)
    refine goes_ Try.func17 (by kernel_rfl) rfl #[.agg #[.int .i64 x'.f0.f0, .int .i64 x'.f0.f1, .int .i64 x'.f0.f2, .int .i64 x'.f0.f3, .int .i64 x'.f0.f4, .int .i64 x'.f0.f5, .int .i32 x'.f0.f6, .slice A8 x'.f0.f7.length c8]] (by rfl) rfl rfl (by simp only [List.map_toArray, List.map_cons, List.map_nil]; rfl) ?_
    with_reducible refine (HC7b.out _ HBn.out).mono ?_
    rintro en w10 ⟨rfl, hb⟩
    refine ⟨_, rfl, ?_⟩
    have HBm := Aside0.mk (below_then HBn.out HBn.out.size hb)
    clear HBn; have HBn := HBm; clear HBm
    refine hK.out _ _ ⟨cell_b hb (hHeld.1), cell_b hb (hHeld.2.1), cell_b hb (hHeld.2.2.1), cell_b hb (hHeld.2.2.2.1), cell_b hb (hHeld.2.2.2.2.1), cell_b hb (hHeld.2.2.2.2.2.1), cell_b hb (hHeld.2.2.2.2.2.2.1), cell_b hb (hHeld.2.2.2.2.2.2.2.1), cell_b hb (hHeld.2.2.2.2.2.2.2.2.1), cell_b hb (hHeld.2.2.2.2.2.2.2.2.2.1), cell_b hb (hHeld.2.2.2.2.2.2.2.2.2.2.1), cell_b hb (hHeld.2.2.2.2.2.2.2.2.2.2.2.1), cell_b hb (hHeld.2.2.2.2.2.2.2.2.2.2.2.2.1), cell_b hb (hHeld.2.2.2.2.2.2.2.2.2.2.2.2.2.1), cell_b hb (hHeld.2.2.2.2.2.2.2.2.2.2.2.2.2.2.1), cell_b hb (hHeld.2.2.2.2.2.2.2.2.2.2.2.2.2.2.2.1), cell_b hb (hHeld.2.2.2.2.2.2.2.2.2.2.2.2.2.2.2.2.1), cell_b hb (hHeld.2.2.2.2.2.2.2.2.2.2.2.2.2.2.2.2.2)⟩ (fun hHeld => ?_)
    clear hK K
    refine norm_ (a' := ?_) ?_ ?_
    rotate_left
    · show Act.put _ (some 60) _ = _; simp only [np]; rfl
    refine pu 12 61 (bm 26 8191) rfl rfl (by kernel_rfl) (fun _ _ _ h => h) (by rfl) (v := ?_) (a' := ?_) (by intro w'; go_simp; with_reducible rfl) (by simp only [np]; rfl) ?_
    refine pu 13 62 (bm 26 16383) rfl rfl (by kernel_rfl) (fun _ _ _ h => h) (by rfl) (v := ?_) (a' := ?_) (by intro w'; go_simp; with_reducible rfl) (by simp only [np]; rfl) ?_
    refine pu 14 63 (bm 26 32767) rfl rfl (by kernel_rfl) (fun _ _ _ h => h) (by rfl) (v := ?_) (a' := ?_) (by intro w'; go_simp; with_reducible rfl) (by simp only [np]; rfl) ?_
    refine pu 15 64 (bm 26 65535) rfl rfl (by kernel_rfl) (fun _ _ _ h => h) (by rfl) (v := ?_) (a' := ?_) (by intro w'; go_simp; with_reducible rfl) (by simp only [np]; rfl) ?_
    refine pu 16 65 (bm 26 131071) rfl rfl (by kernel_rfl) (fun _ _ _ h => h) (by rfl) (v := ?_) (a' := ?_) (by intro w'; go_simp; with_reducible rfl) (by simp only [np]; rfl) ?_
    refine pu 17 66 (bm 26 262143) rfl rfl (by kernel_rfl) (fun _ _ _ h => h) (by rfl) (v := ?_) (a' := ?_) (by intro w'; go_simp; with_reducible rfl) (by simp only [np]; rfl) ?_
    refine pu 19 68 (bm 26 786431) rfl rfl (by kernel_rfl) (fun _ _ _ h => h) (by rfl) (v := ?_) (a' := ?_) (by intro w'; go_simp; with_reducible rfl) (by simp only [np]; rfl) ?_
    refine pu 20 69 (bm 26 1835007) rfl rfl (by kernel_rfl) (fun _ _ _ h => h) (by rfl) (v := ?_) (a' := ?_) (by intro w'; go_simp; with_reducible rfl) (by simp only [np]; rfl) ?_
    refine pu 21 70 (bm 26 3932159) rfl rfl (by kernel_rfl) (fun _ _ _ h => h) (by rfl) (v := ?_) (a' := ?_) (by intro w'; go_simp; with_reducible rfl) (by simp only [np]; rfl) ?_
    refine pu 22 71 (bm 26 8126463) rfl rfl (by kernel_rfl) (fun _ _ _ h => h) (by rfl) (v := ?_) (a' := ?_) (by intro w'; go_simp; with_reducible rfl) (by simp only [np]; rfl) ?_
    refine tu 18 67 (bm 26 8388607) rfl rfl (by kernel_rfl) (fun _ _ _ h => h) (by rfl) (v := ?_) (a' := ?_) (by rintro w' ⟨s0, s1, s2, s3, s4, s5, s6, s7, s8, s9, s10, s11, s12, s13, s14, s15, s16, s17⟩; go_simp; with_reducible rfl) hHeld (by simp only [np]; rfl) ?_
    refine tu 23 72 (bm 26 16777215) rfl rfl (by kernel_rfl) (fun _ _ _ h => h) (by rfl) (v := ?_) (a' := ?_) (by rintro w' ⟨s0, s1, s2, s3, s4, s5, s6, s7, s8, s9, s10, s11, s12, s13, s14, s15, s16, s17⟩; go_simp; with_reducible rfl) hHeld (by simp only [np]; rfl) ?_
    refine pu 24 73 (bm 26 33554431) rfl rfl (by kernel_rfl) (fun _ _ _ h => h) (by rfl) (v := ?_) (a' := ?_) (by intro w'; go_simp; with_reducible rfl) (by simp only [np]; rfl) ?_
    refine pu 25 74 (bm 26 67108863) rfl rfl (by kernel_rfl) (fun _ _ _ h => h) (by rfl) (v := ?_) (a' := ?_) (by intro w'; go_simp; with_reducible rfl) (by simp only [np]; rfl) ?_
    refine done_ (by kernel_rfl) ?_
    clear hHeld HXS HYS2 HC7 HC7b; go_wp2
    go_roundw
    case rel => exact ⟨j + 1, by omega, by go_num, HBn⟩
    case measure => simp [intOf]; omega
  · have hjx : j = X.length := by omega
    subst hjx; clear hjl hj
    obtain ⟨wz, rfl⟩ : ∃ wz : World, wz = wr := ⟨_, rfl⟩
    have HBn := Aside0.mk (below_drew1 HB.out)
    have HBL2 := Aside0.mk (blk_at D HRA.out (HE5.out.below HB7.out) HYS.out)
    rw [hyx] at HBL2
    go_upto_region 13 with fail
    refine start_ (n := 8) (S := fun w' => w'.cell? ⟨w.heap.size, 0, none⟩ = some (.int .i64 e.op) ∧ w'.cell? ⟨w.heap.size, 1, none⟩ = some (.int .i64 e.a) ∧ w'.cell? ⟨w.heap.size, 2, none⟩ = some (.int .i64 e.b) ∧ w'.cell? ⟨w.heap.size, 3, none⟩ = some (.slice A1 e.tos.length c1) ∧ w'.cell? ⟨w.heap.size, 4, none⟩ = some (.int .i32 e.imm) ∧ w'.cell? ⟨ga, 0, none⟩ = some (.int .i64 D.mul) ∧ w'.cell? ⟨ga, 1, none⟩ = some (.int .i64 D.dv) ∧ w'.cell? ⟨ga, 2, none⟩ = some (.int .i64 D.ld) ∧ w'.cell? ⟨ga, 3, none⟩ = some (.int .i64 D.tk)) (ds := []) (bm 8 0) (by kernel_rfl) rfl rfl ⟨cell_b HBn.out (cell_b HB7.out ((blk_cell HX5.out 0).trans rfl)), cell_b HBn.out (cell_b HB7.out ((blk_cell HX5.out 1).trans rfl)), cell_b HBn.out (cell_b HB7.out ((blk_cell HX5.out 2).trans rfl)), cell_b HBn.out (cell_b HB7.out ((blk_cell HX5.out 3).trans rfl)), cell_b HBn.out (cell_b HB7.out ((blk_cell HX5.out 4).trans rfl)), cell_b HBn.out (cell_b HB7.out ((blk_cell HA5.out 0).trans rfl)), cell_b HBn.out (cell_b HB7.out ((blk_cell HA5.out 1).trans rfl)), cell_b HBn.out (cell_b HB7.out ((blk_cell HA5.out 2).trans rfl)), cell_b HBn.out (cell_b HB7.out ((blk_cell HA5.out 3).trans rfl))⟩ (fun hHeld => ?_)
    refine pu 0 75 (bm 8 1) rfl rfl (by kernel_rfl) (fun _ _ _ h => h) (by rfl) (v := ?_) (a' := ?_) (by intro w'; go_simp; with_reducible rfl) (by simp only [np]; rfl) ?_
    refine tu 1 76 (bm 8 3) rfl rfl (by kernel_rfl) (fun _ _ _ h => h) (by rfl) (v := ?_) (a' := ?_) (by rintro w' ⟨s0, s1, s2, s3, s4, s5, s6, s7, s8⟩; go_simp; with_reducible rfl) hHeld (by simp only [np]; rfl) ?_
    refine tu 2 77 (bm 8 7) rfl rfl (by kernel_rfl) (fun _ _ _ h => h) (by rfl) (v := ?_) (a' := ?_) (by rintro w' ⟨s0, s1, s2, s3, s4, s5, s6, s7, s8⟩; go_simp; with_reducible rfl) hHeld (by simp only [np]; rfl) ?_
    refine tu 4 79 (bm 8 23) rfl rfl (by kernel_rfl) (fun _ _ _ h => h) (by rfl) (v := ?_) (a' := ?_) (by rintro w' ⟨s0, s1, s2, s3, s4, s5, s6, s7, s8⟩; go_simp; with_reducible rfl) hHeld (by simp only [np]; rfl) ?_
    refine tu 5 80 (bm 8 55) rfl rfl (by kernel_rfl) (fun _ _ _ h => h) (by rfl) (v := ?_) (a' := ?_) (by rintro w' ⟨s0, s1, s2, s3, s4, s5, s6, s7, s8⟩; go_simp; with_reducible rfl) hHeld (by simp only [np]; rfl) ?_
    refine one_ (i := 3) (N := some 78) (bm 8 63) rfl rfl (by kernel_rfl) (by decide) (fun K hK => ?_)
    refine goes_ Try.func15 (by kernel_rfl) rfl #[.slice A2 X.length c2, .agg #[.int .i64 e.op, .int .i64 e.a, .int .i64 e.b, .slice A1 e.tos.length c1, .int .i32 e.imm], .agg #[.int .i64 D.mul, .int .i64 D.dv, .int .i64 D.ld, .int .i64 D.tk]] (by rfl) rfl rfl (by simp only [List.map_toArray, List.map_cons, List.map_nil]; rfl) ?_
    with_reducible refine (HBL2.out _ HBn.out).mono ?_
    rintro en w9 ⟨A4, c4, rfl, hO, hb⟩
    refine ⟨_, rfl, ?_⟩
    have HBm := Aside0.mk (below_then HBn.out HBn.out.size hb)
    clear HBn; have HBn := HBm; clear HBm
    have HCY := Aside0.mk (cyc_at D (hO.rw (Below.refl _ _)) ((HE5.out.below HB7.out).below HBn.out) (block_sh HYS.out e D))
    clear hO
    refine hK.out _ _ ⟨cell_b hb (hHeld.1), cell_b hb (hHeld.2.1), cell_b hb (hHeld.2.2.1), cell_b hb (hHeld.2.2.2.1), cell_b hb (hHeld.2.2.2.2.1), cell_b hb (hHeld.2.2.2.2.2.1), cell_b hb (hHeld.2.2.2.2.2.2.1), cell_b hb (hHeld.2.2.2.2.2.2.2.1), cell_b hb (hHeld.2.2.2.2.2.2.2.2)⟩ (fun hHeld => ?_)
    clear hK K
    refine norm_ (a' := ?_) ?_ ?_
    rotate_left
    · show Act.put _ (some 78) _ = _; simp only [np]; rfl
    refine one_ (i := 6) (N := some 81) (bm 8 127) rfl rfl (by kernel_rfl) (by decide) (fun K hK => ?_)
    refine goes_ Try.func10 (by kernel_rfl) rfl #[.slice A4 (blockP Y e D).length c4, .agg #[.int .i64 e.op, .int .i64 e.a, .int .i64 e.b, .slice A1 e.tos.length c1, .int .i32 e.imm], .agg #[.int .i64 D.mul, .int .i64 D.dv, .int .i64 D.ld, .int .i64 D.tk]] (by rfl) rfl rfl (by simp only [List.map_toArray, List.map_cons, List.map_nil]; rfl) ?_
    with_reducible refine (HCY.out _ (Below.refl _ _)).mono ?_
    rintro en w10 ⟨rfl, hb⟩
    refine ⟨_, rfl, ?_⟩
    have HBm := Aside0.mk (below_then HBn.out HBn.out.size hb)
    clear HBn; have HBn := HBm; clear HBm
    refine hK.out _ _ ⟨cell_b hb (hHeld.1), cell_b hb (hHeld.2.1), cell_b hb (hHeld.2.2.1), cell_b hb (hHeld.2.2.2.1), cell_b hb (hHeld.2.2.2.2.1), cell_b hb (hHeld.2.2.2.2.2.1), cell_b hb (hHeld.2.2.2.2.2.2.1), cell_b hb (hHeld.2.2.2.2.2.2.2.1), cell_b hb (hHeld.2.2.2.2.2.2.2.2)⟩ (fun hHeld => ?_)
    clear hK K
    refine norm_ (a' := ?_) ?_ ?_
    rotate_left
    · show Act.put _ (some 81) _ = _; simp only [np]; rfl
    refine pu 7 13 (bm 8 255) rfl rfl (by kernel_rfl) (fun _ _ _ h => h) (by rfl) (v := ?_) (a' := ?_) (by intro w'; go_simp; with_reducible rfl) (by simp only [np]; rfl) ?_
    refine done_ (by kernel_rfl) ?_
    clear hHeld HBL2 HCY
    have hle := block_le (l := Y) e D
    obtain ⟨n1, hn1⟩ : ∃ n, n = cyP (blockP Y e D) e D := ⟨_, rfl⟩
    obtain ⟨n2, hn2⟩ : ∃ n, n = cyP Y e D := ⟨_, rfl⟩
    rw [← hn1] at hle ⊢
    have HCY := Aside0.mk (cyc_at D HRA.out (HE5.out.below HB7.out) HYS.out)
    rw [← hn2] at HCY hle
    rw [hyx] at HCY
    have hle12 : decide (n1 ≤ n2) = true := decide_eq_true hle
    clear hn1 hn2 hle HB
    have ze0 : w10.cell? ⟨w.heap.size, 0, none⟩ = some (.int .i64 e.op) := cell_b HBn.out (cell_b HB7.out ((blk_cell HX5.out 0).trans rfl))
    have ze1 : w10.cell? ⟨w.heap.size, 1, none⟩ = some (.int .i64 e.a) := cell_b HBn.out (cell_b HB7.out ((blk_cell HX5.out 1).trans rfl))
    have ze2 : w10.cell? ⟨w.heap.size, 2, none⟩ = some (.int .i64 e.b) := cell_b HBn.out (cell_b HB7.out ((blk_cell HX5.out 2).trans rfl))
    have ze3 : w10.cell? ⟨w.heap.size, 3, none⟩ = some (.slice A1 e.tos.length c1) := cell_b HBn.out (cell_b HB7.out ((blk_cell HX5.out 3).trans rfl))
    have ze4 : w10.cell? ⟨w.heap.size, 4, none⟩ = some (.int .i32 e.imm) := cell_b HBn.out (cell_b HB7.out ((blk_cell HX5.out 4).trans rfl))
    have zd0 : w10.cell? ⟨ga, 0, none⟩ = some (.int .i64 D.mul) := cell_b HBn.out (cell_b HB7.out ((blk_cell HA5.out 0).trans rfl))
    have zd1 : w10.cell? ⟨ga, 1, none⟩ = some (.int .i64 D.dv) := cell_b HBn.out (cell_b HB7.out ((blk_cell HA5.out 1).trans rfl))
    have zd2 : w10.cell? ⟨ga, 2, none⟩ = some (.int .i64 D.ld) := cell_b HBn.out (cell_b HB7.out ((blk_cell HA5.out 2).trans rfl))
    have zd3 : w10.cell? ⟨ga, 3, none⟩ = some (.int .i64 D.tk) := cell_b HBn.out (cell_b HB7.out ((blk_cell HA5.out 3).trans rfl))
    go_wp2_with fail
    refine (HCY.out _ HBn.out).mono ?_
    rintro en w11 ⟨rfl, hb⟩
    have HB11 := Aside0.mk (below_then HB7.out HB7.out.size (below_then HBn.out HBn.out.size hb))
    have HW11 := Aside0.mk (Wr.below HW2.out (below_then HBn.out HBn.out.size hb))
    clear ze0 ze1 ze2 ze3 ze4 zd0 zd1 zd2 zd3 hb HBn HCY HW2
    rw [hyx] at HW11
    go_wp2_with fail
    go_loopw [15] (fun v15 wr => ∃ j : Nat, j ≤ X.length ∧ v15 = .int .i64 j ∧ Aside0 (Below w5.heap.size w5 wr) ∧ Aside0 (Wr w5.heap.size A2 X.length wr)) (fun v15 _ => X.length - (intOf v15).toNat)
    case atStart => exact ⟨0, Nat.zero_le _, rfl, HB11, HW11⟩
    case round =>
     obtain ⟨j, hj, rfl, HB, HW⟩ := hrel
     by_cases hjl : j < X.length
     · obtain ⟨g, cur, eA, hg, hc, hs⟩ := HW.out (by omega)
       subst eA
       rw [Nat.mul_comm] at hs
       obtain ⟨u0, z0⟩ : ∃ u, wr.cell? ⟨g, j * 9, none⟩ = some u := ⟨cur[j * 9]'(by omega), (blk_cell hc _).trans (Array.getElem?_eq_getElem _)⟩
       have y0 : wr.frozen? ⟨g, j * 9, none⟩ = false := by simp [World.frozen?, hc]
       obtain ⟨u1, z1⟩ : ∃ u, wr.cell? ⟨g, j * 9 + 1, none⟩ = some u := ⟨cur[j * 9 + 1]'(by omega), (blk_cell hc _).trans (Array.getElem?_eq_getElem _)⟩
       have y1 : wr.frozen? ⟨g, j * 9 + 1, none⟩ = false := by simp [World.frozen?, hc]
       obtain ⟨u2, z2⟩ : ∃ u, wr.cell? ⟨g, j * 9 + 2, none⟩ = some u := ⟨cur[j * 9 + 2]'(by omega), (blk_cell hc _).trans (Array.getElem?_eq_getElem _)⟩
       have y2 : wr.frozen? ⟨g, j * 9 + 2, none⟩ = false := by simp [World.frozen?, hc]
       obtain ⟨u3, z3⟩ : ∃ u, wr.cell? ⟨g, j * 9 + 3, none⟩ = some u := ⟨cur[j * 9 + 3]'(by omega), (blk_cell hc _).trans (Array.getElem?_eq_getElem _)⟩
       have y3 : wr.frozen? ⟨g, j * 9 + 3, none⟩ = false := by simp [World.frozen?, hc]
       obtain ⟨u4, z4⟩ : ∃ u, wr.cell? ⟨g, j * 9 + 4, none⟩ = some u := ⟨cur[j * 9 + 4]'(by omega), (blk_cell hc _).trans (Array.getElem?_eq_getElem _)⟩
       have y4 : wr.frozen? ⟨g, j * 9 + 4, none⟩ = false := by simp [World.frozen?, hc]
       obtain ⟨u5, z5⟩ : ∃ u, wr.cell? ⟨g, j * 9 + 5, none⟩ = some u := ⟨cur[j * 9 + 5]'(by omega), (blk_cell hc _).trans (Array.getElem?_eq_getElem _)⟩
       have y5 : wr.frozen? ⟨g, j * 9 + 5, none⟩ = false := by simp [World.frozen?, hc]
       obtain ⟨u6, z6⟩ : ∃ u, wr.cell? ⟨g, j * 9 + 6, none⟩ = some u := ⟨cur[j * 9 + 6]'(by omega), (blk_cell hc _).trans (Array.getElem?_eq_getElem _)⟩
       have y6 : wr.frozen? ⟨g, j * 9 + 6, none⟩ = false := by simp [World.frozen?, hc]
       obtain ⟨u7, z7⟩ : ∃ u, wr.cell? ⟨g, j * 9 + 7, none⟩ = some u := ⟨cur[j * 9 + 7]'(by omega), (blk_cell hc _).trans (Array.getElem?_eq_getElem _)⟩
       have y7 : wr.frozen? ⟨g, j * 9 + 7, none⟩ = false := by simp [World.frozen?, hc]
       obtain ⟨u8, z8⟩ : ∃ u, wr.cell? ⟨g, j * 9 + 8, none⟩ = some u := ⟨cur[j * 9 + 8]'(by omega), (blk_cell hc _).trans (Array.getElem?_eq_getElem _)⟩
       have y8 : wr.frozen? ⟨g, j * 9 + 8, none⟩ = false := by simp [World.frozen?, hc]
       obtain ⟨wz, rfl⟩ : ∃ wz : World, wz = wr := ⟨_, rfl⟩
       have hB := HB.out
       have hA := hc
       replace hB := hB.setCell (p := ⟨g, j * 9, none⟩) hg (.int .i64 0)
       replace hA := blk_set hA (j * 9) (.int .i64 0)
       replace hB := hB.setCell (p := ⟨g, j * 9 + 1, none⟩) hg (.int .i64 0)
       replace hA := blk_set hA (j * 9 + 1) (.int .i64 0)
       replace hB := hB.setCell (p := ⟨g, j * 9 + 2, none⟩) hg (.int .i64 0)
       replace hA := blk_set hA (j * 9 + 2) (.int .i64 0)
       replace hB := hB.setCell (p := ⟨g, j * 9 + 3, none⟩) hg (.int .i64 0)
       replace hA := blk_set hA (j * 9 + 3) (.int .i64 0)
       replace hB := hB.setCell (p := ⟨g, j * 9 + 4, none⟩) hg (.int .i64 0)
       replace hA := blk_set hA (j * 9 + 4) (.int .i64 0)
       replace hB := hB.setCell (p := ⟨g, j * 9 + 5, none⟩) hg (.int .i64 0)
       replace hA := blk_set hA (j * 9 + 5) (.int .i64 0)
       replace hB := hB.setCell (p := ⟨g, j * 9 + 6, none⟩) hg (.int .i32 0)
       replace hA := blk_set hA (j * 9 + 6) (.int .i32 0)
       replace hB := hB.setCell (p := ⟨g, j * 9 + 7, none⟩) hg (.slice none 0 0)
       replace hA := blk_set hA (j * 9 + 7) (.slice none 0 0)
       replace hB := hB.setCell (p := ⟨g, j * 9 + 8, none⟩) hg (.int .i64 99)
       replace hA := blk_set hA (j * 9 + 8) (.int .i64 99)
       have hS : (((((((((cur.setIfInBounds (j * 9) (.int .i64 0)).setIfInBounds (j * 9 + 1) (.int .i64 0)).setIfInBounds (j * 9 + 2) (.int .i64 0)).setIfInBounds (j * 9 + 3) (.int .i64 0)).setIfInBounds (j * 9 + 4) (.int .i64 0)).setIfInBounds (j * 9 + 5) (.int .i64 0)).setIfInBounds (j * 9 + 6) (.int .i32 0)).setIfInBounds (j * 9 + 7) (.slice none 0 0)).setIfInBounds (j * 9 + 8) (.int .i64 99)).size = cur.size := by simp only [Array.size_setIfInBounds]
       rw [← hS] at hs
       have HBz := Aside0.mk hB
       have HAz := Aside0.mk hA
       have HSz := Aside0.mk hs
       clear hB hA hc hs hS HB HW; go_wp2
       go_roundw
       case rel => exact ⟨j + 1, by omega, by go_num, HBz, ⟨fun _ => ⟨g, _, rfl, hg, HAz.out, by rw [Nat.mul_comm]; exact HSz.out⟩⟩⟩
       case measure => simp [intOf]; omega
     · have hjx : j = X.length := by omega
       subst hjx; clear hjl hj HW
       go_wp2_with fail
       refine (few_at HR0.out true _ (below_then HB15.out HB15.out.size HB.out)).mono ?_
       rintro en w12 ⟨A5, c5, rfl, hO, hb⟩
       rw [← HXE.out] at hO ⊢
       have hb5 := below_then HB.out HB.out.size hb
       have HN12 := Aside0.mk (HN5.out.below hb5)
       have HQ12 := Aside0.mk (hO.rw (Below.refl _ _))
       have HBZ := Aside0.mk (below_then HB1.out HB1.out.size (below_then HB15.out HB15.out.size hb5))
       clear hO hb hb5 HB HN5 HR0 HB15 HB1 HB7 HB11 HX5 HA5 HE5 HRA HRB HW11
       go_wp2_with fail
       go_loopw [17] (fun v17 wr => ∃ j : Nat, j ≤ X.length ∧ v17 = .int .i64 j ∧ Aside0 (Below w12.heap.size w12 wr)) (fun v17 _ => X.length - (intOf v17).toNat)
       case atStart => exact ⟨0, Nat.zero_le _, rfl, ⟨Below.refl _ _⟩⟩
       case round =>
        obtain ⟨j, hj, rfl, HB⟩ := hrel
        by_cases hjl : j < X.length
        · skip
          obtain ⟨ad, A7, c7, x, eA, hx, x0, x1, x2, x3, x4, x5, x6, x7, x8, hl7, hC7⟩ := at37 HN12.out.reads j (by omega)
          obtain ⟨ae, A8, c8, x', eB, hx', y0, y1, y2, y3, y4, y5, y6, y7, y8, hl8, hC8⟩ := at37 HQ12.out.reads j (by omega)
          obtain rfl : x' = x := hx'.trans hx.symm
          have hl1000 : x'.f0.f7.length ≤ 1000 := by have := HSH.out.at j; rw [← hx] at this; omega
          subst eA eB
          have HXS := Aside0.mk (And.intro x0 (And.intro x1 (And.intro x2 (And.intro x3 (And.intro x4 (And.intro x5 (And.intro x6 (And.intro x7 x8))))))))
          have HYS2 := Aside0.mk (And.intro y0 (And.intro y1 (And.intro y2 (And.intro y3 (And.intro y4 (And.intro y5 (And.intro y6 (And.intro y7 y8))))))))
          have HC7 := Aside0.mk (fun w' (hb : Below w12.heap.size w12 w') => pi_calls x'.f0 w' (Kd.C_below hC7 hb) hl7 hl1000)
          have HC7b := Aside0.mk (fun w' (hb : Below w12.heap.size w12 w') => pi_calls x'.f0 w' (Kd.C_below hC8 hb) hl8 hl1000)
          clear x0 x1 x2 x3 x4 x5 x6 x7 x8 hl7 hC7 hx y0 y1 y2 y3 y4 y5 y6 y7 y8 hl8 hC8 hx'
          obtain ⟨wz, rfl⟩ : ∃ wz : World, wz = wr := ⟨_, rfl⟩
          have HBn := Aside0.mk (below_drew1 HB.out)
          go_wp2_with fail
          refine start_ (n := 26) (S := fun w' => w'.cell? (ad.add (j * 9)) = some (.int .i64 x'.f0.f0) ∧ w'.cell? ⟨(ad.add (j * 9)).block, (ad.add (j * 9)).off + 1, none⟩ = some (.int .i64 x'.f0.f1) ∧ w'.cell? ⟨(ad.add (j * 9)).block, (ad.add (j * 9)).off + 2, none⟩ = some (.int .i64 x'.f0.f2) ∧ w'.cell? ⟨(ad.add (j * 9)).block, (ad.add (j * 9)).off + 3, none⟩ = some (.int .i64 x'.f0.f3) ∧ w'.cell? ⟨(ad.add (j * 9)).block, (ad.add (j * 9)).off + 4, none⟩ = some (.int .i64 x'.f0.f4) ∧ w'.cell? ⟨(ad.add (j * 9)).block, (ad.add (j * 9)).off + 5, none⟩ = some (.int .i64 x'.f0.f5) ∧ w'.cell? ⟨(ad.add (j * 9)).block, (ad.add (j * 9)).off + 6, none⟩ = some (.int .i32 x'.f0.f6) ∧ w'.cell? ⟨(ad.add (j * 9)).block, (ad.add (j * 9)).off + 7, none⟩ = some (.slice A7 x'.f0.f7.length c7) ∧ w'.cell? ⟨(ad.add (j * 9)).block, (ad.add (j * 9)).off + 8, none⟩ = some (.int .i64 x'.f1) ∧ w'.cell? (ae.add (j * 9)) = some (.int .i64 x'.f0.f0) ∧ w'.cell? ⟨(ae.add (j * 9)).block, (ae.add (j * 9)).off + 1, none⟩ = some (.int .i64 x'.f0.f1) ∧ w'.cell? ⟨(ae.add (j * 9)).block, (ae.add (j * 9)).off + 2, none⟩ = some (.int .i64 x'.f0.f2) ∧ w'.cell? ⟨(ae.add (j * 9)).block, (ae.add (j * 9)).off + 3, none⟩ = some (.int .i64 x'.f0.f3) ∧ w'.cell? ⟨(ae.add (j * 9)).block, (ae.add (j * 9)).off + 4, none⟩ = some (.int .i64 x'.f0.f4) ∧ w'.cell? ⟨(ae.add (j * 9)).block, (ae.add (j * 9)).off + 5, none⟩ = some (.int .i64 x'.f0.f5) ∧ w'.cell? ⟨(ae.add (j * 9)).block, (ae.add (j * 9)).off + 6, none⟩ = some (.int .i32 x'.f0.f6) ∧ w'.cell? ⟨(ae.add (j * 9)).block, (ae.add (j * 9)).off + 7, none⟩ = some (.slice A8 x'.f0.f7.length c8) ∧ w'.cell? ⟨(ae.add (j * 9)).block, (ae.add (j * 9)).off + 8, none⟩ = some (.int .i64 x'.f1)) (ds := []) (bm 26 0) (by kernel_rfl) rfl rfl ⟨cell_b HBn.out (HXS.out.1), cell_b HBn.out (HXS.out.2.1), cell_b HBn.out (HXS.out.2.2.1), cell_b HBn.out (HXS.out.2.2.2.1), cell_b HBn.out (HXS.out.2.2.2.2.1), cell_b HBn.out (HXS.out.2.2.2.2.2.1), cell_b HBn.out (HXS.out.2.2.2.2.2.2.1), cell_b HBn.out (HXS.out.2.2.2.2.2.2.2.1), cell_b HBn.out (HXS.out.2.2.2.2.2.2.2.2), cell_b HBn.out (HYS2.out.1), cell_b HBn.out (HYS2.out.2.1), cell_b HBn.out (HYS2.out.2.2.1), cell_b HBn.out (HYS2.out.2.2.2.1), cell_b HBn.out (HYS2.out.2.2.2.2.1), cell_b HBn.out (HYS2.out.2.2.2.2.2.1), cell_b HBn.out (HYS2.out.2.2.2.2.2.2.1), cell_b HBn.out (HYS2.out.2.2.2.2.2.2.2.1), cell_b HBn.out (HYS2.out.2.2.2.2.2.2.2.2)⟩ (fun hHeld => ?_)
          refine pu 0 104 (bm 26 1) rfl rfl (by kernel_rfl) (fun _ _ _ h => h) (by rfl) (v := ?_) (a' := ?_) (by intro w'; go_simp; with_reducible rfl) (by simp only [np]; rfl) ?_
          refine pu 1 105 (bm 26 3) rfl rfl (by kernel_rfl) (fun _ _ _ h => h) (by rfl) (v := ?_) (a' := ?_) (by intro w'; go_simp; with_reducible rfl) (by simp only [np]; rfl) ?_
          refine pu 2 106 (bm 26 7) rfl rfl (by kernel_rfl) (fun _ _ _ h => h) (by rfl) (v := ?_) (a' := ?_) (by intro w'; go_simp; with_reducible rfl) (by simp only [np]; rfl) ?_
          refine pu 3 107 (bm 26 15) rfl rfl (by kernel_rfl) (fun _ _ _ h => h) (by rfl) (v := ?_) (a' := ?_) (by intro w'; go_simp; with_reducible rfl) (by simp only [np]; rfl) ?_
          refine pu 6 110 (bm 26 79) rfl rfl (by kernel_rfl) (fun _ _ _ h => h) (by rfl) (v := ?_) (a' := ?_) (by intro w'; go_simp; with_reducible rfl) (by simp only [np]; rfl) ?_
          refine pu 7 111 (bm 26 207) rfl rfl (by kernel_rfl) (fun _ _ _ h => h) (by rfl) (v := ?_) (a' := ?_) (by intro w'; go_simp; with_reducible rfl) (by simp only [np]; rfl) ?_
          refine pu 8 112 (bm 26 463) rfl rfl (by kernel_rfl) (fun _ _ _ h => h) (by rfl) (v := ?_) (a' := ?_) (by intro w'; go_simp; with_reducible rfl) (by simp only [np]; rfl) ?_
          refine pu 9 113 (bm 26 975) rfl rfl (by kernel_rfl) (fun _ _ _ h => h) (by rfl) (v := ?_) (a' := ?_) (by intro w'; go_simp; with_reducible rfl) (by simp only [np]; rfl) ?_
          refine tu 4 108 (bm 26 991) rfl rfl (by kernel_rfl) (fun _ _ _ h => h) (by rfl) (v := ?_) (a' := ?_) (by rintro w' ⟨s0, s1, s2, s3, s4, s5, s6, s7, s8, s9, s10, s11, s12, s13, s14, s15, s16, s17⟩; go_simp; with_reducible rfl) hHeld (by simp only [np]; rfl) ?_
          refine tu 10 114 (bm 26 2015) rfl rfl (by kernel_rfl) (fun _ _ _ h => h) (by rfl) (v := ?_) (a' := ?_) (by rintro w' ⟨s0, s1, s2, s3, s4, s5, s6, s7, s8, s9, s10, s11, s12, s13, s14, s15, s16, s17⟩; go_simp; with_reducible rfl) hHeld (by simp only [np]; rfl) ?_
          refine one_ (i := 5) (N := some 109) (bm 26 2047) rfl rfl (by kernel_rfl) (by decide) (fun K hK => ?_)
          refine goes_ Try.func17 (by kernel_rfl) rfl #[.agg #[.int .i64 x'.f0.f0, .int .i64 x'.f0.f1, .int .i64 x'.f0.f2, .int .i64 x'.f0.f3, .int .i64 x'.f0.f4, .int .i64 x'.f0.f5, .int .i32 x'.f0.f6, .slice A7 x'.f0.f7.length c7]] (by rfl) rfl rfl (by simp only [List.map_toArray, List.map_cons, List.map_nil]; rfl) ?_
          with_reducible refine (HC7.out _ HBn.out).mono ?_
          rintro en w9 ⟨rfl, hb⟩
          refine ⟨_, rfl, ?_⟩
          have HBm := Aside0.mk (below_then HBn.out HBn.out.size hb)
          clear HBn; have HBn := HBm; clear HBm
          refine hK.out _ _ ⟨cell_b hb (hHeld.1), cell_b hb (hHeld.2.1), cell_b hb (hHeld.2.2.1), cell_b hb (hHeld.2.2.2.1), cell_b hb (hHeld.2.2.2.2.1), cell_b hb (hHeld.2.2.2.2.2.1), cell_b hb (hHeld.2.2.2.2.2.2.1), cell_b hb (hHeld.2.2.2.2.2.2.2.1), cell_b hb (hHeld.2.2.2.2.2.2.2.2.1), cell_b hb (hHeld.2.2.2.2.2.2.2.2.2.1), cell_b hb (hHeld.2.2.2.2.2.2.2.2.2.2.1), cell_b hb (hHeld.2.2.2.2.2.2.2.2.2.2.2.1), cell_b hb (hHeld.2.2.2.2.2.2.2.2.2.2.2.2.1), cell_b hb (hHeld.2.2.2.2.2.2.2.2.2.2.2.2.2.1), cell_b hb (hHeld.2.2.2.2.2.2.2.2.2.2.2.2.2.2.1), cell_b hb (hHeld.2.2.2.2.2.2.2.2.2.2.2.2.2.2.2.1), cell_b hb (hHeld.2.2.2.2.2.2.2.2.2.2.2.2.2.2.2.2.1), cell_b hb (hHeld.2.2.2.2.2.2.2.2.2.2.2.2.2.2.2.2.2)⟩ (fun hHeld => ?_)
          clear hK K
          refine norm_ (a' := ?_) ?_ ?_
          rotate_left
          · show Act.put _ (some 109) _ = _; simp only [np]; rfl
          refine one_ (i := 11) (N := some 115) (bm 26 4095) rfl rfl (by kernel_rfl) (by decide) (fun K hK => ?_)
          refine goes_ Try.func17 (by kernel_rfl) rfl #[.agg #[.int .i64 x'.f0.f0, .int .i64 x'.f0.f1, .int .i64 x'.f0.f2, .int .i64 x'.f0.f3, .int .i64 x'.f0.f4, .int .i64 x'.f0.f5, .int .i32 x'.f0.f6, .slice A8 x'.f0.f7.length c8]] (by rfl) rfl rfl (by simp only [List.map_toArray, List.map_cons, List.map_nil]; rfl) ?_
          with_reducible refine (HC7b.out _ HBn.out).mono ?_
          rintro en w10 ⟨rfl, hb⟩
          refine ⟨_, rfl, ?_⟩
          have HBm := Aside0.mk (below_then HBn.out HBn.out.size hb)
          clear HBn; have HBn := HBm; clear HBm
          refine hK.out _ _ ⟨cell_b hb (hHeld.1), cell_b hb (hHeld.2.1), cell_b hb (hHeld.2.2.1), cell_b hb (hHeld.2.2.2.1), cell_b hb (hHeld.2.2.2.2.1), cell_b hb (hHeld.2.2.2.2.2.1), cell_b hb (hHeld.2.2.2.2.2.2.1), cell_b hb (hHeld.2.2.2.2.2.2.2.1), cell_b hb (hHeld.2.2.2.2.2.2.2.2.1), cell_b hb (hHeld.2.2.2.2.2.2.2.2.2.1), cell_b hb (hHeld.2.2.2.2.2.2.2.2.2.2.1), cell_b hb (hHeld.2.2.2.2.2.2.2.2.2.2.2.1), cell_b hb (hHeld.2.2.2.2.2.2.2.2.2.2.2.2.1), cell_b hb (hHeld.2.2.2.2.2.2.2.2.2.2.2.2.2.1), cell_b hb (hHeld.2.2.2.2.2.2.2.2.2.2.2.2.2.2.1), cell_b hb (hHeld.2.2.2.2.2.2.2.2.2.2.2.2.2.2.2.1), cell_b hb (hHeld.2.2.2.2.2.2.2.2.2.2.2.2.2.2.2.2.1), cell_b hb (hHeld.2.2.2.2.2.2.2.2.2.2.2.2.2.2.2.2.2)⟩ (fun hHeld => ?_)
          clear hK K
          refine norm_ (a' := ?_) ?_ ?_
          rotate_left
          · show Act.put _ (some 115) _ = _; simp only [np]; rfl
          refine pu 12 116 (bm 26 8191) rfl rfl (by kernel_rfl) (fun _ _ _ h => h) (by rfl) (v := ?_) (a' := ?_) (by intro w'; go_simp; with_reducible rfl) (by simp only [np]; rfl) ?_
          refine pu 13 117 (bm 26 16383) rfl rfl (by kernel_rfl) (fun _ _ _ h => h) (by rfl) (v := ?_) (a' := ?_) (by intro w'; go_simp; with_reducible rfl) (by simp only [np]; rfl) ?_
          refine pu 14 118 (bm 26 32767) rfl rfl (by kernel_rfl) (fun _ _ _ h => h) (by rfl) (v := ?_) (a' := ?_) (by intro w'; go_simp; with_reducible rfl) (by simp only [np]; rfl) ?_
          refine pu 15 119 (bm 26 65535) rfl rfl (by kernel_rfl) (fun _ _ _ h => h) (by rfl) (v := ?_) (a' := ?_) (by intro w'; go_simp; with_reducible rfl) (by simp only [np]; rfl) ?_
          refine pu 16 120 (bm 26 131071) rfl rfl (by kernel_rfl) (fun _ _ _ h => h) (by rfl) (v := ?_) (a' := ?_) (by intro w'; go_simp; with_reducible rfl) (by simp only [np]; rfl) ?_
          refine pu 17 121 (bm 26 262143) rfl rfl (by kernel_rfl) (fun _ _ _ h => h) (by rfl) (v := ?_) (a' := ?_) (by intro w'; go_simp; with_reducible rfl) (by simp only [np]; rfl) ?_
          refine pu 19 123 (bm 26 786431) rfl rfl (by kernel_rfl) (fun _ _ _ h => h) (by rfl) (v := ?_) (a' := ?_) (by intro w'; go_simp; with_reducible rfl) (by simp only [np]; rfl) ?_
          refine pu 20 124 (bm 26 1835007) rfl rfl (by kernel_rfl) (fun _ _ _ h => h) (by rfl) (v := ?_) (a' := ?_) (by intro w'; go_simp; with_reducible rfl) (by simp only [np]; rfl) ?_
          refine pu 21 125 (bm 26 3932159) rfl rfl (by kernel_rfl) (fun _ _ _ h => h) (by rfl) (v := ?_) (a' := ?_) (by intro w'; go_simp; with_reducible rfl) (by simp only [np]; rfl) ?_
          refine pu 22 126 (bm 26 8126463) rfl rfl (by kernel_rfl) (fun _ _ _ h => h) (by rfl) (v := ?_) (a' := ?_) (by intro w'; go_simp; with_reducible rfl) (by simp only [np]; rfl) ?_
          refine tu 18 122 (bm 26 8388607) rfl rfl (by kernel_rfl) (fun _ _ _ h => h) (by rfl) (v := ?_) (a' := ?_) (by rintro w' ⟨s0, s1, s2, s3, s4, s5, s6, s7, s8, s9, s10, s11, s12, s13, s14, s15, s16, s17⟩; go_simp; with_reducible rfl) hHeld (by simp only [np]; rfl) ?_
          refine tu 23 127 (bm 26 16777215) rfl rfl (by kernel_rfl) (fun _ _ _ h => h) (by rfl) (v := ?_) (a' := ?_) (by rintro w' ⟨s0, s1, s2, s3, s4, s5, s6, s7, s8, s9, s10, s11, s12, s13, s14, s15, s16, s17⟩; go_simp; with_reducible rfl) hHeld (by simp only [np]; rfl) ?_
          refine pu 24 128 (bm 26 33554431) rfl rfl (by kernel_rfl) (fun _ _ _ h => h) (by rfl) (v := ?_) (a' := ?_) (by intro w'; go_simp; with_reducible rfl) (by simp only [np]; rfl) ?_
          refine pu 25 129 (bm 26 67108863) rfl rfl (by kernel_rfl) (fun _ _ _ h => h) (by rfl) (v := ?_) (a' := ?_) (by intro w'; go_simp; with_reducible rfl) (by simp only [np]; rfl) ?_
          refine done_ (by kernel_rfl) ?_
          clear hHeld HXS HYS2 HC7 HC7b; go_wp2
          go_roundw
          case rel => exact ⟨j + 1, by omega, by go_num, HBn⟩
          case measure => simp [intOf]; omega
        · have hjx : j = X.length := by omega
          subst hjx; clear hjl hj; go_wp2; go_ret
          exact ⟨rfl, below_then HBZ.out HBZ.out.size HB.out⟩
end Go.Proofs.Ytocndmielggnpaa.PAll
end
