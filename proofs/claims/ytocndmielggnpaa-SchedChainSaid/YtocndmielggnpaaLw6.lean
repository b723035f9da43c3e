/- jacquardlaw16.SchedChain, walked. -/
import Derived.Test.YtocndmielggnpaaM12
import Derived.Test.YtocndmielggnpaaLp6
set_option linter.unusedSimpArgs false
set_option linter.unusedVariables false
section
namespace Go.Proofs.Ytocndmielggnpaa.PAll
open Go.RowKit Go.Proofs.YtocndmielggnpaaW.PrintWords Go.Proofs.YtocndmielggnpaaW.PrintLast Go.Proofs.YtocndmielggnpaaW.PrintMore
open Go.Proofs.Ytocndmielggnpaa.AMap Go.Proofs.Ytocndmielggnpaa.Env Go.Proofs.Ytocndmielggnpaa.Kind
def chS (d : De) (ks : List Int) : Nat → Int
 | 0 => 0
 | n + 1 => chS d ks n + ltP (chX (ks.getD n 0) n).f0 d
theorem chS_eq (d : De) (ks : List Int) (N : Nat) : ∀ n, n ≤ N → sumLt d (chL ks N) n = chS d ks n := by
 intro n
 induction n with
 | zero => intro _; rfl
 | succ n ih =>
  intro h
  unfold sumLt chS
  rw [ih (by omega), chL_get ks N n (by omega)]
theorem chS_bd (d : De) (ks : List Int) (n : Nat) : 0 ≤ chS d ks n ∧ chS d ks n ≤ 20 * n := by
 have := sumLt_bd d (chL ks n) n
 rw [chS_eq d ks n n (Nat.le_refl _)] at this
 omega
theorem C_u8_at {w : World} {A : Option Addr} {l : List Int} (h : (Kd.int .u8).C w A l.length l) (k : Nat) (hk : k < l.length) : ∃ ad, A = some ad ∧ w.cell? (ad.add k) = some (.int .u8 (l.getD k 0)) := by
 obtain ⟨ad, e, hc⟩ := h.2.2 (by omega)
 obtain ⟨c, h1, h2, h3⟩ := hc k (l.getD k 0) (by simp [List.getElem?_eq_getElem hk, List.getD_eq_getElem?_getD])
 have h2' : c = [.int .u8 (l.getD k 0)] := h2
 subst h2'
 exact ⟨ad, e, by simpa [Kd.int, Kd.scalar] using h3 0 _ rfl⟩
theorem lit0_R (W : World) (base n : Nat) (hn : n = W.heap.size) (hb : base ≤ n) : k37.R 37 (W.alloc (.cells #[] 37)) base (fun _ => True) (.slice (some ⟨n, 0, none⟩) 0 0) [] := by
 subst hn
 refine ⟨fun _ _ => trivial, [], ?_, Reps.none _ _⟩
 have h := World.ownsRow_lit (base := base) (e := 37) (size := 9) W #[] 0 hb (by simp [maxLen]) (by simp)
 have h2 : (W.alloc (.cells #[] 37)).ownsRow base 37 9 (.slice (some ⟨W.heap.size, 0, none⟩) 0 0) 0 [] := by simpa using h
 exact h2
/-- Two rows of instructions, each of its own. -/
def Two (base : Nat) (W : World) (v7 v9 : Value) (X Y : List S37) : Prop := k37.R 37 W base (fun k => True ∧ some k ≠ v9.ownBlock) v7 X ∧ k37.R 37 W base (fun k => True ∧ some k ≠ v7.ownBlock) v9 Y
theorem two_start (W : World) : Two W.heap.size ((W.alloc (.cells #[] 37)).alloc (.cells #[] 37)) (.slice (some ⟨W.heap.size, 0, none⟩) 0 0) (.slice (some ⟨W.heap.size + 1, 0, none⟩) 0 0) [] [] := by
 have h1 := lit0_R W W.heap.size W.heap.size rfl (Nat.le_refl _)
 have h2 := lit0_R (W.alloc (.cells #[] 37)) (W.heap.size + 1) (W.heap.size + 1) (by simp) (Nat.le_refl _)
 refine ⟨Kd.R_mono (Kd.R_below (Kd.R_bound h1) (below_alloc (Below.refl _ _) _)) (fun k hk => ⟨trivial, fun e => ?_⟩), Kd.R_lower (Kd.R_mono (Kd.R_bound h2) (fun k hk => ⟨trivial, fun e => ?_⟩)) (by omega)⟩
 · have h3 := hk.2.2.1
   simp only [Value.ownBlock, Option.some.injEq, World.size_alloc] at e h3
   omega
 · have h3 := hk.2.1
   simp only [Value.ownBlock, Option.some.injEq] at e
   omega
theorem ix0 (w : World) : (Instr.index 44 (.agg #[.int .i64 5, .int .i64 7, .int .i64 17, .int .i64 24]) (.int .u8 0)).run Try.prog w = .ok (.int .i64 5) w := by kernel_rfl
theorem ix1 (w : World) : (Instr.index 44 (.agg #[.int .i64 5, .int .i64 7, .int .i64 17, .int .i64 24]) (.int .u8 1)).run Try.prog w = .ok (.int .i64 7) w := by kernel_rfl
theorem ix2 (w : World) : (Instr.index 44 (.agg #[.int .i64 5, .int .i64 7, .int .i64 17, .int .i64 24]) (.int .u8 2)).run Try.prog w = .ok (.int .i64 17) w := by kernel_rfl
theorem ix3 (w : World) : (Instr.index 44 (.agg #[.int .i64 5, .int .i64 7, .int .i64 17, .int .i64 24]) (.int .u8 3)).run Try.prog w = .ok (.int .i64 24) w := by kernel_rfl
set_option maxHeartbeats 8000000 in
set_option maxRecDepth 100000 in
theorem law6_calls (A0 : Option Addr) (c0 : Nat) (ks : List Int) (d : De) (w : World) (hr0 : (Kd.int .u8).C w A0 ks.length ks) (hc0 : ks.length ≤ c0) (hks : ∀ j, 0 ≤ ks.getD j 0 ∧ ks.getD j 0 ≤ 255) :
    Calls Try.prog 6 #[.slice A0 ks.length c0, .agg (dCells d)] w fun en w' => en = .returned (.bool true) ∧ Below w.heap.size w w' := by
 have hl9 : ks.length ≤ 9223372036854775807 := hr0.2.1
 obtain ⟨w1, hw1⟩ : ∃ w1, w1 = w.alloc (.cells (dCells d) 27) := ⟨_, rfl⟩
 have hby : w1.heap[w.heap.size]? = some (.cells (dCells d) 27 (0, 0)) := by rw [hw1]; exact heap_alloc_new w _
 have hb1 : Below w.heap.size w w1 := by rw [hw1]; exact below_alloc (Below.refl _ _) _
 have HBY := Aside0.mk hby
 have HB1 := Aside0.mk hb1
 have HW1 := Aside0.mk hw1
 have HR0 := Aside0.mk hr0
 have HKS := Aside0.mk hks
 clear hr0 hby hb1 hw1 hks
 unfold dCells
 go_enter Try.func6, Try.ntmps6
 go_wp2_with fail
 refine calls_world HW1.out ?_
 refine (shown_calls _).mono ?_
 rintro en w2 ⟨rfl, hb⟩
 have HY2 := Aside0.mk (blk_b hb HBY.out)
 have HBB2 := Aside0.mk (below_then HB1.out HB1.out.size hb)
 clear hb HBY HB1 HW1
 have q0 : w2.cell? ⟨w.heap.size, 0, none⟩ = some (.int .i64 d.mul) := (blk_cell HY2.out 0).trans rfl
 have q1 : w2.cell? ⟨w.heap.size, 1, none⟩ = some (.int .i64 d.dv) := (blk_cell HY2.out 1).trans rfl
 have q2 : w2.cell? ⟨w.heap.size, 2, none⟩ = some (.int .i64 d.ld) := (blk_cell HY2.out 2).trans rfl
 have q3 : w2.cell? ⟨w.heap.size, 3, none⟩ = some (.int .i64 d.tk) := (blk_cell HY2.out 3).trans rfl
 go_wp2_with fail
 refine (desc_c d _).mono ?_
 rintro en w3 ⟨rfl, hb⟩
 have hb4 : Below w.heap.size w (w3.alloc (.cells #[.int .i64 (descP d).mul, .int .i64 (descP d).dv, .int .i64 (descP d).ld, .int .i64 (descP d).tk] 27)) := below_alloc (below_then HBB2.out HBB2.out.size hb) _
 have ha4 : (w3.alloc (.cells #[.int .i64 (descP d).mul, .int .i64 (descP d).dv, .int .i64 (descP d).ld, .int .i64 (descP d).tk] 27)).heap[w3.heap.size]? = some (.cells #[.int .i64 (descP d).mul, .int .i64 (descP d).dv, .int .i64 (descP d).ld, .int .i64 (descP d).tk] 27 (0, 0)) := heap_alloc_new w3 _
 clear hb q0 q1 q2 q3
 go_upto_region 3 with fail
 generalize w3.alloc (.cells #[.int .i64 (descP d).mul, .int .i64 (descP d).dv, .int .i64 (descP d).ld, .int .i64 (descP d).tk] 27) = w4 at hb4 ha4 ⊢
 generalize w3.heap.size = gw at ha4 ⊢
 have HBB4 := Aside0.mk hb4
 have HA4 := Aside0.mk ha4
 clear hb4 ha4 HY2 HBB2
 have HT4 := Aside0.mk (two_start w4)
 go_wp2_with fail
 go_loopw [7, 8, 9, 10] (fun v7 v8 v9 v10 wr => ∃ n : Nat, n ≤ ks.length ∧ n ≤ 24 ∧ v10 = .int .i64 n ∧ v8 = .int .i64 (1 + chS (descP d) ks n) ∧ (∃ A c, v7 = .slice A n c ∧ n ≤ c) ∧ (∃ A c, v9 = .slice A n c ∧ n ≤ c) ∧ Aside0 (Below w4.heap.size w4 wr) ∧ Aside0 (Two w4.heap.size wr v7 v9 (chL ks n) (apL n))) (fun _ _ _ v10 _ => ks.length - (intOf v10).toNat)
 case atStart => exact ⟨0, Nat.zero_le _, by omega, rfl, rfl, ⟨_, _, rfl, Nat.le_refl _⟩, ⟨_, _, rfl, Nat.le_refl _⟩, ⟨below_alloc (below_alloc (Below.refl _ _) _) _⟩, HT4⟩
 case round =>
  obtain ⟨n, hn, hn24, rfl, rfl, ⟨A7, c7, rfl, hc7⟩, ⟨A9, c9, rfl, hc9⟩, HB, HTW⟩ := hrel
  clear HT4
  by_cases hlt : n < ks.length ∧ n < 24
  · have hlt1 := hlt.1
    have hlt2 := hlt.2
    clear hlt
    have hd24 : decide ((n : Int) < 24) = true := decide_eq_true (by omega)
    obtain ⟨ad, eA, cb⟩ := C_u8_at HR0.out n hlt1
    subst eA
    have hkb := HKS.out n
    obtain ⟨b, hb⟩ : ∃ b, b = ks.getD n 0 := ⟨_, rfl⟩
    rw [← hb] at cb hkb
    have cb' := cell_b (below_then HBB4.out HBB4.out.size HB.out) cb
    have Hb := Aside0.mk hb
    clear hb cb
    have hlb := lt_bd (chX b n).f0 (descP d)
    have hsb := chS_bd (descP d) ks n
    have hst : chS (descP d) ks (n + 1) = chS (descP d) ks n + ltP (chX b n).f0 (descP d) := by rw [Hb.out]; rfl
    have HLT : Aside0 (∀ w', Calls Try.prog 13 #[.agg #[.int .i64 (opOf b), .int .i64 1, .int .i64 0, .int .i64 1, .int .i64 0, .int .i64 0, .int .i32 0, .slice none 0 0], .agg #[.int .i64 (descP d).mul, .int .i64 (descP d).dv, .int .i64 (descP d).ld, .int .i64 (descP d).tk]] w' fun en w'' => en = .returned (.int .i64 (ltP (chX b n).f0 (descP d))) ∧ Below w'.heap.size w' w'') := ⟨fun w' => sched_Late.calls (opOf b) 1 0 1 0 0 0 none 0 [] (descP d).mul (descP d).dv (descP d).ld (descP d).tk _ w' (C_nil _ _) (Nat.le_refl _) (lt_eq (chX b n).f0 (descP d))⟩
    obtain ⟨n3, hn3⟩ : ∃ m, m = ltP (chX b n).f0 (descP d) := ⟨_, rfl⟩
    obtain ⟨sm, hsm⟩ : ∃ sm, sm = 1 + chS (descP d) ks n := ⟨_, rfl⟩
    rw [← hn3] at hlb hst HLT
    rw [← hsm]
    have hs2 : sm + n3 = 1 + chS (descP d) ks (n + 1) := by rw [hst, hsm]; omega
    have HS2 := Aside0.mk hs2
    have hsm1 : 1 ≤ sm := by omega
    have hsm2 : sm ≤ 1000 := by omega
    clear hn3 hsm hst hs2 hsb
    obtain ⟨wq, rfl⟩ : ∃ wq : World, wq = wr := ⟨_, rfl⟩
    have hix : ∀ w, (Instr.index 44 (.agg #[.int .i64 5, .int .i64 7, .int .i64 17, .int .i64 24]) (.int .u8 (b % 4))).run Try.prog w = .ok (.int .i64 (opOf b)) w := by
     intro w
     have h4 : b % 4 = 0 ∨ b % 4 = 1 ∨ b % 4 = 2 ∨ b % 4 = 3 := by omega
     rcases h4 with h4 | h4 | h4 | h4
     · rw [h4, show opOf b = 5 by simp [opOf, h4]]; exact ix0 w
     · rw [h4, show opOf b = 7 by simp [opOf, h4]]; exact ix1 w
     · rw [h4, show opOf b = 17 by simp [opOf, h4]]; exact ix2 w
     · rw [h4, show opOf b = 24 by simp [opOf, h4]]; exact ix3 w
    go_upto_region 11 with fail
    clear cb' hix
    have hlo7 := Kd.R_lt HTW.out.1
    have hlo9 := Kd.R_lt HTW.out.2
    have hne7 : some wq.heap.size ≠ (Value.slice A7 n c7).ownBlock := fun h => by have := hlo7 _ h.symm; omega
    have hfr : ∀ k', (wq.alloc (.cells #[.int .i64 (opOf b), .int .i64 1, .int .i64 0, .int .i64 1, .int .i64 0, .int .i64 0, .int .i32 0, .slice none 0 0, .int .i64 n] 37)).heap.size ≤ k' → True ∧ some k' ≠ (Value.slice A9 n c9).ownBlock := fun k' hk' => ⟨trivial, fun h => by have := hlo9 _ h.symm; simp at hk'; omega⟩
    have ho7 := Kd.R_below HTW.out.1 (below_alloc (Below.refl wq.heap.size wq) (.cells #[.int .i64 (opOf b), .int .i64 1, .int .i64 0, .int .i64 1, .int .i64 0, .int .i64 0, .int .i32 0, .slice none 0 0, .int .i64 n] 37))
    have ho9 := Kd.R_below HTW.out.2 (below_alloc (Below.refl wq.heap.size wq) (.cells #[.int .i64 (opOf b), .int .i64 1, .int .i64 0, .int .i64 1, .int .i64 0, .int .i64 0, .int .i32 0, .slice none 0 0, .int .i64 n] 37))
    have hbw := below_alloc HB.out (.cells #[.int .i64 (opOf b), .int .i64 1, .int .i64 0, .int .i64 1, .int .i64 0, .int .i64 0, .int .i32 0, .slice none 0 0, .int .i64 n] 37)
    have hxx := heap_alloc_new wq (.cells #[.int .i64 (opOf b), .int .i64 1, .int .i64 0, .int .i64 1, .int .i64 0, .int .i64 0, .int .i32 0, .slice none 0 0, .int .i64 n] 37)
    generalize wq.alloc (.cells #[.int .i64 (opOf b), .int .i64 1, .int .i64 0, .int .i64 1, .int .i64 0, .int .i64 0, .int .i32 0, .slice none 0 0, .int .i64 n] 37) = wa at hfr ho7 ho9 hbw hxx ⊢
    generalize wq.heap.size = bx at hne7 hxx ⊢
    have hm := k37_mkM wa w4.heap.size (fun k' => (True ∧ some k' ≠ (Value.slice A9 n c9).ownBlock) ∧ some k' ≠ (Value.slice A7 n c7).ownBlock) (chX b n) (v7 := .slice none 0 0) (Kd.R_nil _ _ _ _ _)
    have k0 : wa.cell? ⟨bx, 0, none⟩ = some (.int .i64 (opOf b)) := (blk_cell hxx 0).trans rfl
    have k1 : wa.cell? ⟨bx, 1, none⟩ = some (.int .i64 1) := (blk_cell hxx 1).trans rfl
    have k2 : wa.cell? ⟨bx, 2, none⟩ = some (.int .i64 0) := (blk_cell hxx 2).trans rfl
    have k3 : wa.cell? ⟨bx, 3, none⟩ = some (.int .i64 1) := (blk_cell hxx 3).trans rfl
    have k4 : wa.cell? ⟨bx, 4, none⟩ = some (.int .i64 0) := (blk_cell hxx 4).trans rfl
    have k5 : wa.cell? ⟨bx, 5, none⟩ = some (.int .i64 0) := (blk_cell hxx 5).trans rfl
    have k6 : wa.cell? ⟨bx, 6, none⟩ = some (.int .i32 0) := (blk_cell hxx 6).trans rfl
    have k7 : wa.cell? ⟨bx, 7, none⟩ = some (.slice none 0 0) := (blk_cell hxx 7).trans rfl
    have k8 : wa.cell? ⟨bx, 8, none⟩ = some (.int .i64 n) := (blk_cell hxx 8).trans rfl
    have HNE7 := Aside0.mk hne7
    have HFR := Aside0.mk hfr
    have HO7 := Aside0.mk ho7
    have HO9 := Aside0.mk ho9
    have HBw := Aside0.mk hbw
    have HXX := Aside0.mk hxx
    have HM := Aside0.mk hm
    clear hlo7 hlo9 hne7 hfr ho7 ho9 hbw hxx hm HTW
    go_wp2_with (at_builtin; refine Kd.R_append k37 (w0 := w4) w4.heap.size rfl (.tmp 43) (.tmp 45) 22 37 _ 88 rfl Try.underlying22 info37f rfl (by decide) (by decide) (.slice A7 n c7) (chL ks n) (chX b n) _ (fun k' => True ∧ some k' ≠ (Value.slice A9 n c9).ownBlock) (fun k' => (True ∧ some k' ≠ (Value.slice A9 n c9).ownBlock) ∧ some k' ≠ (Value.slice A7 n c7).ownBlock) rfl rfl HM.out (fun k' hk' => hk') HFR.out HO7.out HBw.out HBw.out.size (by rw [chL_len]; omega) ?_; intro v1 w9 ho9 hb9 hg9 hat9; have HB9 := Aside0.mk hb9; have HP7 := Aside0.mk ho9; have HP9 := Aside0.mk (Kd.R_after HO9.out hg9 hat9); have HX9 := Aside0.mk (blk_g hg9 HXX.out HNE7.out); have HW9 := Aside0.mk (blk_b hb9 HA4.out); clear ho9 hb9 hg9 hat9; clear HO7 HO9 HBw HM HFR HNE7 HXX k0 k1 k2 k3 k4 k5 k6 k7 k8; obtain ⟨Av, cv, hv1, hcv, _⟩ := Kd.R_reads HP7.out; rw [List.length_append, chL_len] at hv1 hcv; subst hv1; have x0 : w9.cell? ⟨bx, 0, none⟩ = some (.int .i64 (opOf b)) := (blk_cell HX9.out 0).trans rfl; have x1 : w9.cell? ⟨bx, 1, none⟩ = some (.int .i64 1) := (blk_cell HX9.out 1).trans rfl; have x2 : w9.cell? ⟨bx, 2, none⟩ = some (.int .i64 0) := (blk_cell HX9.out 2).trans rfl; have x3 : w9.cell? ⟨bx, 3, none⟩ = some (.int .i64 1) := (blk_cell HX9.out 3).trans rfl; have x4 : w9.cell? ⟨bx, 4, none⟩ = some (.int .i64 0) := (blk_cell HX9.out 4).trans rfl; have x5 : w9.cell? ⟨bx, 5, none⟩ = some (.int .i64 0) := (blk_cell HX9.out 5).trans rfl; have x6 : w9.cell? ⟨bx, 6, none⟩ = some (.int .i32 0) := (blk_cell HX9.out 6).trans rfl; have x7 : w9.cell? ⟨bx, 7, none⟩ = some (.slice none 0 0) := (blk_cell HX9.out 7).trans rfl; have z0 : w9.cell? ⟨gw, 0, none⟩ = some (.int .i64 (descP d).mul) := (blk_cell HW9.out 0).trans rfl; have z1 : w9.cell? ⟨gw, 1, none⟩ = some (.int .i64 (descP d).dv) := (blk_cell HW9.out 1).trans rfl; have z2 : w9.cell? ⟨gw, 2, none⟩ = some (.int .i64 (descP d).ld) := (blk_cell HW9.out 2).trans rfl; have z3 : w9.cell? ⟨gw, 3, none⟩ = some (.int .i64 (descP d).tk) := (blk_cell HW9.out 3).trans rfl)
    refine (HLT.out _).mono ?_
    rintro en w10 ⟨rfl, hb10⟩
    have HP7' := Aside0.mk (Kd.R_below HP7.out hb10)
    have HO9 := Aside0.mk (Kd.R_below HP9.out hb10)
    have HB10 := Aside0.mk (below_then HB9.out HB9.out.size hb10)
    have hlo := Kd.R_lt HP7'.out
    have HFR : Aside0 (∀ k', w10.heap.size ≤ k' → True ∧ some k' ≠ (Value.slice Av (n + 1) cv).ownBlock) := ⟨fun k' hk' => ⟨trivial, fun h => by have := hlo _ h.symm; omega⟩⟩
    have HM := Aside0.mk (k37_mkM w10 w4.heap.size (fun k' => (True ∧ some k' ≠ (Value.slice Av (n + 1) cv).ownBlock) ∧ some k' ≠ (Value.slice A9 n c9).ownBlock) (apX n) (v7 := .slice none 0 0) (Kd.R_nil _ _ _ _ _))
    clear hb10 hlo HP7 HP9 HB9 HX9 HW9 HLT x0 x1 x2 x3 x4 x5 x6 x7 z0 z1 z2 z3
    go_wp2_with (at_builtin; refine Kd.R_append k37 (w0 := w4) w4.heap.size rfl (.tmp 53) (.tmp 61) 22 37 _ 88 rfl Try.underlying22 info37f rfl (by decide) (by decide) (.slice A9 n c9) (apL n) (apX n) _ (fun k' => True ∧ some k' ≠ (Value.slice Av (n + 1) cv).ownBlock) (fun k' => (True ∧ some k' ≠ (Value.slice Av (n + 1) cv).ownBlock) ∧ some k' ≠ (Value.slice A9 n c9).ownBlock) rfl rfl HM.out (fun k' hk' => hk') HFR.out HO9.out HB10.out HB10.out.size (by rw [apL_len]; omega) ?_; intro v2 w12 ho12 hb12 hg12 hat12; have HB12 := Aside0.mk hb12; have HQ9 := Aside0.mk ho12; have HQ7 := Aside0.mk (Kd.R_after HP7'.out hg12 hat12); clear ho12 hb12 hg12 hat12; clear HO9 HB10 HM HFR HP7'; obtain ⟨Au, cu, hv2, hcu, _⟩ := Kd.R_reads HQ9.out; rw [List.length_append, apL_len] at hv2 hcu; subst hv2)
    go_roundw
    case rel => exact ⟨n + 1, by omega, by omega, by go_num, by rw [← HS2.out], ⟨_, _, rfl, hcv⟩, ⟨_, _, rfl, hcu⟩, HB12, ⟨by rw [chL_succ, apL_succ, ← Hb.out]; exact ⟨HQ7.out, HQ9.out⟩⟩⟩
    case measure => simp [intOf]; omega
  · obtain ⟨wq, rfl⟩ : ∃ wq : World, wq = wr := ⟨_, rfl⟩
    go_upto_region 7 with fail
    go_cut [29] from 22 to 28 (fun v29 wx => v29 = .bool false ∧ wx = wq)
    case first =>
     by_cases hkl : n < ks.length
     · have hk2 : ¬ n < 24 := fun h => hlt ⟨hkl, h⟩
       have hd2 : decide ((n : Int) < 24) = false := decide_eq_false (by omega)
       clear hlt; go_wp2
       go_meet
       case rel => exact ⟨rfl, rfl⟩
     · clear hlt
       go_wp2
       go_meet
       case rel => exact ⟨rfl, rfl⟩
    case rest =>
     obtain ⟨rfl, rfl⟩ := hcut
     clear hlt
     have hbE : Below wc.heap.size wc ((wc.alloc (.cells #[.int .i64 1, .int .i64 1] 3)).alloc (.cells #[.int .i64 2, .int .i64 1, .int .i64 0, .slice (some ⟨wc.heap.size, 0, none⟩) 2 2, .int .i32 0] 25)) := below_alloc (below_alloc (Below.refl _ _) _) _
     have hE := Kd.R_reads' (Kd.R_below (lit_R wc wc.heap.size wc.heap.size rfl (Nat.le_refl _) [1, 1] (by decide)) (below_alloc (Below.refl _ _) (.cells #[.int .i64 2, .int .i64 1, .int .i64 0, .slice (some ⟨wc.heap.size, 0, none⟩) 2 2, .int .i32 0] 25)))
     have hgE := new_at (wc.alloc (.cells #[.int .i64 1, .int .i64 1] 3)) (.cells #[.int .i64 2, .int .i64 1, .int .i64 0, .slice (some ⟨wc.heap.size, 0, none⟩) 2 2, .int .i32 0] 25) (wc.heap.size + 1) (by simp)
     have hr7 := Kd.R_mono HTW.out.1 (ok' := fun _ => True) (fun _ _ => trivial)
     have hr9 := Kd.R_mono HTW.out.2 (ok' := fun _ => True) (fun _ _ => trivial)
     go_upto_region 15 with fail
     have hbE2 := below_then HB.out HB.out.size hbE
     have h7 : Rw ((wc.alloc (.cells #[.int .i64 1, .int .i64 1] 3)).alloc (.cells #[.int .i64 2, .int .i64 1, .int .i64 0, .slice (some ⟨wc.heap.size, 0, none⟩) 2 2, .int .i32 0] 25)) A7 c7 (chL ks n) := OutR.rw hr7 hbE
     have h9 : Rw ((wc.alloc (.cells #[.int .i64 1, .int .i64 1] 3)).alloc (.cells #[.int .i64 2, .int .i64 1, .int .i64 0, .slice (some ⟨wc.heap.size, 0, none⟩) 2 2, .int .i32 0] 25)) A9 c9 (apL n) := OutR.rw hr9 hbE
     have hew : Ew ((wc.alloc (.cells #[.int .i64 1, .int .i64 1] 3)).alloc (.cells #[.int .i64 2, .int .i64 1, .int .i64 0, .slice (some ⟨wc.heap.size, 0, none⟩) 2 2, .int .i32 0] 25)) (some ⟨wc.heap.size, 0, none⟩) 2 chE.tos := ⟨by decide, hE.2.2⟩
     generalize (wc.alloc (.cells #[.int .i64 1, .int .i64 1] 3)).alloc (.cells #[.int .i64 2, .int .i64 1, .int .i64 0, .slice (some ⟨wc.heap.size, 0, none⟩) 2 2, .int .i32 0] 25) = wE at hbE hE hgE hbE2 h7 h9 hew ⊢
     generalize wc.heap.size + 1 = gE at hgE ⊢
     generalize wc.heap.size = gl at hgE hE hew ⊢
     have hbl := blk_at (descP d) h7 hew (chL_sh ks n hn24)
     have hcy := cyc_at (descP d) h7 hew (chL_sh ks n hn24)
     have hnw : Ew wE none 0 apE.tos := ⟨Nat.le_refl _, C_nil _ _⟩
     have hbl2 := blk_at (descP d) h9 hnw (apL_sh n hn24)
     have hcy2 := cyc_at (descP d) h9 hnw (apL_sh n hn24)
     rw [chain_block (descP d) ks n hn24, chL_len] at hbl
     rw [chain_cy, chS_eq (descP d) ks n n (Nat.le_refl _), chL_len] at hcy
     rw [block_len (apL_sh n hn24), apL_len] at hbl2
     rw [apart_cy, apL_len] at hcy2
     have HBL : Aside0 (∀ w', Below wE.heap.size wE w' → Calls Try.prog 15 #[.slice A7 n c7, .agg #[.int .i64 2, .int .i64 1, .int .i64 0, .slice (some ⟨gl, 0, none⟩) 2 2, .int .i32 0], .agg #[.int .i64 (descP d).mul, .int .i64 (descP d).dv, .int .i64 (descP d).ld, .int .i64 (descP d).tk]] w' fun en w'' => ∃ A2 c2, en = .returned (.slice A2 n c2) ∧ OutR w'.heap.size w'' (.slice A2 n c2) (chL ks n) ∧ Below w'.heap.size w' w'') := ⟨hbl⟩
     have HCY : Aside0 (∀ w', Below wE.heap.size wE w' → Calls Try.prog 10 #[.slice A7 n c7, .agg #[.int .i64 2, .int .i64 1, .int .i64 0, .slice (some ⟨gl, 0, none⟩) 2 2, .int .i32 0], .agg #[.int .i64 (descP d).mul, .int .i64 (descP d).dv, .int .i64 (descP d).ld, .int .i64 (descP d).tk]] w' fun en w'' => en = .returned (.int .i64 (1 + chS (descP d) ks n)) ∧ Below w'.heap.size w' w'') := ⟨hcy⟩
     have HBL2 : Aside0 (∀ w', Below wE.heap.size wE w' → Calls Try.prog 15 #[.slice A9 n c9, .agg #[.int .i64 7, .int .i64 (-1), .int .i64 0, .slice none 0 0, .int .i32 0], .agg #[.int .i64 (descP d).mul, .int .i64 (descP d).dv, .int .i64 (descP d).ld, .int .i64 (descP d).tk]] w' fun en w'' => ∃ A2 c2, en = .returned (.slice A2 n c2) ∧ OutR w'.heap.size w'' (.slice A2 n c2) (blockP (apL n) apE (descP d)) ∧ Below w'.heap.size w' w'') := ⟨hbl2⟩
     have HCY2 : Aside0 (∀ w', Below wE.heap.size wE w' → Calls Try.prog 10 #[.slice A9 n c9, .agg #[.int .i64 7, .int .i64 (-1), .int .i64 0, .slice none 0 0, .int .i32 0], .agg #[.int .i64 (descP d).mul, .int .i64 (descP d).dv, .int .i64 (descP d).ld, .int .i64 (descP d).tk]] w' fun en w'' => en = .returned (.int .i64 ((n : Int) + 1)) ∧ Below w'.heap.size w' w'') := ⟨hcy2⟩
     have HGE := Aside0.mk hgE
     have HGW := Aside0.mk (blk_b hbE2 HA4.out)
     have HBE := Aside0.mk (below_then HBB4.out HBB4.out.size hbE2)
     clear hbE hE hgE hr7 hr9 hbE2 h7 h9 hew hbl hcy hnw hbl2 hcy2 HTW HA4 HBB4 HB HR0
     obtain ⟨sm, hsm⟩ : ∃ sm, sm = 1 + chS (descP d) ks n := ⟨_, rfl⟩
     rw [← hsm] at HCY ⊢
     have hns : (sm != sm) = false := by simp
     clear hsm
     have y0 : wE.cell? ⟨gE, 0, none⟩ = some (.int .i64 2) := ((blk_cell HGE.out 0).trans rfl)
     have y1 : wE.cell? ⟨gE, 1, none⟩ = some (.int .i64 1) := ((blk_cell HGE.out 1).trans rfl)
     have y2 : wE.cell? ⟨gE, 2, none⟩ = some (.int .i64 0) := ((blk_cell HGE.out 2).trans rfl)
     have y3 : wE.cell? ⟨gE, 3, none⟩ = some (.slice (some ⟨gl, 0, none⟩) 2 2) := ((blk_cell HGE.out 3).trans rfl)
     have y4 : wE.cell? ⟨gE, 4, none⟩ = some (.int .i32 0) := ((blk_cell HGE.out 4).trans rfl)
     have z0 : wE.cell? ⟨gw, 0, none⟩ = some (.int .i64 (descP d).mul) := ((blk_cell HGW.out 0).trans rfl)
     have z1 : wE.cell? ⟨gw, 1, none⟩ = some (.int .i64 (descP d).dv) := ((blk_cell HGW.out 1).trans rfl)
     have z2 : wE.cell? ⟨gw, 2, none⟩ = some (.int .i64 (descP d).ld) := ((blk_cell HGW.out 2).trans rfl)
     have z3 : wE.cell? ⟨gw, 3, none⟩ = some (.int .i64 (descP d).tk) := ((blk_cell HGW.out 3).trans rfl)
     go_wp2_with fail
     refine (HBL.out _ (Below.refl _ _)).mono ?_
     rintro en w13 ⟨A14, c14, rfl, hO, hb⟩
     have HOUT := Aside0.mk (hO.rw (Below.refl _ _))
     have HB13 := Aside0.mk hb
     clear hO hb y0 y1 y2 y3 y4 z0 z1 z2 z3
     have y0 : w13.cell? ⟨gE, 0, none⟩ = some (.int .i64 2) := cell_b HB13.out ((blk_cell HGE.out 0).trans rfl)
     have y1 : w13.cell? ⟨gE, 1, none⟩ = some (.int .i64 1) := cell_b HB13.out ((blk_cell HGE.out 1).trans rfl)
     have y2 : w13.cell? ⟨gE, 2, none⟩ = some (.int .i64 0) := cell_b HB13.out ((blk_cell HGE.out 2).trans rfl)
     have y3 : w13.cell? ⟨gE, 3, none⟩ = some (.slice (some ⟨gl, 0, none⟩) 2 2) := cell_b HB13.out ((blk_cell HGE.out 3).trans rfl)
     have y4 : w13.cell? ⟨gE, 4, none⟩ = some (.int .i32 0) := cell_b HB13.out ((blk_cell HGE.out 4).trans rfl)
     have z0 : w13.cell? ⟨gw, 0, none⟩ = some (.int .i64 (descP d).mul) := cell_b HB13.out ((blk_cell HGW.out 0).trans rfl)
     have z1 : w13.cell? ⟨gw, 1, none⟩ = some (.int .i64 (descP d).dv) := cell_b HB13.out ((blk_cell HGW.out 1).trans rfl)
     have z2 : w13.cell? ⟨gw, 2, none⟩ = some (.int .i64 (descP d).ld) := cell_b HB13.out ((blk_cell HGW.out 2).trans rfl)
     have z3 : w13.cell? ⟨gw, 3, none⟩ = some (.int .i64 (descP d).tk) := cell_b HB13.out ((blk_cell HGW.out 3).trans rfl)
     go_wp2_with fail
     refine (HCY.out _ HB13.out).mono ?_
     rintro en w14 ⟨rfl, hb⟩
     have HOUT2 := Aside0.mk (HOUT.out.below hb)
     have HB14 := Aside0.mk (below_then HB13.out HB13.out.size hb)
     clear hb HB13 HOUT y0 y1 y2 y3 y4 z0 z1 z2 z3 HBL HCY
     go_wp2_with fail
     go_loopw [15] (fun v15 wx => ∃ j : Nat, j ≤ n ∧ v15 = .int .i64 j ∧ Aside0 (Below w14.heap.size w14 wx)) (fun v15 _ => n - (intOf v15).toNat)
     case atStart => exact ⟨0, Nat.zero_le _, rfl, ⟨Below.refl _ _⟩⟩
     case round =>
      obtain ⟨j, hj, rfl, HB⟩ := hrel
      by_cases hjn : j < n
      · obtain ⟨ad, B7, e7, x, eA, hx, x0, x1, x2, x3, x4, x5, x6, x7, x8, _, _⟩ := at37 HOUT2.out.reads j (by rw [chL_len]; exact hjn)
        subst eA
        have hx8 : x.f1 = j := by rw [hx, chL_get ks n j hjn]; rfl
        rw [hx8] at x8
        replace x8 := cell_b HB.out x8
        have hnj : ((j : Int) != (j : Int)) = false := by simp
        clear hx x0 x1 x2 x3 x4 x5 x6 x7 hx8; go_wp2
        go_roundw
        case rel => exact ⟨j + 1, by omega, by go_num, HB⟩
        case measure => simp [intOf]; omega
      · clear HOUT2
        have HBR := Aside0.mk (below_then HB14.out HB14.out.size HB.out)
        have z0 : wr.cell? ⟨gw, 0, none⟩ = some (.int .i64 (descP d).mul) := cell_b HBR.out ((blk_cell HGW.out 0).trans rfl)
        have z1 : wr.cell? ⟨gw, 1, none⟩ = some (.int .i64 (descP d).dv) := cell_b HBR.out ((blk_cell HGW.out 1).trans rfl)
        have z2 : wr.cell? ⟨gw, 2, none⟩ = some (.int .i64 (descP d).ld) := cell_b HBR.out ((blk_cell HGW.out 2).trans rfl)
        have z3 : wr.cell? ⟨gw, 3, none⟩ = some (.int .i64 (descP d).tk) := cell_b HBR.out ((blk_cell HGW.out 3).trans rfl)
        go_wp2_with fail
        refine (HBL2.out _ HBR.out).mono ?_
        rintro en w15 ⟨A16, c16, rfl, hO, hb⟩
        have HB15 := Aside0.mk (below_then HBR.out HBR.out.size hb)
        clear hO hb z0 z1 z2 z3
        have z0 : w15.cell? ⟨gw, 0, none⟩ = some (.int .i64 (descP d).mul) := cell_b HB15.out ((blk_cell HGW.out 0).trans rfl)
        have z1 : w15.cell? ⟨gw, 1, none⟩ = some (.int .i64 (descP d).dv) := cell_b HB15.out ((blk_cell HGW.out 1).trans rfl)
        have z2 : w15.cell? ⟨gw, 2, none⟩ = some (.int .i64 (descP d).ld) := cell_b HB15.out ((blk_cell HGW.out 2).trans rfl)
        have z3 : w15.cell? ⟨gw, 3, none⟩ = some (.int .i64 (descP d).tk) := cell_b HB15.out ((blk_cell HGW.out 3).trans rfl)
        go_wp2_with fail
        refine (HCY2.out _ HB15.out).mono ?_
        rintro en w16 ⟨rfl, hb⟩
        have HB16 := Aside0.mk (below_then HB15.out HB15.out.size hb)
        clear hb z0 z1 z2 z3; go_wp2; go_ret
        exact ⟨rfl, below_then HBE.out HBE.out.size HB16.out⟩
end Go.Proofs.Ytocndmielggnpaa.PAll
end
