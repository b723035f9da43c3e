/- What the rows of chapter 16 lean on, part 7. -/
import Derived.RangeFuncBox
import Derived.RangeFuncLeaves
import Derived.RangeFuncNested
import Derived.OwnWalkIn
import Derived.TacticsInMore
import Derived.LoopNIn
import Derived.LoopIn
import Derived.Laws.EntriesVeiled
import Derived.Test.YtocndmielggnpaaS4
import Derived.Test.YtocndmielggnpaaS5
set_option linter.unusedSimpArgs false
set_option linter.unusedVariables false
section
namespace Go.Proofs.Ytocndmielggnpaa.PAll
open Go.RowKit Go.Proofs.YtocndmielggnpaaW.PrintWords Go.Proofs.YtocndmielggnpaaW.PrintLast Go.Proofs.YtocndmielggnpaaW.PrintMore
open Go.Proofs.Ytocndmielggnpaa.Kind Go.Proofs.Ytocndmielggnpaa.AMap
theorem kindOf_calls' (op : Int) (w : World) : Calls Try.prog 62 #[.int .i64 op] w fun e w' => e = .returned (.agg #[.func (.func (kt op).1) #[] #[], .func (.func (kt op).2) #[] #[]]) ∧ Below w.heap.size w w' := kindOf_calls op w
def kindRow (n : Nat) (a0_0 a0_1 a0_2 a0_3 a0_4 a0_5 a0_6 : Int) (l0_7 : List Int) : Option (List Int) :=
 if n = 68 then mach_kindOf_1.f a0_0 a0_1 a0_2 a0_3 a0_4 a0_5 a0_6 l0_7 else if n = 69 then mach_kindOf_2.f a0_0 a0_1 a0_2 a0_3 a0_4 a0_5 a0_6 l0_7 else if n = 70 then mach_kindOf_3.f a0_0 a0_1 a0_2 a0_3 a0_4 a0_5 a0_6 l0_7 else if n = 71 then mach_kindOf_4.f a0_0 a0_1 a0_2 a0_3 a0_4 a0_5 a0_6 l0_7 else if n = 72 then mach_kindOf_5.f a0_0 a0_1 a0_2 a0_3 a0_4 a0_5 a0_6 l0_7 else if n = 73 then mach_kindOf_6.f a0_0 a0_1 a0_2 a0_3 a0_4 a0_5 a0_6 l0_7 else if n = 74 then mach_kindOf_7.f a0_0 a0_1 a0_2 a0_3 a0_4 a0_5 a0_6 l0_7 else none
theorem kind_enters {n : Nat} (hn : n ∈ [68, 69, 70, 71, 72, 73, 74]) (args : Array Value) (w : World) : (callFunc n args).run Try.prog w = .ok (.enter n args) w := by
 simp only [List.mem_cons, List.not_mem_nil, or_false] at hn
 rcases hn with rfl | rfl | rfl | rfl | rfl | rfl | rfl
 · exact enters_ Try.func68 (by kernel_rfl) rfl args w
 · exact enters_ Try.func69 (by kernel_rfl) rfl args w
 · exact enters_ Try.func70 (by kernel_rfl) rfl args w
 · exact enters_ Try.func71 (by kernel_rfl) rfl args w
 · exact enters_ Try.func72 (by kernel_rfl) rfl args w
 · exact enters_ Try.func73 (by kernel_rfl) rfl args w
 · exact enters_ Try.func74 (by kernel_rfl) rfl args w
theorem kind_calls {n : Nat} (hn : n ∈ [68, 69, 70, 71, 72, 73, 74]) (a0_0 : Int) (a0_1 : Int) (a0_2 : Int) (a0_3 : Int) (a0_4 : Int) (a0_5 : Int) (a0_6 : Int) (A0_7 : Option Addr) (c0_7 : Nat) (l0_7 : List Int) (r : List Int) (w : World) (hr0_7 : Kd.C (Kd.int .i64) w A0_7 l0_7.length l0_7) (hc0_7 : l0_7.length ≤ c0_7) (h : kindRow n a0_0 a0_1 a0_2 a0_3 a0_4 a0_5 a0_6 l0_7 = some r) :
    Calls Try.prog n #[.agg #[.int .i64 a0_0, .int .i64 a0_1, .int .i64 a0_2, .int .i64 a0_3, .int .i64 a0_4, .int .i64 a0_5, .int .i32 a0_6, .slice A0_7 l0_7.length c0_7]] w fun e w' => ∃ v0_ : Value, e = .returned (v0_) ∧ Kd.R (Kd.int .i64) 3 w' w.heap.size (fun _ => True) v0_ r ∧ Below w.heap.size w w' := by
 simp only [List.mem_cons, List.not_mem_nil, or_false] at hn
 rcases hn with rfl | rfl | rfl | rfl | rfl | rfl | rfl
 · exact mach_kindOf_1.calls a0_0 a0_1 a0_2 a0_3 a0_4 a0_5 a0_6 A0_7 c0_7 l0_7 r w hr0_7 hc0_7 (by simpa [kindRow] using h)
 · exact mach_kindOf_2.calls a0_0 a0_1 a0_2 a0_3 a0_4 a0_5 a0_6 A0_7 c0_7 l0_7 r w hr0_7 hc0_7 (by simpa [kindRow] using h)
 · exact mach_kindOf_3.calls a0_0 a0_1 a0_2 a0_3 a0_4 a0_5 a0_6 A0_7 c0_7 l0_7 r w hr0_7 hc0_7 (by simpa [kindRow] using h)
 · exact mach_kindOf_4.calls a0_0 a0_1 a0_2 a0_3 a0_4 a0_5 a0_6 A0_7 c0_7 l0_7 r w hr0_7 hc0_7 (by simpa [kindRow] using h)
 · exact mach_kindOf_5.calls a0_0 a0_1 a0_2 a0_3 a0_4 a0_5 a0_6 A0_7 c0_7 l0_7 r w hr0_7 hc0_7 (by simpa [kindRow] using h)
 · exact mach_kindOf_6.calls a0_0 a0_1 a0_2 a0_3 a0_4 a0_5 a0_6 A0_7 c0_7 l0_7 r w hr0_7 hc0_7 (by simpa [kindRow] using h)
 · exact mach_kindOf_7.calls a0_0 a0_1 a0_2 a0_3 a0_4 a0_5 a0_6 A0_7 c0_7 l0_7 r w hr0_7 hc0_7 (by simpa [kindRow] using h)
theorem upd_get {β : Type} (Q : β → Prop) (f : Int → Option β) (i : Int) (v : β) (k : Int) (hv : Q v) (hf : ∀ b, f k = some b → Q b) : ∀ b, upd f i (some v) k = some b → Q b := by
 intro b h
 unfold upd at h
 split at h
 · injection h with h; exact h ▸ hv
 · exact hf b h
theorem kt_mem (op : Int) : (kt op).1 ∈ [68, 69, 70, 71, 72, 73, 74] ∧ (kt op).2 ∈ [68, 69, 70, 71, 72, 73, 74] := by
 have hq : ∀ p, tbl op = some p → (p.1 ∈ [68, 69, 70, 71, 72, 73, 74] ∧ p.2 ∈ [68, 69, 70, 71, 72, 73, 74]) := by
  unfold tbl
  repeat (refine upd_get (fun p : Nat × Nat => p.1 ∈ [68, 69, 70, 71, 72, 73, 74] ∧ p.2 ∈ [68, 69, 70, 71, 72, 73, 74]) _ _ _ _ (by decide) ?_)
  intro b h
  simp at h
 unfold kt
 cases h : tbl op with
 | none =>
  simp only [Option.getD_none]
  split
  · decide
  · split <;> decide
 | some p => exact hq p h
def mach_Takes.f (a0_0 a0_1 a0_2 a0_3 a0_4 a0_5 a0_6 : Int) (l0_7 : List Int) : Option (List Int) := kindRow (kt a0_0).1 a0_0 a0_1 a0_2 a0_3 a0_4 a0_5 a0_6 l0_7
set_option maxHeartbeats 1000000 in
theorem mach_Takes.calls (a0_0 : Int) (a0_1 : Int) (a0_2 : Int) (a0_3 : Int) (a0_4 : Int) (a0_5 : Int) (a0_6 : Int) (A0_7 : Option Addr) (c0_7 : Nat) (l0_7 : List Int) (r : List Int) (w : World) (hr0_7 : Kd.C (Kd.int .i64) w A0_7 l0_7.length l0_7) (hc0_7 : l0_7.length ≤ c0_7) (h : mach_Takes.f a0_0 a0_1 a0_2 a0_3 a0_4 a0_5 a0_6 l0_7 = some r) :
    Calls Try.prog 43 #[.agg #[.int .i64 a0_0, .int .i64 a0_1, .int .i64 a0_2, .int .i64 a0_3, .int .i64 a0_4, .int .i64 a0_5, .int .i32 a0_6, .slice A0_7 l0_7.length c0_7]] w fun e w' => ∃ v0_ : Value, e = .returned (v0_) ∧ Kd.R (Kd.int .i64) 3 w' w.heap.size (fun _ => True) v0_ r ∧ Below w.heap.size w w' := by
 have hfld : ∀ (w : World) (a b : Value), (Instr.field 98 (.agg #[a, b]) 0).run Try.prog w = .ok (if (0 : Nat) = 0 then a else b) w := fun _ _ _ => by kernel_rfl
 simp only [if_true, if_false, Nat.one_ne_zero, reduceIte] at hfld
 have hm := (kt_mem a0_0).1
 have H := Aside0.mk h
 clear h
 have h := H
 clear H
 have HR := Aside0.mk hr0_7
 have HC := Aside0.mk hc0_7
 clear hr0_7 hc0_7
 have BK := Aside0.mk (show (w.alloc (.cells #[.int .i64 a0_0, .int .i64 a0_1, .int .i64 a0_2, .int .i64 a0_3, .int .i64 a0_4, .int .i64 a0_5, .int .i32 a0_6, .slice A0_7 l0_7.length c0_7] 35)).drew.heap[w.heap.size]? = some (.cells #[.int .i64 a0_0, .int .i64 a0_1, .int .i64 a0_2, .int .i64 a0_3, .int .i64 a0_4, .int .i64 a0_5, .int .i32 a0_6, .slice A0_7 l0_7.length c0_7] 35 (0, 0)) from heap_alloc_new w _)
 have HB := Aside0.mk (show Below w.heap.size w (w.alloc (.cells #[.int .i64 a0_0, .int .i64 a0_1, .int .i64 a0_2, .int .i64 a0_3, .int .i64 a0_4, .int .i64 a0_5, .int .i32 a0_6, .slice A0_7 l0_7.length c0_7] 35)).drew from below_drew1 (below_alloc (Below.refl _ _) _))
 go_enter Try.func43, Try.ntmps43
 go_wp2
 refine start_ (n := 7) (S := fun w' => w'.cell? ⟨w.heap.size, 0, none⟩ = some (.int .i64 a0_0) ∧ w'.cell? ⟨w.heap.size, 1, none⟩ = some (.int .i64 a0_1) ∧ w'.cell? ⟨w.heap.size, 2, none⟩ = some (.int .i64 a0_2) ∧ w'.cell? ⟨w.heap.size, 3, none⟩ = some (.int .i64 a0_3) ∧ w'.cell? ⟨w.heap.size, 4, none⟩ = some (.int .i64 a0_4) ∧ w'.cell? ⟨w.heap.size, 5, none⟩ = some (.int .i64 a0_5) ∧ w'.cell? ⟨w.heap.size, 6, none⟩ = some (.int .i32 a0_6) ∧ w'.cell? ⟨w.heap.size, 7, none⟩ = some (.slice A0_7 l0_7.length c0_7)) (ds := []) (bm 7 0) (by kernel_rfl) rfl rfl ⟨(blk_cell BK.out 0).trans rfl, (blk_cell BK.out 1).trans rfl, (blk_cell BK.out 2).trans rfl, (blk_cell BK.out 3).trans rfl, (blk_cell BK.out 4).trans rfl, (blk_cell BK.out 5).trans rfl, (blk_cell BK.out 6).trans rfl, (blk_cell BK.out 7).trans rfl⟩ (fun hHeld => ?_)
 refine pu 0 3 (bm 7 1) rfl rfl (by kernel_rfl) (fun _ _ _ h => h) (by rfl) (v := ?_) (a' := ?_) (by intro w'; go_simp; with_reducible rfl) (by simp only [np]; rfl) ?_
 refine tu 1 4 (bm 7 3) rfl rfl (by kernel_rfl) (fun _ _ _ h => h) (by rfl) (v := ?_) (a' := ?_) (by rintro w' ⟨s0, s1, s2, s3, s4, s5, s6, s7⟩; go_simp; with_reducible rfl) hHeld (by simp only [np]; rfl) ?_
 refine tu 4 7 (bm 7 19) rfl rfl (by kernel_rfl) (fun _ _ _ h => h) (by rfl) (v := ?_) (a' := ?_) (by rintro w' ⟨s0, s1, s2, s3, s4, s5, s6, s7⟩; go_simp; with_reducible rfl) hHeld (by simp only [np]; rfl) ?_
 refine one_ (i := 2) (N := some 5) (bm 7 23) rfl rfl (by kernel_rfl) (by decide) (fun K hK => ?_)
 refine goes_ Try.func62 (by kernel_rfl) rfl #[.int .i64 a0_0] (by rfl) rfl rfl (by simp only [List.map_toArray, List.map_cons, List.map_nil]; rfl) ?_
 with_reducible refine (kindOf_calls' _ _).mono ?_
 rintro e w3 ⟨rfl, hb⟩
 refine ⟨_, rfl, ?_⟩
 have n0_ := Aside0.mk (below_then HB.out HB.out.size hb)
 clear HB; have HB := n0_; clear n0_
 refine hK.out _ _ ⟨(hb.cell (World.block_lt_of_cell? _ _ (hHeld.1))).trans (hHeld.1), (hb.cell (World.block_lt_of_cell? _ _ (hHeld.2.1))).trans (hHeld.2.1), (hb.cell (World.block_lt_of_cell? _ _ (hHeld.2.2.1))).trans (hHeld.2.2.1), (hb.cell (World.block_lt_of_cell? _ _ (hHeld.2.2.2.1))).trans (hHeld.2.2.2.1), (hb.cell (World.block_lt_of_cell? _ _ (hHeld.2.2.2.2.1))).trans (hHeld.2.2.2.2.1), (hb.cell (World.block_lt_of_cell? _ _ (hHeld.2.2.2.2.2.1))).trans (hHeld.2.2.2.2.2.1), (hb.cell (World.block_lt_of_cell? _ _ (hHeld.2.2.2.2.2.2.1))).trans (hHeld.2.2.2.2.2.2.1), (hb.cell (World.block_lt_of_cell? _ _ (hHeld.2.2.2.2.2.2.2))).trans (hHeld.2.2.2.2.2.2.2)⟩ (fun hHeld => ?_)
 clear hK K
 refine norm_ (a' := ?_) ?_ ?_
 rotate_left
 · show Act.put _ (some 5) _ = _; simp only [np]; rfl
 refine pu 3 6 (bm 7 31) rfl rfl (by kernel_rfl) (fun _ _ _ h => h) (by rfl) (v := ?_) (a' := ?_) (by intro w'; go_simp; with_reducible rfl) (by simp only [np]; rfl) ?_
 refine one_ (i := 5) (N := some 8) (bm 7 63) rfl rfl (by kernel_rfl) (by decide) (fun K hK => ?_)
 refine call_ (kt a0_0).1 #[.agg #[.int .i64 a0_0, .int .i64 a0_1, .int .i64 a0_2, .int .i64 a0_3, .int .i64 a0_4, .int .i64 a0_5, .int .i32 a0_6, .slice A0_7 l0_7.length c0_7]] (by rfl) rfl (by unfold execOp; simp [resolve, Deferred.ofValue, invoke, Act.eval, kind_enters hm]) ?_
 refine (kind_calls hm a0_0 a0_1 a0_2 a0_3 a0_4 a0_5 a0_6 A0_7 c0_7 l0_7 r _ (Kd.C_below HR.out HB.out) HC.out h.out).mono ?_
 rintro e w4 ⟨v0, rfl, hv0, hb⟩
 refine ⟨_, rfl, ?_⟩
 refine hK.out _ _ ⟨(hb.cell (World.block_lt_of_cell? _ _ (hHeld.1))).trans (hHeld.1), (hb.cell (World.block_lt_of_cell? _ _ (hHeld.2.1))).trans (hHeld.2.1), (hb.cell (World.block_lt_of_cell? _ _ (hHeld.2.2.1))).trans (hHeld.2.2.1), (hb.cell (World.block_lt_of_cell? _ _ (hHeld.2.2.2.1))).trans (hHeld.2.2.2.1), (hb.cell (World.block_lt_of_cell? _ _ (hHeld.2.2.2.2.1))).trans (hHeld.2.2.2.2.1), (hb.cell (World.block_lt_of_cell? _ _ (hHeld.2.2.2.2.2.1))).trans (hHeld.2.2.2.2.2.1), (hb.cell (World.block_lt_of_cell? _ _ (hHeld.2.2.2.2.2.2.1))).trans (hHeld.2.2.2.2.2.2.1), (hb.cell (World.block_lt_of_cell? _ _ (hHeld.2.2.2.2.2.2.2))).trans (hHeld.2.2.2.2.2.2.2)⟩ (fun hHeld => ?_)
 clear hK K
 refine norm_ (a' := ?_) ?_ ?_
 rotate_left
 · show Act.put _ (some 8) _ = _; simp only [np]; rfl
 refine pu 6 2 (bm 7 127) rfl rfl (by kernel_rfl) (fun _ _ _ h => h) (by rfl) (v := ?_) (a' := ?_) (by intro w'; go_simp; with_reducible rfl) (by simp only [np]; rfl) ?_
 refine done_ (by kernel_rfl) ?_
 go_wp2; go_ret
 exact ⟨_, rfl, Kd.R_lower hv0 HB.out.size, below_then HB.out HB.out.size hb⟩
def mach_Makes.f (a0_0 a0_1 a0_2 a0_3 a0_4 a0_5 a0_6 : Int) (l0_7 : List Int) : Option (List Int) := kindRow (kt a0_0).2 a0_0 a0_1 a0_2 a0_3 a0_4 a0_5 a0_6 l0_7
set_option maxHeartbeats 1000000 in
theorem mach_Makes.calls (a0_0 : Int) (a0_1 : Int) (a0_2 : Int) (a0_3 : Int) (a0_4 : Int) (a0_5 : Int) (a0_6 : Int) (A0_7 : Option Addr) (c0_7 : Nat) (l0_7 : List Int) (r : List Int) (w : World) (hr0_7 : Kd.C (Kd.int .i64) w A0_7 l0_7.length l0_7) (hc0_7 : l0_7.length ≤ c0_7) (h : mach_Makes.f a0_0 a0_1 a0_2 a0_3 a0_4 a0_5 a0_6 l0_7 = some r) :
    Calls Try.prog 63 #[.agg #[.int .i64 a0_0, .int .i64 a0_1, .int .i64 a0_2, .int .i64 a0_3, .int .i64 a0_4, .int .i64 a0_5, .int .i32 a0_6, .slice A0_7 l0_7.length c0_7]] w fun e w' => ∃ v0_ : Value, e = .returned (v0_) ∧ Kd.R (Kd.int .i64) 3 w' w.heap.size (fun _ => True) v0_ r ∧ Below w.heap.size w w' := by
 have hfld : ∀ (w : World) (a b : Value), (Instr.field 98 (.agg #[a, b]) 1).run Try.prog w = .ok (if (1 : Nat) = 0 then a else b) w := fun _ _ _ => by kernel_rfl
 simp only [if_true, if_false, Nat.one_ne_zero, reduceIte] at hfld
 have hm := (kt_mem a0_0).2
 have H := Aside0.mk h
 clear h
 have h := H
 clear H
 have HR := Aside0.mk hr0_7
 have HC := Aside0.mk hc0_7
 clear hr0_7 hc0_7
 have BK := Aside0.mk (show (w.alloc (.cells #[.int .i64 a0_0, .int .i64 a0_1, .int .i64 a0_2, .int .i64 a0_3, .int .i64 a0_4, .int .i64 a0_5, .int .i32 a0_6, .slice A0_7 l0_7.length c0_7] 35)).drew.heap[w.heap.size]? = some (.cells #[.int .i64 a0_0, .int .i64 a0_1, .int .i64 a0_2, .int .i64 a0_3, .int .i64 a0_4, .int .i64 a0_5, .int .i32 a0_6, .slice A0_7 l0_7.length c0_7] 35 (0, 0)) from heap_alloc_new w _)
 have HB := Aside0.mk (show Below w.heap.size w (w.alloc (.cells #[.int .i64 a0_0, .int .i64 a0_1, .int .i64 a0_2, .int .i64 a0_3, .int .i64 a0_4, .int .i64 a0_5, .int .i32 a0_6, .slice A0_7 l0_7.length c0_7] 35)).drew from below_drew1 (below_alloc (Below.refl _ _) _))
 go_enter Try.func63, Try.ntmps63
 go_wp2
 refine start_ (n := 7) (S := fun w' => w'.cell? ⟨w.heap.size, 0, none⟩ = some (.int .i64 a0_0) ∧ w'.cell? ⟨w.heap.size, 1, none⟩ = some (.int .i64 a0_1) ∧ w'.cell? ⟨w.heap.size, 2, none⟩ = some (.int .i64 a0_2) ∧ w'.cell? ⟨w.heap.size, 3, none⟩ = some (.int .i64 a0_3) ∧ w'.cell? ⟨w.heap.size, 4, none⟩ = some (.int .i64 a0_4) ∧ w'.cell? ⟨w.heap.size, 5, none⟩ = some (.int .i64 a0_5) ∧ w'.cell? ⟨w.heap.size, 6, none⟩ = some (.int .i32 a0_6) ∧ w'.cell? ⟨w.heap.size, 7, none⟩ = some (.slice A0_7 l0_7.length c0_7)) (ds := []) (bm 7 0) (by kernel_rfl) rfl rfl ⟨(blk_cell BK.out 0).trans rfl, (blk_cell BK.out 1).trans rfl, (blk_cell BK.out 2).trans rfl, (blk_cell BK.out 3).trans rfl, (blk_cell BK.out 4).trans rfl, (blk_cell BK.out 5).trans rfl, (blk_cell BK.out 6).trans rfl, (blk_cell BK.out 7).trans rfl⟩ (fun hHeld => ?_)
 refine pu 0 3 (bm 7 1) rfl rfl (by kernel_rfl) (fun _ _ _ h => h) (by rfl) (v := ?_) (a' := ?_) (by intro w'; go_simp; with_reducible rfl) (by simp only [np]; rfl) ?_
 refine tu 1 4 (bm 7 3) rfl rfl (by kernel_rfl) (fun _ _ _ h => h) (by rfl) (v := ?_) (a' := ?_) (by rintro w' ⟨s0, s1, s2, s3, s4, s5, s6, s7⟩; go_simp; with_reducible rfl) hHeld (by simp only [np]; rfl) ?_
 refine tu 4 7 (bm 7 19) rfl rfl (by kernel_rfl) (fun _ _ _ h => h) (by rfl) (v := ?_) (a' := ?_) (by rintro w' ⟨s0, s1, s2, s3, s4, s5, s6, s7⟩; go_simp; with_reducible rfl) hHeld (by simp only [np]; rfl) ?_
 refine one_ (i := 2) (N := some 5) (bm 7 23) rfl rfl (by kernel_rfl) (by decide) (fun K hK => ?_)
 refine goes_ Try.func62 (by kernel_rfl) rfl #[.int .i64 a0_0] (by rfl) rfl rfl (by simp only [List.map_toArray, List.map_cons, List.map_nil]; rfl) ?_
 with_reducible refine (kindOf_calls' _ _).mono ?_
 rintro e w3 ⟨rfl, hb⟩
 refine ⟨_, rfl, ?_⟩
 have n0_ := Aside0.mk (below_then HB.out HB.out.size hb)
 clear HB; have HB := n0_; clear n0_
 refine hK.out _ _ ⟨(hb.cell (World.block_lt_of_cell? _ _ (hHeld.1))).trans (hHeld.1), (hb.cell (World.block_lt_of_cell? _ _ (hHeld.2.1))).trans (hHeld.2.1), (hb.cell (World.block_lt_of_cell? _ _ (hHeld.2.2.1))).trans (hHeld.2.2.1), (hb.cell (World.block_lt_of_cell? _ _ (hHeld.2.2.2.1))).trans (hHeld.2.2.2.1), (hb.cell (World.block_lt_of_cell? _ _ (hHeld.2.2.2.2.1))).trans (hHeld.2.2.2.2.1), (hb.cell (World.block_lt_of_cell? _ _ (hHeld.2.2.2.2.2.1))).trans (hHeld.2.2.2.2.2.1), (hb.cell (World.block_lt_of_cell? _ _ (hHeld.2.2.2.2.2.2.1))).trans (hHeld.2.2.2.2.2.2.1), (hb.cell (World.block_lt_of_cell? _ _ (hHeld.2.2.2.2.2.2.2))).trans (hHeld.2.2.2.2.2.2.2)⟩ (fun hHeld => ?_)
 clear hK K
 refine norm_ (a' := ?_) ?_ ?_
 rotate_left
 · show Act.put _ (some 5) _ = _; simp only [np]; rfl
 refine pu 3 6 (bm 7 31) rfl rfl (by kernel_rfl) (fun _ _ _ h => h) (by rfl) (v := ?_) (a' := ?_) (by intro w'; go_simp; with_reducible rfl) (by simp only [np]; rfl) ?_
 refine one_ (i := 5) (N := some 8) (bm 7 63) rfl rfl (by kernel_rfl) (by decide) (fun K hK => ?_)
 refine call_ (kt a0_0).2 #[.agg #[.int .i64 a0_0, .int .i64 a0_1, .int .i64 a0_2, .int .i64 a0_3, .int .i64 a0_4, .int .i64 a0_5, .int .i32 a0_6, .slice A0_7 l0_7.length c0_7]] (by rfl) rfl (by unfold execOp; simp [resolve, Deferred.ofValue, invoke, Act.eval, kind_enters hm]) ?_
 refine (kind_calls hm a0_0 a0_1 a0_2 a0_3 a0_4 a0_5 a0_6 A0_7 c0_7 l0_7 r _ (Kd.C_below HR.out HB.out) HC.out h.out).mono ?_
 rintro e w4 ⟨v0, rfl, hv0, hb⟩
 refine ⟨_, rfl, ?_⟩
 refine hK.out _ _ ⟨(hb.cell (World.block_lt_of_cell? _ _ (hHeld.1))).trans (hHeld.1), (hb.cell (World.block_lt_of_cell? _ _ (hHeld.2.1))).trans (hHeld.2.1), (hb.cell (World.block_lt_of_cell? _ _ (hHeld.2.2.1))).trans (hHeld.2.2.1), (hb.cell (World.block_lt_of_cell? _ _ (hHeld.2.2.2.1))).trans (hHeld.2.2.2.1), (hb.cell (World.block_lt_of_cell? _ _ (hHeld.2.2.2.2.1))).trans (hHeld.2.2.2.2.1), (hb.cell (World.block_lt_of_cell? _ _ (hHeld.2.2.2.2.2.1))).trans (hHeld.2.2.2.2.2.1), (hb.cell (World.block_lt_of_cell? _ _ (hHeld.2.2.2.2.2.2.1))).trans (hHeld.2.2.2.2.2.2.1), (hb.cell (World.block_lt_of_cell? _ _ (hHeld.2.2.2.2.2.2.2))).trans (hHeld.2.2.2.2.2.2.2)⟩ (fun hHeld => ?_)
 clear hK K
 refine norm_ (a' := ?_) ?_ ?_
 rotate_left
 · show Act.put _ (some 8) _ = _; simp only [np]; rfl
 refine pu 6 2 (bm 7 127) rfl rfl (by kernel_rfl) (fun _ _ _ h => h) (by rfl) (v := ?_) (a' := ?_) (by intro w'; go_simp; with_reducible rfl) (by simp only [np]; rfl) ?_
 refine done_ (by kernel_rfl) ?_
 go_wp2; go_ret
 exact ⟨_, rfl, Kd.R_lower hv0 HB.out.size, below_then HB.out HB.out.size hb⟩
end Go.Proofs.Ytocndmielggnpaa.PAll
end
section
namespace Go.Proofs.Ytocndmielggnpaa.PAll
open Go.RowKit Go.Proofs.YtocndmielggnpaaW.PrintWords Go.Proofs.YtocndmielggnpaaW.PrintLast Go.Proofs.YtocndmielggnpaaW.PrintMore
open Go.Proofs.Ytocndmielggnpaa.Kind Go.Proofs.Ytocndmielggnpaa.AMap
def phys_Takes.f (a0_0 a0_1 a0_2 a0_3 a0_4 a0_5 a0_6 : Int) (l0_7 : List Int) : Option (List Int) := if a0_0 = 2 then some [a0_3, a0_4] else if a0_0 = 30 then some [wrap64 (16 + wrap64 a0_6)] else mach_Takes.f a0_0 a0_1 a0_2 a0_3 a0_4 a0_5 a0_6 l0_7
set_option maxHeartbeats 4000000 in
theorem phys_Takes.calls (a0_0 a0_1 a0_2 a0_3 a0_4 a0_5 a0_6 : Int) (A0_7 : Option Addr) (c0_7 : Nat) (l0_7 : List Int) (r : List Int) (w : World) (hr0_7 : Kd.C (Kd.int .i64) w A0_7 l0_7.length l0_7) (hc0_7 : l0_7.length ≤ c0_7) (h : phys_Takes.f a0_0 a0_1 a0_2 a0_3 a0_4 a0_5 a0_6 l0_7 = some r) :
    Calls Try.prog 23 #[.agg #[.int .i64 a0_0, .int .i64 a0_1, .int .i64 a0_2, .int .i64 a0_3, .int .i64 a0_4, .int .i64 a0_5, .int .i32 a0_6, .slice A0_7 l0_7.length c0_7]] w fun e w' => ∃ v0_ : Value, e = .returned (v0_) ∧ Kd.R (Kd.int .i64) 3 w' w.heap.size (fun _ => True) v0_ r ∧ Below w.heap.size w w' := by
 rcases (show a0_0 = 2 ∨ a0_0 = 30 ∨ (a0_0 ≠ 2 ∧ a0_0 ≠ 30) from by omega) with rfl | rfl | hq
 · obtain rfl : [a0_3, a0_4] = r := by simpa [phys_Takes.f] using h
   clear h hr0_7
   go_enter Try.func23, Try.ntmps23
   go_wp2; go_ret
   exact ⟨_, rfl, lit_R _ _ _ (by simp) (by simp) [a0_3, a0_4] (by simp), below_alloc (below_alloc (Below.refl _ _) _) _⟩
 · obtain rfl : [wrap64 (16 + wrap64 a0_6)] = r := by simpa [phys_Takes.f] using h
   clear h hr0_7
   go_enter Try.func23, Try.ntmps23
   go_wp2; go_ret
   exact ⟨_, rfl, lit_R _ _ _ (by simp) (by simp) [wrap64 (16 + wrap64 a0_6)] (by simp), below_alloc (below_alloc (Below.refl _ _) _) _⟩
 · have n2 : ¬ a0_0 = 2 := hq.1
   have n3 : ¬ a0_0 = 30 := hq.2
   have HCL : Aside0 (∀ o, Calls Try.prog 43 #[.agg #[.int .i64 a0_0, .int .i64 a0_1, .int .i64 a0_2, .int .i64 a0_3, .int .i64 a0_4, .int .i64 a0_5, .int .i32 a0_6, .slice A0_7 l0_7.length c0_7]] (w.alloc o) fun e w' => ∃ v0_ : Value, e = .returned (v0_) ∧ Kd.R (Kd.int .i64) 3 w' (w.alloc o).heap.size (fun _ => True) v0_ r ∧ Below (w.alloc o).heap.size (w.alloc o) w') := ⟨fun o => mach_Takes.calls a0_0 a0_1 a0_2 a0_3 a0_4 a0_5 a0_6 A0_7 c0_7 l0_7 r _ (Kd.C_alloc hr0_7 _) hc0_7 (by simpa [phys_Takes.f, n2, n3] using h)⟩
   clear h hr0_7
   go_enter Try.func23, Try.ntmps23
   go_wp2_with fail
   refine (HCL.out _).mono ?_
   rintro e w' ⟨v, rfl, hR, hb⟩
   have HR := Aside0.mk (Kd.R_lower hR (show w.heap.size ≤ _ by simp))
   have HB := Aside0.mk (below_then (below_alloc (Below.refl _ _) _) (by simp) hb)
   clear hR hb HCL; go_wp2; go_ret
   exact ⟨_, rfl, HR.out, HB.out⟩
def phys_Makes.f (a0_0 a0_1 a0_2 a0_3 a0_4 a0_5 a0_6 : Int) (l0_7 : List Int) : Option (List Int) := if a0_0 = 2 then some [a0_3, a0_4] else if a0_0 = 31 then some [wrap64 (16 + wrap64 a0_6)] else mach_Makes.f a0_0 a0_1 a0_2 a0_3 a0_4 a0_5 a0_6 l0_7
set_option maxHeartbeats 4000000 in
theorem phys_Makes.calls (a0_0 a0_1 a0_2 a0_3 a0_4 a0_5 a0_6 : Int) (A0_7 : Option Addr) (c0_7 : Nat) (l0_7 : List Int) (r : List Int) (w : World) (hr0_7 : Kd.C (Kd.int .i64) w A0_7 l0_7.length l0_7) (hc0_7 : l0_7.length ≤ c0_7) (h : phys_Makes.f a0_0 a0_1 a0_2 a0_3 a0_4 a0_5 a0_6 l0_7 = some r) :
    Calls Try.prog 44 #[.agg #[.int .i64 a0_0, .int .i64 a0_1, .int .i64 a0_2, .int .i64 a0_3, .int .i64 a0_4, .int .i64 a0_5, .int .i32 a0_6, .slice A0_7 l0_7.length c0_7]] w fun e w' => ∃ v0_ : Value, e = .returned (v0_) ∧ Kd.R (Kd.int .i64) 3 w' w.heap.size (fun _ => True) v0_ r ∧ Below w.heap.size w w' := by
 rcases (show a0_0 = 2 ∨ a0_0 = 31 ∨ (a0_0 ≠ 2 ∧ a0_0 ≠ 31) from by omega) with rfl | rfl | hq
 · obtain rfl : [a0_3, a0_4] = r := by simpa [phys_Makes.f] using h
   clear h hr0_7
   go_enter Try.func44, Try.ntmps44
   go_wp2; go_ret
   exact ⟨_, rfl, lit_R _ _ _ (by simp) (by simp) [a0_3, a0_4] (by simp), below_alloc (below_alloc (Below.refl _ _) _) _⟩
 · obtain rfl : [wrap64 (16 + wrap64 a0_6)] = r := by simpa [phys_Makes.f] using h
   clear h hr0_7
   go_enter Try.func44, Try.ntmps44
   go_wp2; go_ret
   exact ⟨_, rfl, lit_R _ _ _ (by simp) (by simp) [wrap64 (16 + wrap64 a0_6)] (by simp), below_alloc (below_alloc (Below.refl _ _) _) _⟩
 · have n2 : ¬ a0_0 = 2 := hq.1
   have n3 : ¬ a0_0 = 31 := hq.2
   have HCL : Aside0 (∀ o, Calls Try.prog 63 #[.agg #[.int .i64 a0_0, .int .i64 a0_1, .int .i64 a0_2, .int .i64 a0_3, .int .i64 a0_4, .int .i64 a0_5, .int .i32 a0_6, .slice A0_7 l0_7.length c0_7]] (w.alloc o) fun e w' => ∃ v0_ : Value, e = .returned (v0_) ∧ Kd.R (Kd.int .i64) 3 w' (w.alloc o).heap.size (fun _ => True) v0_ r ∧ Below (w.alloc o).heap.size (w.alloc o) w') := ⟨fun o => mach_Makes.calls a0_0 a0_1 a0_2 a0_3 a0_4 a0_5 a0_6 A0_7 c0_7 l0_7 r _ (Kd.C_alloc hr0_7 _) hc0_7 (by simpa [phys_Makes.f, n2, n3] using h)⟩
   clear h hr0_7
   go_enter Try.func44, Try.ntmps44
   go_wp2_with fail
   refine (HCL.out _).mono ?_
   rintro e w' ⟨v, rfl, hR, hb⟩
   have HR := Aside0.mk (Kd.R_lower hR (show w.heap.size ≤ _ by simp))
   have HB := Aside0.mk (below_then (below_alloc (Below.refl _ _) _) (by simp) hb)
   clear hR hb HCL; go_wp2; go_ret
   exact ⟨_, rfl, HR.out, HB.out⟩
end Go.Proofs.Ytocndmielggnpaa.PAll
end
section
namespace Go.Proofs.Ytocndmielggnpaa.PAll
open Go.RowKit Go.Proofs.YtocndmielggnpaaW.PrintWords Go.Proofs.YtocndmielggnpaaW.PrintLast Go.Proofs.YtocndmielggnpaaW.PrintMore
attribute [local go_sem] max2_int min2_int max_two min_two max_three min_three max_four min_four   -- for this text's walks alone
def jacquardlaw16_rest.f (a0 : Int) (a1 : Int) : Option (Int) := if a1 = 0 then (none) else (some (Int.tmod (wrap64 ((Int.tmod a0 a1) + a1)) a1))
set_option maxHeartbeats 8000000 in
set_option maxRecDepth 100000 in
theorem jacquardlaw16_rest.calls (a0 : Int) (a1 : Int) (r : Int) (w : World) (h : jacquardlaw16_rest.f a0 a1 = some r) :
    Calls Try.prog 21 #[.int .i64 a0, .int .i64 a1] w fun e w' => e = .returned (.int .i64 r) ∧ Drawn0 w w' := by
 have H : (if a1 = 0 then (none) else (some (Int.tmod (wrap64 ((Int.tmod a0 a1) + a1)) a1))) = some r := h
 clear h
 by_cases c3 : a1 = 0
 · rw [if_pos c3] at H
   exact absurd H (by simp)
 · rw [if_neg c3] at H
   have c3b0 : (a1 == 0) = false := beq_eq_false_iff_ne.mpr c3
   have c3b1 : (a1 != 0) = true := bne_iff_ne.mpr c3
   obtain rfl := Option.some.inj H
   go_enter Try.func21, Try.ntmps21
   go_wp2; go_ret
   exact ⟨by first | rfl | (simp; done) | (simp [*]; done), by repeat (first | exact Drawn0.refl _ | apply Drawn0.step)⟩
def jacquardlaw16_desc.f (a0_0 : Int) (a0_1 : Int) (a0_2 : Int) (a0_3 : Int) : Option (Int × Int × Int × Int) := (jacquardlaw16_rest.f a0_0 20).bind fun t195 => ((jacquardlaw16_rest.f a0_1 20).bind fun t196 => ((jacquardlaw16_rest.f a0_2 20).bind fun t197 => ((jacquardlaw16_rest.f a0_3 21).bind fun t198 => (some (wrap64 (1 + t195), wrap64 (1 + t196), wrap64 (1 + t197), t198)))))
def jacquardlaw16_desc.T1 : Bool × List (List Nat × List Nat) := (true, [([], []), ([0], [0]), ([1], [1]), ([2], [2]), ([], []), ([4], [4]), ([5, 2], [5]), ([6], [6]), ([], []), ([8], [8]), ([9, 6], [9]), ([10], [10]), ([], []), ([12], [12]), ([13, 10], [13]), ([3, 7, 11, 14], [3, 7, 11, 14]), ([15, 14, 0, 1, 2, 3, 4, 5, 6, 7, 8, 9, 10, 11, 12, 13, 14, 15], [15])])
def jacquardlaw16_desc.B1 : List Nat := [0, 1, 3, 7, 0, 16, 55, 119, 0, 256, 887, 1911, 0, 4096, 14199, 32767, 65535]
theorem jacquardlaw16_desc.tab1 : rtab .any (opsOf Try.f12 1) = jacquardlaw16_desc.T1 := by kernel_rfl
theorem jacquardlaw16_desc.bits1 : waitsOk jacquardlaw16_desc.T1.2 jacquardlaw16_desc.B1 = true := by kernel_rfl
set_option maxHeartbeats 8000000 in
set_option maxRecDepth 100000 in
theorem jacquardlaw16_desc.calls (a0_0 : Int) (a0_1 : Int) (a0_2 : Int) (a0_3 : Int) (r1 : Int) (r2 : Int) (r3 : Int) (r4 : Int) (w : World) (h : jacquardlaw16_desc.f a0_0 a0_1 a0_2 a0_3 = some (r1, r2, r3, r4)) :
    Calls Try.prog 12 #[.agg #[.int .i64 a0_0, .int .i64 a0_1, .int .i64 a0_2, .int .i64 a0_3]] w fun e w' => e = .returned (.agg #[.int .i64 r1, .int .i64 r2, .int .i64 r3, .int .i64 r4]) ∧ Below w.heap.size w w' := by
 have hu27 := Try.underlying27
 have HB := Aside0.mk (Below.refl w.heap.size w)
 have H : ((jacquardlaw16_rest.f a0_0 20).bind fun t195 => ((jacquardlaw16_rest.f a0_1 20).bind fun t196 => ((jacquardlaw16_rest.f a0_2 20).bind fun t197 => ((jacquardlaw16_rest.f a0_3 21).bind fun t198 => (some (wrap64 (1 + t195), wrap64 (1 + t196), wrap64 (1 + t197), t198)))))) = some (r1, r2, r3, r4) := h
 clear h
 replace H := Option.bind_eq_some_iff.mp H
 obtain ⟨t195, A20, H⟩ := H
 replace H : ((jacquardlaw16_rest.f a0_1 20).bind fun t196 => ((jacquardlaw16_rest.f a0_2 20).bind fun t197 => ((jacquardlaw16_rest.f a0_3 21).bind fun t198 => (some (wrap64 (1 + t195), wrap64 (1 + t196), wrap64 (1 + t197), t198))))) = some (r1, r2, r3, r4) := H
 have A2 := Aside0.mk A20
 clear A20
 replace H := Option.bind_eq_some_iff.mp H
 obtain ⟨t196, A30, H⟩ := H
 replace H : ((jacquardlaw16_rest.f a0_2 20).bind fun t197 => ((jacquardlaw16_rest.f a0_3 21).bind fun t198 => (some (wrap64 (1 + t195), wrap64 (1 + t196), wrap64 (1 + t197), t198)))) = some (r1, r2, r3, r4) := H
 have A3 := Aside0.mk A30
 clear A30
 replace H := Option.bind_eq_some_iff.mp H
 obtain ⟨t197, A40, H⟩ := H
 replace H : ((jacquardlaw16_rest.f a0_3 21).bind fun t198 => (some (wrap64 (1 + t195), wrap64 (1 + t196), wrap64 (1 + t197), t198))) = some (r1, r2, r3, r4) := H
 have A4 := Aside0.mk A40
 clear A40
 replace H := Option.bind_eq_some_iff.mp H
 obtain ⟨t198, A50, H⟩ := H
 replace H : (some (wrap64 (1 + t195), wrap64 (1 + t196), wrap64 (1 + t197), t198)) = some (r1, r2, r3, r4) := H
 have A5 := Aside0.mk A50
 clear A50
 simp only [Option.some.injEq, Prod.mk.injEq] at H
 obtain ⟨rfl, rfl, rfl, rfl⟩ := H
 go_enter Try.func12, Try.ntmps12
 try go_wp2_with (first | ((with_reducible refine gate_dst (N := 1) rfl ?_); refine box_event ?hg (N := 1) ?hd (cs := #[.int .i64 a0_0, .int .i64 a0_1, .int .i64 a0_2, .int .i64 a0_3]) (t := 27) ?hr ?_; (case hd => rfl); (case hg => rfl); (case hr => first | (go_simp; done) | (go_simp; rfl)); intro gb193 hg w6 hbox hb; have n0_ := Aside0.mk (below_step (by repeat (first | (with_reducible first | exact HB.out | apply below_alloc | apply pw_below_drewN | apply below_drew1) | exact HB.out)) hb); have n1_ := Aside0.mk (hbox); have n2_ := Aside0.mk ((by rw [hg]; exact (below_size (by repeat (first | (with_reducible first | exact HB.out | apply below_alloc | apply pw_below_drewN | apply below_drew1) | exact HB.out))) : w.heap.size ≤ gb193)); have n3_ := Aside0.mk ((by rw [hg]; exact (below_size (by repeat (first | (with_reducible first | exact HB.out | apply below_alloc | apply pw_below_drewN | apply below_drew1) | exact HB.out))) : w.heap.size ≤ gb193)); clear HB; have HB := n0_; have BK193 := n1_; have GW193 := n2_; have GE193 := n3_; clear n0_ n1_ n2_ n3_; clear hb hbox hg) | ((with_reducible refine gate_dst (N := 2) rfl ?_); refine box_event ?hg (N := 2) ?hd (cs := #[.int .i64 0, .int .i64 0, .int .i64 0, .int .i64 0]) (t := 27) ?hr ?_; (case hd => rfl); (case hg => rfl); (case hr => first | (go_simp; done) | (go_simp; rfl)); intro gb194 hg w7 hbox hb; have n0_ := Aside0.mk (blk_below (g := gb193) (o := .cells #[.int .i64 a0_0, .int .i64 a0_1, .int .i64 a0_2, .int .i64 a0_3] 27 (0, 0)) (by (with_reducible repeat (first | refine blk_drewN ?_ _ | refine blk_drew ?_ | refine blk_alloc ?_ _)); exact BK193.out) hb); have n1_ := Aside0.mk (below_step (by repeat (first | (with_reducible first | exact HB.out | apply below_alloc | apply pw_below_drewN | apply below_drew1 | refine below_set ?_ GE193.out) | exact HB.out)) hb); have n2_ := Aside0.mk (hbox); have n3_ := Aside0.mk ((by rw [hg]; exact (below_size (by repeat (first | (with_reducible first | exact HB.out | apply below_alloc | apply pw_below_drewN | apply below_drew1 | refine below_set ?_ GE193.out) | exact HB.out))) : w.heap.size ≤ gb194)); have n4_ := Aside0.mk ((by rw [hg]; exact (below_size (by repeat (first | (with_reducible first | exact HB.out | apply below_alloc | apply pw_below_drewN | apply below_drew1 | refine below_set ?_ GE193.out) | exact HB.out))) : w.heap.size ≤ gb194)); have n5_ := Aside0.mk ((by rw [hg]; exact Nat.ne_of_lt (blk_lt (g := gb193) (o := .cells #[.int .i64 a0_0, .int .i64 a0_1, .int .i64 a0_2, .int .i64 a0_3] 27 (0, 0)) (by (with_reducible repeat (first | refine blk_drewN ?_ _ | refine blk_drew ?_ | refine blk_alloc ?_ _)); exact BK193.out)) : gb193 ≠ gb194)); have n6_ := Aside0.mk ((by rw [hg]; exact Nat.ne_of_gt (blk_lt (g := gb193) (o := .cells #[.int .i64 a0_0, .int .i64 a0_1, .int .i64 a0_2, .int .i64 a0_3] 27 (0, 0)) (by (with_reducible repeat (first | refine blk_drewN ?_ _ | refine blk_drew ?_ | refine blk_alloc ?_ _)); exact BK193.out)) : gb194 ≠ gb193)); clear BK193; clear HB; have BK193 := n0_; have HB := n1_; have BK194 := n2_; have GW194 := n3_; have GE194 := n4_; have NB193_194 := n5_; have NB194_193 := n6_; clear n0_ n1_ n2_ n3_ n4_ n5_ n6_; clear hb hbox hg))
 have n0_ := Aside0.mk (blk_drew BK193.out)
 have n1_ := Aside0.mk (blk_drew BK194.out)
 have n2_ := Aside0.mk (below_drew1 HB.out)
 clear BK193; clear BK194; clear HB
 have BK193 := n0_
 have BK194 := n1_
 have HB := n2_
 clear n0_ n1_ n2_
 refine start_ (n := 17) (S := fun w' => w'.cell? ⟨gb193, 0, none⟩ = some (.int .i64 a0_0) ∧ w'.cell? ⟨gb193, 1, none⟩ = some (.int .i64 a0_1) ∧ w'.cell? ⟨gb193, 2, none⟩ = some (.int .i64 a0_2) ∧ w'.cell? ⟨gb193, 3, none⟩ = some (.int .i64 a0_3)) (ds := []) (bm 17 0) (by kernel_rfl) rfl rfl ⟨(blk_cell BK193.out 0).trans rfl, (blk_cell BK193.out 1).trans rfl, (blk_cell BK193.out 2).trans rfl, (blk_cell BK193.out 3).trans rfl⟩ (fun hHeld => ?_); refine with_tabW jacquardlaw16_desc.tab1 jacquardlaw16_desc.bits1 (fun HT_ HW_ => ?_)
 generalize w7.drew = w8 at BK193 BK194 HB hHeld ⊢
 refine pu 0 3 (bm 17 1) rfl rfl (any_of HT_.out (by kernel_rfl)) (fun _ _ _ h => h) (by rfl) (v := ?_) (a' := ?_) (by intro w'; go_simp; with_reducible rfl) (by simp only [np]; rfl) ?_
 refine pu 4 7 (bm 17 17) rfl rfl (any_of HT_.out (by kernel_rfl)) (fun _ _ _ h => h) (by rfl) (v := ?_) (a' := ?_) (by intro w'; go_simp; with_reducible rfl) (by simp only [np]; rfl) ?_
 refine pu 8 11 (bm 17 273) rfl rfl (any_of HT_.out (by kernel_rfl)) (fun _ _ _ h => h) (by rfl) (v := ?_) (a' := ?_) (by intro w'; go_simp; with_reducible rfl) (by simp only [np]; rfl) ?_
 refine pu 12 15 (bm 17 4369) rfl rfl (any_of HT_.out (by kernel_rfl)) (fun _ _ _ h => h) (by rfl) (v := ?_) (a' := ?_) (by intro w'; go_simp; with_reducible rfl) (by simp only [np]; rfl) ?_
 refine take_ (i := 1) (N := some 4) (v := ?_) (a' := ?_) (bm 17 4371) rfl rfl (take_ofW HT_.out HW_.out (by kernel_rfl)) (fun _ _ _ h => h) (Or.inl ⟨by rfl, ?_⟩) hHeld ?_ ?_
 rotate_left
 · rintro w' ⟨s0, s1, s2, s3⟩; go_simp; with_reducible rfl
 rotate_left
 · simp only [np]; rfl
 refine take_ (i := 5) (N := some 8) (v := ?_) (a' := ?_) (bm 17 4403) rfl rfl (take_ofW HT_.out HW_.out (by kernel_rfl)) (fun _ _ _ h => h) (Or.inl ⟨by rfl, ?_⟩) hHeld ?_ ?_
 rotate_left
 · rintro w' ⟨s0, s1, s2, s3⟩; go_simp; with_reducible rfl
 rotate_left
 · simp only [np]; rfl
 refine take_ (i := 9) (N := some 12) (v := ?_) (a' := ?_) (bm 17 4915) rfl rfl (take_ofW HT_.out HW_.out (by kernel_rfl)) (fun _ _ _ h => h) (Or.inl ⟨by rfl, ?_⟩) hHeld ?_ ?_
 rotate_left
 · rintro w' ⟨s0, s1, s2, s3⟩; go_simp; with_reducible rfl
 rotate_left
 · simp only [np]; rfl
 refine take_ (i := 13) (N := some 16) (v := ?_) (a' := ?_) (bm 17 13107) rfl rfl (take_ofW HT_.out HW_.out (by kernel_rfl)) (fun _ _ _ h => h) (Or.inl ⟨by rfl, ?_⟩) hHeld ?_ ?_
 rotate_left
 · rintro w' ⟨s0, s1, s2, s3⟩; go_simp; with_reducible rfl
 rotate_left
 · simp only [np]; rfl
 refine one_ (i := 2) (N := some 5) (bm 17 13111) rfl rfl (one_of HT_.out (by kernel_rfl)) (by decide) (fun K hK => ?_)
 refine goes_ Try.func21 (by kernel_rfl) rfl #[.int .i64 a0_0, .int .i64 20] (by rfl) rfl rfl (by (try simp only [List.map_toArray, List.map_cons, List.map_nil]); first | done | rfl | (simp only [List.length_drop, List.length_take]; rfl)) ?_
 with_reducible refine (jacquardlaw16_rest.calls a0_0 20 t195 _ A2.out).mono ?_
 rintro e w' ⟨rfl, ⟨nd, rfl⟩⟩
 refine ⟨_, rfl, ?_⟩
 refine hK.out _ _ ⟨(blk_cell BK193.out 0).trans rfl, (blk_cell BK193.out 1).trans rfl, (blk_cell BK193.out 2).trans rfl, (blk_cell BK193.out 3).trans rfl⟩ (fun hHeld => ?_)
 clear hK K
 refine norm_ (a' := ?_) ?_ ?_
 rotate_left
 · show Act.put _ (some 5) _ = _; simp only [np]; rfl
 refine pu 3 6 (bm 17 13119) rfl rfl (any_of HT_.out (by kernel_rfl)) (fun _ _ _ h => h) (by rfl) (v := ?_) (a' := ?_) (by intro w'; go_simp; with_reducible rfl) (by simp only [np]; rfl) ?_
 refine one_ (i := 6) (N := some 9) (bm 17 13183) rfl rfl (one_of HT_.out (by kernel_rfl)) (by decide) (fun K hK => ?_)
 refine goes_ Try.func21 (by kernel_rfl) rfl #[.int .i64 a0_1, .int .i64 20] (by rfl) rfl rfl (by (try simp only [List.map_toArray, List.map_cons, List.map_nil]); first | done | rfl | (simp only [List.length_drop, List.length_take]; rfl)) ?_
 with_reducible refine (jacquardlaw16_rest.calls a0_1 20 t196 _ A3.out).mono ?_
 rintro e w' ⟨rfl, ⟨nd, rfl⟩⟩
 refine ⟨_, rfl, ?_⟩
 refine hK.out _ _ ⟨(blk_cell BK193.out 0).trans rfl, (blk_cell BK193.out 1).trans rfl, (blk_cell BK193.out 2).trans rfl, (blk_cell BK193.out 3).trans rfl⟩ (fun hHeld => ?_)
 clear hK K
 refine norm_ (a' := ?_) ?_ ?_
 rotate_left
 · show Act.put _ (some 9) _ = _; simp only [np]; rfl
 refine pu 7 10 (bm 17 13311) rfl rfl (any_of HT_.out (by kernel_rfl)) (fun _ _ _ h => h) (by rfl) (v := ?_) (a' := ?_) (by intro w'; go_simp; with_reducible rfl) (by simp only [np]; rfl) ?_
 refine one_ (i := 10) (N := some 13) (bm 17 14335) rfl rfl (one_of HT_.out (by kernel_rfl)) (by decide) (fun K hK => ?_)
 refine goes_ Try.func21 (by kernel_rfl) rfl #[.int .i64 a0_2, .int .i64 20] (by rfl) rfl rfl (by (try simp only [List.map_toArray, List.map_cons, List.map_nil]); first | done | rfl | (simp only [List.length_drop, List.length_take]; rfl)) ?_
 with_reducible refine (jacquardlaw16_rest.calls a0_2 20 t197 _ A4.out).mono ?_
 rintro e w' ⟨rfl, ⟨nd, rfl⟩⟩
 refine ⟨_, rfl, ?_⟩
 refine hK.out _ _ ⟨(blk_cell BK193.out 0).trans rfl, (blk_cell BK193.out 1).trans rfl, (blk_cell BK193.out 2).trans rfl, (blk_cell BK193.out 3).trans rfl⟩ (fun hHeld => ?_)
 clear hK K
 refine norm_ (a' := ?_) ?_ ?_
 rotate_left
 · show Act.put _ (some 13) _ = _; simp only [np]; rfl
 refine pu 11 14 (bm 17 16383) rfl rfl (any_of HT_.out (by kernel_rfl)) (fun _ _ _ h => h) (by rfl) (v := ?_) (a' := ?_) (by intro w'; go_simp; with_reducible rfl) (by simp only [np]; rfl) ?_
 refine one_ (i := 14) (N := some 17) (bm 17 32767) rfl rfl (one_of HT_.out (by kernel_rfl)) (by decide) (fun K hK => ?_)
 refine goes_ Try.func21 (by kernel_rfl) rfl #[.int .i64 a0_3, .int .i64 21] (by rfl) rfl rfl (by (try simp only [List.map_toArray, List.map_cons, List.map_nil]); first | done | rfl | (simp only [List.length_drop, List.length_take]; rfl)) ?_
 with_reducible refine (jacquardlaw16_rest.calls a0_3 21 t198 _ A5.out).mono ?_
 rintro e w' ⟨rfl, ⟨nd, rfl⟩⟩
 refine ⟨_, rfl, ?_⟩
 refine hK.out _ _ ⟨(blk_cell BK193.out 0).trans rfl, (blk_cell BK193.out 1).trans rfl, (blk_cell BK193.out 2).trans rfl, (blk_cell BK193.out 3).trans rfl⟩ (fun hHeld => ?_)
 clear hK K
 refine norm_ (a' := ?_) ?_ ?_
 rotate_left
 · show Act.put _ (some 17) _ = _; simp only [np]; rfl
 refine pu 15 18 (bm 17 65535) rfl rfl (any_of HT_.out (by kernel_rfl)) (fun _ _ _ h => h) (by rfl) (v := ?_) (a' := ?_) (by intro w'; go_simp; with_reducible rfl) (by simp only [np]; rfl) ?_
 refine one_ (i := 16) (N := none) (bm 17 131071) rfl rfl (one_of HT_.out (by kernel_rfl)) (by decide) (fun K hK => ?_)
 have hs9 : w8.cell? ⟨gb194, 0, none⟩ = some (.int .i64 0) := (blk_cell BK194.out 0).trans rfl
 have hfs9 := blk_frozen BK194.out 0
 have hns9_0 := NB193_194.out
 have hms9_0 := NB194_193.out
 have hs10 : w8.cell? ⟨gb194, 1, none⟩ = some (.int .i64 0) := (blk_cell BK194.out 1).trans rfl
 have hfs10 := blk_frozen BK194.out 1
 have hns10_0 := NB193_194.out
 have hms10_0 := NB194_193.out
 have hs11 : w8.cell? ⟨gb194, 2, none⟩ = some (.int .i64 0) := (blk_cell BK194.out 2).trans rfl
 have hfs11 := blk_frozen BK194.out 2
 have hns11_0 := NB193_194.out
 have hms11_0 := NB194_193.out
 have hs12 : w8.cell? ⟨gb194, 3, none⟩ = some (.int .i64 0) := (blk_cell BK194.out 3).trans rfl
 have hfs12 := blk_frozen BK194.out 3
 have hns12_0 := NB193_194.out
 have hms12_0 := NB194_193.out
 refine skip_ (w1 := ?_) (by rfl) rfl ?_ ?_
 rotate_left
 · go_simp; rfl
 refine hK.out _ _ ⟨((cell_far (p := ⟨gb194, _, none⟩) NB193_194.out _).trans (((cell_far (p := ⟨gb194, _, none⟩) NB193_194.out _).trans (((cell_far (p := ⟨gb194, _, none⟩) NB193_194.out _).trans (((cell_far (p := ⟨gb194, _, none⟩) NB193_194.out _).trans (hHeld.1)))))))), ((cell_far (p := ⟨gb194, _, none⟩) NB193_194.out _).trans (((cell_far (p := ⟨gb194, _, none⟩) NB193_194.out _).trans (((cell_far (p := ⟨gb194, _, none⟩) NB193_194.out _).trans (((cell_far (p := ⟨gb194, _, none⟩) NB193_194.out _).trans (hHeld.2.1)))))))), ((cell_far (p := ⟨gb194, _, none⟩) NB193_194.out _).trans (((cell_far (p := ⟨gb194, _, none⟩) NB193_194.out _).trans (((cell_far (p := ⟨gb194, _, none⟩) NB193_194.out _).trans (((cell_far (p := ⟨gb194, _, none⟩) NB193_194.out _).trans (hHeld.2.2.1)))))))), ((cell_far (p := ⟨gb194, _, none⟩) NB193_194.out _).trans (((cell_far (p := ⟨gb194, _, none⟩) NB193_194.out _).trans (((cell_far (p := ⟨gb194, _, none⟩) NB193_194.out _).trans (((cell_far (p := ⟨gb194, _, none⟩) NB193_194.out _).trans (hHeld.2.2.2))))))))⟩ (fun hHeld => ?_)
 clear hK K
 refine done_ (done_of HT_.out (by kernel_rfl)) ?_
 try go_wp2
 refine bodyPost_ret (results_cell_row rfl _ _ gb194 27 #[.int .i64 (wrap64 (1 + t195)), .int .i64 (wrap64 (1 + t196)), .int .i64 (wrap64 (1 + t197)), .int .i64 t198] (0, 0) _ rfl (by (with_reducible repeat (first | refine blk_drewN ?_ _ | refine blk_drew ?_ | refine blk_alloc ?_ _)); refine blk_put (cs := #[.int .i64 (wrap64 (1 + t195)), .int .i64 (wrap64 (1 + t196)), .int .i64 (wrap64 (1 + t197)), .int .i64 0]) ?_ 3 _ rfl; (with_reducible repeat (first | refine blk_drewN ?_ _ | refine blk_drew ?_ | refine blk_alloc ?_ _)); refine blk_put (cs := #[.int .i64 (wrap64 (1 + t195)), .int .i64 (wrap64 (1 + t196)), .int .i64 0, .int .i64 0]) ?_ 2 _ rfl; (with_reducible repeat (first | refine blk_drewN ?_ _ | refine blk_drew ?_ | refine blk_alloc ?_ _)); refine blk_put (cs := #[.int .i64 (wrap64 (1 + t195)), .int .i64 0, .int .i64 0, .int .i64 0]) ?_ 1 _ rfl; (with_reducible repeat (first | refine blk_drewN ?_ _ | refine blk_drew ?_ | refine blk_alloc ?_ _)); refine blk_put (cs := #[.int .i64 0, .int .i64 0, .int .i64 0, .int .i64 0]) ?_ 0 _ rfl; (with_reducible repeat (first | refine blk_drewN ?_ _ | refine blk_drew ?_ | refine blk_alloc ?_ _)); exact BK194.out) Try.underlying27 rfl (by kernel_rfl)) rfl ?_
 exact ⟨by first | rfl | (simp [errW_none, errW_some] <;> rfl) | (simp [*, errW_none, errW_some] <;> rfl), by repeat (first | (with_reducible first | exact HB.out | apply below_alloc | apply pw_below_drewN | apply below_drew1 | refine below_set ?_ GE193.out | refine below_set ?_ GE194.out) | exact HB.out)⟩
def jacquardlaw16_ld.f (a0 : Int) (a1 : Int) : Option (Int × Int × Int × Int × Int × Int × Int × List Int × Int) := some (24, a0, 0, a1, 0, 0, 0, ([] : List Int), 0)
set_option maxHeartbeats 8000000 in
set_option maxRecDepth 100000 in
theorem jacquardlaw16_ld.calls (a0 : Int) (a1 : Int) (r1 : Int) (r2 : Int) (r3 : Int) (r4 : Int) (r5 : Int) (r6 : Int) (r7 : Int) (r8 : List Int) (r9 : Int) (w : World) (h : jacquardlaw16_ld.f a0 a1 = some (r1, r2, r3, r4, r5, r6, r7, r8, r9)) :
    Calls Try.prog 18 #[.int .i64 a0, .int .i64 a1] w fun e w' => ∃ v7_ : Value, e = .returned (.agg #[.int .i64 r1, .int .i64 r2, .int .i64 r3, .int .i64 r4, .int .i64 r5, .int .i64 r6, .int .i32 r7, v7_, .int .i64 r9]) ∧ Kd.R (Kd.int .i64) 3 w' w.heap.size (fun _ => True) v7_ r8 ∧ Below w.heap.size w w' := by
 have hu37 := Try.underlying37
 have hu35 := Try.underlying35
 have HB := Aside0.mk (Below.refl w.heap.size w)
 have H : (some (24, a0, 0, a1, 0, 0, 0, ([] : List Int), 0)) = some (r1, r2, r3, r4, r5, r6, r7, r8, r9) := h
 clear h
 simp only [Option.some.injEq, Prod.mk.injEq] at H
 obtain ⟨rfl, rfl, rfl, rfl, rfl, rfl, rfl, rfl, rfl⟩ := H
 go_enter Try.func18, Try.ntmps18
 go_wp2_with (first | ((with_reducible refine gate_dst (N := 4) rfl ?_); refine box_event ?hg (N := 4) ?hd (cs := #[.int .i64 0, .int .i64 0, .int .i64 0, .int .i64 0, .int .i64 0, .int .i64 0, .int .i32 0, .slice none 0 0, .int .i64 0]) (t := 37) ?hr ?_; (case hd => rfl); (case hg => rfl); (case hr => first | (go_simp; done) | (go_simp; rfl)); intro gb199 hg w3 hbox hb; have n0_ := Aside0.mk (below_step (by repeat (first | (with_reducible first | exact HB.out | apply below_alloc | apply pw_below_drewN | apply below_drew1) | exact HB.out)) hb); have n1_ := Aside0.mk (hbox); have n2_ := Aside0.mk ((by rw [hg]; exact (below_size (by repeat (first | (with_reducible first | exact HB.out | apply below_alloc | apply pw_below_drewN | apply below_drew1) | exact HB.out))) : w.heap.size ≤ gb199)); have n3_ := Aside0.mk ((by rw [hg]; exact (below_size (by repeat (first | (with_reducible first | exact HB.out | apply below_alloc | apply pw_below_drewN | apply below_drew1) | exact HB.out))) : w.heap.size ≤ gb199)); clear HB; have HB := n0_; have BK199 := n1_; have GW199 := n2_; have GE199 := n3_; clear n0_ n1_ n2_ n3_; clear hb hbox hg; have hcz4_0 : w3.cell? ⟨gb199, 0, none⟩ = some (.int .i64 0) := (blk_cell BK199.out 0).trans rfl; have hcz4_1 : w3.cell? ⟨gb199, 1, none⟩ = some (.int .i64 0) := (blk_cell BK199.out 1).trans rfl; have hcz4_2 : w3.cell? ⟨gb199, 2, none⟩ = some (.int .i64 0) := (blk_cell BK199.out 2).trans rfl; have hcz4_3 : w3.cell? ⟨gb199, 3, none⟩ = some (.int .i64 0) := (blk_cell BK199.out 3).trans rfl; have hcz4_4 : w3.cell? ⟨gb199, 4, none⟩ = some (.int .i64 0) := (blk_cell BK199.out 4).trans rfl; have hcz4_5 : w3.cell? ⟨gb199, 5, none⟩ = some (.int .i64 0) := (blk_cell BK199.out 5).trans rfl; have hcz4_6 : w3.cell? ⟨gb199, 6, none⟩ = some (.int .i32 0) := (blk_cell BK199.out 6).trans rfl; have hcz4_7 : w3.cell? ⟨gb199, 7, none⟩ = some (.slice none 0 0) := (blk_cell BK199.out 7).trans rfl; have hcz4_8 : w3.cell? ⟨gb199, 8, none⟩ = some (.int .i64 0) := (blk_cell BK199.out 8).trans rfl; have hfz4_0 := blk_frozen BK199.out 0; have hfz4_1 := blk_frozen BK199.out 1; have hfz4_2 := blk_frozen BK199.out 2; have hfz4_3 := blk_frozen BK199.out 3; have hfz4_4 := blk_frozen BK199.out 4; have hfz4_5 := blk_frozen BK199.out 5; have hfz4_6 := blk_frozen BK199.out 6; have hfz4_7 := blk_frozen BK199.out 7; have hfz4_8 := blk_frozen BK199.out 8))
 refine bodyPost_ret (results_cell_row rfl _ _ gb199 37 #[.int .i64 24, .int .i64 a0, .int .i64 0, .int .i64 a1, .int .i64 0, .int .i64 0, .int .i32 0, .slice none 0 0, .int .i64 0] (0, 0) _ rfl (by (with_reducible repeat (first | refine blk_drewN ?_ _ | refine blk_drew ?_ | refine blk_alloc ?_ _)); refine blk_put (cs := #[.int .i64 24, .int .i64 a0, .int .i64 0, .int .i64 a1, .int .i64 0, .int .i64 0, .int .i32 0, .slice none 0 0, .int .i64 0]) ?_ 8 _ rfl; (with_reducible repeat (first | refine blk_drewN ?_ _ | refine blk_drew ?_ | refine blk_alloc ?_ _)); refine blk_put (cs := #[.int .i64 24, .int .i64 a0, .int .i64 0, .int .i64 a1, .int .i64 0, .int .i64 0, .int .i32 0, .slice none 0 0, .int .i64 0]) ?_ 7 _ rfl; (with_reducible repeat (first | refine blk_drewN ?_ _ | refine blk_drew ?_ | refine blk_alloc ?_ _)); refine blk_put (cs := #[.int .i64 24, .int .i64 a0, .int .i64 0, .int .i64 a1, .int .i64 0, .int .i64 0, .int .i32 0, .slice none 0 0, .int .i64 0]) ?_ 6 _ rfl; (with_reducible repeat (first | refine blk_drewN ?_ _ | refine blk_drew ?_ | refine blk_alloc ?_ _)); refine blk_put (cs := #[.int .i64 24, .int .i64 a0, .int .i64 0, .int .i64 a1, .int .i64 0, .int .i64 0, .int .i32 0, .slice none 0 0, .int .i64 0]) ?_ 5 _ rfl; (with_reducible repeat (first | refine blk_drewN ?_ _ | refine blk_drew ?_ | refine blk_alloc ?_ _)); refine blk_put (cs := #[.int .i64 24, .int .i64 a0, .int .i64 0, .int .i64 a1, .int .i64 0, .int .i64 0, .int .i32 0, .slice none 0 0, .int .i64 0]) ?_ 4 _ rfl; (with_reducible repeat (first | refine blk_drewN ?_ _ | refine blk_drew ?_ | refine blk_alloc ?_ _)); refine blk_put (cs := #[.int .i64 24, .int .i64 a0, .int .i64 0, .int .i64 0, .int .i64 0, .int .i64 0, .int .i32 0, .slice none 0 0, .int .i64 0]) ?_ 3 _ rfl; (with_reducible repeat (first | refine blk_drewN ?_ _ | refine blk_drew ?_ | refine blk_alloc ?_ _)); refine blk_put (cs := #[.int .i64 24, .int .i64 a0, .int .i64 0, .int .i64 0, .int .i64 0, .int .i64 0, .int .i32 0, .slice none 0 0, .int .i64 0]) ?_ 2 _ rfl; (with_reducible repeat (first | refine blk_drewN ?_ _ | refine blk_drew ?_ | refine blk_alloc ?_ _)); refine blk_put (cs := #[.int .i64 24, .int .i64 0, .int .i64 0, .int .i64 0, .int .i64 0, .int .i64 0, .int .i32 0, .slice none 0 0, .int .i64 0]) ?_ 1 _ rfl; (with_reducible repeat (first | refine blk_drewN ?_ _ | refine blk_drew ?_ | refine blk_alloc ?_ _)); refine blk_put (cs := #[.int .i64 0, .int .i64 0, .int .i64 0, .int .i64 0, .int .i64 0, .int .i64 0, .int .i32 0, .slice none 0 0, .int .i64 0]) ?_ 0 _ rfl; (with_reducible repeat (first | refine blk_drewN ?_ _ | refine blk_drew ?_ | refine blk_alloc ?_ _)); exact BK199.out) Try.underlying37 rfl (by kernel_rfl)) rfl ?_
 exact ⟨_, by first | rfl | (simp [errW_none, errW_some] <;> rfl) | (simp [*, errW_none, errW_some] <;> rfl), by first | exact Kd.R_nil _ _ _ _ _ | exact Kd.N_nil _ _ _ _ _ | exact Kd.V_nil _ _ _ _ _ | exact Kd.Q_nil _ _ _ _ _ | exact Kd.S_nil _ _ _ _ _, by repeat (first | (with_reducible first | exact HB.out | apply below_alloc | apply pw_below_drewN | apply below_drew1 | refine below_set ?_ GE199.out) | exact HB.out)⟩
def jacquardlaw16_addi.f (a0 : Int) (a1 : Int) : Option (Int × Int × Int × Int × Int × Int × Int × List Int × Int) := some (18, a0, 0, a1, 0, 0, 1, ([] : List Int), 0)
set_option maxHeartbeats 8000000 in
set_option maxRecDepth 100000 in
theorem jacquardlaw16_addi.calls (a0 : Int) (a1 : Int) (r1 : Int) (r2 : Int) (r3 : Int) (r4 : Int) (r5 : Int) (r6 : Int) (r7 : Int) (r8 : List Int) (r9 : Int) (w : World) (h : jacquardlaw16_addi.f a0 a1 = some (r1, r2, r3, r4, r5, r6, r7, r8, r9)) :
    Calls Try.prog 19 #[.int .i64 a0, .int .i64 a1] w fun e w' => ∃ v7_ : Value, e = .returned (.agg #[.int .i64 r1, .int .i64 r2, .int .i64 r3, .int .i64 r4, .int .i64 r5, .int .i64 r6, .int .i32 r7, v7_, .int .i64 r9]) ∧ Kd.R (Kd.int .i64) 3 w' w.heap.size (fun _ => True) v7_ r8 ∧ Below w.heap.size w w' := by
 have hu37 := Try.underlying37
 have hu35 := Try.underlying35
 have HB := Aside0.mk (Below.refl w.heap.size w)
 have H : (some (18, a0, 0, a1, 0, 0, 1, ([] : List Int), 0)) = some (r1, r2, r3, r4, r5, r6, r7, r8, r9) := h
 clear h
 simp only [Option.some.injEq, Prod.mk.injEq] at H
 obtain ⟨rfl, rfl, rfl, rfl, rfl, rfl, rfl, rfl, rfl⟩ := H
 go_enter Try.func19, Try.ntmps19
 go_wp2_with (first | ((with_reducible refine gate_dst (N := 4) rfl ?_); refine box_event ?hg (N := 4) ?hd (cs := #[.int .i64 0, .int .i64 0, .int .i64 0, .int .i64 0, .int .i64 0, .int .i64 0, .int .i32 0, .slice none 0 0, .int .i64 0]) (t := 37) ?hr ?_; (case hd => rfl); (case hg => rfl); (case hr => first | (go_simp; done) | (go_simp; rfl)); intro gb200 hg w3 hbox hb; have n0_ := Aside0.mk (below_step (by repeat (first | (with_reducible first | exact HB.out | apply below_alloc | apply pw_below_drewN | apply below_drew1) | exact HB.out)) hb); have n1_ := Aside0.mk (hbox); have n2_ := Aside0.mk ((by rw [hg]; exact (below_size (by repeat (first | (with_reducible first | exact HB.out | apply below_alloc | apply pw_below_drewN | apply below_drew1) | exact HB.out))) : w.heap.size ≤ gb200)); have n3_ := Aside0.mk ((by rw [hg]; exact (below_size (by repeat (first | (with_reducible first | exact HB.out | apply below_alloc | apply pw_below_drewN | apply below_drew1) | exact HB.out))) : w.heap.size ≤ gb200)); clear HB; have HB := n0_; have BK200 := n1_; have GW200 := n2_; have GE200 := n3_; clear n0_ n1_ n2_ n3_; clear hb hbox hg; have hcz4_0 : w3.cell? ⟨gb200, 0, none⟩ = some (.int .i64 0) := (blk_cell BK200.out 0).trans rfl; have hcz4_1 : w3.cell? ⟨gb200, 1, none⟩ = some (.int .i64 0) := (blk_cell BK200.out 1).trans rfl; have hcz4_2 : w3.cell? ⟨gb200, 2, none⟩ = some (.int .i64 0) := (blk_cell BK200.out 2).trans rfl; have hcz4_3 : w3.cell? ⟨gb200, 3, none⟩ = some (.int .i64 0) := (blk_cell BK200.out 3).trans rfl; have hcz4_4 : w3.cell? ⟨gb200, 4, none⟩ = some (.int .i64 0) := (blk_cell BK200.out 4).trans rfl; have hcz4_5 : w3.cell? ⟨gb200, 5, none⟩ = some (.int .i64 0) := (blk_cell BK200.out 5).trans rfl; have hcz4_6 : w3.cell? ⟨gb200, 6, none⟩ = some (.int .i32 0) := (blk_cell BK200.out 6).trans rfl; have hcz4_7 : w3.cell? ⟨gb200, 7, none⟩ = some (.slice none 0 0) := (blk_cell BK200.out 7).trans rfl; have hcz4_8 : w3.cell? ⟨gb200, 8, none⟩ = some (.int .i64 0) := (blk_cell BK200.out 8).trans rfl; have hfz4_0 := blk_frozen BK200.out 0; have hfz4_1 := blk_frozen BK200.out 1; have hfz4_2 := blk_frozen BK200.out 2; have hfz4_3 := blk_frozen BK200.out 3; have hfz4_4 := blk_frozen BK200.out 4; have hfz4_5 := blk_frozen BK200.out 5; have hfz4_6 := blk_frozen BK200.out 6; have hfz4_7 := blk_frozen BK200.out 7; have hfz4_8 := blk_frozen BK200.out 8))
 refine bodyPost_ret (results_cell_row rfl _ _ gb200 37 #[.int .i64 18, .int .i64 a0, .int .i64 0, .int .i64 a1, .int .i64 0, .int .i64 0, .int .i32 1, .slice none 0 0, .int .i64 0] (0, 0) _ rfl (by (with_reducible repeat (first | refine blk_drewN ?_ _ | refine blk_drew ?_ | refine blk_alloc ?_ _)); refine blk_put (cs := #[.int .i64 18, .int .i64 a0, .int .i64 0, .int .i64 a1, .int .i64 0, .int .i64 0, .int .i32 1, .slice none 0 0, .int .i64 0]) ?_ 8 _ rfl; (with_reducible repeat (first | refine blk_drewN ?_ _ | refine blk_drew ?_ | refine blk_alloc ?_ _)); refine blk_put (cs := #[.int .i64 18, .int .i64 a0, .int .i64 0, .int .i64 a1, .int .i64 0, .int .i64 0, .int .i32 1, .slice none 0 0, .int .i64 0]) ?_ 7 _ rfl; (with_reducible repeat (first | refine blk_drewN ?_ _ | refine blk_drew ?_ | refine blk_alloc ?_ _)); refine blk_put (cs := #[.int .i64 18, .int .i64 a0, .int .i64 0, .int .i64 a1, .int .i64 0, .int .i64 0, .int .i32 0, .slice none 0 0, .int .i64 0]) ?_ 6 _ rfl; (with_reducible repeat (first | refine blk_drewN ?_ _ | refine blk_drew ?_ | refine blk_alloc ?_ _)); refine blk_put (cs := #[.int .i64 18, .int .i64 a0, .int .i64 0, .int .i64 a1, .int .i64 0, .int .i64 0, .int .i32 0, .slice none 0 0, .int .i64 0]) ?_ 5 _ rfl; (with_reducible repeat (first | refine blk_drewN ?_ _ | refine blk_drew ?_ | refine blk_alloc ?_ _)); refine blk_put (cs := #[.int .i64 18, .int .i64 a0, .int .i64 0, .int .i64 a1, .int .i64 0, .int .i64 0, .int .i32 0, .slice none 0 0, .int .i64 0]) ?_ 4 _ rfl; (with_reducible repeat (first | refine blk_drewN ?_ _ | refine blk_drew ?_ | refine blk_alloc ?_ _)); refine blk_put (cs := #[.int .i64 18, .int .i64 a0, .int .i64 0, .int .i64 0, .int .i64 0, .int .i64 0, .int .i32 0, .slice none 0 0, .int .i64 0]) ?_ 3 _ rfl; (with_reducible repeat (first | refine blk_drewN ?_ _ | refine blk_drew ?_ | refine blk_alloc ?_ _)); refine blk_put (cs := #[.int .i64 18, .int .i64 a0, .int .i64 0, .int .i64 0, .int .i64 0, .int .i64 0, .int .i32 0, .slice none 0 0, .int .i64 0]) ?_ 2 _ rfl; (with_reducible repeat (first | refine blk_drewN ?_ _ | refine blk_drew ?_ | refine blk_alloc ?_ _)); refine blk_put (cs := #[.int .i64 18, .int .i64 0, .int .i64 0, .int .i64 0, .int .i64 0, .int .i64 0, .int .i32 0, .slice none 0 0, .int .i64 0]) ?_ 1 _ rfl; (with_reducible repeat (first | refine blk_drewN ?_ _ | refine blk_drew ?_ | refine blk_alloc ?_ _)); refine blk_put (cs := #[.int .i64 0, .int .i64 0, .int .i64 0, .int .i64 0, .int .i64 0, .int .i64 0, .int .i32 0, .slice none 0 0, .int .i64 0]) ?_ 0 _ rfl; (with_reducible repeat (first | refine blk_drewN ?_ _ | refine blk_drew ?_ | refine blk_alloc ?_ _)); exact BK200.out) Try.underlying37 rfl (by kernel_rfl)) rfl ?_
 exact ⟨_, by first | rfl | (simp [errW_none, errW_some] <;> rfl) | (simp [*, errW_none, errW_some] <;> rfl), by first | exact Kd.R_nil _ _ _ _ _ | exact Kd.N_nil _ _ _ _ _ | exact Kd.V_nil _ _ _ _ _ | exact Kd.Q_nil _ _ _ _ _ | exact Kd.S_nil _ _ _ _ _, by repeat (first | (with_reducible first | exact HB.out | apply below_alloc | apply pw_below_drewN | apply below_drew1 | refine below_set ?_ GE200.out) | exact HB.out)⟩
def jacquardlaw16_li.f (a0 : Int) : Option (Int × Int × Int × Int × Int × Int × Int × List Int × Int) := some (3, a0, 0, 0, 0, 0, 7, ([] : List Int), 0)
set_option maxHeartbeats 8000000 in
set_option maxRecDepth 100000 in
theorem jacquardlaw16_li.calls (a0 : Int) (r1 : Int) (r2 : Int) (r3 : Int) (r4 : Int) (r5 : Int) (r6 : Int) (r7 : Int) (r8 : List Int) (r9 : Int) (w : World) (h : jacquardlaw16_li.f a0 = some (r1, r2, r3, r4, r5, r6, r7, r8, r9)) :
    Calls Try.prog 20 #[.int .i64 a0] w fun e w' => ∃ v7_ : Value, e = .returned (.agg #[.int .i64 r1, .int .i64 r2, .int .i64 r3, .int .i64 r4, .int .i64 r5, .int .i64 r6, .int .i32 r7, v7_, .int .i64 r9]) ∧ Kd.R (Kd.int .i64) 3 w' w.heap.size (fun _ => True) v7_ r8 ∧ Below w.heap.size w w' := by
 have hu37 := Try.underlying37
 have hu35 := Try.underlying35
 have HB := Aside0.mk (Below.refl w.heap.size w)
 have H : (some (3, a0, 0, 0, 0, 0, 7, ([] : List Int), 0)) = some (r1, r2, r3, r4, r5, r6, r7, r8, r9) := h
 clear h
 simp only [Option.some.injEq, Prod.mk.injEq] at H
 obtain ⟨rfl, rfl, rfl, rfl, rfl, rfl, rfl, rfl, rfl⟩ := H
 go_enter Try.func20, Try.ntmps20
 go_wp2_with (first | ((with_reducible refine gate_dst (N := 2) rfl ?_); refine box_event ?hg (N := 2) ?hd (cs := #[.int .i64 0, .int .i64 0, .int .i64 0, .int .i64 0, .int .i64 0, .int .i64 0, .int .i32 0, .slice none 0 0, .int .i64 0]) (t := 37) ?hr ?_; (case hd => rfl); (case hg => rfl); (case hr => first | (go_simp; done) | (go_simp; rfl)); intro gb201 hg w2 hbox hb; have n0_ := Aside0.mk (below_step (by repeat (first | (with_reducible first | exact HB.out | apply below_alloc | apply pw_below_drewN | apply below_drew1) | exact HB.out)) hb); have n1_ := Aside0.mk (hbox); have n2_ := Aside0.mk ((by rw [hg]; exact (below_size (by repeat (first | (with_reducible first | exact HB.out | apply below_alloc | apply pw_below_drewN | apply below_drew1) | exact HB.out))) : w.heap.size ≤ gb201)); have n3_ := Aside0.mk ((by rw [hg]; exact (below_size (by repeat (first | (with_reducible first | exact HB.out | apply below_alloc | apply pw_below_drewN | apply below_drew1) | exact HB.out))) : w.heap.size ≤ gb201)); clear HB; have HB := n0_; have BK201 := n1_; have GW201 := n2_; have GE201 := n3_; clear n0_ n1_ n2_ n3_; clear hb hbox hg; have hcz3_0 : w2.cell? ⟨gb201, 0, none⟩ = some (.int .i64 0) := (blk_cell BK201.out 0).trans rfl; have hcz3_1 : w2.cell? ⟨gb201, 1, none⟩ = some (.int .i64 0) := (blk_cell BK201.out 1).trans rfl; have hcz3_2 : w2.cell? ⟨gb201, 2, none⟩ = some (.int .i64 0) := (blk_cell BK201.out 2).trans rfl; have hcz3_3 : w2.cell? ⟨gb201, 3, none⟩ = some (.int .i64 0) := (blk_cell BK201.out 3).trans rfl; have hcz3_4 : w2.cell? ⟨gb201, 4, none⟩ = some (.int .i64 0) := (blk_cell BK201.out 4).trans rfl; have hcz3_5 : w2.cell? ⟨gb201, 5, none⟩ = some (.int .i64 0) := (blk_cell BK201.out 5).trans rfl; have hcz3_6 : w2.cell? ⟨gb201, 6, none⟩ = some (.int .i32 0) := (blk_cell BK201.out 6).trans rfl; have hcz3_7 : w2.cell? ⟨gb201, 7, none⟩ = some (.slice none 0 0) := (blk_cell BK201.out 7).trans rfl; have hcz3_8 : w2.cell? ⟨gb201, 8, none⟩ = some (.int .i64 0) := (blk_cell BK201.out 8).trans rfl; have hfz3_0 := blk_frozen BK201.out 0; have hfz3_1 := blk_frozen BK201.out 1; have hfz3_2 := blk_frozen BK201.out 2; have hfz3_3 := blk_frozen BK201.out 3; have hfz3_4 := blk_frozen BK201.out 4; have hfz3_5 := blk_frozen BK201.out 5; have hfz3_6 := blk_frozen BK201.out 6; have hfz3_7 := blk_frozen BK201.out 7; have hfz3_8 := blk_frozen BK201.out 8))
 refine bodyPost_ret (results_cell_row rfl _ _ gb201 37 #[.int .i64 3, .int .i64 a0, .int .i64 0, .int .i64 0, .int .i64 0, .int .i64 0, .int .i32 7, .slice none 0 0, .int .i64 0] (0, 0) _ rfl (by (with_reducible repeat (first | refine blk_drewN ?_ _ | refine blk_drew ?_ | refine blk_alloc ?_ _)); refine blk_put (cs := #[.int .i64 3, .int .i64 a0, .int .i64 0, .int .i64 0, .int .i64 0, .int .i64 0, .int .i32 7, .slice none 0 0, .int .i64 0]) ?_ 8 _ rfl; (with_reducible repeat (first | refine blk_drewN ?_ _ | refine blk_drew ?_ | refine blk_alloc ?_ _)); refine blk_put (cs := #[.int .i64 3, .int .i64 a0, .int .i64 0, .int .i64 0, .int .i64 0, .int .i64 0, .int .i32 7, .slice none 0 0, .int .i64 0]) ?_ 7 _ rfl; (with_reducible repeat (first | refine blk_drewN ?_ _ | refine blk_drew ?_ | refine blk_alloc ?_ _)); refine blk_put (cs := #[.int .i64 3, .int .i64 a0, .int .i64 0, .int .i64 0, .int .i64 0, .int .i64 0, .int .i32 0, .slice none 0 0, .int .i64 0]) ?_ 6 _ rfl; (with_reducible repeat (first | refine blk_drewN ?_ _ | refine blk_drew ?_ | refine blk_alloc ?_ _)); refine blk_put (cs := #[.int .i64 3, .int .i64 a0, .int .i64 0, .int .i64 0, .int .i64 0, .int .i64 0, .int .i32 0, .slice none 0 0, .int .i64 0]) ?_ 5 _ rfl; (with_reducible repeat (first | refine blk_drewN ?_ _ | refine blk_drew ?_ | refine blk_alloc ?_ _)); refine blk_put (cs := #[.int .i64 3, .int .i64 a0, .int .i64 0, .int .i64 0, .int .i64 0, .int .i64 0, .int .i32 0, .slice none 0 0, .int .i64 0]) ?_ 4 _ rfl; (with_reducible repeat (first | refine blk_drewN ?_ _ | refine blk_drew ?_ | refine blk_alloc ?_ _)); refine blk_put (cs := #[.int .i64 3, .int .i64 a0, .int .i64 0, .int .i64 0, .int .i64 0, .int .i64 0, .int .i32 0, .slice none 0 0, .int .i64 0]) ?_ 3 _ rfl; (with_reducible repeat (first | refine blk_drewN ?_ _ | refine blk_drew ?_ | refine blk_alloc ?_ _)); refine blk_put (cs := #[.int .i64 3, .int .i64 a0, .int .i64 0, .int .i64 0, .int .i64 0, .int .i64 0, .int .i32 0, .slice none 0 0, .int .i64 0]) ?_ 2 _ rfl; (with_reducible repeat (first | refine blk_drewN ?_ _ | refine blk_drew ?_ | refine blk_alloc ?_ _)); refine blk_put (cs := #[.int .i64 3, .int .i64 0, .int .i64 0, .int .i64 0, .int .i64 0, .int .i64 0, .int .i32 0, .slice none 0 0, .int .i64 0]) ?_ 1 _ rfl; (with_reducible repeat (first | refine blk_drewN ?_ _ | refine blk_drew ?_ | refine blk_alloc ?_ _)); refine blk_put (cs := #[.int .i64 0, .int .i64 0, .int .i64 0, .int .i64 0, .int .i64 0, .int .i64 0, .int .i32 0, .slice none 0 0, .int .i64 0]) ?_ 0 _ rfl; (with_reducible repeat (first | refine blk_drewN ?_ _ | refine blk_drew ?_ | refine blk_alloc ?_ _)); exact BK201.out) Try.underlying37 rfl (by kernel_rfl)) rfl ?_
 exact ⟨_, by first | rfl | (simp [errW_none, errW_some] <;> rfl) | (simp [*, errW_none, errW_some] <;> rfl), by first | exact Kd.R_nil _ _ _ _ _ | exact Kd.N_nil _ _ _ _ _ | exact Kd.V_nil _ _ _ _ _ | exact Kd.Q_nil _ _ _ _ _ | exact Kd.S_nil _ _ _ _ _, by repeat (first | (with_reducible first | exact HB.out | apply below_alloc | apply pw_below_drewN | apply below_drew1 | refine below_set ?_ GE201.out) | exact HB.out)⟩
def sched_changes.f (a0_0 : Int) (a0_1 : Int) (a0_2 : Int) (a0_3 : Int) (a0_4 : Int) (a0_5 : Int) (a0_6 : Int) (l0_7 : List Int) : Option (List Int) := (phys_Makes.f a0_0 a0_1 a0_2 a0_3 a0_4 a0_5 a0_6 l0_7).bind fun t203 => ((phys_Spoils.f a0_0 a0_1 a0_2 a0_3 a0_4 a0_5 a0_6 l0_7).bind fun t206 => (if t203.length + t206.length < 17592186044416 then (some (t203 ++ t206)) else (none)))
set_option maxHeartbeats 8000000 in
set_option maxRecDepth 100000 in
theorem sched_changes.calls (a0_0 : Int) (a0_1 : Int) (a0_2 : Int) (a0_3 : Int) (a0_4 : Int) (a0_5 : Int) (a0_6 : Int) (A0_7 : Option Addr) (c0_7 : Nat) (l0_7 : List Int) (r : List Int) (w : World) (hr0_7 : Kd.C (Kd.int .i64) w A0_7 l0_7.length l0_7) (hc0_7 : l0_7.length ≤ c0_7) (h : sched_changes.f a0_0 a0_1 a0_2 a0_3 a0_4 a0_5 a0_6 l0_7 = some r) :
    Calls Try.prog 24 #[.agg #[.int .i64 a0_0, .int .i64 a0_1, .int .i64 a0_2, .int .i64 a0_3, .int .i64 a0_4, .int .i64 a0_5, .int .i32 a0_6, .slice A0_7 l0_7.length c0_7]] w fun e w' => ∃ v0_ : Value, e = .returned (v0_) ∧ Kd.R (Kd.int .i64) 3 w' w.heap.size (fun _ => True) v0_ r ∧ Below w.heap.size w w' := by
 have hu35 := Try.underlying35
 have HR0_7 := Aside0.mk hr0_7
 have HC0_7 := Aside0.mk hc0_7
 clear hr0_7 hc0_7
 have HB := Aside0.mk (Below.refl w.heap.size w)
 have H : ((phys_Makes.f a0_0 a0_1 a0_2 a0_3 a0_4 a0_5 a0_6 l0_7).bind fun t203 => ((phys_Spoils.f a0_0 a0_1 a0_2 a0_3 a0_4 a0_5 a0_6 l0_7).bind fun t206 => (if t203.length + t206.length < 17592186044416 then (some (t203 ++ t206)) else (none)))) = some r := h
 clear h
 replace H := Option.bind_eq_some_iff.mp H
 obtain ⟨t203, A20, H⟩ := H
 replace H : ((phys_Spoils.f a0_0 a0_1 a0_2 a0_3 a0_4 a0_5 a0_6 l0_7).bind fun t206 => (if t203.length + t206.length < 17592186044416 then (some (t203 ++ t206)) else (none))) = some r := H
 have A2 := Aside0.mk A20
 clear A20
 replace H := Option.bind_eq_some_iff.mp H
 obtain ⟨t206, A30, H⟩ := H
 replace H : (if t203.length + t206.length < 17592186044416 then (some (t203 ++ t206)) else (none)) = some r := H
 have A3 := Aside0.mk A30
 clear A30
 by_cases c4 : t203.length + t206.length < 17592186044416
 · rw [if_pos c4] at H
   have LMc4 := Aside0.mk c4
   clear c4
   obtain ⟨y209, hy209⟩ : ∃ y_ : List Int, y_ = (t203 ++ t206) := ⟨_, rfl⟩
   replace H : (some y209) = some r := by first | (rw [hy209]; with_reducible exact H) | (have H2_ := (Option.bind_some _ _).symm.trans H; rw [hy209]; with_reducible exact H2_) | (have H2_ := (Option.bind_some _ _).symm.trans H; with_reducible exact H2_) | with_reducible exact H | (rw [hy209]; exact H) | exact H
   have Ny209 := Aside0.mk hy209
   clear hy209
   obtain rfl := Option.some.inj H
   go_enter Try.func24, Try.ntmps24
   try go_wp2_with (first | ((with_reducible refine gate_dst (N := 1) rfl ?_); refine box_event ?hg (N := 1) ?hd (cs := #[.int .i64 a0_0, .int .i64 a0_1, .int .i64 a0_2, .int .i64 a0_3, .int .i64 a0_4, .int .i64 a0_5, .int .i32 a0_6, .slice A0_7 l0_7.length c0_7]) (t := 35) ?hr ?_; (case hd => rfl); (case hg => rfl); (case hr => first | (go_simp; done) | (go_simp; rfl)); intro gb202 hg w5 hbox hb; have n0_ := Aside0.mk (below_step (by repeat (first | (with_reducible first | exact HB.out | apply below_alloc | apply pw_below_drewN | apply below_drew1) | exact HB.out)) hb); have n1_ := Aside0.mk (hbox); have n2_ := Aside0.mk ((by rw [hg]; exact (below_size (by repeat (first | (with_reducible first | exact HB.out | apply below_alloc | apply pw_below_drewN | apply below_drew1) | exact HB.out))) : w.heap.size ≤ gb202)); have n3_ := Aside0.mk ((by rw [hg]; exact (below_size (by repeat (first | (with_reducible first | exact HB.out | apply below_alloc | apply pw_below_drewN | apply below_drew1) | exact HB.out))) : w.heap.size ≤ gb202)); clear HB; have HB := n0_; have BK202 := n1_; have GW202 := n2_; have GE202 := n3_; clear n0_ n1_ n2_ n3_; clear hb hbox hg))
   have n0_ := Aside0.mk (blk_drew BK202.out)
   have n1_ := Aside0.mk (below_drew1 HB.out)
   clear BK202; clear HB
   have BK202 := n0_
   have HB := n1_
   clear n0_ n1_
   refine start_ (n := 6) (S := fun w' => w'.cell? ⟨gb202, 0, none⟩ = some (.int .i64 a0_0) ∧ w'.cell? ⟨gb202, 1, none⟩ = some (.int .i64 a0_1) ∧ w'.cell? ⟨gb202, 2, none⟩ = some (.int .i64 a0_2) ∧ w'.cell? ⟨gb202, 3, none⟩ = some (.int .i64 a0_3) ∧ w'.cell? ⟨gb202, 4, none⟩ = some (.int .i64 a0_4) ∧ w'.cell? ⟨gb202, 5, none⟩ = some (.int .i64 a0_5) ∧ w'.cell? ⟨gb202, 6, none⟩ = some (.int .i32 a0_6) ∧ w'.cell? ⟨gb202, 7, none⟩ = some (.slice A0_7 l0_7.length c0_7)) (ds := []) (bm 6 0) (by kernel_rfl) rfl rfl ⟨(blk_cell BK202.out 0).trans rfl, (blk_cell BK202.out 1).trans rfl, (blk_cell BK202.out 2).trans rfl, (blk_cell BK202.out 3).trans rfl, (blk_cell BK202.out 4).trans rfl, (blk_cell BK202.out 5).trans rfl, (blk_cell BK202.out 6).trans rfl, (blk_cell BK202.out 7).trans rfl⟩ (fun hHeld => ?_)
   generalize w5.drew = w6 at BK202 HB hHeld ⊢
   refine tu 0 3 (bm 6 1) rfl rfl (by kernel_rfl) (fun _ _ _ h => h) (by rfl) (v := ?_) (a' := ?_) (by rintro w' ⟨s0, s1, s2, s3, s4, s5, s6, s7⟩; go_simp; with_reducible rfl) hHeld (by simp only [np]; rfl) ?_
   refine tu 2 5 (bm 6 5) rfl rfl (by kernel_rfl) (fun _ _ _ h => h) (by rfl) (v := ?_) (a' := ?_) (by rintro w' ⟨s0, s1, s2, s3, s4, s5, s6, s7⟩; go_simp; with_reducible rfl) hHeld (by simp only [np]; rfl) ?_
   refine one_ (i := 1) (N := some 4) (bm 6 7) rfl rfl (by kernel_rfl) (by decide) (fun K hK => ?_)
   refine goes_ Try.func44 (by kernel_rfl) rfl #[.agg #[.int .i64 a0_0, .int .i64 a0_1, .int .i64 a0_2, .int .i64 a0_3, .int .i64 a0_4, .int .i64 a0_5, .int .i32 a0_6, .slice A0_7 l0_7.length c0_7]] (by rfl) rfl rfl (by (try simp only [List.map_toArray, List.map_cons, List.map_nil]); first | done | rfl | (simp only [List.length_drop, List.length_take]; rfl)) ?_
   with_reducible refine (phys_Makes.calls a0_0 a0_1 a0_2 a0_3 a0_4 a0_5 a0_6 _ _ l0_7 t203 _ ?side1 ?side2 A2.out).mono ?_
   (case side1 => repeat (first | exact (Kd.C_below HR0_7.out HB.out) | (with_reducible refine Kd.C_alloc ?_ _) | (with_reducible refine Kd.C_drewN ?_ _) | (with_reducible refine Kd.C_drew ?_)))
   (case side2 => exact HC0_7.out)
   rintro e w7 ⟨v204, rfl, ho0, hb⟩
   refine ⟨_, rfl, ?_⟩
   have n0_ := Aside0.mk (Kd.R_lower ho0 (below_size (by repeat (first | (with_reducible first | exact HB.out | apply below_alloc | apply pw_below_drewN | apply below_drew1 | refine below_set ?_ GE202.out) | exact HB.out))))
   have n1_ := Aside0.mk (blk_below (g := gb202) (o := .cells #[.int .i64 a0_0, .int .i64 a0_1, .int .i64 a0_2, .int .i64 a0_3, .int .i64 a0_4, .int .i64 a0_5, .int .i32 a0_6, .slice A0_7 l0_7.length c0_7] 35 (0, 0)) (by (with_reducible repeat (first | refine blk_drewN ?_ _ | refine blk_drew ?_ | refine blk_alloc ?_ _)); exact BK202.out) hb)
   have n2_ := Aside0.mk (below_step (by repeat (first | (with_reducible first | exact HB.out | apply below_alloc | apply pw_below_drewN | apply below_drew1 | refine below_set ?_ GE202.out) | exact HB.out)) hb)
   clear BK202; clear HB
   have HO205 := n0_
   have BK202 := n1_
   have HB := n2_
   clear n0_ n1_ n2_
   (try clear hb)
   (try clear hb2)
   (try clear hk)
   (try clear hi)
   (try clear ho0)
   refine hK.out _ _ ⟨(blk_cell BK202.out 0).trans rfl, (blk_cell BK202.out 1).trans rfl, (blk_cell BK202.out 2).trans rfl, (blk_cell BK202.out 3).trans rfl, (blk_cell BK202.out 4).trans rfl, (blk_cell BK202.out 5).trans rfl, (blk_cell BK202.out 6).trans rfl, (blk_cell BK202.out 7).trans rfl⟩ (fun hHeld => ?_)
   clear hK K
   refine norm_ (a' := ?_) ?_ ?_
   rotate_left
   · show Act.put _ (some 4) _ = _; simp only [np]; rfl
   refine one_ (i := 3) (N := some 6) (bm 6 15) rfl rfl (by kernel_rfl) (by decide) (fun K hK => ?_)
   refine goes_ Try.func45 (by kernel_rfl) rfl #[.agg #[.int .i64 a0_0, .int .i64 a0_1, .int .i64 a0_2, .int .i64 a0_3, .int .i64 a0_4, .int .i64 a0_5, .int .i32 a0_6, .slice A0_7 l0_7.length c0_7]] (by rfl) rfl rfl (by (try simp only [List.map_toArray, List.map_cons, List.map_nil]); first | done | rfl | (simp only [List.length_drop, List.length_take]; rfl)) ?_
   with_reducible refine (phys_Spoils.calls a0_0 a0_1 a0_2 a0_3 a0_4 a0_5 a0_6 _ _ l0_7 t206 _ ?side1 ?side2 A3.out).mono ?_
   (case side1 => repeat (first | exact (Kd.C_below HR0_7.out HB.out) | (with_reducible refine Kd.C_alloc ?_ _) | (with_reducible refine Kd.C_drewN ?_ _) | (with_reducible refine Kd.C_drew ?_)))
   (case side2 => exact HC0_7.out)
   rintro e w8 ⟨v207, rfl, ho0, hb⟩
   refine ⟨_, rfl, ?_⟩
   have n0_ := Aside0.mk (Kd.R_elder' (by (with_reducible repeat (first | apply Kd.R_alloc | apply Kd.R_drewN | apply Kd.R_drew)); exact HO205.out) (Kd.R_base ho0) hb)
   have n1_ := Aside0.mk (Kd.R_lower (Kd.R_new' ho0 (Kd.R_lt (by (with_reducible repeat (first | apply Kd.R_alloc | apply Kd.R_drewN | apply Kd.R_drew)); exact HO205.out))) (below_size (by repeat (first | (with_reducible first | exact HB.out | apply below_alloc | apply pw_below_drewN | apply below_drew1 | refine below_set ?_ GE202.out) | exact HB.out))))
   have n2_ := Aside0.mk (blk_below (g := gb202) (o := .cells #[.int .i64 a0_0, .int .i64 a0_1, .int .i64 a0_2, .int .i64 a0_3, .int .i64 a0_4, .int .i64 a0_5, .int .i32 a0_6, .slice A0_7 l0_7.length c0_7] 35 (0, 0)) (by (with_reducible repeat (first | refine blk_drewN ?_ _ | refine blk_drew ?_ | refine blk_alloc ?_ _)); exact BK202.out) hb)
   have n3_ := Aside0.mk (below_step (by repeat (first | (with_reducible first | exact HB.out | apply below_alloc | apply pw_below_drewN | apply below_drew1 | refine below_set ?_ GE202.out) | exact HB.out)) hb)
   clear HO205; clear BK202; clear HB
   have HO205 := n0_
   have HO208 := n1_
   have BK202 := n2_
   have HB := n3_
   clear n0_ n1_ n2_ n3_
   (try clear hb)
   (try clear hb2)
   (try clear hk)
   (try clear hi)
   (try clear ho0)
   obtain ⟨Ao10, co10, eo10⟩ := Kd.R_slice HO208.out
   (first | subst eo10 | (injection eo10 with f1_ f2_ f3_; have f4_ := f1_.symm; have f5_ := f3_.symm; clear f1_ f2_ f3_; subst f4_; subst f5_))
   refine hK.out _ _ ⟨(blk_cell BK202.out 0).trans rfl, (blk_cell BK202.out 1).trans rfl, (blk_cell BK202.out 2).trans rfl, (blk_cell BK202.out 3).trans rfl, (blk_cell BK202.out 4).trans rfl, (blk_cell BK202.out 5).trans rfl, (blk_cell BK202.out 6).trans rfl, (blk_cell BK202.out 7).trans rfl⟩ (fun hHeld => ?_)
   clear hK K
   refine norm_ (a' := ?_) ?_ ?_
   rotate_left
   · show Act.put _ (some 6) _ = _; simp only [np]; rfl
   refine one_ (i := 4) (N := some 7) (bm 6 31) rfl rfl (by kernel_rfl) (by decide) (fun K hK => ?_)
   refine Kd.R_append_rows_step (Kd.int .i64) (w0 := w) w.heap.size (by rfl) (.tmp 4) (.tmp 6) 23 3 (.int .i64 0) 8 rfl Try.underlying23 info3 rfl (by decide) (by omega) v204 t203 t206 _ _ _ (fun k_ => some k_ ≠ (.slice Ao10 t206.length co10 : Value).ownBlock) (fun _ => False) rfl rfl ?aO ?aR (fun _ _ h => h) (fun _ h => h.elim) ?aF ?aB ?aS ?aL ?_
   (case aR => repeat (first | exact (Kd.R_reads' HO208.out).2.2 | (with_reducible refine Kd.C_alloc ?_ _) | (with_reducible refine Kd.C_drewN ?_ _) | (with_reducible refine Kd.C_drew ?_)))
   (case aB => exact (by repeat (first | (with_reducible first | exact HB.out | apply below_alloc | apply pw_below_drewN | apply below_drew1 | refine below_set ?_ GE202.out) | exact HB.out)))
   (case aF => exact (fun k_ hk => Kd.fresh' (Kd.R_lt (by (with_reducible repeat (first | apply Kd.R_alloc | apply Kd.R_drewN | apply Kd.R_drew)); exact HO208.out)) k_ hk))
   (case aO => exact (by (with_reducible repeat (first | apply Kd.R_alloc | apply Kd.R_drewN | apply Kd.R_drew)); exact Kd.R_mono HO205.out (fun _ hk => hk.2)))
   (case aS => exact (below_size (by repeat (first | (with_reducible first | exact HB.out | apply below_alloc | apply pw_below_drewN | apply below_drew1 | refine below_set ?_ GE202.out) | exact HB.out))))
   (case aL => have := LMc4.out; omega)
   intro v210 w9 ho hb hg hat
   rw [← Ny209.out] at ho
   have n0_ := Aside0.mk (blk_grown (g := gb202) (o := .cells #[.int .i64 a0_0, .int .i64 a0_1, .int .i64 a0_2, .int .i64 a0_3, .int .i64 a0_4, .int .i64 a0_5, .int .i32 a0_6, .slice A0_7 l0_7.length c0_7] 35 (0, 0)) (by (with_reducible repeat (first | refine blk_drewN ?_ _ | refine blk_drew ?_ | refine blk_alloc ?_ _)); exact BK202.out) hg (Kd.R_ne HO205.out BK202.out (by decide)))
   have n1_ := Aside0.mk (Kd.R_after (ok := (fun _ => True)) (by (with_reducible repeat (first | apply Kd.R_alloc | apply Kd.R_drewN | apply Kd.R_drew)); exact HO208.out) hg hat)
   have n2_ := Aside0.mk (hb)
   have n3_ := Aside0.mk (ho)
   clear BK202; clear HO208; clear HB; clear HO205
   have BK202 := n0_
   have HO208 := n1_
   have HB := n2_
   have HO211 := n3_
   clear n0_ n1_ n2_ n3_; clear ho hb hg hat
   refine hK.out _ _ ⟨(blk_cell BK202.out 0).trans rfl, (blk_cell BK202.out 1).trans rfl, (blk_cell BK202.out 2).trans rfl, (blk_cell BK202.out 3).trans rfl, (blk_cell BK202.out 4).trans rfl, (blk_cell BK202.out 5).trans rfl, (blk_cell BK202.out 6).trans rfl, (blk_cell BK202.out 7).trans rfl⟩ (fun hHeld => ?_)
   clear hK K
   refine norm_ (a' := ?_) ?_ ?_
   rotate_left
   · show Act.put _ (some 7) _ = _; simp only [np]; rfl
   refine pu 5 2 (bm 6 63) rfl rfl (by kernel_rfl) (fun _ _ _ h => h) (by rfl) (v := ?_) (a' := ?_) (by intro w'; go_simp; with_reducible rfl) (by simp only [np]; rfl) ?_
   refine done_ (by kernel_rfl) ?_
   try go_wp2
   go_ret
   exact ⟨_, by first | rfl | (simp [errW_none, errW_some] <;> rfl) | (simp [*, errW_none, errW_some] <;> rfl), by (with_reducible repeat (first | apply Kd.R_alloc | apply Kd.R_drewN | apply Kd.R_drew)); exact Kd.R_mono HO211.out (fun _ hk => trivial), by repeat (first | (with_reducible first | exact HB.out | apply below_alloc | apply pw_below_drewN | apply below_drew1 | refine below_set ?_ GE202.out) | exact HB.out)⟩
 · rw [if_neg c4] at H
   exact absurd H (by simp)
def sched_loads.f (a0 : Int) : Option (Bool) := if a0 = 24 then (some true) else (some (a0 == 25))
set_option maxHeartbeats 8000000 in
set_option maxRecDepth 100000 in
theorem sched_loads.calls (a0 : Int) (r : Bool) (w : World) (h : sched_loads.f a0 = some r) :
    Calls Try.prog 51 #[.int .i64 a0] w fun e w' => e = .returned (.bool r) ∧ Drawn0 w w' := by
 have H : (if a0 = 24 then (some true) else (some (a0 == 25))) = some r := h
 clear h
 by_cases c2 : a0 = 24
 · rw [if_pos c2] at H
   have c2b0 : (a0 == 24) = true := beq_iff_eq.mpr c2
   have c2b1 : (a0 != 24) = false := bne_eq_false_iff_eq.mpr c2
   clear c2
   obtain rfl := Option.some.inj H
   go_enter Try.func51, Try.ntmps51
   go_wp2; go_ret
   exact ⟨by first | rfl | (simp; done) | (simp [*]; done), by repeat (first | exact Drawn0.refl _ | apply Drawn0.step)⟩
 · rw [if_neg c2] at H
   have c2b0 : (a0 == 24) = false := beq_eq_false_iff_ne.mpr c2
   have c2b1 : (a0 != 24) = true := bne_iff_ne.mpr c2
   obtain rfl := Option.some.inj H
   go_enter Try.func51, Try.ntmps51
   go_wp2; go_ret
   exact ⟨by first | rfl | (simp; done) | (simp [*]; done), by repeat (first | exact Drawn0.refl _ | apply Drawn0.step)⟩
def sched_bound.f (a0 : Int) : Option (Bool) := (sched_loads.f a0).bind fun t212 => (if t212 = true then (some true) else (if a0 = 26 then (some true) else (if a0 = 27 then (some true) else (if a0 = 28 then (some true) else (some (a0 == 17))))))
set_option maxHeartbeats 8000000 in
set_option maxRecDepth 100000 in
theorem sched_bound.calls (a0 : Int) (r : Bool) (w : World) (h : sched_bound.f a0 = some r) :
    Calls Try.prog 52 #[.int .i64 a0] w fun e w' => e = .returned (.bool r) ∧ Drawn0 w w' := by
 have H : ((sched_loads.f a0).bind fun t212 => (if t212 = true then (some true) else (if a0 = 26 then (some true) else (if a0 = 27 then (some true) else (if a0 = 28 then (some true) else (some (a0 == 17))))))) = some r := h
 clear h
 replace H := Option.bind_eq_some_iff.mp H
 obtain ⟨t212, A20, H⟩ := H
 replace H : (if t212 = true then (some true) else (if a0 = 26 then (some true) else (if a0 = 27 then (some true) else (if a0 = 28 then (some true) else (some (a0 == 17)))))) = some r := H
 have A2 := Aside0.mk A20
 clear A20
 by_cases c3 : t212 = true
 · subst c3
   have H1 : (some true) = some r := by rw [if_pos rfl] at H; exact H
   clear H
   have H := H1
   clear H1
   obtain rfl := Option.some.inj H
   go_enter Try.func52, Try.ntmps52
   go_wp2_with (first | ((with_reducible refine gate_callee (f := 51) rfl ?_); refine goesL_ (some 4) rfl rfl Try.func51 (by kernel_rfl) rfl #[.int .i64 a0] rfl (by (try simp only [List.map_toArray, List.map_cons, List.map_nil]); first | done | rfl | (simp only [List.length_drop, List.length_take]; rfl)) ?_; (with_reducible refine (sched_loads.calls a0 true _ A2.out).mono ?_); rintro e w' ⟨rfl, ⟨nd, rfl⟩⟩; refine ⟨_, rfl, ?_⟩))
   go_ret
   exact ⟨by first | rfl | (simp; done) | (simp [*]; done), by repeat (first | exact Drawn0.refl _ | apply Drawn0.step)⟩
 · replace c3 := Bool.eq_false_iff.mpr c3
   subst c3
   have H1 : (if a0 = 26 then (some true) else (if a0 = 27 then (some true) else (if a0 = 28 then (some true) else (some (a0 == 17))))) = some r := by rw [if_neg (show ¬ (false = true) by decide)] at H; exact H
   clear H
   have H := H1
   clear H1
   by_cases c4 : a0 = 26
   · rw [if_pos c4] at H
     have c4b0 : (a0 == 26) = true := beq_iff_eq.mpr c4
     have c4b1 : (a0 != 26) = false := bne_eq_false_iff_eq.mpr c4
     clear c4
     obtain rfl := Option.some.inj H
     go_enter Try.func52, Try.ntmps52
     go_wp2_with (first | ((with_reducible refine gate_callee (f := 51) rfl ?_); refine goesL_ (some 4) rfl rfl Try.func51 (by kernel_rfl) rfl #[.int .i64 a0] rfl (by (try simp only [List.map_toArray, List.map_cons, List.map_nil]); first | done | rfl | (simp only [List.length_drop, List.length_take]; rfl)) ?_; (with_reducible refine (sched_loads.calls a0 false _ A2.out).mono ?_); rintro e w' ⟨rfl, ⟨nd, rfl⟩⟩; refine ⟨_, rfl, ?_⟩))
     go_ret
     exact ⟨by first | rfl | (simp; done) | (simp [*]; done), by repeat (first | exact Drawn0.refl _ | apply Drawn0.step)⟩
   · rw [if_neg c4] at H
     have c4b0 : (a0 == 26) = false := beq_eq_false_iff_ne.mpr c4
     have c4b1 : (a0 != 26) = true := bne_iff_ne.mpr c4
     by_cases c5 : a0 = 27
     · rw [if_pos c5] at H
       have c5b0 : (a0 == 27) = true := beq_iff_eq.mpr c5
       have c5b1 : (a0 != 27) = false := bne_eq_false_iff_eq.mpr c5
       clear c5
       obtain rfl := Option.some.inj H
       go_enter Try.func52, Try.ntmps52
       go_wp2_with (first | ((with_reducible refine gate_callee (f := 51) rfl ?_); refine goesL_ (some 4) rfl rfl Try.func51 (by kernel_rfl) rfl #[.int .i64 a0] rfl (by (try simp only [List.map_toArray, List.map_cons, List.map_nil]); first | done | rfl | (simp only [List.length_drop, List.length_take]; rfl)) ?_; (with_reducible refine (sched_loads.calls a0 false _ A2.out).mono ?_); rintro e w' ⟨rfl, ⟨nd, rfl⟩⟩; refine ⟨_, rfl, ?_⟩))
       go_ret
       exact ⟨by first | rfl | (simp; done) | (simp [*]; done), by repeat (first | exact Drawn0.refl _ | apply Drawn0.step)⟩
     · rw [if_neg c5] at H
       have c5b0 : (a0 == 27) = false := beq_eq_false_iff_ne.mpr c5
       have c5b1 : (a0 != 27) = true := bne_iff_ne.mpr c5
       by_cases c6 : a0 = 28
       · rw [if_pos c6] at H
         have c6b0 : (a0 == 28) = true := beq_iff_eq.mpr c6
         have c6b1 : (a0 != 28) = false := bne_eq_false_iff_eq.mpr c6
         clear c6
         obtain rfl := Option.some.inj H
         go_enter Try.func52, Try.ntmps52
         go_wp2_with (first | ((with_reducible refine gate_callee (f := 51) rfl ?_); refine goesL_ (some 4) rfl rfl Try.func51 (by kernel_rfl) rfl #[.int .i64 a0] rfl (by (try simp only [List.map_toArray, List.map_cons, List.map_nil]); first | done | rfl | (simp only [List.length_drop, List.length_take]; rfl)) ?_; (with_reducible refine (sched_loads.calls a0 false _ A2.out).mono ?_); rintro e w' ⟨rfl, ⟨nd, rfl⟩⟩; refine ⟨_, rfl, ?_⟩))
         go_ret
         exact ⟨by first | rfl | (simp; done) | (simp [*]; done), by repeat (first | exact Drawn0.refl _ | apply Drawn0.step)⟩
       · rw [if_neg c6] at H
         have c6b0 : (a0 == 28) = false := beq_eq_false_iff_ne.mpr c6
         have c6b1 : (a0 != 28) = true := bne_iff_ne.mpr c6
         obtain rfl := Option.some.inj H
         go_enter Try.func52, Try.ntmps52
         go_wp2_with (first | ((with_reducible refine gate_callee (f := 51) rfl ?_); refine goesL_ (some 4) rfl rfl Try.func51 (by kernel_rfl) rfl #[.int .i64 a0] rfl (by (try simp only [List.map_toArray, List.map_cons, List.map_nil]); first | done | rfl | (simp only [List.length_drop, List.length_take]; rfl)) ?_; (with_reducible refine (sched_loads.calls a0 false _ A2.out).mono ?_); rintro e w' ⟨rfl, ⟨nd, rfl⟩⟩; refine ⟨_, rfl, ?_⟩))
         go_ret
         exact ⟨by first | rfl | (simp; done) | (simp [*]; done), by repeat (first | exact Drawn0.refl _ | apply Drawn0.step)⟩
def sched_own.f (a0_0 : Int) (a0_1 : Int) (a0_2 : Int) (a0_3 : Int) (a0_4 : Int) (a0_5 : Int) (a0_6 : Int) (l0_7 : List Int) (a0_8 : Int) : Option (Int × Int × Int × Int × Int × Int × Int × List Int × Int) := (slices_Clone_int_int.f l0_7).bind fun t215 => (some (a0_0, a0_1, a0_2, a0_3, a0_4, a0_5, a0_6, t215, a0_8))
set_option maxHeartbeats 8000000 in
set_option maxRecDepth 100000 in
theorem sched_own.calls (a0_0 : Int) (a0_1 : Int) (a0_2 : Int) (a0_3 : Int) (a0_4 : Int) (a0_5 : Int) (a0_6 : Int) (A0_7 : Option Addr) (c0_7 : Nat) (l0_7 : List Int) (a0_8 : Int) (r1 : Int) (r2 : Int) (r3 : Int) (r4 : Int) (r5 : Int) (r6 : Int) (r7 : Int) (r8 : List Int) (r9 : Int) (w : World) (hr0_7 : Kd.C (Kd.int .i64) w A0_7 l0_7.length l0_7) (hc0_7 : l0_7.length ≤ c0_7) (h : sched_own.f a0_0 a0_1 a0_2 a0_3 a0_4 a0_5 a0_6 l0_7 a0_8 = some (r1, r2, r3, r4, r5, r6, r7, r8, r9)) :
    Calls Try.prog 38 #[.agg #[.int .i64 a0_0, .int .i64 a0_1, .int .i64 a0_2, .int .i64 a0_3, .int .i64 a0_4, .int .i64 a0_5, .int .i32 a0_6, .slice A0_7 l0_7.length c0_7, .int .i64 a0_8]] w fun e w' => ∃ v7_ : Value, e = .returned (.agg #[.int .i64 r1, .int .i64 r2, .int .i64 r3, .int .i64 r4, .int .i64 r5, .int .i64 r6, .int .i32 r7, v7_, .int .i64 r9]) ∧ Kd.R (Kd.int .i64) 3 w' w.heap.size (fun _ => True) v7_ r8 ∧ Below w.heap.size w w' := by
 have hu37 := Try.underlying37
 have HR0_7 := Aside0.mk hr0_7
 have HC0_7 := Aside0.mk hc0_7
 clear hr0_7 hc0_7
 have HB := Aside0.mk (Below.refl w.heap.size w)
 have H : ((slices_Clone_int_int.f l0_7).bind fun t215 => (some (a0_0, a0_1, a0_2, a0_3, a0_4, a0_5, a0_6, t215, a0_8))) = some (r1, r2, r3, r4, r5, r6, r7, r8, r9) := h
 clear h
 replace H := Option.bind_eq_some_iff.mp H
 obtain ⟨t215, A20, H⟩ := H
 replace H : (some (a0_0, a0_1, a0_2, a0_3, a0_4, a0_5, a0_6, t215, a0_8)) = some (r1, r2, r3, r4, r5, r6, r7, r8, r9) := H
 have A2 := Aside0.mk A20
 clear A20
 simp only [Option.some.injEq, Prod.mk.injEq] at H
 obtain ⟨rfl, rfl, rfl, rfl, rfl, rfl, rfl, rfl, rfl⟩ := H
 go_enter Try.func38, Try.ntmps38
 go_wp2_with (first | ((with_reducible refine gate_dst (N := 1) rfl ?_); refine box_event ?hg (N := 1) ?hd (cs := #[.int .i64 a0_0, .int .i64 a0_1, .int .i64 a0_2, .int .i64 a0_3, .int .i64 a0_4, .int .i64 a0_5, .int .i32 a0_6, .slice A0_7 l0_7.length c0_7, .int .i64 a0_8]) (t := 37) ?hr ?_; (case hd => rfl); (case hg => rfl); (case hr => first | (go_simp; done) | (go_simp; rfl)); intro gb213 hg w3 hbox hb; have n0_ := Aside0.mk (below_step (by repeat (first | (with_reducible first | exact HB.out | apply below_alloc | apply pw_below_drewN | apply below_drew1) | exact HB.out)) hb); have n1_ := Aside0.mk (hbox); have n2_ := Aside0.mk ((by rw [hg]; exact (below_size (by repeat (first | (with_reducible first | exact HB.out | apply below_alloc | apply pw_below_drewN | apply below_drew1) | exact HB.out))) : w.heap.size ≤ gb213)); have n3_ := Aside0.mk ((by rw [hg]; exact (below_size (by repeat (first | (with_reducible first | exact HB.out | apply below_alloc | apply pw_below_drewN | apply below_drew1) | exact HB.out))) : w.heap.size ≤ gb213)); clear HB; have HB := n0_; have BK213 := n1_; have GW213 := n2_; have GE213 := n3_; clear n0_ n1_ n2_ n3_; clear hb hbox hg) | ((with_reducible refine gate_dst (N := 2) rfl ?_); refine box_event ?hg (N := 2) ?hd (cs := #[.int .i64 0, .int .i64 0, .int .i64 0, .int .i64 0, .int .i64 0, .int .i64 0, .int .i32 0, .slice none 0 0, .int .i64 0]) (t := 37) ?hr ?_; (case hd => rfl); (case hg => rfl); (case hr => first | (go_simp; done) | (go_simp; rfl)); intro gb214 hg w4 hbox hb; have n0_ := Aside0.mk (blk_below (g := gb213) (o := .cells #[.int .i64 a0_0, .int .i64 a0_1, .int .i64 a0_2, .int .i64 a0_3, .int .i64 a0_4, .int .i64 a0_5, .int .i32 a0_6, .slice A0_7 l0_7.length c0_7, .int .i64 a0_8] 37 (0, 0)) (by (with_reducible repeat (first | refine blk_drewN ?_ _ | refine blk_drew ?_ | refine blk_alloc ?_ _)); exact BK213.out) hb); have n1_ := Aside0.mk (below_step (by repeat (first | (with_reducible first | exact HB.out | apply below_alloc | apply pw_below_drewN | apply below_drew1 | refine below_set ?_ GE213.out) | exact HB.out)) hb); have n2_ := Aside0.mk (hbox); have n3_ := Aside0.mk ((by rw [hg]; exact (below_size (by repeat (first | (with_reducible first | exact HB.out | apply below_alloc | apply pw_below_drewN | apply below_drew1 | refine below_set ?_ GE213.out) | exact HB.out))) : w.heap.size ≤ gb214)); have n4_ := Aside0.mk ((by rw [hg]; exact (below_size (by repeat (first | (with_reducible first | exact HB.out | apply below_alloc | apply pw_below_drewN | apply below_drew1 | refine below_set ?_ GE213.out) | exact HB.out))) : w.heap.size ≤ gb214)); have n5_ := Aside0.mk ((by rw [hg]; exact Nat.ne_of_lt (blk_lt (g := gb213) (o := .cells #[.int .i64 a0_0, .int .i64 a0_1, .int .i64 a0_2, .int .i64 a0_3, .int .i64 a0_4, .int .i64 a0_5, .int .i32 a0_6, .slice A0_7 l0_7.length c0_7, .int .i64 a0_8] 37 (0, 0)) (by (with_reducible repeat (first | refine blk_drewN ?_ _ | refine blk_drew ?_ | refine blk_alloc ?_ _)); exact BK213.out)) : gb213 ≠ gb214)); have n6_ := Aside0.mk ((by rw [hg]; exact Nat.ne_of_gt (blk_lt (g := gb213) (o := .cells #[.int .i64 a0_0, .int .i64 a0_1, .int .i64 a0_2, .int .i64 a0_3, .int .i64 a0_4, .int .i64 a0_5, .int .i32 a0_6, .slice A0_7 l0_7.length c0_7, .int .i64 a0_8] 37 (0, 0)) (by (with_reducible repeat (first | refine blk_drewN ?_ _ | refine blk_drew ?_ | refine blk_alloc ?_ _)); exact BK213.out)) : gb214 ≠ gb213)); clear BK213; clear HB; have BK213 := n0_; have HB := n1_; have BK214 := n2_; have GW214 := n3_; have GE214 := n4_; have NB213_214 := n5_; have NB214_213 := n6_; clear n0_ n1_ n2_ n3_ n4_ n5_ n6_; clear hb hbox hg; have hnb5 := NB213_214.out; have hnc5 := NB214_213.out; have hcz6_0 : w4.cell? ⟨gb213, 0, none⟩ = some (.int .i64 a0_0) := (blk_cell BK213.out 0).trans rfl; have hcz6_1 : w4.cell? ⟨gb213, 1, none⟩ = some (.int .i64 a0_1) := (blk_cell BK213.out 1).trans rfl; have hcz6_2 : w4.cell? ⟨gb213, 2, none⟩ = some (.int .i64 a0_2) := (blk_cell BK213.out 2).trans rfl; have hcz6_3 : w4.cell? ⟨gb213, 3, none⟩ = some (.int .i64 a0_3) := (blk_cell BK213.out 3).trans rfl; have hcz6_4 : w4.cell? ⟨gb213, 4, none⟩ = some (.int .i64 a0_4) := (blk_cell BK213.out 4).trans rfl; have hcz6_5 : w4.cell? ⟨gb213, 5, none⟩ = some (.int .i64 a0_5) := (blk_cell BK213.out 5).trans rfl; have hcz6_6 : w4.cell? ⟨gb213, 6, none⟩ = some (.int .i32 a0_6) := (blk_cell BK213.out 6).trans rfl; have hcz6_7 : w4.cell? ⟨gb213, 7, none⟩ = some (.slice A0_7 l0_7.length c0_7) := (blk_cell BK213.out 7).trans rfl; have hcz6_8 : w4.cell? ⟨gb213, 8, none⟩ = some (.int .i64 a0_8) := (blk_cell BK213.out 8).trans rfl; have hfz6_0 := blk_frozen BK213.out 0; have hfz6_1 := blk_frozen BK213.out 1; have hfz6_2 := blk_frozen BK213.out 2; have hfz6_3 := blk_frozen BK213.out 3; have hfz6_4 := blk_frozen BK213.out 4; have hfz6_5 := blk_frozen BK213.out 5; have hfz6_6 := blk_frozen BK213.out 6; have hfz6_7 := blk_frozen BK213.out 7; have hfz6_8 := blk_frozen BK213.out 8) | ((with_reducible refine gate_callee (f := 58) rfl ?_); refine goesL_ (some 6) rfl rfl Try.func58 (by kernel_rfl) rfl #[.slice A0_7 l0_7.length c0_7] rfl (by (try simp only [List.map_toArray, List.map_cons, List.map_nil]); first | done | rfl | (simp only [List.length_drop, List.length_take]; rfl)) ?_; (with_reducible refine (slices_Clone_int_int.calls _ _ l0_7 t215 _ ?side1 ?side2 A2.out).mono ?_); (case side1 => repeat (first | exact (Kd.C_below HR0_7.out HB.out) | (with_reducible refine Kd.C_alloc ?_ _) | (with_reducible refine Kd.C_drewN ?_ _) | (with_reducible refine Kd.C_drew ?_))); (case side2 => exact HC0_7.out); rintro e w7 ⟨v216, rfl, ho0, hb⟩; refine ⟨_, rfl, ?_⟩; have n0_ := Aside0.mk (Kd.R_lower ho0 (below_size (by repeat (first | (with_reducible first | exact HB.out | apply below_alloc | apply pw_below_drewN | apply below_drew1 | refine below_set ?_ GE213.out | refine below_set ?_ GE214.out) | exact HB.out)))); have n1_ := Aside0.mk (blk_below (g := gb213) (o := .cells #[.int .i64 a0_0, .int .i64 a0_1, .int .i64 a0_2, .int .i64 a0_3, .int .i64 a0_4, .int .i64 a0_5, .int .i32 a0_6, .slice A0_7 l0_7.length c0_7, .int .i64 a0_8] 37 (0, 0)) (by (with_reducible repeat (first | refine blk_drewN ?_ _ | refine blk_drew ?_ | refine blk_alloc ?_ _)); exact BK213.out) hb); have n2_ := Aside0.mk (blk_below (g := gb214) (o := .cells #[.int .i64 0, .int .i64 0, .int .i64 0, .int .i64 0, .int .i64 0, .int .i64 0, .int .i32 0, .slice none 0 0, .int .i64 0] 37 (0, 0)) (by (with_reducible repeat (first | refine blk_drewN ?_ _ | refine blk_drew ?_ | refine blk_alloc ?_ _)); exact BK214.out) hb); have n3_ := Aside0.mk (below_step (by repeat (first | (with_reducible first | exact HB.out | apply below_alloc | apply pw_below_drewN | apply below_drew1 | refine below_set ?_ GE213.out | refine below_set ?_ GE214.out) | exact HB.out)) hb); clear BK213; clear BK214; clear HB; have HO217 := n0_; have BK213 := n1_; have BK214 := n2_; have HB := n3_; clear n0_ n1_ n2_ n3_; (try clear hb); (try clear hb2); (try clear hk); (try clear hi); (try clear ho0); obtain ⟨Ao8, co8, eo8⟩ := Kd.R_slice HO217.out; subst eo8; have hcz9_0 : w7.cell? ⟨gb213, 0, none⟩ = some (.int .i64 a0_0) := (blk_cell BK213.out 0).trans rfl; have hcz9_1 : w7.cell? ⟨gb213, 1, none⟩ = some (.int .i64 a0_1) := (blk_cell BK213.out 1).trans rfl; have hcz9_2 : w7.cell? ⟨gb213, 2, none⟩ = some (.int .i64 a0_2) := (blk_cell BK213.out 2).trans rfl; have hcz9_3 : w7.cell? ⟨gb213, 3, none⟩ = some (.int .i64 a0_3) := (blk_cell BK213.out 3).trans rfl; have hcz9_4 : w7.cell? ⟨gb213, 4, none⟩ = some (.int .i64 a0_4) := (blk_cell BK213.out 4).trans rfl; have hcz9_5 : w7.cell? ⟨gb213, 5, none⟩ = some (.int .i64 a0_5) := (blk_cell BK213.out 5).trans rfl; have hcz9_6 : w7.cell? ⟨gb213, 6, none⟩ = some (.int .i32 a0_6) := (blk_cell BK213.out 6).trans rfl; have hcz9_7 : w7.cell? ⟨gb213, 7, none⟩ = some (.slice A0_7 l0_7.length c0_7) := (blk_cell BK213.out 7).trans rfl; have hcz9_8 : w7.cell? ⟨gb213, 8, none⟩ = some (.int .i64 a0_8) := (blk_cell BK213.out 8).trans rfl; have hfz9_0 := blk_frozen BK213.out 0; have hfz9_1 := blk_frozen BK213.out 1; have hfz9_2 := blk_frozen BK213.out 2; have hfz9_3 := blk_frozen BK213.out 3; have hfz9_4 := blk_frozen BK213.out 4; have hfz9_5 := blk_frozen BK213.out 5; have hfz9_6 := blk_frozen BK213.out 6; have hfz9_7 := blk_frozen BK213.out 7; have hfz9_8 := blk_frozen BK213.out 8; have hcz10_0 : w7.cell? ⟨gb214, 0, none⟩ = some (.int .i64 0) := (blk_cell BK214.out 0).trans rfl; have hcz10_1 : w7.cell? ⟨gb214, 1, none⟩ = some (.int .i64 0) := (blk_cell BK214.out 1).trans rfl; have hcz10_2 : w7.cell? ⟨gb214, 2, none⟩ = some (.int .i64 0) := (blk_cell BK214.out 2).trans rfl; have hcz10_3 : w7.cell? ⟨gb214, 3, none⟩ = some (.int .i64 0) := (blk_cell BK214.out 3).trans rfl; have hcz10_4 : w7.cell? ⟨gb214, 4, none⟩ = some (.int .i64 0) := (blk_cell BK214.out 4).trans rfl; have hcz10_5 : w7.cell? ⟨gb214, 5, none⟩ = some (.int .i64 0) := (blk_cell BK214.out 5).trans rfl; have hcz10_6 : w7.cell? ⟨gb214, 6, none⟩ = some (.int .i32 0) := (blk_cell BK214.out 6).trans rfl; have hcz10_7 : w7.cell? ⟨gb214, 7, none⟩ = some (.slice none 0 0) := (blk_cell BK214.out 7).trans rfl; have hcz10_8 : w7.cell? ⟨gb214, 8, none⟩ = some (.int .i64 0) := (blk_cell BK214.out 8).trans rfl; have hfz10_0 := blk_frozen BK214.out 0; have hfz10_1 := blk_frozen BK214.out 1; have hfz10_2 := blk_frozen BK214.out 2; have hfz10_3 := blk_frozen BK214.out 3; have hfz10_4 := blk_frozen BK214.out 4; have hfz10_5 := blk_frozen BK214.out 5; have hfz10_6 := blk_frozen BK214.out 6; have hfz10_7 := blk_frozen BK214.out 7; have hfz10_8 := blk_frozen BK214.out 8))
 refine bodyPost_ret (results_cell_row rfl _ _ gb214 37 #[.int .i64 a0_0, .int .i64 a0_1, .int .i64 a0_2, .int .i64 a0_3, .int .i64 a0_4, .int .i64 a0_5, .int .i32 a0_6, .slice Ao8 t215.length co8, .int .i64 a0_8] (0, 0) _ rfl (by (with_reducible repeat (first | refine blk_drewN ?_ _ | refine blk_drew ?_ | refine blk_alloc ?_ _)); refine blk_put (cs := #[.int .i64 a0_0, .int .i64 a0_1, .int .i64 a0_2, .int .i64 a0_3, .int .i64 a0_4, .int .i64 a0_5, .int .i32 a0_6, .slice Ao8 t215.length co8, .int .i64 0]) ?_ 8 _ rfl; (with_reducible repeat (first | refine blk_drewN ?_ _ | refine blk_drew ?_ | refine blk_alloc ?_ _)); refine blk_put (cs := #[.int .i64 a0_0, .int .i64 a0_1, .int .i64 a0_2, .int .i64 a0_3, .int .i64 a0_4, .int .i64 a0_5, .int .i32 a0_6, .slice none 0 0, .int .i64 0]) ?_ 7 _ rfl; (with_reducible repeat (first | refine blk_drewN ?_ _ | refine blk_drew ?_ | refine blk_alloc ?_ _)); refine blk_put (cs := #[.int .i64 a0_0, .int .i64 a0_1, .int .i64 a0_2, .int .i64 a0_3, .int .i64 a0_4, .int .i64 a0_5, .int .i32 0, .slice none 0 0, .int .i64 0]) ?_ 6 _ rfl; (with_reducible repeat (first | refine blk_drewN ?_ _ | refine blk_drew ?_ | refine blk_alloc ?_ _)); refine blk_put (cs := #[.int .i64 a0_0, .int .i64 a0_1, .int .i64 a0_2, .int .i64 a0_3, .int .i64 a0_4, .int .i64 0, .int .i32 0, .slice none 0 0, .int .i64 0]) ?_ 5 _ rfl; (with_reducible repeat (first | refine blk_drewN ?_ _ | refine blk_drew ?_ | refine blk_alloc ?_ _)); refine blk_put (cs := #[.int .i64 a0_0, .int .i64 a0_1, .int .i64 a0_2, .int .i64 a0_3, .int .i64 0, .int .i64 0, .int .i32 0, .slice none 0 0, .int .i64 0]) ?_ 4 _ rfl; (with_reducible repeat (first | refine blk_drewN ?_ _ | refine blk_drew ?_ | refine blk_alloc ?_ _)); refine blk_put (cs := #[.int .i64 a0_0, .int .i64 a0_1, .int .i64 a0_2, .int .i64 0, .int .i64 0, .int .i64 0, .int .i32 0, .slice none 0 0, .int .i64 0]) ?_ 3 _ rfl; (with_reducible repeat (first | refine blk_drewN ?_ _ | refine blk_drew ?_ | refine blk_alloc ?_ _)); refine blk_put (cs := #[.int .i64 a0_0, .int .i64 a0_1, .int .i64 0, .int .i64 0, .int .i64 0, .int .i64 0, .int .i32 0, .slice none 0 0, .int .i64 0]) ?_ 2 _ rfl; (with_reducible repeat (first | refine blk_drewN ?_ _ | refine blk_drew ?_ | refine blk_alloc ?_ _)); refine blk_put (cs := #[.int .i64 a0_0, .int .i64 0, .int .i64 0, .int .i64 0, .int .i64 0, .int .i64 0, .int .i32 0, .slice none 0 0, .int .i64 0]) ?_ 1 _ rfl; (with_reducible repeat (first | refine blk_drewN ?_ _ | refine blk_drew ?_ | refine blk_alloc ?_ _)); refine blk_put (cs := #[.int .i64 0, .int .i64 0, .int .i64 0, .int .i64 0, .int .i64 0, .int .i64 0, .int .i32 0, .slice none 0 0, .int .i64 0]) ?_ 0 _ rfl; (with_reducible repeat (first | refine blk_drewN ?_ _ | refine blk_drew ?_ | refine blk_alloc ?_ _)); refine blk_far ?_ NB214_213.out _; (with_reducible repeat (first | refine blk_drewN ?_ _ | refine blk_drew ?_ | refine blk_alloc ?_ _)); exact BK214.out) Try.underlying37 rfl (by kernel_rfl)) rfl ?_
 exact ⟨_, by first | rfl | (simp [errW_none, errW_some] <;> rfl) | (simp [*, errW_none, errW_some] <;> rfl), by (with_reducible repeat (first | apply Kd.R_alloc | apply Kd.R_drewN | apply Kd.R_drew)); exact Kd.R_mono (Kd.R_far (p := ⟨gb214, 8, none⟩) (Kd.R_far (p := ⟨gb214, 7, none⟩) (Kd.R_far (p := ⟨gb214, 6, none⟩) (Kd.R_far (p := ⟨gb214, 5, none⟩) (Kd.R_far (p := ⟨gb214, 4, none⟩) (Kd.R_far (p := ⟨gb214, 3, none⟩) (Kd.R_far (p := ⟨gb214, 2, none⟩) (Kd.R_far (p := ⟨gb214, 1, none⟩) (Kd.R_far (p := ⟨gb214, 0, none⟩) (Kd.R_far (p := ⟨gb213, 7, none⟩) (Kd.R_types (Kd.R_types HO217.out BK213.out (by decide)) BK214.out (by decide)) (fun _ hk => hk.1.2) (.slice Ao8 t215.length co8)) (fun _ hk => hk.2) (.int .i64 a0_0)) (fun _ hk => hk.2) (.int .i64 a0_1)) (fun _ hk => hk.2) (.int .i64 a0_2)) (fun _ hk => hk.2) (.int .i64 a0_3)) (fun _ hk => hk.2) (.int .i64 a0_4)) (fun _ hk => hk.2) (.int .i64 a0_5)) (fun _ hk => hk.2) (.int .i32 a0_6)) (fun _ hk => hk.2) (.slice Ao8 t215.length co8)) (fun _ hk => hk.2) (.int .i64 a0_8)) (fun _ hk => trivial), by repeat (first | (with_reducible first | exact HB.out | apply below_alloc | apply pw_below_drewN | apply below_drew1 | refine below_set ?_ GE213.out | refine below_set ?_ GE214.out) | exact HB.out)⟩
def cmp_isNaN_int.f (a0 : Int) : Option (Bool) := some (a0 != a0)
set_option maxHeartbeats 8000000 in
set_option maxRecDepth 100000 in
theorem cmp_isNaN_int.calls (a0 : Int) (r : Bool) (w : World) (h : cmp_isNaN_int.f a0 = some r) :
    Calls Try.prog 67 #[.int .i64 a0] w fun e w' => e = .returned (.bool r) ∧ Drawn0 w w' := by
 have H : (some (a0 != a0)) = some r := h
 clear h
 obtain rfl := Option.some.inj H
 go_enter Try.func67, Try.ntmps67
 go_wp2; go_ret
 exact ⟨by first | rfl | (simp; done) | (simp [*]; done), by repeat (first | exact Drawn0.refl _ | apply Drawn0.step)⟩
def cmp_Compare_int.f (a0 : Int) (a1 : Int) : Option (Int) := (cmp_isNaN_int.f a0).bind fun t218 => ((cmp_isNaN_int.f a1).bind fun t219 => (if t218 = true then (if t219 = true then (some 0) else (some (-1))) else (if t219 = true then (some 1) else (if a0 < a1 then (some (-1)) else (if a0 > a1 then (some 1) else (some 0))))))
set_option maxHeartbeats 8000000 in
set_option maxRecDepth 100000 in
theorem cmp_Compare_int.calls (a0 : Int) (a1 : Int) (r : Int) (w : World) (h : cmp_Compare_int.f a0 a1 = some r) :
    Calls Try.prog 55 #[.int .i64 a0, .int .i64 a1] w fun e w' => e = .returned (.int .i64 r) ∧ Drawn0 w w' := by
 have H : ((cmp_isNaN_int.f a0).bind fun t218 => ((cmp_isNaN_int.f a1).bind fun t219 => (if t218 = true then (if t219 = true then (some 0) else (some (-1))) else (if t219 = true then (some 1) else (if a0 < a1 then (some (-1)) else (if a0 > a1 then (some 1) else (some 0))))))) = some r := h
 clear h
 replace H := Option.bind_eq_some_iff.mp H
 obtain ⟨t218, A30, H⟩ := H
 replace H : ((cmp_isNaN_int.f a1).bind fun t219 => (if t218 = true then (if t219 = true then (some 0) else (some (-1))) else (if t219 = true then (some 1) else (if a0 < a1 then (some (-1)) else (if a0 > a1 then (some 1) else (some 0)))))) = some r := H
 have A3 := Aside0.mk A30
 clear A30
 replace H := Option.bind_eq_some_iff.mp H
 obtain ⟨t219, A40, H⟩ := H
 replace H : (if t218 = true then (if t219 = true then (some 0) else (some (-1))) else (if t219 = true then (some 1) else (if a0 < a1 then (some (-1)) else (if a0 > a1 then (some 1) else (some 0))))) = some r := H
 have A4 := Aside0.mk A40
 clear A40
 by_cases c5 : t218 = true
 · subst c5
   have H1 : (if t219 = true then (some 0) else (some (-1))) = some r := by rw [if_pos rfl] at H; exact H
   clear H
   have H := H1
   clear H1
   by_cases c6 : t219 = true
   · subst c6
     have H1 : (some 0) = some r := by rw [if_pos rfl] at H; exact H
     clear H
     have H := H1
     clear H1
     obtain rfl := Option.some.inj H
     go_enter Try.func55, Try.ntmps55
     go_wp2_with (first | ((with_reducible refine gate_callee (f := 67) rfl ?_); refine goesL_ (some 8) rfl rfl Try.func67 (by kernel_rfl) rfl #[.int .i64 a0] rfl (by (try simp only [List.map_toArray, List.map_cons, List.map_nil]); first | done | rfl | (simp only [List.length_drop, List.length_take]; rfl)) ?_; (with_reducible refine (cmp_isNaN_int.calls a0 true _ A3.out).mono ?_); rintro e w' ⟨rfl, ⟨nd, rfl⟩⟩; refine ⟨_, rfl, ?_⟩) | ((with_reducible refine gate_callee (f := 67) rfl ?_); refine goesL_ (some 10) rfl rfl Try.func67 (by kernel_rfl) rfl #[.int .i64 a1] rfl (by (try simp only [List.map_toArray, List.map_cons, List.map_nil]); first | done | rfl | (simp only [List.length_drop, List.length_take]; rfl)) ?_; (with_reducible refine (cmp_isNaN_int.calls a1 true _ A4.out).mono ?_); rintro e w' ⟨rfl, ⟨nd, rfl⟩⟩; refine ⟨_, rfl, ?_⟩))
     go_ret
     exact ⟨by first | rfl | (simp; done) | (simp [*]; done), by repeat (first | exact Drawn0.refl _ | apply Drawn0.step)⟩
   · replace c6 := Bool.eq_false_iff.mpr c6
     subst c6
     have H1 : (some (-1)) = some r := by rw [if_neg (show ¬ (false = true) by decide)] at H; exact H
     clear H
     have H := H1
     clear H1
     obtain rfl := Option.some.inj H
     go_enter Try.func55, Try.ntmps55
     go_wp2_with (first | ((with_reducible refine gate_callee (f := 67) rfl ?_); refine goesL_ (some 8) rfl rfl Try.func67 (by kernel_rfl) rfl #[.int .i64 a0] rfl (by (try simp only [List.map_toArray, List.map_cons, List.map_nil]); first | done | rfl | (simp only [List.length_drop, List.length_take]; rfl)) ?_; (with_reducible refine (cmp_isNaN_int.calls a0 true _ A3.out).mono ?_); rintro e w' ⟨rfl, ⟨nd, rfl⟩⟩; refine ⟨_, rfl, ?_⟩) | ((with_reducible refine gate_callee (f := 67) rfl ?_); refine goesL_ (some 10) rfl rfl Try.func67 (by kernel_rfl) rfl #[.int .i64 a1] rfl (by (try simp only [List.map_toArray, List.map_cons, List.map_nil]); first | done | rfl | (simp only [List.length_drop, List.length_take]; rfl)) ?_; (with_reducible refine (cmp_isNaN_int.calls a1 false _ A4.out).mono ?_); rintro e w' ⟨rfl, ⟨nd, rfl⟩⟩; refine ⟨_, rfl, ?_⟩))
     go_ret
     exact ⟨by first | rfl | (simp; done) | (simp [*]; done), by repeat (first | exact Drawn0.refl _ | apply Drawn0.step)⟩
 · replace c5 := Bool.eq_false_iff.mpr c5
   subst c5
   have H1 : (if t219 = true then (some 1) else (if a0 < a1 then (some (-1)) else (if a0 > a1 then (some 1) else (some 0)))) = some r := by rw [if_neg (show ¬ (false = true) by decide)] at H; exact H
   clear H
   have H := H1
   clear H1
   by_cases c7 : t219 = true
   · subst c7
     have H1 : (some 1) = some r := by rw [if_pos rfl] at H; exact H
     clear H
     have H := H1
     clear H1
     obtain rfl := Option.some.inj H
     go_enter Try.func55, Try.ntmps55
     go_wp2_with (first | ((with_reducible refine gate_callee (f := 67) rfl ?_); refine goesL_ (some 8) rfl rfl Try.func67 (by kernel_rfl) rfl #[.int .i64 a0] rfl (by (try simp only [List.map_toArray, List.map_cons, List.map_nil]); first | done | rfl | (simp only [List.length_drop, List.length_take]; rfl)) ?_; (with_reducible refine (cmp_isNaN_int.calls a0 false _ A3.out).mono ?_); rintro e w' ⟨rfl, ⟨nd, rfl⟩⟩; refine ⟨_, rfl, ?_⟩) | ((with_reducible refine gate_callee (f := 67) rfl ?_); refine goesL_ (some 10) rfl rfl Try.func67 (by kernel_rfl) rfl #[.int .i64 a1] rfl (by (try simp only [List.map_toArray, List.map_cons, List.map_nil]); first | done | rfl | (simp only [List.length_drop, List.length_take]; rfl)) ?_; (with_reducible refine (cmp_isNaN_int.calls a1 true _ A4.out).mono ?_); rintro e w' ⟨rfl, ⟨nd, rfl⟩⟩; refine ⟨_, rfl, ?_⟩))
     go_ret
     exact ⟨by first | rfl | (simp; done) | (simp [*]; done), by repeat (first | exact Drawn0.refl _ | apply Drawn0.step)⟩
   · replace c7 := Bool.eq_false_iff.mpr c7
     subst c7
     have H1 : (if a0 < a1 then (some (-1)) else (if a0 > a1 then (some 1) else (some 0))) = some r := by rw [if_neg (show ¬ (false = true) by decide)] at H; exact H
     clear H
     have H := H1
     clear H1
     by_cases c8 : a0 < a1
     · rw [if_pos c8] at H
       have c8b0 : decide (a0 < a1) = true := decide_eq_true c8
       clear c8
       obtain rfl := Option.some.inj H
       go_enter Try.func55, Try.ntmps55
       go_wp2_with (first | ((with_reducible refine gate_callee (f := 67) rfl ?_); refine goesL_ (some 8) rfl rfl Try.func67 (by kernel_rfl) rfl #[.int .i64 a0] rfl (by (try simp only [List.map_toArray, List.map_cons, List.map_nil]); first | done | rfl | (simp only [List.length_drop, List.length_take]; rfl)) ?_; (with_reducible refine (cmp_isNaN_int.calls a0 false _ A3.out).mono ?_); rintro e w' ⟨rfl, ⟨nd, rfl⟩⟩; refine ⟨_, rfl, ?_⟩) | ((with_reducible refine gate_callee (f := 67) rfl ?_); refine goesL_ (some 10) rfl rfl Try.func67 (by kernel_rfl) rfl #[.int .i64 a1] rfl (by (try simp only [List.map_toArray, List.map_cons, List.map_nil]); first | done | rfl | (simp only [List.length_drop, List.length_take]; rfl)) ?_; (with_reducible refine (cmp_isNaN_int.calls a1 false _ A4.out).mono ?_); rintro e w' ⟨rfl, ⟨nd, rfl⟩⟩; refine ⟨_, rfl, ?_⟩))
       go_ret
       exact ⟨by first | rfl | (simp; done) | (simp [*]; done), by repeat (first | exact Drawn0.refl _ | apply Drawn0.step)⟩
     · rw [if_neg c8] at H
       have c8b0 : decide (a0 < a1) = false := decide_eq_false c8
       clear c8
       by_cases c9 : a0 > a1
       · rw [if_pos c9] at H
         have c9b0 : decide (a1 < a0) = true := decide_eq_true c9
         clear c9
         obtain rfl := Option.some.inj H
         go_enter Try.func55, Try.ntmps55
         go_wp2_with (first | ((with_reducible refine gate_callee (f := 67) rfl ?_); refine goesL_ (some 8) rfl rfl Try.func67 (by kernel_rfl) rfl #[.int .i64 a0] rfl (by (try simp only [List.map_toArray, List.map_cons, List.map_nil]); first | done | rfl | (simp only [List.length_drop, List.length_take]; rfl)) ?_; (with_reducible refine (cmp_isNaN_int.calls a0 false _ A3.out).mono ?_); rintro e w' ⟨rfl, ⟨nd, rfl⟩⟩; refine ⟨_, rfl, ?_⟩) | ((with_reducible refine gate_callee (f := 67) rfl ?_); refine goesL_ (some 10) rfl rfl Try.func67 (by kernel_rfl) rfl #[.int .i64 a1] rfl (by (try simp only [List.map_toArray, List.map_cons, List.map_nil]); first | done | rfl | (simp only [List.length_drop, List.length_take]; rfl)) ?_; (with_reducible refine (cmp_isNaN_int.calls a1 false _ A4.out).mono ?_); rintro e w' ⟨rfl, ⟨nd, rfl⟩⟩; refine ⟨_, rfl, ?_⟩))
         go_ret
         exact ⟨by first | rfl | (simp; done) | (simp [*]; done), by repeat (first | exact Drawn0.refl _ | apply Drawn0.step)⟩
       · rw [if_neg c9] at H
         have c9b0 : decide (a1 < a0) = false := decide_eq_false c9
         clear c9
         obtain rfl := Option.some.inj H
         go_enter Try.func55, Try.ntmps55
         go_wp2_with (first | ((with_reducible refine gate_callee (f := 67) rfl ?_); refine goesL_ (some 8) rfl rfl Try.func67 (by kernel_rfl) rfl #[.int .i64 a0] rfl (by (try simp only [List.map_toArray, List.map_cons, List.map_nil]); first | done | rfl | (simp only [List.length_drop, List.length_take]; rfl)) ?_; (with_reducible refine (cmp_isNaN_int.calls a0 false _ A3.out).mono ?_); rintro e w' ⟨rfl, ⟨nd, rfl⟩⟩; refine ⟨_, rfl, ?_⟩) | ((with_reducible refine gate_callee (f := 67) rfl ?_); refine goesL_ (some 10) rfl rfl Try.func67 (by kernel_rfl) rfl #[.int .i64 a1] rfl (by (try simp only [List.map_toArray, List.map_cons, List.map_nil]); first | done | rfl | (simp only [List.length_drop, List.length_take]; rfl)) ?_; (with_reducible refine (cmp_isNaN_int.calls a1 false _ A4.out).mono ?_); rintro e w' ⟨rfl, ⟨nd, rfl⟩⟩; refine ⟨_, rfl, ?_⟩))
         go_ret
         exact ⟨by first | rfl | (simp; done) | (simp [*]; done), by repeat (first | exact Drawn0.refl _ | apply Drawn0.step)⟩
end Go.Proofs.Ytocndmielggnpaa.PAll
end
section
namespace Go.Proofs.Ytocndmielggnpaa.PAll
open Go.RowKit Go.Proofs.YtocndmielggnpaaW.PrintWords Go.Proofs.YtocndmielggnpaaW.PrintLast Go.Proofs.YtocndmielggnpaaW.PrintMore
open Go.Proofs.Ytocndmielggnpaa.Kind Go.Proofs.Ytocndmielggnpaa.AMap
structure De where
 mul : Int
 dv : Int
 ld : Int
 tk : Int
structure En where
 op : Int
 a : Int
 b : Int
 tos : List Int
 imm : Int
/-- The row of a kind. -/
def rowOf (n : Nat) (x : S35) : List Int := if n = 68 then [] else if n = 69 then [x.f1] else if n = 70 then [x.f3] else if n = 71 then [x.f3, x.f4] else if n = 72 then [x.f3, x.f4, x.f5] else if n = 73 then x.f7 else [x.f1, x.f2]
def tkP (x : S35) : List Int := if x.f0 = 2 then [x.f3, x.f4] else if x.f0 = 30 then [wrap64 (16 + wrap64 x.f6)] else rowOf (kt x.f0).1 x
def mkP (x : S35) : List Int := if x.f0 = 2 then [x.f3, x.f4] else if x.f0 = 31 then [wrap64 (16 + wrap64 x.f6)] else rowOf (kt x.f0).2 x
def spP (x : S35) : List Int := if x.f0 = 28 then [1, 2, 3] else []
def chP (x : S35) : List Int := mkP x ++ spP x
def lt0 (n : Int) : Int := max 1 (min n 20)
def ltP (x : S35) (d : De) : Int := if x.f0 = 7 ∨ x.f0 = 23 ∨ x.f0 = 29 then lt0 d.mul else if x.f0 = 17 then lt0 d.dv else if x.f0 = 24 ∨ x.f0 = 25 ∨ x.f0 = 30 then lt0 d.ld else 1
def ndP (e : En) : List Int := if e.op = 2 ∨ e.op = 6 ∨ (e.op = 7 ∧ 0 ≤ e.a) then [e.a] else if 3 ≤ e.op ∧ e.op ≤ 5 then [e.a, e.b] else []
/-- The arguments are few enough to be copied. -/
def Few (x : S35) : Prop := x.f7.length < 8796093022208
theorem kindRow_eq (n : Nat) (hn : n ∈ [68, 69, 70, 71, 72, 73, 74]) (x : S35) (h : Few x) : kindRow n x.f0 x.f1 x.f2 x.f3 x.f4 x.f5 x.f6 x.f7 = some (rowOf n x) := by
 unfold Few at h
 simp only [List.mem_cons, List.not_mem_nil, or_false] at hn
 have h2 : x.f7.length < 17592186044416 := by omega
 rcases hn with rfl | rfl | rfl | rfl | rfl | rfl | rfl <;> simp [kindRow, rowOf, mach_kindOf_1.f, mach_kindOf_2.f, mach_kindOf_3.f, mach_kindOf_4.f, mach_kindOf_5.f, mach_kindOf_6.f, mach_kindOf_7.f, slices_Clone_int_int.f, h2]
theorem takes_eq (x : S35) (h : Few x) : phys_Takes.f x.f0 x.f1 x.f2 x.f3 x.f4 x.f5 x.f6 x.f7 = some (tkP x) := by
 unfold phys_Takes.f tkP mach_Takes.f
 rw [kindRow_eq _ (kt_mem x.f0).1 x h]
 split
 · rfl
 · split <;> rfl
theorem makes_eq (x : S35) (h : Few x) : phys_Makes.f x.f0 x.f1 x.f2 x.f3 x.f4 x.f5 x.f6 x.f7 = some (mkP x) := by
 unfold phys_Makes.f mkP mach_Makes.f
 rw [kindRow_eq _ (kt_mem x.f0).2 x h]
 split
 · rfl
 · split <;> rfl
theorem rowOf_len (n : Nat) (x : S35) : (rowOf n x).length ≤ x.f7.length + 3 := by
 unfold rowOf
 (repeat' split) <;> simp
theorem mk_len (x : S35) : (mkP x).length ≤ x.f7.length + 3 := by
 unfold mkP
 split
 · simp
 · split
   · simp
   · exact rowOf_len _ _
theorem sp_len (x : S35) : (spP x).length ≤ 3 := by unfold spP; split <;> simp
theorem tk_len (x : S35) : (tkP x).length ≤ x.f7.length + 3 := by
 unfold tkP
 split
 · simp
 · split
   · simp
   · exact rowOf_len _ _
theorem changes_eq (x : S35) (h : Few x) : sched_changes.f x.f0 x.f1 x.f2 x.f3 x.f4 x.f5 x.f6 x.f7 = some (chP x) := by
 have h1 := mk_len x
 have h2 := sp_len x
 have h3 : phys_Spoils.f x.f0 x.f1 x.f2 x.f3 x.f4 x.f5 x.f6 x.f7 = some (spP x) := by unfold phys_Spoils.f spP; split <;> rfl
 unfold Few at h
 unfold sched_changes.f chP
 rw [makes_eq x h, h3]
 simp only [Option.bind_some]
 rw [if_pos (by omega)]
theorem mx_eq (a b : Int) : mx a b = max a b := by unfold mx; split <;> omega
theorem mn_eq (a b : Int) : mn a b = min a b := by unfold mn; split <;> omega
theorem lateP_eq (x : S35) (d : De) : lateP x.f0 d.mul d.dv d.ld = ltP x d := by
 unfold lateP ltP lt0
 simp only [mx_eq, mn_eq]
theorem lt_eq (x : S35) (d : De) : sched_Late.f x.f0 x.f1 x.f2 x.f3 x.f4 x.f5 x.f6 x.f7 d.mul d.dv d.ld d.tk = some (ltP x d) := by
 unfold sched_Late.f
 rw [lateP_eq]
theorem needs_eq (e : En) : phys_Needs.f e.op e.a e.b e.tos e.imm = some (ndP e) := rfl
theorem lt0_bd (n : Int) : 1 ≤ lt0 n ∧ lt0 n ≤ 20 := by unfold lt0; omega
theorem lt_bd (x : S35) (d : De) : 1 ≤ ltP x d ∧ ltP x d ≤ 20 := by
 unfold ltP
 repeat' split
 all_goals first | exact lt0_bd _ | omega
end Go.Proofs.Ytocndmielggnpaa.PAll
end
section
namespace Go.Proofs.Ytocndmielggnpaa.PAll
open Go.RowKit Go.Proofs.YtocndmielggnpaaW.PrintWords Go.Proofs.YtocndmielggnpaaW.PrintLast Go.Proofs.YtocndmielggnpaaW.PrintMore
open Go.Proofs.Ytocndmielggnpaa.Kind Go.Proofs.Ytocndmielggnpaa.AMap
attribute [local go_sem] max2_int min2_int max_two min_two
theorem new_at (w : World) (o : Obj) (n : Nat) (h : n = w.heap.size) : (w.alloc o).heap[n]? = some o := by subst h; exact heap_alloc_new w o
theorem made_at (w : World) (n : Nat) (h : n = w.heap.size) : MapFn (w.alloc (.map #[] 0)) n (fun _ => none) := by subst h; exact MapFn.made w
/-- An instruction of a row, cell by cell. -/
theorem at37 {w : World} {A : Option Addr} {l : List S37} (h : Kd.C k37 w A l.length l) (k : Nat) (hk : k < l.length) : ∃ ad A7 c7 x, A = some ad ∧ x = l.getD k z37 ∧
    w.cell? (ad.add (k * 9)) = some (.int .i64 x.f0.f0) ∧ w.cell? ⟨(ad.add (k * 9)).block, (ad.add (k * 9)).off + 1, none⟩ = some (.int .i64 x.f0.f1) ∧
    w.cell? ⟨(ad.add (k * 9)).block, (ad.add (k * 9)).off + 2, none⟩ = some (.int .i64 x.f0.f2) ∧ w.cell? ⟨(ad.add (k * 9)).block, (ad.add (k * 9)).off + 3, none⟩ = some (.int .i64 x.f0.f3) ∧
    w.cell? ⟨(ad.add (k * 9)).block, (ad.add (k * 9)).off + 4, none⟩ = some (.int .i64 x.f0.f4) ∧ w.cell? ⟨(ad.add (k * 9)).block, (ad.add (k * 9)).off + 5, none⟩ = some (.int .i64 x.f0.f5) ∧
    w.cell? ⟨(ad.add (k * 9)).block, (ad.add (k * 9)).off + 6, none⟩ = some (.int .i32 x.f0.f6) ∧ w.cell? ⟨(ad.add (k * 9)).block, (ad.add (k * 9)).off + 7, none⟩ = some (.slice A7 x.f0.f7.length c7) ∧
    w.cell? ⟨(ad.add (k * 9)).block, (ad.add (k * 9)).off + 8, none⟩ = some (.int .i64 x.f1) ∧ x.f0.f7.length ≤ c7 ∧ (Kd.int .i64).C w A7 x.f0.f7.length x.f0.f7 := by
 obtain ⟨ad, A7, c7, e, h0, h1, h2, h3, h4, h5, h6, h7, h8, hl, hc⟩ := at_T37 h (k : Int) (by omega) (by omega)
 simp only [Int.toNat_natCast, rd_T37] at h0 h1 h2 h3 h4 h5 h6 h7 h8 hl hc
 exact ⟨ad, A7, c7, l.getD k z37, e, rfl, h0, h1, h2, h3, h4, h5, h6, h7, h8, hl, hc⟩
theorem blk_b {w w1 : World} {b : Nat} {o : Obj} (hb : Below w.heap.size w w1) (h : w.heap[b]? = some o) : w1.heap[b]? = some o := (hb.block _ (blk_lt h)).trans h
theorem blk_g {w w1 : World} {b : Nat} {o : Obj} {row : Option Nat} (hg : w.grownBy w1 row) (h : w.heap[b]? = some o) (hne : some b ≠ row) : w1.heap[b]? = some o := (hg.block _ (blk_lt h) hne).trans h
theorem cell_b {w w1 : World} {a : Addr} {v : Value} (hb : Below w.heap.size w w1) (h : w.cell? a = some v) : w1.cell? a = some v := (hb.cell (World.block_lt_of_cell? _ _ h)).trans h
def cyStep (d : De) (st : Int × (Int → Int)) (x : S37) : Int × (Int → Int) :=
 let n := issueP st.2 st.1 (tkP x.f0)
 (n, fun p => if p ∈ chP x.f0 then n + ltP x.f0 d else st.2 p)
def cySt (d : De) (l : List S37) : Int × (Int → Int) := l.foldl (cyStep d) (-1, fun _ => 0)
def cyP (l : List S37) (e : En) (d : De) : Int := issueP (cySt d l).2 (cySt d l).1 (ndP e) + 1
theorem cySt_snoc (d : De) (l : List S37) (k : Nat) (hk : k < l.length) : cySt d (l.take (k + 1)) = cyStep d (cySt d (l.take k)) (l.getD k z37) := by
 unfold cySt
 rw [List.take_succ_eq_append_getElem hk, List.foldl_append]
 simp [List.getD_eq_getElem?_getD, List.getElem?_eq_getElem hk]
theorem cySt_bd (d : De) (l : List S37) : -1 ≤ (cySt d l).1 ∧ (cySt d l).1 ≤ 21 * l.length ∧ ∀ p, 0 ≤ (cySt d l).2 p ∧ (cySt d l).2 p ≤ 21 * l.length := by
 have key : ∀ (l : List S37) (st : Int × (Int → Int)) (n : Nat), -1 ≤ st.1 → st.1 ≤ 21 * n → (∀ p, 0 ≤ st.2 p ∧ st.2 p ≤ 21 * n) →
     -1 ≤ (l.foldl (cyStep d) st).1 ∧ (l.foldl (cyStep d) st).1 ≤ 21 * (n + l.length : Nat) ∧ ∀ p, 0 ≤ (l.foldl (cyStep d) st).2 p ∧ (l.foldl (cyStep d) st).2 p ≤ 21 * (n + l.length : Nat) := by
  intro l
  induction l with
  | nil => intro st n h1 h2 h3; simpa using ⟨h1, h2, h3⟩
  | cons x l ih =>
   intro st n h1 h2 h3
   have g1 := issueP_ge st.2 st.1 (tkP x.f0)
   have g2 := issueP_le st.2 st.1 (21 * n + 1) (fun p => by have := (h3 p).2; omega) (by omega) (tkP x.f0)
   have g3 := lt_bd x.f0 d
   have := ih (cyStep d st x) (n + 1) (by simp only [cyStep]; omega) (by simp only [cyStep]; omega) (by
    intro p; simp only [cyStep]
    split
    · omega
    · have := h3 p; omega)
   simp only [List.foldl_cons, List.length_cons]
   have e : n + (l.length + 1) = n + 1 + l.length := by omega
   rw [e]
   exact this
 have := key l (-1, fun _ => 0) 0 (by simp) (by simp) (by simp)
 simpa [cySt] using this
set_option maxHeartbeats 4000000 in
set_option maxRecDepth 100000 in
theorem cycles_calls (A0 : Option Addr) (c0 : Nat) (l : List S37) (e : En) (A1 : Option Addr) (c1 : Nat) (d : De) (w : World) (hr0 : Kd.C k37 w A0 l.length l) (hc0 : l.length ≤ c0)
    (hr1 : Kd.C (Kd.int .i64) w A1 e.tos.length e.tos) (hc1 : e.tos.length ≤ c1) (hlen : l.length ≤ 100000000000000000) (hfew : ∀ x ∈ l, Few x.f0) :
    Calls Try.prog 10 #[.slice A0 l.length c0, .agg #[.int .i64 e.op, .int .i64 e.a, .int .i64 e.b, .slice A1 e.tos.length c1, .int .i32 e.imm], .agg #[.int .i64 d.mul, .int .i64 d.dv, .int .i64 d.ld, .int .i64 d.tk]] w
     fun en w' => en = .returned (.int .i64 (cyP l e d)) ∧ Below w.heap.size w w' := by
 have hmm := @run_makeMap Try.prog
 have HR0 := Aside0.mk hr0
 have HC0 := Aside0.mk hc0
 have HR1 := Aside0.mk hr1
 have HC1 := Aside0.mk hc1
 have HF := Aside0.mk hfew
 clear hr0 hc0 hr1 hc1 hfew
 go_enter Try.func10, Try.ntmps10
 go_wp2
 go_loopw [18] (fun v18 wr => ∃ k : Nat, k ≤ l.length ∧ v18 = .int .i64 k ∧
     Aside0 (wr.heap[w.heap.size]? = some (.cells #[.int .i64 e.op, .int .i64 e.a, .int .i64 e.b, .slice A1 e.tos.length c1, .int .i32 e.imm] 25 (0, 0))) ∧
     Aside0 (wr.heap[w.heap.size + 1]? = some (.cells #[.int .i64 d.mul, .int .i64 d.dv, .int .i64 d.ld, .int .i64 d.tk] 27 (0, 0))) ∧
     Aside0 (∃ f, MapFn wr (w.heap.size + 1 + 1) f ∧ ∀ p, (f p).getD (.int .i64 0) = .int .i64 ((cySt d (l.take k)).2 p)) ∧
     Aside0 (wr.heap[w.heap.size + 1 + 1 + 1]? = some (.cells #[.map (some (w.heap.size + 1 + 1))] 50 (0, 0))) ∧
     Aside0 (wr.heap[w.heap.size + 1 + 1 + 1 + 1]? = some (.cells #[.int .i64 (cySt d (l.take k)).1] 3 (0, 0))) ∧
     Aside0 (Below w.heap.size w wr)) (fun v18 _ => l.length - (intOf v18).toNat)
 case atStart =>
  refine ⟨0, Nat.zero_le _, rfl, ⟨?_⟩, ⟨?_⟩, ⟨fun _ => none, ?_, fun p => rfl⟩, ⟨?_⟩, ⟨?_⟩, ⟨?_⟩⟩
  · exact blk_alloc (blk_alloc (blk_alloc (blk_alloc (new_at _ _ _ rfl) _) _) _) _
  · exact blk_alloc (blk_alloc (blk_alloc (new_at _ _ _ (by simp)) _) _) _
  · exact ((made_at _ _ (by simp)).alloc _).alloc _
  · exact blk_alloc (new_at _ _ _ (by simp)) _
  · exact new_at _ _ _ (by simp)
  · exact below_alloc (below_alloc (below_alloc (below_alloc (below_alloc (Below.refl _ _) _) _) _) _) _
 case round =>
  obtain ⟨k, hk, rfl, HE, HD, HM, HRr, HN, HB⟩ := hrel
  obtain ⟨wq, rfl⟩ : ∃ wq : World, wq = wr := ⟨_, rfl⟩
  have hbd := cySt_bd d (l.take k)
  have hkl : (l.take k).length ≤ k := by simp [List.length_take]; omega
  by_cases hlt : k < l.length
  · obtain ⟨ad, A7, c7, x, eA, hx, x0, x1, x2, x3, x4, x5, x6, x7, x8, hl7, hC7⟩ := at37 HR0.out k hlt
    subst eA
    have Hx := Aside0.mk hx
    clear hx
    replace x0 := cell_b HB.out x0
    replace x1 := cell_b HB.out x1
    replace x2 := cell_b HB.out x2
    replace x3 := cell_b HB.out x3
    replace x4 := cell_b HB.out x4
    replace x5 := cell_b HB.out x5
    replace x6 := cell_b HB.out x6
    replace x7 := cell_b HB.out x7
    replace x8 := cell_b HB.out x8
    have HC7 := Aside0.mk hC7
    have HL7 := Aside0.mk hl7
    clear hC7 hl7
    have Hbd := Aside0.mk hbd
    clear hbd
    have hfew : Few x.f0 := HF.out x (by rw [Hx.out, List.getD_eq_getElem?_getD, List.getElem?_eq_getElem hlt]; exact List.getElem_mem hlt)
    have Hfew := Aside0.mk hfew
    clear hfew
    go_wp2_with fail
    refine (phys_Takes.calls x.f0.f0 x.f0.f1 x.f0.f2 x.f0.f3 x.f0.f4 x.f0.f5 x.f0.f6 A7 c7 x.f0.f7 (tkP x.f0) _ (Kd.C_below HC7.out (below_alloc HB.out _)) HL7.out (takes_eq x.f0 Hfew.out)).mono ?_
    rintro e1 w1 ⟨v0, rfl, hR, hB1⟩
    have HX := Aside0.mk (blk_b hB1 (heap_alloc_new wq _))
    obtain ⟨A2, c2, rfl, hl2, hC2⟩ := Kd.R_reads hR
    have hne2 : ∀ ad, A2 = some ad → 0 < (tkP x.f0).length → ad.block ≠ w.heap.size + 1 + 1 + 1 + 1 := by
     rintro ad rfl _ e
     have h1 := own_base (Kd.own_of_R hR) ad.block rfl
     have h2 := blk_lt HN.out
     simp at h1
     omega
    obtain ⟨f, hMf, hg⟩ := HM.out
    replace HE := Aside0.mk (blk_b hB1 (blk_alloc HE.out _))
    replace HD := Aside0.mk (blk_b hB1 (blk_alloc HD.out _))
    replace HRr := Aside0.mk (blk_b hB1 (blk_alloc HRr.out _))
    replace HN := Aside0.mk (blk_b hB1 (blk_alloc HN.out _))
    replace hMf := Aside0.mk ((hMf.alloc _).below hB1)
    have HB1 := Aside0.mk (below_then (below_alloc HB.out _) (by have := HB.out.size; simp; omega) hB1)
    have HC2 := Aside0.mk hC2
    have HL2 := Aside0.mk hl2
    have HNE2 := Aside0.mk hne2
    have Hg := Aside0.mk hg
    have HlX := Aside0.mk (show wq.heap.size ≠ w.heap.size + 1 + 1 + 1 + 1 from by have := blk_lt HN.out; intro e; have h1 := HX.out; rw [e, HN.out] at h1; simp at h1)
    clear hB1 hR hC2 hl2 hne2 hg HM
    go_wp2_with fail
    refine (issue_calls _ _ _ A2 c2 (tkP x.f0) _ f _ _ HC2.out HL2.out HN.out HRr.out hMf.out Hg.out Hbd.out.1 (by have := Hbd.out.2.1; omega) (fun p => by have := (Hbd.out.2.2 p).2; omega) HNE2.out).mono ?_
    rintro e2 w2 ⟨rfl, hn2, hg2⟩
    obtain ⟨n, hn⟩ : ∃ n, n = issueP (cySt d (l.take k)).2 (cySt d (l.take k)).1 (tkP x.f0) := ⟨_, rfl⟩
    rw [← hn] at hn2
    have hn0 : 0 ≤ n := by have h1 := issueP_ge (cySt d (l.take k)).2 (cySt d (l.take k)).1 (tkP x.f0); have h2 := Hbd.out.1; omega
    have hn9 : n ≤ 21 * k + 1 := by
     have := issueP_le (cySt d (l.take k)).2 (cySt d (l.take k)).1 (21 * k + 1) (fun p => by have := (Hbd.out.2.2 p).2; omega) (by have := Hbd.out.2.1; omega) (tkP x.f0)
     omega
    have Hn := Aside0.mk hn
    clear hn
    have HN0 := HN
    clear HN
    have HN := Aside0.mk hn2
    replace HE := Aside0.mk (blk_g hg2 HE.out (by simp only [ne_eq, Option.some.injEq]; omega))
    replace HD := Aside0.mk (blk_g hg2 HD.out (by simp only [ne_eq, Option.some.injEq]; omega))
    replace HRr := Aside0.mk (blk_g hg2 HRr.out (by simp only [ne_eq, Option.some.injEq]; omega))
    replace HX := Aside0.mk (blk_g hg2 HX.out (by simpa using HlX.out))
    replace hMf := Aside0.mk (hMf.out.grown hg2 (by simp only [ne_eq, Option.some.injEq]; omega))
    replace HB := Aside0.mk (HB1.out.grown hg2 (by have := HB1.out.size; omega) (by rintro k ⟨⟩; omega))
    clear HB1 hg2 hn2 HC2 HL2 HNE2 HN0
    have xc0 := (blk_cell HX.out 0).trans rfl
    have xc1 := (blk_cell HX.out 1).trans rfl
    have xc2 := (blk_cell HX.out 2).trans rfl
    have xc3 := (blk_cell HX.out 3).trans rfl
    have xc4 := (blk_cell HX.out 4).trans rfl
    have xc5 := (blk_cell HX.out 5).trans rfl
    have xc6 := (blk_cell HX.out 6).trans rfl
    have xc7 := (blk_cell HX.out 7).trans rfl
    go_wp2_with fail
    refine (sched_changes.calls x.f0.f0 x.f0.f1 x.f0.f2 x.f0.f3 x.f0.f4 x.f0.f5 x.f0.f6 A7 c7 x.f0.f7 (chP x.f0) _ (Kd.C_below HC7.out HB.out) HL7.out (changes_eq x.f0 Hfew.out)).mono ?_
    rintro e3 w3 ⟨v3, rfl, hR3, hB3⟩
    obtain ⟨A3, c3, rfl, hl3, hC3⟩ := Kd.R_reads hR3
    replace HE := Aside0.mk (blk_b hB3 HE.out)
    replace HD := Aside0.mk (blk_b hB3 HD.out)
    replace HRr := Aside0.mk (blk_b hB3 HRr.out)
    replace HX := Aside0.mk (blk_b hB3 HX.out)
    replace HN := Aside0.mk (blk_b hB3 HN.out)
    replace hMf := Aside0.mk (hMf.out.below hB3)
    replace HB := Aside0.mk (below_then HB.out HB.out.size hB3)
    have HC3 := Aside0.mk hC3
    have HL3 := Aside0.mk hl3
    have hl39 : (chP x.f0).length ≤ 9223372036854775807 := hC3.2.1
    clear hB3 hR3 hC3 hl3 xc0 xc1 xc2 xc3 xc4 xc5 xc6 xc7
    obtain ⟨wo, hwo⟩ : ∃ wo : World, wo = w3 := ⟨_, rfl⟩
    subst hwo
    go_wp2_with fail
    go_loopw [31] (fun v31 wr => ∃ j : Nat, j ≤ (chP x.f0).length ∧ v31 = .int .i64 j ∧
        Aside0 (wr.heap[w.heap.size]? = some (.cells #[.int .i64 e.op, .int .i64 e.a, .int .i64 e.b, .slice A1 e.tos.length c1, .int .i32 e.imm] 25 (0, 0))) ∧
        Aside0 (wr.heap[w.heap.size + 1]? = some (.cells #[.int .i64 d.mul, .int .i64 d.dv, .int .i64 d.ld, .int .i64 d.tk] 27 (0, 0))) ∧
        Aside0 (∃ f, MapFn wr (w.heap.size + 1 + 1) f ∧ ∀ p, (f p).getD (.int .i64 0) = .int .i64 (if p ∈ (chP x.f0).take j then n + ltP x.f0 d else (cySt d (l.take k)).2 p)) ∧
        Aside0 (wr.heap[w.heap.size + 1 + 1 + 1]? = some (.cells #[.map (some (w.heap.size + 1 + 1))] 50 (0, 0))) ∧
        Aside0 (wr.heap[w.heap.size + 1 + 1 + 1 + 1]? = some (.cells #[.int .i64 n] 3 (0, 0))) ∧
        Aside0 (wr.heap[wq.heap.size]? = some (.cells #[.int .i64 x.f0.f0, .int .i64 x.f0.f1, .int .i64 x.f0.f2, .int .i64 x.f0.f3, .int .i64 x.f0.f4, .int .i64 x.f0.f5, .int .i32 x.f0.f6, .slice A7 x.f0.f7.length c7, .int .i64 x.f1] 37 (0, 0))) ∧
        Aside0 (wo.grownBy wr (some (w.heap.size + 1 + 1))) ∧
        Aside0 (Below w.heap.size w wr)) (fun v31 _ => (chP x.f0).length - (intOf v31).toNat)
    case atStart => exact ⟨0, Nat.zero_le _, rfl, HE, HD, ⟨f, hMf.out, fun p => by simpa using Hg.out p⟩, HRr, HN, HX, ⟨World.grownBy.refl _ _⟩, HB⟩
    case round =>
     have HMo := hMf
     have HXo := HX
     clear HE HD HRr HX HN hMf HB
     obtain ⟨j, hj, rfl, HE, HD, HM, HRr, HN, HX, HG, HB⟩ := hrel
     by_cases hjl : j < (chP x.f0).length
     · obtain ⟨ad3, e3, hcell⟩ := C_int_at HC3.out j hjl
       subst e3
       have hcell' : wr.cell? (ad3.add j) = some (.int .i64 ((chP x.f0).getD j 0)) := by
        rw [← hcell]
        have hlt' := World.block_lt_of_cell? _ _ hcell
        refine World.cell?_of_block (w := wo) (HG.out.block _ hlt' ?_)
        intro hh
        have hh2 : (ad3.add j).block = w.heap.size + 1 + 1 := by simpa using hh
        have hbl : ∃ cs t fr, wo.heap[(ad3.add j).block]? = some (.cells cs t fr) := by
         unfold World.cell? at hcell
         split at hcell
         · exact ⟨_, _, _, by assumption⟩
         · simp at hcell
        obtain ⟨cs, t, fr, hbl⟩ := hbl
        exact HMo.out.ne_cells hbl hh2
       obtain ⟨p, hp⟩ : ∃ p, p = (chP x.f0).getD j 0 := ⟨_, rfl⟩
       rw [← hp] at hcell'
       have Hp := Aside0.mk hp
       obtain ⟨f1, hMf, hg1⟩ := HM.out
       have Hg1 := Aside0.mk hg1
       replace hMf := Aside0.mk hMf
       clear hp hcell hg1
       have hltb := lt_bd x.f0 d
       go_wp2_with fail
       refine start_ (n := 9) (S := fun w' => w'.cell? ⟨w.heap.size + 1, 0, none⟩ = some (.int .i64 d.mul) ∧ w'.cell? ⟨w.heap.size + 1, 1, none⟩ = some (.int .i64 d.dv) ∧ w'.cell? ⟨w.heap.size + 1, 2, none⟩ = some (.int .i64 d.ld) ∧ w'.cell? ⟨w.heap.size + 1, 3, none⟩ = some (.int .i64 d.tk) ∧ w'.cell? ⟨wq.heap.size, 0, none⟩ = some (.int .i64 x.f0.f0) ∧ w'.cell? ⟨wq.heap.size, 1, none⟩ = some (.int .i64 x.f0.f1) ∧ w'.cell? ⟨wq.heap.size, 2, none⟩ = some (.int .i64 x.f0.f2) ∧ w'.cell? ⟨wq.heap.size, 3, none⟩ = some (.int .i64 x.f0.f3) ∧ w'.cell? ⟨wq.heap.size, 4, none⟩ = some (.int .i64 x.f0.f4) ∧ w'.cell? ⟨wq.heap.size, 5, none⟩ = some (.int .i64 x.f0.f5) ∧ w'.cell? ⟨wq.heap.size, 6, none⟩ = some (.int .i32 x.f0.f6) ∧ w'.cell? ⟨wq.heap.size, 7, none⟩ = some (.slice A7 x.f0.f7.length c7) ∧ w'.cell? ⟨w.heap.size + 1 + 1 + 1, 0, none⟩ = some (.map (some (w.heap.size + 1 + 1))) ∧ w'.cell? ⟨w.heap.size + 1 + 1 + 1 + 1, 0, none⟩ = some (.int .i64 n)) (ds := [8]) (bm 9 0) (by kernel_rfl) rfl rfl ⟨(blk_cell HD.out 0).trans rfl, (blk_cell HD.out 1).trans rfl, (blk_cell HD.out 2).trans rfl, (blk_cell HD.out 3).trans rfl, (blk_cell HX.out 0).trans rfl, (blk_cell HX.out 1).trans rfl, (blk_cell HX.out 2).trans rfl, (blk_cell HX.out 3).trans rfl, (blk_cell HX.out 4).trans rfl, (blk_cell HX.out 5).trans rfl, (blk_cell HX.out 6).trans rfl, (blk_cell HX.out 7).trans rfl, (blk_cell HRr.out 0).trans rfl, (blk_cell HN.out 0).trans rfl⟩ (fun hHeld => ?_)
       refine pu 1 36 (bm 9 2) rfl rfl (by kernel_rfl) (fun _ _ _ h => h) (by rfl) (v := ?_) (a' := ?_) (by intro w'; go_simp; with_reducible rfl) (by simp only [np]; rfl) ?_
       refine pu 3 38 (bm 9 10) rfl rfl (by kernel_rfl) (fun _ _ _ h => h) (by rfl) (v := ?_) (a' := ?_) (by intro w'; go_simp; with_reducible rfl) (by simp only [np]; rfl) ?_
       refine tu 0 35 (bm 9 11) rfl rfl (by kernel_rfl) (fun _ _ _ h => h) (by rfl) (v := ?_) (a' := ?_) (by rintro w' ⟨s0, s1, s2, s3, s4, s5, s6, s7, s8, s9, s10, s11, s12, s13⟩; go_simp; with_reducible rfl) hHeld (by simp only [np]; rfl) ?_
       refine tu 2 37 (bm 9 15) rfl rfl (by kernel_rfl) (fun _ _ _ h => h) (by rfl) (v := ?_) (a' := ?_) (by rintro w' ⟨s0, s1, s2, s3, s4, s5, s6, s7, s8, s9, s10, s11, s12, s13⟩; go_simp; with_reducible rfl) hHeld (by simp only [np]; rfl) ?_
       refine tu 4 39 (bm 9 31) rfl rfl (by kernel_rfl) (fun _ _ _ h => h) (by rfl) (v := ?_) (a' := ?_) (by rintro w' ⟨s0, s1, s2, s3, s4, s5, s6, s7, s8, s9, s10, s11, s12, s13⟩; go_simp; with_reducible rfl) hHeld (by simp only [np]; rfl) ?_
       refine tu 5 40 (bm 9 63) rfl rfl (by kernel_rfl) (fun _ _ _ h => h) (by rfl) (v := ?_) (a' := ?_) (by rintro w' ⟨s0, s1, s2, s3, s4, s5, s6, s7, s8, s9, s10, s11, s12, s13⟩; go_simp; with_reducible rfl) hHeld (by simp only [np]; rfl) ?_
       refine one_ (i := 6) (N := some 41) (bm 9 127) rfl rfl (by kernel_rfl) (by decide) (fun K hK => ?_)
       refine goes_ Try.func13 (by kernel_rfl) rfl #[.agg #[.int .i64 x.f0.f0, .int .i64 x.f0.f1, .int .i64 x.f0.f2, .int .i64 x.f0.f3, .int .i64 x.f0.f4, .int .i64 x.f0.f5, .int .i32 x.f0.f6, .slice A7 x.f0.f7.length c7], .agg #[.int .i64 d.mul, .int .i64 d.dv, .int .i64 d.ld, .int .i64 d.tk]] (by rfl) rfl rfl (by simp only [List.map_toArray, List.map_cons, List.map_nil]; rfl) ?_
       with_reducible refine (sched_Late.calls x.f0.f0 x.f0.f1 x.f0.f2 x.f0.f3 x.f0.f4 x.f0.f5 x.f0.f6 A7 c7 x.f0.f7 d.mul d.dv d.ld d.tk (ltP x.f0 d) _ (Kd.C_below HC7.out (below_drew1 HB.out)) HL7.out (lt_eq x.f0 d)).mono ?_
       rintro e w5 ⟨rfl, hb⟩
       refine ⟨_, rfl, ?_⟩
       refine hK.out _ _ ⟨cell_b hb (hHeld.1), cell_b hb (hHeld.2.1), cell_b hb (hHeld.2.2.1), cell_b hb (hHeld.2.2.2.1), cell_b hb (hHeld.2.2.2.2.1), cell_b hb (hHeld.2.2.2.2.2.1), cell_b hb (hHeld.2.2.2.2.2.2.1), cell_b hb (hHeld.2.2.2.2.2.2.2.1), cell_b hb (hHeld.2.2.2.2.2.2.2.2.1), cell_b hb (hHeld.2.2.2.2.2.2.2.2.2.1), cell_b hb (hHeld.2.2.2.2.2.2.2.2.2.2.1), cell_b hb (hHeld.2.2.2.2.2.2.2.2.2.2.2.1), cell_b hb (hHeld.2.2.2.2.2.2.2.2.2.2.2.2.1), cell_b hb (hHeld.2.2.2.2.2.2.2.2.2.2.2.2.2)⟩ (fun hHeld => ?_)
       clear hK K
       refine norm_ (a' := ?_) ?_ ?_
       rotate_left
       · show Act.put _ (some 41) _ = _; simp only [np]; rfl
       refine pu 7 42 (bm 9 255) rfl rfl (by kernel_rfl) (fun _ _ _ h => h) (by rfl) (v := ?_) (a' := ?_) (by intro w'; go_simp; with_reducible rfl) (by simp only [np]; rfl) ?_
       refine last_ (i := 8) (N := none) (bm 9 511) rfl rfl (by kernel_rfl) (by decide) (fun K hK => ?_)
       obtain ⟨w6, hrun, hM6, hG6⟩ := ((MapFn.drew hMf.out).below hb).set Try.underlying50 Try.underlying3 p (.int .i64 (wrap64 (n + ltP x.f0 d)))
       refine skip_ (w1 := w6) (by rfl) rfl (by unfold execOp; simp only [Act.eval]; go_simp) ?_
       refine hK.out _ _ ?_
       clear hK K
       refine done_ (by kernel_rfl) ?_
       replace HE := Aside0.mk (blk_g hG6 (blk_b hb HE.out) (by simp only [ne_eq, Option.some.injEq]; omega))
       replace HD := Aside0.mk (blk_g hG6 (blk_b hb HD.out) (by simp only [ne_eq, Option.some.injEq]; omega))
       replace HRr := Aside0.mk (blk_g hG6 (blk_b hb HRr.out) (by simp only [ne_eq, Option.some.injEq]; omega))
       replace HN := Aside0.mk (blk_g hG6 (blk_b hb HN.out) (by simp only [ne_eq, Option.some.injEq]; omega))
       have hxm : wq.heap.size ≠ w.heap.size + 1 + 1 := HMo.out.ne_cells HXo.out
       replace HX := Aside0.mk (blk_g hG6 (blk_b hb HX.out) (by simpa using hxm))
       have hszo : w.heap.size + 1 + 1 < wr.heap.size := hMf.out.lt
       have hBn := below_then (below_drew1 HB.out) (below_drew1 HB.out).size hb
       replace HB := Aside0.mk (hBn.grown hG6 (by have := hBn.size; omega) (by rintro k ⟨⟩; omega))
       replace HG := Aside0.mk ((HG.out.trans (show wr.grownBy w5 (some (w.heap.size + 1 + 1)) from ⟨hb.os, hb.tape, hb.output, hb.size, fun i hi _ => hb.block i hi⟩)).trans hG6)
       rw [show wrap64 (n + ltP x.f0 d) = n + ltP x.f0 d from by unfold wrap64; omega] at hM6
       have HM6 := Aside0.mk hM6
       clear hM6 hG6 hrun hb hBn hMf HM; go_wp2
       go_roundw
       case rel =>
        refine ⟨j + 1, by omega, by go_num, HE, HD, ⟨_, HM6.out, fun q => ?_⟩, HRr, HN, HX, HG, HB⟩
        have hq := Hg1.out q
        have hmem : q ∈ (chP x.f0).take (j + 1) ↔ q = p ∨ q ∈ (chP x.f0).take j := by
         rw [List.take_succ_eq_append_getElem hjl, Hp.out, List.getD_eq_getElem?_getD, List.getElem?_eq_getElem hjl]
         rw [List.mem_append, List.mem_singleton, or_comm]
         simp
        unfold upd
        by_cases hqp : q = p
        · have : q ∈ (chP x.f0).take (j + 1) := hmem.2 (.inl hqp)
          rw [if_pos hqp, if_pos this]
          rfl
        · rw [if_neg hqp, hq]
          by_cases hin : q ∈ (chP x.f0).take j
          · rw [if_pos hin, if_pos (hmem.2 (.inr hin))]
          · rw [if_neg hin, if_neg (fun h => (hmem.1 h).elim hqp hin)]
       case measure => simp [intOf]; omega
     · go_wp2
       go_roundw
       case rel =>
        have hst := cySt_snoc d l k hlt
        rw [← Hx.out] at hst
        refine ⟨k + 1, by omega, by go_num, HE, HD, ?_, HRr, ?_, HB⟩
        · obtain ⟨f1, h1, h2⟩ := HM.out
          refine ⟨f1, h1, fun q => ?_⟩
          have h3 := h2 q
          rw [List.take_of_length_le (by omega)] at h3
          rw [h3, hst]
          simp only [cyStep]
          rw [← Hn.out]
        · rw [hst]
          simp only [cyStep]
          rw [← Hn.out]
          exact HN
       case measure => simp [intOf]; omega
  · have ec0 := (blk_cell HE.out 0).trans rfl
    have ec1 := (blk_cell HE.out 1).trans rfl
    have ec2 := (blk_cell HE.out 2).trans rfl
    have ec3 := (blk_cell HE.out 3).trans rfl
    have ec4 := (blk_cell HE.out 4).trans rfl
    have Hbd := Aside0.mk hbd
    clear hbd
    have hkl2 : k = l.length := by omega
    subst hkl2
    rw [List.take_length] at HN Hbd
    have hgt : ∀ p, (cySt d l).2 p ≤ 4000000000000000000 := fun p => by have := (Hbd.out.2.2 p).2; omega
    have hb1 := Hbd.out.1
    have hb2 := Hbd.out.2.1
    have Hgt := Aside0.mk hgt
    clear hgt
    go_wp2_with fail
    refine (phys_Needs.calls e.op e.a e.b A1 c1 e.tos e.imm (ndP e) _ (Kd.C_below HR1.out HB.out) HC1.out (needs_eq e)).mono ?_
    rintro e3 w3 ⟨v3, rfl, hR3, hB3⟩
    obtain ⟨A3, c3, rfl, hl3, hC3⟩ := Kd.R_reads hR3
    have hne3 : ∀ ad, A3 = some ad → 0 < (ndP e).length → ad.block ≠ w.heap.size + 1 + 1 + 1 + 1 := by
     rintro ad rfl _ e
     have h1 := own_base (Kd.own_of_R hR3) ad.block rfl
     have h2 := blk_lt HN.out
     omega
    obtain ⟨f1, hMf, hg1⟩ := HM.out
    rw [List.take_length] at hg1
    replace HRr := Aside0.mk (blk_b hB3 HRr.out)
    replace HN := Aside0.mk (blk_b hB3 HN.out)
    have hMf' := Aside0.mk (hMf.below hB3)
    replace HB := Aside0.mk (below_then HB.out HB.out.size hB3)
    have HC3 := Aside0.mk hC3
    have HL3 := Aside0.mk hl3
    have Hg1 := Aside0.mk hg1
    have HNE3 := Aside0.mk hne3
    clear hB3 hR3 hC3 hl3 hMf hg1 HM HE HD ec0 ec1 ec2 ec3 ec4 hne3
    go_wp2_with fail
    refine (issue_calls _ _ _ A3 c3 (ndP e) _ f1 _ _ HC3.out HL3.out HN.out HRr.out hMf'.out Hg1.out hb1 (by omega) Hgt.out HNE3.out).mono ?_
    rintro e4 w4 ⟨rfl, hn4, hg4⟩
    have hi0 := issueP_ge (cySt d l).2 (cySt d l).1 (ndP e)
    have hi9 := issueP_le (cySt d l).2 (cySt d l).1 4000000000000000001 (fun p => by have := Hgt.out p; omega) (by omega) (ndP e)
    have hfin : cyP l e d = issueP (cySt d l).2 (cySt d l).1 (ndP e) + 1 := rfl
    obtain ⟨n, hn⟩ : ∃ n, n = issueP (cySt d l).2 (cySt d l).1 (ndP e) := ⟨_, rfl⟩
    rw [← hn] at hn4 hi0 hi9 hfin
    have Hfin := Aside0.mk hfin
    have nc := (blk_cell hn4 0).trans rfl
    have HB4 := Aside0.mk (HB.out.grown hg4 (by have := HB.out.size; omega) (by rintro k ⟨⟩; omega))
    clear hn hfin hn4 hg4; go_wp2; go_ret
    exact ⟨by rw [Hfin.out]; rfl, HB4.out⟩
end Go.Proofs.Ytocndmielggnpaa.PAll
end
section
namespace Go.Proofs.Ytocndmielggnpaa.PAll
open Go.RowKit Go.Proofs.YtocndmielggnpaaW.PrintWords Go.Proofs.YtocndmielggnpaaW.PrintLast Go.Proofs.YtocndmielggnpaaW.PrintMore
open Go.Proofs.Ytocndmielggnpaa.AMap Go.Proofs.Ytocndmielggnpaa.Env
def nats (l : List Nat) : List Value := nums .i64 (l.map fun k : Nat => (k : Int))
theorem nats_len (l : List Nat) : (nats l).length = l.length := by simp [nats, nums]
theorem nats_get (l : List Nat) (j : Nat) (h : j < l.length) : (nats l)[j]? = some (.int .i64 (l.getD j 0 : Nat)) := by simp [nats, nums, List.getElem?_eq_getElem h, List.getD_eq_getElem?_getD]
theorem nums_get (l : List Int) (j : Nat) (h : j < l.length) : (nums .i64 l)[j]? = some (.int .i64 (l.getD j 0)) := by simp [nums, List.getElem?_eq_getElem h, List.getD_eq_getElem?_getD]
/-- The edges so far. -/
def afs (m : Nat) (xs : List Nd) (es : List (Nat × Int)) : List Nd := es.foldl (fun xs p => afterP xs m m p) xs
theorem afs_snoc (m : Nat) (xs : List Nd) (es : List (Nat × Int)) (p : Nat × Int) : afs m xs (es ++ [p]) = afterP (afs m xs es) m m p := by simp [afs]
theorem afs_len (m : Nat) (xs : List Nd) (es : List (Nat × Int)) : (afs m xs es).length = xs.length := by
 unfold afs
 induction es generalizing xs with
 | nil => rfl
 | cons p es ih => rw [List.foldl_cons, ih]; simp [afterP]
def Bd (xs : List Nd) (c : Nat) : Prop := ∀ x ∈ xs, x.beh.length ≤ c ∧ 0 ≤ x.ahead ∧ x.ahead ≤ c
theorem Bd.mono {xs : List Nd} {c c' : Nat} (h : Bd xs c) (hc : c ≤ c') : Bd xs c' := fun x hx => by have := h x hx; omega
theorem mem_modify {α : Type} (l : List α) (i : Nat) (f : α → α) (x : α) (h : x ∈ l.modify i f) : x ∈ l ∨ ∃ y ∈ l, x = f y := by
 obtain ⟨j, hj⟩ := List.mem_iff_getElem?.1 h
 rw [List.getElem?_modify] at hj
 rcases hq : l[j]? with _ | y
 · rw [hq] at hj; simp at hj
 · rw [hq] at hj
   by_cases hi : i = j
   · simp only [hi, if_true, Option.map_eq_map, Option.map_some, Option.some.injEq] at hj
     exact .inr ⟨y, List.mem_of_getElem? hq, hj.symm⟩
   · simp only [if_neg hi, Option.map_eq_map, Option.map_some, id_eq, Option.some.injEq] at hj
     exact .inl (hj ▸ List.mem_of_getElem? hq)
theorem Bd.after {xs : List Nd} {c m : Nat} {i : Int} {p : Nat × Int} (h : Bd xs c) : Bd (afterP xs m i p) (c + 1) := by
 intro x hx
 rcases mem_modify _ _ _ _ hx with hx | ⟨y, hy, rfl⟩
 · rcases mem_modify _ _ _ _ hx with hx | ⟨y, hy, rfl⟩
   · have := h x hx; omega
   · have := h y hy; simp; omega
 · rcases mem_modify _ _ _ _ hy with hx | ⟨z, hz, rfl⟩
   · have := h y hx; simp; omega
   · have := h z hz; simp; omega
theorem Bd.afs {m : Nat} {xs : List Nd} {c : Nat} (h : Bd xs c) (es : List (Nat × Int)) : Bd (PAll.afs m xs es) (c + es.length) := by
 unfold PAll.afs
 induction es generalizing xs c with
 | nil => simpa using h
 | cons p es ih =>
  rw [List.foldl_cons]
  have := ih (Bd.after (m := m) (i := m) (p := p) h)
  exact this.mono (by simp; omega)
def AF (w0 w : World) (E0 : Env) (nb : Nat → Nat) (xs : List Nd) : Prop := ∃ E', Sat w0 w E' ∧ (∀ τ : Tag, τ.1 ≠ 0 → τ.1 ≠ 1 → E' τ = E0 τ) ∧ NodesRep E' nb xs
section
variable {w0 w w' : World} {E0 : Env} {nb : Nat → Nat} {xs : List Nd} {τ : Tag} {b : Nat}
theorem AF.below (h : AF w0 w E0 nb xs) : Below w0.heap.size w0 w := by obtain ⟨E', h, _⟩ := h; exact h.below
theorem AF.grow (h : AF w0 w E0 nb xs) (hb : Below w.heap.size w w') : AF w0 w' E0 nb xs := by obtain ⟨E', h, r⟩ := h; exact ⟨E', h.grow hb, r⟩
theorem AF.drew (h : AF w0 w E0 nb xs) : AF w0 w.drew E0 nb xs := by obtain ⟨E', h, r⟩ := h; exact ⟨E', h.drew, r⟩
theorem AF.drewN (h : AF w0 w E0 nb xs) (n : Nat) : AF w0 (w.drewN n) E0 nb xs := by obtain ⟨E', h, r⟩ := h; exact ⟨E', h.drewN n, r⟩
theorem AF.holds (h : AF w0 w E0 nb xs) {d : Ds} (he : E0 τ = some (b, d)) (h0 : τ.1 ≠ 0) (h1 : τ.1 ≠ 1) : d.Holds w b := by
 obtain ⟨E', h, r, _⟩ := h
 exact h.holds _ _ _ ((r τ h0 h1).trans he)
theorem AF.cell (h : AF w0 w E0 nb xs) {cs : Array Value} {t : TypeId} (he : E0 τ = some (b, .cells cs t)) (h0 : τ.1 ≠ 0) (h1 : τ.1 ≠ 1) (i : Nat) : w.cell? ⟨b, i, none⟩ = cs[i]? := by
 obtain ⟨E', h, r, _⟩ := h
 exact h.cell ((r τ h0 h1).trans he) i
theorem AF.free (h : AF w0 w E0 nb xs) {cs : Array Value} {t : TypeId} (he : E0 τ = some (b, .cells cs t)) (h0 : τ.1 ≠ 0) (h1 : τ.1 ≠ 1) (i : Nat) : w.frozen? ⟨b, i, none⟩ = false := by
 obtain ⟨E', h, r, _⟩ := h
 exact h.free ((r τ h0 h1).trans he) i
/-- The slice of a name, told again where the names hold. -/
theorem AF.row (h : AF w0 w E0 nb xs) {v : Value} {e : Nat} {ys : List Value} (hr : IsRow E0 τ v e 1 ys) (h0 : τ.1 ≠ 0) (h1 : τ.1 ≠ 1) : w.ownsRow 0 e 1 v ys.length ys := by
 obtain ⟨E', h, r, _⟩ := h
 obtain ⟨n, hn, ho, _⟩ := (hr.congr (r τ h0 h1)).owns h (by decide)
 rw [Nat.mul_one] at hn
 rwa [hn]
theorem row_at {e c : Nat} {A : Option Addr} {ys : List Value} (h : w.ownsRow 0 e 1 (.slice A ys.length c) ys.length ys) (j : Nat) (hj : j < ys.length) : ∃ g, A = some ⟨g, 0, none⟩ ∧ w.cell? ⟨g, j, none⟩ = ys[j]? := by
 rcases h.2 with ⟨h', h2⟩ | ⟨g, cap, cur, h', _⟩
 · omega
 · simp only [Value.slice.injEq] at h'
   obtain ⟨rfl, -, rfl⟩ := h'
   refine ⟨g, rfl, ?_⟩
   have h2 := h.cells (g := g) rfl j _ (List.getElem?_eq_getElem hj)
   rw [add_plain] at h2
   rw [h2, List.getElem?_eq_getElem hj]
theorem AF.start {E : Env} (h : Sat w0 w E) (hN : NodesRep E nb xs) : AF w0 w E nb xs := ⟨E, h, fun _ _ _ => rfl, hN⟩
/-- What the closure must find. -/
structure Clo (E0 : Env) (nb : Nat → Nat) (bN bi bp rb n m : Nat) : Prop where
 hN : E0 (6, 0) = some (bN, .cells #[.slice (some ⟨rb, 0, none⟩) n n] 56)
 hR : ∃ ps, E0 (5, 0) = some (rb, .row 58 1 n ps n) ∧ ∀ k, k ≤ m → ps[k]? = some (.pointer (some ⟨nb k, 0, none⟩))
 hI : E0 (7, 0) = some (bi, .cells #[.int .i64 m] 3)
 hP : E0 (8, 0) = some (bp, .cells #[.pointer (some ⟨nb m, 0, none⟩)] 58)
theorem after_AF {bN bi bp rb n m c : Nat} (hc : Clo E0 nb bN bi bp rb n m) (k : Nat) (late : Int) (es : List (Nat × Int)) (h : AF w0 w E0 nb (afs m xs es)) (hk : k < m) (hm : xs.length = m + 1) (hb : Bd xs c) (hce : c + es.length ≤ 1000000000000) :
    Calls Try.prog 50 #[.int .i64 k, .int .i64 late, .pointer (some ⟨bN, 0, none⟩), .pointer (some ⟨bi, 0, none⟩), .pointer (some ⟨bp, 0, none⟩)] w fun e w' =>
     e = .returned (.tuple #[]) ∧ AF w0 w' E0 nb (afs m xs (es ++ [(k, late)])) := by
 obtain ⟨E', hS, hE, hx⟩ := h
 obtain ⟨ps, hR, hps⟩ := hc.hR
 have hb' := hb.afs (m := m) es
 refine (after_calls k m n rb bN bi bp late m ps nb (afs m xs es) w0 w E' hS ((hE _ (by decide) (by decide)).trans hc.hN) ((hE _ (by decide) (by decide)).trans hR) (hps k (by omega)) ((hE _ (by decide) (by decide)).trans hc.hI) ((hE _ (by decide) (by decide)).trans hc.hP) hk (by rw [afs_len]; omega) hx (fun x hx => by have := hb' x hx; omega)).mono ?_
 rintro e w' ⟨rfl, E2, hS2, hE2, hx2⟩
 refine ⟨rfl, E2, hS2, fun τ h0 h1 => (hE2 τ h0 h1).trans (hE τ h0 h1), ?_⟩
 rw [afs_snoc]
 exact hx2
end
structure GS where
 nd : List Nd
 made : Int → Option Nat
 tk : Int → List Nat
 last : Option Nat
 since : List Nat
def isLd (x : S35) : Prop := x.f0 = 24 ∨ x.f0 = 25
def isBd (x : S35) : Prop := isLd x ∨ x.f0 = 26 ∨ x.f0 = 27 ∨ x.f0 = 28 ∨ x.f0 = 17
instance (x : S35) : Decidable (isLd x) := by unfold isLd; infer_instance
instance (x : S35) : Decidable (isBd x) := by unfold isBd; infer_instance
def eT (d : De) (l : List S37) (s : GS) (p : Int) : List (Nat × Int) := (s.made p).toList.map fun k => (k, ltP (l.getD k z37).f0 d)
def ones (l : List Nat) : List (Nat × Int) := l.map fun k => (k, 1)
def eM (s : GS) (p : Int) : List (Nat × Int) := ones (s.made p).toList ++ ones (s.tk p)
def eB (s : GS) (x : S35) : List (Nat × Int) := if isLd x then ones s.last.toList else if isBd x then ones s.since ++ ones s.last.toList else []
def gEdges (d : De) (l : List S37) (s : GS) (x : S35) : List (Nat × Int) := (tkP x).flatMap (eT d l s) ++ (chP x).flatMap (eM s) ++ eB s x
def nd0 (i : Nat) : Nd := ⟨i, 0, 0, 0, []⟩
def tkAdd (tk : Int → List Nat) (i : Nat) (ps : List Int) (p : Int) : List Nat := tk p ++ List.replicate (ps.count p) i
def gStep (d : De) (l : List S37) (s : GS) (x : S37) : GS :=
 let i := s.nd.length
 { nd := afs i (s.nd ++ [nd0 i]) (gEdges d l s x.f0)
   made := fun p => if p ∈ chP x.f0 then some i else s.made p
   tk := fun p => if p ∈ chP x.f0 then [] else tkAdd s.tk i (tkP x.f0) p
   last := if isLd x.f0 then s.last else if isBd x.f0 then some i else s.last
   since := if isLd x.f0 then s.since ++ [i] else if isBd x.f0 then [] else s.since }
def gSt (d : De) (l : List S37) (k : Nat) : GS := (l.take k).foldl (gStep d l) ⟨[], fun _ => none, fun _ => [], none, []⟩
theorem gSt_succ (d : De) (l : List S37) (k : Nat) (hk : k < l.length) : gSt d l (k + 1) = gStep d l (gSt d l k) (l.getD k z37) := by
 unfold gSt
 rw [List.take_succ_eq_append_getElem hk, List.foldl_append]
 simp [List.getD_eq_getElem?_getD, List.getElem?_eq_getElem hk]
/-- Short enough. -/
def Sh (l : List S37) : Prop := l.length ≤ 100 ∧ ∀ x ∈ l, x.f0.f7.length ≤ 90
theorem Sh.at {l : List S37} (h : Sh l) (k : Nat) : (l.getD k z37).f0.f7.length ≤ 90 := by
 rw [List.getD_eq_getElem?_getD]
 rcases hq : l[k]? with _ | x
 · simp [z37]; decide
 · exact h.2 x (List.mem_of_getElem? hq)
theorem ch_len (x : S35) : (chP x).length ≤ x.f7.length + 6 := by have := mk_len x; have := sp_len x; simp [chP]; omega
structure GI (s : GS) (i : Nat) : Prop where
 made : ∀ p k, s.made p = some k → k < i
 tk : ∀ p k, k ∈ s.tk p → k < i
 tkl : ∀ p, (s.tk p).length ≤ i * 100
 last : ∀ k, s.last = some k → k < i
 since : ∀ k ∈ s.since, k < i
 sincel : s.since.length ≤ i
 len : s.nd.length = i
 bd : Bd s.nd (i * 2000000)
theorem flatMap_le {α β : Type} (f : α → List β) (c : Nat) (h : ∀ a, (f a).length ≤ c) (l : List α) : (l.flatMap f).length ≤ l.length * c := by
 induction l with
 | nil => simp
 | cons a l ih => rw [List.flatMap_cons, List.length_append, List.length_cons, Nat.succ_mul]; have := h a; omega
theorem opt_len {α : Type} (o : Option α) : o.toList.length ≤ 1 := by cases o <;> simp
theorem eT_len (d : De) (l : List S37) (s : GS) (p : Int) : (eT d l s p).length ≤ 1 := by unfold eT; rw [List.length_map]; exact opt_len _
theorem eM_len {s : GS} {i : Nat} (h : GI s i) (p : Int) : (eM s p).length ≤ 1 + i * 100 := by
 unfold eM ones
 have h1 := h.tkl p
 have := opt_len (s.made p)
 simp only [List.length_append, List.length_map]
 omega
theorem eB_len {s : GS} {i : Nat} (h : GI s i) (x : S35) : (eB s x).length ≤ 1 + i := by
 unfold eB ones
 have h1 := h.sincel
 have h2 := opt_len s.last
 split
 · simp only [List.length_map]; omega
 · split
   · simp only [List.length_append, List.length_map]; omega
   · simp
theorem gEdges_len {d : De} {l : List S37} {s : GS} {i : Nat} (h : GI s i) (hi : i ≤ 100) (x : S35) (hx : x.f7.length ≤ 90) : (gEdges d l s x).length ≤ 2000000 := by
 have h1 := flatMap_le (eT d l s) 1 (eT_len d l s) (tkP x)
 have h2 := flatMap_le (eM s) (1 + i * 100) (eM_len h) (chP x)
 have h3 := eB_len h x
 have h4 := tk_len x
 have h5 := ch_len x
 have h6 : (chP x).length * (1 + i * 100) ≤ 100 * (1 + 100 * 100) := Nat.mul_le_mul (by omega) (by omega)
 simp only [gEdges, List.length_append]
 omega
theorem GI.step {d : De} {l : List S37} {s : GS} {i : Nat} (h : GI s i) (hi : i ≤ 100) (x : S37) (hx : x.f0.f7.length ≤ 90) : GI (gStep d l s x) (i + 1) := by
 have hl := h.len
 constructor
 · intro p k hk
   simp only [gStep] at hk
   split at hk
   · simp only [Option.some.injEq] at hk; omega
   · have := h.made p k hk; omega
 · intro p k hk
   simp only [gStep] at hk
   split at hk
   · simp at hk
   · rcases List.mem_append.1 hk with hk | hk
     · have := h.tk p k hk; omega
     · have := List.eq_of_mem_replicate hk; omega
 · intro p
   simp only [gStep]
   split
   · simp
   · have h1 := h.tkl p
     have h2 : (tkP x.f0).count p ≤ (tkP x.f0).length := List.count_le_length
     have h3 := tk_len x.f0
     simp only [tkAdd, List.length_append, List.length_replicate]
     omega
 · intro k hk
   simp only [gStep] at hk
   split at hk
   · have := h.last k hk; omega
   · split at hk
     · simp only [Option.some.injEq] at hk; omega
     · have := h.last k hk; omega
 · intro k hk
   simp only [gStep] at hk
   split at hk
   · rcases List.mem_append.1 hk with hk | hk
     · have := h.since k hk; omega
     · have := List.mem_singleton.1 hk; omega
   · split at hk
     · simp at hk
     · have := h.since k hk; omega
 · have := h.sincel
   simp only [gStep]
   split
   · simp; omega
   · split
     · simp
     · omega
 · simp only [gStep, afs_len, List.length_append, List.length_cons, List.length_nil]; omega
 · have hg := gEdges_len (d := d) (l := l) h hi x.f0 hx
   have hb : Bd (s.nd ++ [nd0 i]) (i * 2000000) := by
    intro y hy
    rcases List.mem_append.1 hy with hy | hy
    · exact h.bd y hy
    · have := List.mem_singleton.1 hy; subst this; refine ⟨by simp [nd0], by simp [nd0], ?_⟩; show (0:Int) ≤ _; omega
   have := hb.afs (m := i) (gEdges d l s x.f0)
   simp only [gStep, hl]
   exact this.mono (by omega)
theorem gSt_GI {d : De} {l : List S37} (h : Sh l) (k : Nat) (hk : k ≤ l.length) : GI (gSt d l k) k := by
 induction k with
 | zero => exact ⟨by simp [gSt], by simp [gSt], by simp [gSt], by simp [gSt], by simp [gSt], by simp [gSt], by simp [gSt], by simp [gSt, Bd]⟩
 | succ k ih =>
  rw [gSt_succ d l k (by omega)]
  have := h.1
  exact (ih (by omega)).step (by omega) _ (h.at k)
end Go.Proofs.Ytocndmielggnpaa.PAll
end
section
namespace Go.Proofs.Ytocndmielggnpaa.PAll
open Go.RowKit Go.Proofs.YtocndmielggnpaaW.PrintWords Go.Proofs.YtocndmielggnpaaW.PrintLast Go.Proofs.YtocndmielggnpaaW.PrintMore
open Go.Proofs.Ytocndmielggnpaa.AMap Go.Proofs.Ytocndmielggnpaa.Env Go.Proofs.Ytocndmielggnpaa.Kind
def xCells (x : S37) (A7 : Option Addr) (c7 : Nat) : Array Value := #[.int .i64 x.f0.f0, .int .i64 x.f0.f1, .int .i64 x.f0.f2, .int .i64 x.f0.f3, .int .i64 x.f0.f4, .int .i64 x.f0.f5, .int .i32 x.f0.f6, .slice A7 x.f0.f7.length c7, .int .i64 x.f1]
def nCells (i : Nat) : Array Value := #[.int .i64 i, .int .i64 0, .int .i64 0, .int .i64 0, .slice none 0 0]
def lastI (o : Option Nat) : Int := match o with | some k => (k : Int) | none => -1
/-- The parameters of a walk of graph: the boxes, and what they hold. -/
structure GP where
 A0 : Option Addr
 c0 : Nat
 l : List S37
 d : De
 b2 : Nat
 b3 : Nat
 rb : Nat
 bN : Nat
 bm : Nat
 bt : Nat
structure GC (E : Env) (g : GP) (v9 : Value) (s : GS) : Prop where
 box2 : E (15, 0) = some (g.b2, .cells #[.slice g.A0 g.l.length g.c0] 22)
 box3 : E (15, 1) = some (g.b3, .cells #[.int .i64 g.d.mul, .int .i64 g.d.dv, .int .i64 g.d.ld, .int .i64 g.d.tk] 27)
 hN : E (6, 0) = some (g.bN, .cells #[.slice (some ⟨g.rb, 0, none⟩) g.l.length g.l.length] 56)
 hmd : ∃ f, E (2, 0) = some (g.bm, .map f) ∧ ∀ p, f p = (s.made p).map fun k : Nat => Value.int .i64 (k : Int)
 htk : ∃ h, E (3, 0) = some (g.bt, .map h) ∧ ∀ p : Int, IsRow E (4, p) ((h p).getD (.slice none 0 0)) 3 1 (nats (s.tk p))
 since : IsRow E (12, 0) v9 3 1 (nats s.since)
structure GM (w0 w : World) (E : Env) (nb : Nat → Nat) (g : GP) (i : Nat) (v9 : Value) (s : GS) : Prop where
 sat : Sat w0 w E
 gc : GC E g v9 s
 hR : ∃ ps, E (5, 0) = some (g.rb, .row 58 1 g.l.length ps g.l.length) ∧ ∀ k, k < i → ps[k]? = some (.pointer (some ⟨nb k, 0, none⟩))
 nodes : NodesRep E nb s.nd
structure GX (E : Env) (nb : Nat → Nat) (g : GP) (i : Nat) (v9 : Value) (s : GS) (X : Array Value) (bi bx bp : Nat) : Prop where
 gc : GC E g v9 s
 clo : Clo E nb g.bN bi bp g.rb g.l.length i
 hx : E (9, 0) = some (bx, .cells X 37)
theorem GC.congr {E E' : Env} {g : GP} {v9 : Value} {s : GS} (h : GC E g v9 s) (he : ∀ τ : Tag, (τ.1 = 2 ∨ τ.1 = 3 ∨ τ.1 = 4 ∨ τ.1 = 6 ∨ τ.1 = 12 ∨ τ.1 = 15) → E' τ = E τ) : GC E' g v9 s := by
 obtain ⟨a, b, c, ⟨f, d1, d2⟩, ⟨k, e1, e2⟩, q⟩ := h
 exact ⟨(he _ (by decide)).trans a, (he _ (by decide)).trans b, (he _ (by decide)).trans c, ⟨f, (he _ (by decide)).trans d1, d2⟩, ⟨k, (he _ (by decide)).trans e1, fun p => (e2 p).congr (he _ (by simp))⟩, q.congr (he _ (by decide))⟩
theorem Clo.congr {E E' : Env} {nb : Nat → Nat} {bN bi bp rb n m : Nat} (h : Clo E nb bN bi bp rb n m) (he : ∀ τ : Tag, (τ.1 = 5 ∨ τ.1 = 6 ∨ τ.1 = 7 ∨ τ.1 = 8) → E' τ = E τ) : Clo E' nb bN bi bp rb n m := by
 obtain ⟨a, ⟨ps, b1, b2⟩, c, d⟩ := h
 exact ⟨(he _ (by decide)).trans a, ⟨ps, (he _ (by decide)).trans b1, b2⟩, (he _ (by decide)).trans c, (he _ (by decide)).trans d⟩
theorem GX.congr {E E' : Env} {nb : Nat → Nat} {g : GP} {i : Nat} {v9 : Value} {s : GS} {X : Array Value} {bi bx bp : Nat} (h : GX E nb g i v9 s X bi bx bp) (he : ∀ τ : Tag, τ.1 ≠ 13 → τ.1 ≠ 14 → E' τ = E τ) : GX E' nb g i v9 s X bi bx bp := by
 obtain ⟨a, b, c⟩ := h
 exact ⟨a.congr (fun τ ht => he τ (by omega) (by omega)), b.congr (fun τ ht => he τ (by omega) (by omega)), (he _ (by decide) (by decide)).trans c⟩
theorem set_tag (E : Env) {τ τ' : Tag} (v : Option (Nat × Ds)) (h : τ'.1 ≠ τ.1) : Env.set E τ v τ' = E τ' := set_ne E v (fun e => h (by rw [e]))
theorem IsRow.ok {w0 w : World} {E : Env} {τ : Tag} {v : Value} {e : Nat} {ys : List Value} (hS : Sat w0 w E) (hr : IsRow E τ v e 1 ys) : w.ownsRow 0 e 1 v ys.length ys := by
 obtain ⟨n, hn, ho, _⟩ := hr.owns hS (by decide)
 rw [Nat.mul_one] at hn
 rwa [hn]
theorem AF.newRow {w0 w w' : World} {E0 : Env} {nb : Nat → Nat} {xs : List Nd} (h : AF w0 w E0 nb xs) (τ : Tag) (h0 : τ.1 ≠ 0) (h1 : τ.1 ≠ 1) (hb : Below w.heap.size w w') {e n : Nat} {v : Value} {ys : List Value} (ho : w'.ownsRow w.heap.size e 1 v n ys) :
    ∃ o, AF w0 w' (Env.set E0 τ o) nb xs ∧ IsRow (Env.set E0 τ o) τ v e 1 ys := by
 obtain ⟨E', hS, hE, hN⟩ := h
 have fin : ∀ o, Sat w0 w' (Env.set E' τ o) → AF w0 w' (Env.set E0 τ o) nb xs := by
  intro o hS'
  refine ⟨_, hS', ?_, hN.congr (fun j => set_tag _ _ (by simpa using Ne.symm h0)) (fun j => set_tag _ _ (by simpa using Ne.symm h1))⟩
  intro σ g0 g1
  unfold Env.set
  split
  · rfl
  · exact hE σ g0 g1
 rcases ho.2 with ⟨rfl, h2⟩ | ⟨b, cap, cur, rfl, hb0, hh, r⟩
 · subst h2
   exact ⟨none, fin none ((hS.grow hb).drop τ), .inl ⟨rfl, List.eq_nil_of_length_eq_zero (by have := ho.1; simpa using this), set_same _ _ _⟩⟩
 · refine ⟨some (b, .row e 1 n ys cap), fin _ (hS.new τ hb hb0 ?_), .inr ⟨b, n, cap, rfl, set_same _ _ _⟩⟩
   exact own_weaken ho (Nat.zero_le _)
/-- A round's beginning. -/
theorem GM.open {w0 w : World} {E : Env} {nb : Nat → Nat} {g : GP} {i : Nat} {v9 : Value} {s : GS} (h : GM w0 w E nb g i v9 s) (hi : i < g.l.length) (hs : s.nd.length = i) (X : Array Value) :
    ∃ E1 nb1, AF w0 (((((w.alloc (.cells #[.int .i64 i] 3)).alloc (.cells X 37)).alloc (.cells (nCells i) 61)).alloc (.cells #[.pointer (some ⟨w.heap.size + 1 + 1, 0, none⟩)] 58)).setCell ⟨g.rb, i, none⟩ (.pointer (some ⟨w.heap.size + 1 + 1, 0, none⟩))) E1 nb1 (s.nd ++ [nd0 i]) ∧
     GX E1 nb1 g i v9 s X w.heap.size (w.heap.size + 1) (w.heap.size + 1 + 1 + 1) ∧ nb1 i = w.heap.size + 1 + 1 ∧ ∀ k, k ≠ i → nb1 k = nb k := by
 obtain ⟨ps, hR, hps⟩ := h.hR
 have s1 := h.sat.alloc (7, 0) #[.int .i64 i] 3
 have s2 := s1.alloc (9, 0) X 37
 have s3 := s2.alloc (0, (i : Int)) (nCells i) 61
 have s4 := s3.alloc (8, 0) #[.pointer (some ⟨w.heap.size + 1 + 1, 0, none⟩)] 58
 have z2 : (w.alloc (.cells #[.int .i64 i] 3)).heap.size = w.heap.size + 1 := by simp
 have z3 : ((w.alloc (.cells #[.int .i64 i] 3)).alloc (.cells X 37)).heap.size = w.heap.size + 1 + 1 := by simp
 have z4 : (((w.alloc (.cells #[.int .i64 i] 3)).alloc (.cells X 37)).alloc (.cells (nCells i) 61)).heap.size = w.heap.size + 1 + 1 + 1 := by simp
 rw [z2] at s2
 rw [z2, z3] at s3
 rw [z2, z3, z4] at s4
 generalize hE4 : Env.set (Env.set (Env.set (Env.set E (7, 0) (some (w.heap.size, .cells #[.int .i64 i] 3))) (9, 0) (some (w.heap.size + 1, .cells X 37))) (0, (i : Int)) (some (w.heap.size + 1 + 1, .cells (nCells i) 61))) (8, 0) (some (w.heap.size + 1 + 1 + 1, .cells #[.pointer (some ⟨w.heap.size + 1 + 1, 0, none⟩)] 58)) = E4 at s4
 have ev : ∀ τ : Tag, τ.1 ≠ 7 → τ.1 ≠ 9 → τ.1 ≠ 8 → τ ≠ (0, (i : Int)) → E4 τ = E τ := by
  intro τ h7 h9 h8 h0
  rw [← hE4, set_tag _ _ h8, set_ne _ _ h0, set_tag _ _ h9, set_tag _ _ h7]
 have e7 : E4 (7, 0) = some (w.heap.size, .cells #[.int .i64 i] 3) := by rw [← hE4, set_tag _ _ (by simp), set_tag _ _ (by simp), set_tag _ _ (by simp), set_same]
 have e9 : E4 (9, 0) = some (w.heap.size + 1, .cells X 37) := by rw [← hE4, set_tag _ _ (by simp), set_tag _ _ (by simp), set_same]
 have e0 : E4 (0, (i : Int)) = some (w.heap.size + 1 + 1, .cells (nCells i) 61) := by rw [← hE4, set_tag _ _ (by simp), set_same]
 have e8 : E4 (8, 0) = some (w.heap.size + 1 + 1 + 1, .cells #[.pointer (some ⟨w.heap.size + 1 + 1, 0, none⟩)] 58) := by rw [← hE4, set_same]
 have e5 : E4 (5, 0) = some (g.rb, .row 58 1 g.l.length ps g.l.length) := (ev _ (by decide) (by decide) (by decide) (by simp)).trans hR
 have hrow : World.ownsRow _ 0 58 1 (.slice (some ⟨g.rb, 0, none⟩) g.l.length g.l.length) g.l.length ps := s4.holds _ _ _ e5
 have hst := hrow.stored i (.pointer (some ⟨w.heap.size + 1 + 1, 0, none⟩))
 -- the row behind a node that is new is nil, whatever its name stood for
 have s5 := (s4.drop (1, (i : Int))).upd (τ := (5, 0)) (d := .row 58 1 g.l.length ps g.l.length) (by rw [set_tag _ _ (by simp)]; exact e5) hst.2 (d' := .row 58 1 g.l.length (ps.set i (.pointer (some ⟨w.heap.size + 1 + 1, 0, none⟩))) g.l.length) hst.1
 generalize hE5 : Env.set (Env.set E4 (1, (i : Int)) none) (5, 0) (some (g.rb, .row 58 1 g.l.length (ps.set i (.pointer (some ⟨w.heap.size + 1 + 1, 0, none⟩))) g.l.length)) = E5 at s5
 have ev5 : ∀ τ : Tag, τ.1 ≠ 5 → τ ≠ (1, (i : Int)) → E5 τ = E4 τ := by
  intro τ h5 h1
  rw [← hE5, set_tag _ _ h5, set_ne _ _ h1]
 have f5 : E5 (5, 0) = some (g.rb, .row 58 1 g.l.length (ps.set i (.pointer (some ⟨w.heap.size + 1 + 1, 0, none⟩))) g.l.length) := by rw [← hE5, set_same]
 have f1 : E5 (1, (i : Int)) = none := by rw [← hE5, set_tag _ _ (by simp), set_same]
 have hpl : ps.length = g.l.length := by have := hrow.1; simpa using this
 have h1i : ∀ j : Nat, j ≠ i → ((1, (j : Int)) : Tag) ≠ (1, (i : Int)) := by intro j hj e; simp only [Prod.mk.injEq, true_and] at e; omega
 have h0i : ∀ j : Nat, j ≠ i → ((0, (j : Int)) : Tag) ≠ (0, (i : Int)) := by intro j hj e; simp only [Prod.mk.injEq, true_and] at e; omega
 refine ⟨E5, fun k => if k = i then w.heap.size + 1 + 1 else nb k, AF.start s5 ?_, ⟨h.gc.congr fun τ ht => ?_, ⟨?_, ⟨_, f5, ?_⟩, ?_, ?_⟩, ?_⟩, by simp, fun k hk => by simp [hk]⟩
 · intro j y hy
   by_cases hj : j = i
   · subst hj
     rw [List.getElem?_append_right (by omega), hs, Nat.sub_self] at hy
     simp only [List.getElem?_cons_zero, Option.some.injEq] at hy
     subst hy
     exact ⟨.slice none 0 0, by rw [ev5 _ (by simp) (by simp), e0]; simp [nCells, nd0], .inl ⟨rfl, rfl, f1⟩⟩
   · have hj2 : j < s.nd.length := by
      have := (List.getElem?_eq_some_iff.1 hy).1
      simp only [List.length_append, List.length_cons, List.length_nil] at this
      omega
     rw [List.getElem?_append_left hj2] at hy
     simp only [if_neg hj]
     refine (h.nodes j y hy).congr ?_ ?_
     · rw [ev5 _ (by simp) (by simp), ev _ (by simp) (by simp) (by simp) (h0i j hj)]
     · rw [ev5 _ (by simp) (h1i j hj), ev _ (by simp) (by simp) (by simp) (by simp)]
 · obtain ⟨a, b⟩ := τ
   simp only at ht
   rw [ev5 _ (by simp only; omega) (by simp only [ne_eq, Prod.mk.injEq, not_and]; omega), ev _ (by simp only; omega) (by simp only; omega) (by simp only; omega) (by simp only [ne_eq, Prod.mk.injEq, not_and]; omega)]
 · rw [ev5 _ (by decide) (by simp), ev _ (by decide) (by decide) (by decide) (by simp)]; exact h.gc.hN
 · intro k hk
   rw [List.getElem?_set]
   by_cases hki : i = k
   · subst hki
     simp [hpl, hi]
   · rw [if_neg hki, hps k (by omega)]
     simp [show k ≠ i from fun e => hki e.symm]
 · rw [ev5 _ (by decide) (by simp)]; exact e7
 · rw [ev5 _ (by decide) (by simp)]; simpa using e8
 · rw [ev5 _ (by decide) (by simp)]; exact e9
end Go.Proofs.Ytocndmielggnpaa.PAll
end
section
namespace Go.Proofs.Ytocndmielggnpaa.PAll
open Go.RowKit Go.Proofs.YtocndmielggnpaaW.PrintWords Go.Proofs.YtocndmielggnpaaW.PrintLast Go.Proofs.YtocndmielggnpaaW.PrintMore
open Go.Proofs.Ytocndmielggnpaa.AMap Go.Proofs.Ytocndmielggnpaa.Env Go.Proofs.Ytocndmielggnpaa.Kind
section
variable {w0 w w' : World} {E0 : Env} {nb : Nat → Nat} {xs : List Nd} {τ : Tag}
theorem AF.set_ (h : ∃ E', Sat w0 w E' ∧ (∀ τ : Tag, τ.1 ≠ 0 → τ.1 ≠ 1 → E' τ = E0 τ) ∧ NodesRep E' nb xs) (h0 : τ.1 ≠ 0) (h1 : τ.1 ≠ 1) (o : Option (Nat × Ds)) (hS : ∀ E', Sat w0 w E' → E' τ = E0 τ → Sat w0 w' (Env.set E' τ o)) : AF w0 w' (Env.set E0 τ o) nb xs := by
 obtain ⟨E', hS', hE, hN⟩ := h
 refine ⟨_, hS E' hS' (hE τ h0 h1), ?_, hN.congr (fun j => set_tag _ _ (by simpa using Ne.symm h0)) (fun j => set_tag _ _ (by simpa using Ne.symm h1))⟩
 intro σ g0 g1
 unfold Env.set
 split
 · rfl
 · exact hE σ g0 g1
theorem AF.drop (h : AF w0 w E0 nb xs) (h0 : τ.1 ≠ 0) (h1 : τ.1 ≠ 1) : AF w0 w (Env.set E0 τ none) nb xs := AF.set_ h h0 h1 none (fun E' hS _ => hS.drop τ)
theorem AF.upd {b : Nat} {d d' : Ds} (h : AF w0 w E0 nb xs) (h0 : τ.1 ≠ 0) (h1 : τ.1 ≠ 1) (he : E0 τ = some (b, d)) (hg : w.grownBy w' (some b)) (hd : d'.Holds w' b) : AF w0 w' (Env.set E0 τ (some (b, d'))) nb xs :=
 AF.set_ h h0 h1 _ (fun E' hS hE => hS.upd (hE.trans he) hg hd)
theorem AF.regrow {v v1 : Value} {e size n1 : Nat} {rs ys : List Value} (h : AF w0 w E0 nb xs) (h0 : τ.1 ≠ 0) (h1 : τ.1 ≠ 1) (hr : IsRow E0 τ v e size rs) (hg : w.grownBy w' v.ownBlock) (ho : w'.ownsRow 0 e size v1 n1 ys)
    (hat : v1.ownBlock = v.ownBlock ∨ ∃ b, v1.ownBlock = some b ∧ w.heap.size ≤ b) : ∃ o, AF w0 w' (Env.set E0 τ o) nb xs ∧ IsRow (Env.set E0 τ o) τ v1 e size ys := by
 obtain ⟨E', hS, hE, hN⟩ := h
 obtain ⟨o, hS', hR⟩ := hS.regrow (hr.congr (hE τ h0 h1)) hg ho hat
 refine ⟨o, ⟨_, hS', ?_, hN.congr (fun j => set_tag _ _ (by simpa using Ne.symm h0)) (fun j => set_tag _ _ (by simpa using Ne.symm h1))⟩, hR.congr (by rw [set_same, set_same])⟩
 intro σ g0 g1
 unfold Env.set
 split
 · rfl
 · exact hE σ g0 g1
end
structure GY (w0 w : World) (nb : Nat → Nat) (g : GP) (i : Nat) (v9 : Value) (s : GS) (X : Array Value) (bi bx bp : Nat) (v14 : Value) (tks : List Int) (v15 : Value) (chs : List Int) (xs : List Nd) : Prop where
 mk :: (out : ∃ E, AF w0 w E nb xs ∧ GX E nb g i v9 s X bi bx bp ∧ IsRow E (13, 0) v14 3 1 (nums .i64 tks) ∧ IsRow E (14, 0) v15 3 1 (nums .i64 chs))
section
variable {w0 w w' : World} {nb : Nat → Nat} {g : GP} {i : Nat} {v9 : Value} {s : GS} {X : Array Value} {bi bx bp : Nat} {v14 v15 : Value} {tks chs : List Int} {xs : List Nd}
theorem GY.open {E : Env} (h : AF w0 w E nb xs) (hx : GX E nb g i v9 s X bi bx bp) : GY w0 w nb g i v9 s X bi bx bp (.slice none 0 0) [] (.slice none 0 0) [] xs :=
 ⟨⟨_, (h.drop (τ := (13, 0)) (by decide) (by decide)).drop (τ := (14, 0)) (by decide) (by decide), hx.congr (fun τ h1 h2 => by rw [set_tag _ _ h2, set_tag _ _ h1]), .inl ⟨rfl, rfl, by rw [set_tag _ _ (by decide), set_same]⟩, .inl ⟨rfl, rfl, set_same _ _ _⟩⟩⟩
theorem GY.set13 (h : GY w0 w nb g i v9 s X bi bx bp v14 tks v15 chs xs) (hb : Below w.heap.size w w') {n : Nat} {v : Value} {ys : List Int} (ho : w'.ownsRow w.heap.size 3 1 v n (nums .i64 ys)) : GY w0 w' nb g i v9 s X bi bx bp v ys v15 chs xs := by
 obtain ⟨E, h1, h2, h3, h4⟩ := h.out
 obtain ⟨o, h5, h6⟩ := h1.newRow (13, 0) (by decide) (by decide) hb ho
 exact ⟨⟨_, h5, h2.congr (fun τ h1 h2 => by rw [set_tag _ _ h1]), h6, h4.congr (set_tag _ _ (by decide))⟩⟩
theorem GY.set14 (h : GY w0 w nb g i v9 s X bi bx bp v14 tks v15 chs xs) (hb : Below w.heap.size w w') {n : Nat} {v : Value} {ys : List Int} (ho : w'.ownsRow w.heap.size 3 1 v n (nums .i64 ys)) : GY w0 w' nb g i v9 s X bi bx bp v14 tks v ys xs := by
 obtain ⟨E, h1, h2, h3, h4⟩ := h.out
 obtain ⟨o, h5, h6⟩ := h1.newRow (14, 0) (by decide) (by decide) hb ho
 exact ⟨⟨_, h5, h2.congr (fun τ h1 h2 => by rw [set_tag _ _ h2]), h3.congr (set_tag _ _ (by decide)), h6⟩⟩
theorem GY.below (h : GY w0 w nb g i v9 s X bi bx bp v14 tks v15 chs xs) : Below w0.heap.size w0 w := by obtain ⟨E, h1, _⟩ := h.out; exact h1.below
theorem GY.grow (h : GY w0 w nb g i v9 s X bi bx bp v14 tks v15 chs xs) (hb : Below w.heap.size w w') : GY w0 w' nb g i v9 s X bi bx bp v14 tks v15 chs xs := by
 obtain ⟨E, h1, r⟩ := h.out
 exact ⟨⟨E, h1.grow hb, r⟩⟩
theorem GY.drew (h : GY w0 w nb g i v9 s X bi bx bp v14 tks v15 chs xs) : GY w0 w.drew nb g i v9 s X bi bx bp v14 tks v15 chs xs := h.grow (below_drew1 (Below.refl _ _))
theorem GY.drewN (h : GY w0 w nb g i v9 s X bi bx bp v14 tks v15 chs xs) (n : Nat) : GY w0 (w.drewN n) nb g i v9 s X bi bx bp v14 tks v15 chs xs := h.grow (pw_below_drewN (Below.refl _ _) n)
theorem GY.row14 (h : GY w0 w nb g i v9 s X bi bx bp v14 tks v15 chs xs) : w.ownsRow 0 3 1 v14 tks.length (nums .i64 tks) := by
 obtain ⟨E, h1, h2, h3, h4⟩ := h.out
 have := h1.row h3 (by decide) (by decide)
 rwa [nums_length] at this
theorem GY.row15 (h : GY w0 w nb g i v9 s X bi bx bp v14 tks v15 chs xs) : w.ownsRow 0 3 1 v15 chs.length (nums .i64 chs) := by
 obtain ⟨E, h1, h2, h3, h4⟩ := h.out
 have := h1.row h4 (by decide) (by decide)
 rwa [nums_length] at this
theorem GY.row9 (h : GY w0 w nb g i v9 s X bi bx bp v14 tks v15 chs xs) : w.ownsRow 0 3 1 v9 s.since.length (nats s.since) := by
 obtain ⟨E, h1, h2, h3, h4⟩ := h.out
 have := h1.row h2.gc.since (by decide) (by decide)
 rwa [nats_len] at this
theorem GY.made (h : GY w0 w nb g i v9 s X bi bx bp v14 tks v15 chs xs) : ∃ f, MapFn w g.bm f ∧ ∀ p, f p = (s.made p).map fun k : Nat => Value.int .i64 (k : Int) := by
 obtain ⟨E, h1, h2, h3, h4⟩ := h.out
 obtain ⟨f, hf, hp⟩ := h2.gc.hmd
 exact ⟨f, h1.holds hf (by decide) (by decide), hp⟩
theorem GY.taken (h : GY w0 w nb g i v9 s X bi bx bp v14 tks v15 chs xs) (p : Int) : ∃ f, MapFn w g.bt f ∧ w.ownsRow 0 3 1 ((f p).getD (.slice none 0 0)) (s.tk p).length (nats (s.tk p)) := by
 obtain ⟨E, h1, h2, h3, h4⟩ := h.out
 obtain ⟨f, hf, hp⟩ := h2.gc.htk
 have := h1.row (hp p) (by simp) (by simp)
 rw [nats_len] at this
 exact ⟨f, h1.holds hf (by decide) (by decide), this⟩
theorem GY.ci (h : GY w0 w nb g i v9 s X bi bx bp v14 tks v15 chs xs) : w.cell? ⟨bi, 0, none⟩ = some (.int .i64 i) := by
 obtain ⟨E, h1, h2, h3, h4⟩ := h.out
 exact (h1.cell h2.clo.hI (by decide) (by decide) 0).trans rfl
theorem GY.cx (h : GY w0 w nb g i v9 s X bi bx bp v14 tks v15 chs xs) (j : Nat) : w.cell? ⟨bx, j, none⟩ = X[j]? := by
 obtain ⟨E, h1, h2, h3, h4⟩ := h.out
 exact h1.cell h2.hx (by decide) (by decide) j
theorem GY.c2 (h : GY w0 w nb g i v9 s X bi bx bp v14 tks v15 chs xs) : w.cell? ⟨g.b2, 0, none⟩ = some (.slice g.A0 g.l.length g.c0) := by
 obtain ⟨E, h1, h2, h3, h4⟩ := h.out
 exact (h1.cell h2.gc.box2 (by decide) (by decide) 0).trans rfl
theorem GY.c3 (h : GY w0 w nb g i v9 s X bi bx bp v14 tks v15 chs xs) (j : Nat) : w.cell? ⟨g.b3, j, none⟩ = (#[Value.int .i64 g.d.mul, .int .i64 g.d.dv, .int .i64 g.d.ld, .int .i64 g.d.tk])[j]? := by
 obtain ⟨E, h1, h2, h3, h4⟩ := h.out
 exact h1.cell h2.gc.box3 (by decide) (by decide) j
/-- One more edge. -/
theorem GY.after {xs : List Nd} {es : List (Nat × Int)} {c : Nat} (h : GY w0 w nb g i v9 s X bi bx bp v14 tks v15 chs (afs i xs es)) (k : Nat) (late : Int) (hk : k < i) (hm : xs.length = i + 1) (hb : Bd xs c) (hce : c + es.length ≤ 1000000000000) :
    Calls Try.prog 50 #[.int .i64 k, .int .i64 late, .pointer (some ⟨g.bN, 0, none⟩), .pointer (some ⟨bi, 0, none⟩), .pointer (some ⟨bp, 0, none⟩)] w fun e w' =>
     e = .returned (.tuple #[]) ∧ GY w0 w' nb g i v9 s X bi bx bp v14 tks v15 chs (afs i xs (es ++ [(k, late)])) := by
 obtain ⟨E, h1, h2, h3⟩ := h.out
 refine (after_AF h2.clo k late es h1 hk hm hb hce).mono ?_
 rintro e w' ⟨rfl, h4⟩
 exact ⟨rfl, ⟨⟨E, h4, h2, h3⟩⟩⟩
def GYE (w0 w : World) (E : Env) (nb : Nat → Nat) (g : GP) (i : Nat) (v9 : Value) (s : GS) (X : Array Value) (bi bx bp : Nat) (v14 : Value) (tks : List Int) (v15 : Value) (chs : List Int) (xs : List Nd) : Prop :=
 AF w0 w E nb xs ∧ GX E nb g i v9 s X bi bx bp ∧ IsRow E (13, 0) v14 3 1 (nums .i64 tks) ∧ IsRow E (14, 0) v15 3 1 (nums .i64 chs)
theorem GYE.y {E : Env} (h : GYE w0 w E nb g i v9 s X bi bx bp v14 tks v15 chs xs) : GY w0 w nb g i v9 s X bi bx bp v14 tks v15 chs xs := ⟨⟨E, h⟩⟩
theorem GYE.after {E : Env} {xs : List Nd} {es : List (Nat × Int)} {c : Nat} (h : GYE w0 w E nb g i v9 s X bi bx bp v14 tks v15 chs (afs i xs es)) (k : Nat) (late : Int) (hk : k < i) (hm : xs.length = i + 1) (hb : Bd xs c) (hce : c + es.length ≤ 1000000000000) :
    Calls Try.prog 50 #[.int .i64 k, .int .i64 late, .pointer (some ⟨g.bN, 0, none⟩), .pointer (some ⟨bi, 0, none⟩), .pointer (some ⟨bp, 0, none⟩)] w fun e w' =>
     e = .returned (.tuple #[]) ∧ GYE w0 w' E nb g i v9 s X bi bx bp v14 tks v15 chs (afs i xs (es ++ [(k, late)])) := by
 obtain ⟨h1, h2, h3⟩ := h
 refine (after_AF h2.clo k late es h1 hk hm hb hce).mono ?_
 rintro e w' ⟨rfl, h4⟩
 exact ⟨rfl, h4, h2, h3⟩
theorem GYE.takenAt {E : Env} (h : GYE w0 w E nb g i v9 s X bi bx bp v14 tks v15 chs xs) (p : Int) : ∃ f, MapFn w g.bt f ∧ IsRow E (4, p) ((f p).getD (.slice none 0 0)) 3 1 (nats (s.tk p)) := by
 obtain ⟨h1, h2, h3, h4⟩ := h
 obtain ⟨f, hf, hp⟩ := h2.gc.htk
 exact ⟨f, h1.holds hf (by decide) (by decide), hp p⟩
theorem GYE.rowT {E : Env} (h : GYE w0 w E nb g i v9 s X bi bx bp v14 tks v15 chs xs) {p : Int} {v : Value} {t : List Nat} (hr : IsRow E (4, p) v 3 1 (nats t)) : w.ownsRow 0 3 1 v t.length (nats t) := by
 have := h.1.row hr (by simp) (by simp)
 rwa [nats_len] at this
theorem GY.e (h : GY w0 w nb g i v9 s X bi bx bp v14 tks v15 chs xs) : ∃ E, GYE w0 w E nb g i v9 s X bi bx bp v14 tks v15 chs xs := h.out
/-- since = append(since, i) -/
theorem GY.sinced (h : GY w0 w nb g i v9 s X bi bx bp v14 tks v15 chs xs) {v1 : Value} {n1 : Nat} {t : List Nat} (hg : w.grownBy w' v9.ownBlock) (ho : w'.ownsRow 0 3 1 v1 n1 (nats t))
    (hat : v1.ownBlock = v9.ownBlock ∨ ∃ b, v1.ownBlock = some b ∧ w.heap.size ≤ b) : GY w0 w' nb g i v1 { s with since := t } X bi bx bp v14 tks v15 chs xs := by
 obtain ⟨E, h1, h2, h3, h4⟩ := h.out
 obtain ⟨o, h5, h6⟩ := h1.regrow (by decide) (by decide) h2.gc.since hg ho hat
 refine ⟨⟨_, h5, ⟨?_, h2.clo.congr (fun τ ht => set_tag _ _ (by simp only; omega)), (set_tag _ _ (by decide)).trans h2.hx⟩, h3.congr (set_tag _ _ (by decide)), h4.congr (set_tag _ _ (by decide))⟩⟩
 obtain ⟨a, b, c, ⟨f, d1, d2⟩, ⟨k, e1, e2⟩, q⟩ := h2.gc
 exact ⟨(set_tag _ _ (by decide)).trans a, (set_tag _ _ (by decide)).trans b, (set_tag _ _ (by decide)).trans c, ⟨f, (set_tag _ _ (by decide)).trans d1, d2⟩, ⟨k, (set_tag _ _ (by decide)).trans e1, fun p => (e2 p).congr (set_tag _ _ (by simp))⟩, h6⟩
/-- since = nil -/
theorem GY.unsince (h : GY w0 w nb g i v9 s X bi bx bp v14 tks v15 chs xs) : GY w0 w nb g i (.slice none 0 0) { s with since := [] } X bi bx bp v14 tks v15 chs xs := by
 obtain ⟨E, h1, h2, h3, h4⟩ := h.out
 refine ⟨⟨_, h1.drop (τ := (12, 0)) (by decide) (by decide), ⟨?_, h2.clo.congr (fun τ ht => set_tag _ _ (by simp only; omega)), (set_tag _ _ (by decide)).trans h2.hx⟩, h3.congr (set_tag _ _ (by decide)), h4.congr (set_tag _ _ (by decide))⟩⟩
 obtain ⟨a, b, c, ⟨f, d1, d2⟩, ⟨k, e1, e2⟩, q⟩ := h2.gc
 exact ⟨(set_tag _ _ (by decide)).trans a, (set_tag _ _ (by decide)).trans b, (set_tag _ _ (by decide)).trans c, ⟨f, (set_tag _ _ (by decide)).trans d1, d2⟩, ⟨k, (set_tag _ _ (by decide)).trans e1, fun p => (e2 p).congr (set_tag _ _ (by simp))⟩, .inl ⟨rfl, rfl, set_same _ _ _⟩⟩
theorem GY.setLast (h : GY w0 w nb g i v9 s X bi bx bp v14 tks v15 chs xs) (o : Option Nat) : GY w0 w nb g i v9 { s with last := o } X bi bx bp v14 tks v15 chs xs := by
 obtain ⟨E, h1, h2, h3, h4⟩ := h.out
 obtain ⟨a, b, c, d, e, q⟩ := h2.gc
 exact ⟨⟨E, h1, ⟨⟨a, b, c, d, e, q⟩, h2.clo, h2.hx⟩, h3, h4⟩⟩
/-- taken[p] = append(taken[p], i): what is looked up; what the append makes; the store. -/
theorem GY.takenAdd (h : GY w0 w nb g i v9 s X bi bx bp v14 tks v15 chs xs) (p : Int) : ∃ f, MapFn w g.bt f ∧ w.ownsRow 0 3 1 ((f p).getD (.slice none 0 0)) (s.tk p).length (nats (s.tk p)) ∧
    ∀ (w1 : World) (v1 : Value) (n1 : Nat) (t : List Nat), w.grownBy w1 ((f p).getD (.slice none 0 0)).ownBlock → w1.ownsRow 0 3 1 v1 n1 (nats t) → (v1.ownBlock = ((f p).getD (.slice none 0 0)).ownBlock ∨ ∃ b, v1.ownBlock = some b ∧ w.heap.size ≤ b) →
     MapFn w1 g.bt f ∧ ∀ w2, MapFn w2 g.bt (AMap.upd f p (some v1)) → w1.grownBy w2 (some g.bt) → GY w0 w2 nb g i v9 { s with tk := fun q => if q = p then t else s.tk q } X bi bx bp v14 tks v15 chs xs := by
 obtain ⟨E, h1, h2, h3, h4⟩ := h.out
 obtain ⟨f, hf, hp⟩ := h2.gc.htk
 have hrow := h1.row (hp p) (by simp) (by simp)
 rw [nats_len] at hrow
 refine ⟨f, h1.holds hf (by decide) (by decide), hrow, fun w1 v1 n1 t hg ho hat => ?_⟩
 obtain ⟨o, h5, h6⟩ := h1.regrow (by simp) (by simp) (hp p) hg ho hat
 have hf' : Env.set E (4, p) o (3, 0) = some (g.bt, .map f) := (set_tag _ _ (by simp)).trans hf
 refine ⟨h5.holds hf' (by decide) (by decide), fun w2 hm hg2 => ?_⟩
 have h7 := h5.upd (by decide) (by decide) hf' hg2 (d' := .map (AMap.upd f p (some v1))) hm
 refine ⟨⟨_, h7, ⟨?_, h2.clo.congr (fun τ ht => by rw [set_tag _ _ (by simp only; omega), set_tag _ _ (by simp only; omega)]), ?_⟩, h3.congr ?_, h4.congr ?_⟩⟩
 · obtain ⟨a, b, c, ⟨f', d1, d2⟩, _, q⟩ := h2.gc
   refine ⟨?_, ?_, ?_, ⟨f', ?_, d2⟩, ⟨_, set_same _ _ _, fun q => ?_⟩, q.congr ?_⟩
   · rw [set_tag _ _ (by simp), set_tag _ _ (by simp)]; exact a
   · rw [set_tag _ _ (by simp), set_tag _ _ (by simp)]; exact b
   · rw [set_tag _ _ (by simp), set_tag _ _ (by simp)]; exact c
   · rw [set_tag _ _ (by simp), set_tag _ _ (by simp)]; exact d1
   · by_cases hq : q = p
     · subst hq
       simp only [AMap.upd, if_true, Option.getD_some]
       exact h6.congr (set_tag _ _ (by simp))
     · simp only [AMap.upd, if_neg hq]
       refine (hp q).congr ?_
       rw [set_tag _ _ (by simp), set_ne _ _ (by simpa using hq)]
   · rw [set_tag _ _ (by simp), set_tag _ _ (by simp)]
 · rw [set_tag _ _ (by simp), set_tag _ _ (by simp)]; exact h2.hx
 · rw [set_tag _ _ (by simp), set_tag _ _ (by simp)]
 · rw [set_tag _ _ (by simp), set_tag _ _ (by simp)]
/-- made[p] = i -/
theorem GY.madeSet (h : GY w0 w nb g i v9 s X bi bx bp v14 tks v15 chs xs) (p : Int) : ∃ f, MapFn w g.bm f ∧
    ∀ w2, MapFn w2 g.bm (AMap.upd f p (some (.int .i64 i))) → w.grownBy w2 (some g.bm) → GY w0 w2 nb g i v9 { s with made := fun q => if q = p then some i else s.made q } X bi bx bp v14 tks v15 chs xs := by
 obtain ⟨E, h1, h2, h3, h4⟩ := h.out
 obtain ⟨f, hf, hp⟩ := h2.gc.hmd
 refine ⟨f, h1.holds hf (by decide) (by decide), fun w2 hm hg2 => ?_⟩
 have h7 := h1.upd (by decide) (by decide) hf hg2 (d' := .map (AMap.upd f p (some (.int .i64 i)))) hm
 refine ⟨⟨_, h7, ⟨?_, h2.clo.congr (fun τ ht => by rw [set_tag _ _ (by simp only; omega)]), (set_tag _ _ (by decide)).trans h2.hx⟩, h3.congr (set_tag _ _ (by decide)), h4.congr (set_tag _ _ (by decide))⟩⟩
 obtain ⟨a, b, c, _, ⟨k, e1, e2⟩, q⟩ := h2.gc
 refine ⟨(set_tag _ _ (by decide)).trans a, (set_tag _ _ (by decide)).trans b, (set_tag _ _ (by decide)).trans c, ⟨_, set_same _ _ _, fun q => ?_⟩, ⟨k, (set_tag _ _ (by decide)).trans e1, fun p => (e2 p).congr (set_tag _ _ (by simp))⟩, q.congr (set_tag _ _ (by decide))⟩
 by_cases hq : q = p
 · subst hq
   simp [AMap.upd]
 · simp only [AMap.upd, if_neg hq]
   exact hp q
/-- delete(taken, p) -/
theorem GY.takenDel (h : GY w0 w nb g i v9 s X bi bx bp v14 tks v15 chs xs) (p : Int) : ∃ f, MapFn w g.bt f ∧
    ∀ w2, MapFn w2 g.bt (AMap.upd f p none) → w.grownBy w2 (some g.bt) → GY w0 w2 nb g i v9 { s with tk := fun q => if q = p then [] else s.tk q } X bi bx bp v14 tks v15 chs xs := by
 obtain ⟨E, h1, h2, h3, h4⟩ := h.out
 obtain ⟨f, hf, hp⟩ := h2.gc.htk
 refine ⟨f, h1.holds hf (by decide) (by decide), fun w2 hm hg2 => ?_⟩
 have h7 := (h1.drop (τ := (4, p)) (by simp) (by simp)).upd (τ := (3, 0)) (by decide) (by decide) ((set_tag _ _ (by simp)).trans hf) hg2 (d' := .map (AMap.upd f p none)) hm
 refine ⟨⟨_, h7, ⟨?_, h2.clo.congr (fun τ ht => by rw [set_tag _ _ (by simp only; omega), set_tag _ _ (by simp only; omega)]), ?_⟩, h3.congr ?_, h4.congr ?_⟩⟩
 · obtain ⟨a, b, c, ⟨f', d1, d2⟩, _, q⟩ := h2.gc
   refine ⟨?_, ?_, ?_, ⟨f', ?_, d2⟩, ⟨_, set_same _ _ _, fun q => ?_⟩, q.congr ?_⟩
   · rw [set_tag _ _ (by simp), set_tag _ _ (by simp)]; exact a
   · rw [set_tag _ _ (by simp), set_tag _ _ (by simp)]; exact b
   · rw [set_tag _ _ (by simp), set_tag _ _ (by simp)]; exact c
   · rw [set_tag _ _ (by simp), set_tag _ _ (by simp)]; exact d1
   · by_cases hq : q = p
     · subst hq
       simp only [AMap.upd, if_true, Option.getD_none]
       exact .inl ⟨rfl, rfl, by rw [set_tag _ _ (by simp), set_same]⟩
     · simp only [AMap.upd, if_neg hq]
       refine (hp q).congr ?_
       rw [set_tag _ _ (by simp), set_ne _ _ (by simpa using hq)]
   · rw [set_tag _ _ (by simp), set_tag _ _ (by simp)]
 · rw [set_tag _ _ (by simp), set_tag _ _ (by simp)]; exact h2.hx
 · rw [set_tag _ _ (by simp), set_tag _ _ (by simp)]
 · rw [set_tag _ _ (by simp), set_tag _ _ (by simp)]
/-- A round's end. -/
theorem GY.close (h : GY w0 w nb g i v9 s X bi bx bp v14 tks v15 chs xs) : ∃ E, GM w0 w E nb g (i + 1) v9 { s with nd := xs } := by
 obtain ⟨E, ⟨E', hS, hE, hN⟩, h2, h3⟩ := h.out
 obtain ⟨ps, hR, hps⟩ := h2.clo.hR
 obtain ⟨a, b, c, d, e, q⟩ := h2.gc.congr (E' := E') (fun τ ht => hE τ (by omega) (by omega))
 exact ⟨E', hS, ⟨a, b, c, d, e, q⟩, ⟨ps, (hE _ (by decide) (by decide)).trans hR, fun k hk => hps k (by omega)⟩, hN⟩
end
theorem GM.congr {w0 w : World} {E : Env} {nb : Nat → Nat} {g : GP} {i : Nat} {v9 : Value} {s s' : GS} (h : GM w0 w E nb g i v9 s) (h1 : s'.nd = s.nd) (h2 : ∀ p, s'.made p = s.made p) (h3 : ∀ p, s'.tk p = s.tk p) (h5 : s'.since = s.since) : GM w0 w E nb g i v9 s' := by
 obtain ⟨a, ⟨b1, b2, b3, ⟨f, c1, c2⟩, ⟨k, d1, d2⟩, q⟩, r, t⟩ := h
 exact ⟨a, ⟨b1, b2, b3, ⟨f, c1, fun p => by rw [h2]; exact c2 p⟩, ⟨k, d1, fun p => by rw [h3]; exact d2 p⟩, by rw [h5]; exact q⟩, r, by rw [h1]; exact t⟩
end Go.Proofs.Ytocndmielggnpaa.PAll
end
section
namespace Go.Proofs.Ytocndmielggnpaa.PAll
open Go.RowKit Go.Proofs.YtocndmielggnpaaW.PrintWords Go.Proofs.YtocndmielggnpaaW.PrintLast Go.Proofs.YtocndmielggnpaaW.PrintMore
open Go.Proofs.Ytocndmielggnpaa.AMap Go.Proofs.Ytocndmielggnpaa.Env Go.Proofs.Ytocndmielggnpaa.Kind
attribute [local go_sem] Oper.semAt_some
def onlyN (Q : Exit → Act → World → Prop) : Exit → Act → World → Prop
 | .normal, a, w => Q .normal a w
 | _, _, _ => False
theorem not_lets (Q : Exit → Act → World → Prop) : ¬ LetsOut (onlyN Q) := fun ⟨_, _, h⟩ => h
def plainOps (ops : Array Oper) : Bool := ops.all fun o => match o.op with | .defer _ => false | _ => true
theorem callsR {P : Program} {f : FuncId} {args : Array Value} {w : World} {R : Ending → World → Prop} (n r : Nat) (h : Calls P f args w R) : CallsIn (Fence.wide.inRound r) n P f args w R := CallsIn.inRound r (callsIn_wide.2 h)
theorem rowsR {P : Program} {row : String} {args : Array Value} {w : World} {R : Value → World → Prop} (n r : Nat) (h : Rows P row args w R) : RowsIn (Fence.wide.inRound r) n P row args w R :=
 fun c cs _ => let ⟨v, w', hr, hs⟩ := h c cs; ⟨v, w', hr, stepsIn_wide.2 hs⟩
theorem opIn_of_op {P : Program} {o : Oper} {a : Act} {w : World} {K K' : Act → World → Prop} {Q : Exit → Act → World → Prop} (n r : Nat) (hd : ∀ c, o.op ≠ .defer c) (hK : ∀ a w, K a w → K' a w) (h : o.wp P a w K (onlyN Q)) :
    o.wpIn (Fence.wide.inRound r) n P a w K' (onlyN Q) := by
 refine ⟨fun _ _ => trivial, ?_⟩
 rw [Oper.semAt_eq _ _ _ hd]
 unfold Oper.wp at h
 generalize (execOp a.eval o).run P w = res at h
 unfold Oper.upon at h
 unfold Oper.uponIn
 split at h
 · exact hK _ _ h
 · exact hK _ _ h
 · exact hK _ _ h
 · refine ⟨fun hh => by simp [Fence.wide] at hh, callsR _ _ (h.mono ?_)⟩
   intro e w' he
   cases e with
   | returned v => exact hK _ _ he
   | panicked c => exact he
   | outgrown => exact he
 · exact ⟨fun hh => by simp [Fence.wide] at hh, rowsR _ _ (h.mono fun v w' he => hK _ _ he)⟩
 · exact h
 · exact h.elim
theorem opsIn_of_ops {P : Program} {ops : Array Oper} {Q : Exit → Act → World → Prop} (n r : Nat) (hd : ∀ (i : Nat) (o : Oper), ops[i]? = some o → ∀ c, o.op ≠ .defer c) :
    ∀ (l : List Nat) (a : Act) (w : World), wpOps P ops (onlyN Q) l a w → wpOpsIn (Fence.wide.inRound r) n P ops (onlyN Q) l a w
 | [], a, w, h => h
 | i :: rest, a, w, h => by
  have ih := opsIn_of_ops (P := P) (Q := Q) n r hd rest
  unfold wpOps at h
  unfold wpOpsIn
  rcases ho : ops[i]? with _ | o
  · rw [ho] at h
    exact ih a w h
  · rw [ho] at h
    simp only at h ⊢
    split
    · rename_i hw
      rw [if_pos hw] at h
      rcases h with h | ⟨_, h⟩
      · exact opIn_of_op n r (hd i o ho) (fun a w hk => ih a w hk) h
      · exact absurd h (not_lets Q)
    · rename_i hw
      rw [if_neg hw] at h
      exact ⟨fun _ _ => trivial, ih _ _ h⟩
theorem plainOps_spec {ops : Array Oper} (h : plainOps ops = true) (i : Nat) (o : Oper) (ho : ops[i]? = some o) (c : Call) : o.op ≠ .defer c := by
 intro e
 unfold plainOps at h
 rw [Array.all_eq_true] at h
 obtain ⟨hi, rfl⟩ := Array.getElem?_eq_some_iff.1 ho
 have := h i hi
 simp [e] at this
theorem startIn_ {P : Program} {ops : Array Oper} {Q : Exit → Act → World → Prop} {S : World → Prop} {ds : List Nat} {id n m r : Nat} {a : Act} {w : World} (l : Array Bool) (hm : P.follows .mixedOrders = true) (hp : plainOps ops = true) (hn : ops.size = n) (hl : Array.replicate n false = l) (hS : S w.drew)
    (h : S w.drew → wpAnyLast P .any ops (onlyN Q) S ds n l a w.drew) : (Code.region id ops true).wpIn (Fence.wide.inRound r) m P Q a w := by
 subst hn; subst hl
 refine wpIn_mono (Q := onlyN Q) (wpIn_region_draw fun t => opsIn_of_ops m r (plainOps_spec hp) _ _ _ ?_) ?_
 · simp only [Region.schedule, hm, Bool.true_or, if_true]
   exact wpAny_sound ops.size t _ a _ (wpAny_of_last _ _ _ _ (h hS))
 · intro e a w he
   cases e with
   | normal => exact he
   | _ => exact he.elim
theorem backward_calls (A : Option Addr) (n c : Nat) (w : World) : Calls Try.prog 53 #[.slice A n c] w fun e w' => e = .returned (.func (.func 66) #[] #[.pointer (some ⟨w.heap.size, 0, none⟩)]) ∧ w' = w.alloc (.cells #[.slice A n c] 56) := by
 go_enter Try.func53, Try.ntmps53
 go_wp2; go_ret
 exact ⟨rfl, rfl⟩
/-- What the body of the loop leaves: the box of the slice, and its row. -/
def KpB (Bs rb : Nat) (A B : World) : Prop := B.heap[Bs]? = A.heap[Bs]? ∧ B.heap[rb]? = A.heap[rb]?
theorem KpB.trans {Bs rb : Nat} {A B C : World} (h : KpB Bs rb A B) (h' : KpB Bs rb B C) : KpB Bs rb A C := ⟨h'.1.trans h.1, h'.2.trans h.2⟩
theorem KpB.refl (Bs rb : Nat) (A : World) : KpB Bs rb A A := ⟨rfl, rfl⟩
def downTo (n k : Nat) : List Nat := ((List.range n).reverse).take k
theorem downTo_succ (n k : Nat) (hk : k < n) : downTo n (k + 1) = downTo n k ++ [n - 1 - k] := by
 unfold downTo
 rw [List.take_succ_eq_append_getElem (by simpa using hk)]
 simp
theorem downTo_all (n : Nat) : downTo n n = (List.range n).reverse := by unfold downTo; rw [List.take_of_length_le (by simp)]
set_option maxRecDepth 100000 in
set_option maxHeartbeats 2000000 in
theorem back1_in (m n l Bs rb cap : Nat) (nb : Nat → Nat) (hm : 1 ≤ m) (hn : n ≤ 1000000) (J Jx : List (Fin n) → World → Prop)
    (hY : ∀ pre x W, J pre W → pre.length < n → YieldAt Fence.wide (m - 1) Try.prog l #[.int .i64 (x.val : Int), .pointer (some ⟨nb x.val, 0, none⟩)] W fun e W' =>
     (e = .returned (.bool true) ∧ J (pre ++ [x]) W' ∧ KpB Bs rb W W') ∨ (e = .returned (.bool false) ∧ Jx (pre ++ [x]) W'))
    (W : World) (hBs : W.cell? ⟨Bs, 0, none⟩ = some (.slice (some ⟨rb, 0, none⟩) n cap)) (hc : ∀ j, j < n → W.cell? ⟨rb, j, none⟩ = some (.pointer (some ⟨nb j, 0, none⟩))) (h0 : J [] W) :
    CallsIn Fence.wide m Try.prog 66 #[.func (.yield l) #[] #[], .pointer (some ⟨Bs, 0, none⟩)] W fun e W' => (∃ v, e = .returned v) ∧
     ((∃ ys : List (Fin n), ys.map Fin.val = (List.range n).reverse ∧ J ys W') ∨ (∃ pre, True ∧ Jx pre W')) := by
 refine callsIn_of_wp Try.func66 rfl trivial ?_ rfl
 simp only [Try.ntmps66, List.size_toArray, List.length_cons, List.length_nil, Nat.reduceAdd, Nat.reduceSub, Array.replicate_succ, Array.replicate_zero, List.push_toArray, List.append_toArray, List.nil_append, List.cons_append]
 gi_wp2
 gi_loopw [3] (fun v3 wr => ∃ (k : Nat) (pre : List (Fin n)), k ≤ n ∧ v3 = .int .i64 ((n : Int) - 1 - k) ∧ pre.map Fin.val = downTo n k ∧ J pre wr ∧ KpB Bs rb W wr) (fun v3 _ => (intOf v3 + 1).toNat)
 case atStart => exact ⟨0, [], Nat.zero_le _, by simp, by simp [downTo], h0, KpB.refl _ _ _⟩
 case round =>
  obtain ⟨k, pre, hk, rfl, hpre, hJ, hkp⟩ := hrel
  by_cases hlt : k < n
  · have hlen : pre.length = k := by have := congrArg List.length hpre; simpa [downTo, Nat.min_eq_left hk] using this
    obtain ⟨j, hj⟩ : ∃ j : Nat, j = n - 1 - k := ⟨_, rfl⟩
    have hjn : j < n := by omega
    have e : ((n : Int) - 1 - k) = (j : Int) := by omega
    rw [e]
    have Hj := Aside0.mk hj
    have He := Aside0.mk e
    clear hj e
    have hBs' : wr.cell? ⟨Bs, 0, none⟩ = some (.slice (some ⟨rb, 0, none⟩) n cap) := (World.cell?_of_block (w := W) hkp.1).trans hBs
    have hc' : wr.cell? ⟨rb, j, none⟩ = some (.pointer (some ⟨nb j, 0, none⟩)) := (World.cell?_of_block (w := W) hkp.2).trans (hc j hjn)
    obtain ⟨fn, tmps, assign, body, hy, hR⟩ := hY pre ⟨j, hjn⟩ wr hJ (by omega)
    dsimp only at hy
    gi_wp2
    refine hR.mono ?_
    rintro e W3 (⟨rfl, hJ3, hk3⟩ | ⟨rfl, hJx3⟩)
    · gi_wp2
      go_roundw
      case rel =>
       refine ⟨k + 1, _, by omega, ?_, ?_, hJ3, hkp.trans hk3⟩
       · have := Hj.out
         simp only [Value.int.injEq, true_and]
         omega
       · rw [List.map_append, hpre, downTo_succ n k hlt, ← Hj.out]; rfl
      case measure => have := Hj.out; simp [intOf]
    · gi_wp2
      refine bodyPost_ret (results_none rfl _ _ _) rfl ?_
      exact ⟨⟨_, rfl⟩, .inr ⟨_, trivial, hJx3⟩⟩
  · obtain rfl : k = n := by omega
    rw [show ((k : Int) - 1 - k) = -1 from by omega]
    gi_wp2
    go_end0
    exact ⟨⟨_, rfl⟩, .inl ⟨_, by rw [hpre, downTo_all], hJ⟩⟩
theorem back_stops (m n Bs rb cap : Nat) (nb : Nat → Nat) (hm : 1 ≤ m) (hn : n ≤ 1000000) (w : World) (hBs : w.cell? ⟨Bs, 0, none⟩ = some (.slice (some ⟨rb, 0, none⟩) n cap)) (hrb : rb < w.heap.size)
    (hc : ∀ j, j < n → w.cell? ⟨rb, j, none⟩ = some (.pointer (some ⟨nb j, 0, none⟩))) :
    SeqStopsK Fence.wide m Try.prog 66 #[.pointer (some ⟨Bs, 0, none⟩)] (fun x : Fin n => #[Value.int .i64 (x.val : Int), .pointer (some ⟨nb x.val, 0, none⟩)]) (KpB Bs rb) (fun ys => ys.map Fin.val = (List.range n).reverse) (fun _ => True) n w :=
 fun l J Jx W hW _ _ hY h0 =>
  back1_in m n l Bs rb cap nb hm hn J Jx hY W (cell_b hW hBs) (fun j hj => cell_b hW (hc j hj)) h0
end Go.Proofs.Ytocndmielggnpaa.PAll
end
section
namespace Go.Proofs.Ytocndmielggnpaa.PAll
open Go.RowKit Go.Proofs.YtocndmielggnpaaW.PrintWords Go.Proofs.YtocndmielggnpaaW.PrintLast Go.Proofs.YtocndmielggnpaaW.PrintMore
open Go.Proofs.Ytocndmielggnpaa.AMap Go.Proofs.Ytocndmielggnpaa.Env Go.Proofs.Ytocndmielggnpaa.Kind
def nz : Nd := ⟨0, 0, 0, 0, []⟩
def setFar (xs : List Nd) (j : Nat) (v : Int) : List Nd := xs.modify j fun x => { x with far := v }
def farOf (xs : List Nd) (k : Nat) : Int := (xs.getD k nz).far
def farEdge (j : Nat) (xs : List Nd) (e : Int × Int) : List Nd := setFar xs j (max (farOf xs j) (wrap64 (e.2 + farOf xs e.1.toNat)))
def farNode (d : De) (l : List S37) (xs : List Nd) (j : Nat) : List Nd := (xs.getD j nz).beh.foldl (farEdge j) (setFar xs j (ltP (l.getD (xs.getD j nz).pos.toNat z37).f0 d))
def graphP (d : De) (l : List S37) : List Nd := ((List.range l.length).reverse).foldl (farNode d l) (gSt d l l.length).nd
/-- Positions and edges lie within n. -/
def EB (xs : List Nd) (n : Nat) : Prop := ∀ x ∈ xs, (0 ≤ x.pos ∧ x.pos < n) ∧ x.beh.length ≤ 1000000000000 ∧ ∀ e ∈ x.beh, 0 ≤ e.1 ∧ e.1 < n
theorem EB.at {xs : List Nd} {n k : Nat} (h : EB xs n) (hk : k < xs.length) : (0 ≤ (xs.getD k nz).pos ∧ (xs.getD k nz).pos < n) ∧ (xs.getD k nz).beh.length ≤ 1000000000000 ∧ ∀ e ∈ (xs.getD k nz).beh, 0 ≤ e.1 ∧ e.1 < n := by
 rw [List.getD_eq_getElem?_getD, List.getElem?_eq_getElem hk]
 exact h _ (List.getElem_mem hk)
theorem setFar_len (xs : List Nd) (j : Nat) (v : Int) : (setFar xs j v).length = xs.length := by simp [setFar]
theorem setFar_get (xs : List Nd) (j k : Nat) (v : Int) : (setFar xs j v)[k]? = if j = k then xs[k]?.map (fun x => { x with far := v }) else xs[k]? := by
 unfold setFar
 rw [List.getElem?_modify]
 split
 · rfl
 · cases xs[k]? <;> rfl
theorem setFar_beh (xs : List Nd) (j k : Nat) (v : Int) : ((setFar xs j v).getD k nz).beh = (xs.getD k nz).beh ∧ ((setFar xs j v).getD k nz).pos = (xs.getD k nz).pos ∧ ((setFar xs j v).getD k nz).ahead = (xs.getD k nz).ahead ∧ ((setFar xs j v).getD k nz).frm = (xs.getD k nz).frm := by
 simp only [List.getD_eq_getElem?_getD, setFar_get]
 split
 · cases xs[k]? <;> simp
 · simp
theorem EB.setFar {xs : List Nd} {n : Nat} (h : EB xs n) (j : Nat) (v : Int) : EB (PAll.setFar xs j v) n := by
 intro x hx
 rcases mem_modify _ _ _ _ hx with hx | ⟨y, hy, rfl⟩
 · exact h x hx
 · exact h y hy
theorem farEdge_len (j : Nat) (xs : List Nd) (e : Int × Int) : (farEdge j xs e).length = xs.length := setFar_len _ _ _
theorem farEdges_len (j : Nat) (es : List (Int × Int)) : ∀ xs : List Nd, (es.foldl (farEdge j) xs).length = xs.length := by
 induction es with
 | nil => intro xs; rfl
 | cons e es ih => intro xs; rw [List.foldl_cons, ih, farEdge_len]
theorem farEdges_beh (j : Nat) (es : List (Int × Int)) : ∀ (xs : List Nd) (k : Nat), ((es.foldl (farEdge j) xs).getD k nz).beh = (xs.getD k nz).beh ∧ ((es.foldl (farEdge j) xs).getD k nz).pos = (xs.getD k nz).pos ∧ ((es.foldl (farEdge j) xs).getD k nz).ahead = (xs.getD k nz).ahead ∧ ((es.foldl (farEdge j) xs).getD k nz).frm = (xs.getD k nz).frm := by
 induction es with
 | nil => intro xs k; exact ⟨rfl, rfl, rfl, rfl⟩
 | cons e es ih =>
  intro xs k
  rw [List.foldl_cons]
  have h1 := ih (farEdge j xs e) k
  have h2 := setFar_beh xs j k (max (farOf xs j) (wrap64 (e.2 + farOf xs e.1.toNat)))
  exact ⟨h1.1.trans h2.1, h1.2.1.trans h2.2.1, h1.2.2.1.trans h2.2.2.1, h1.2.2.2.trans h2.2.2.2⟩
theorem EB.farEdges {n : Nat} (j : Nat) (es : List (Int × Int)) : ∀ {xs : List Nd}, EB xs n → EB (es.foldl (farEdge j) xs) n := by
 induction es with
 | nil => intro xs h; exact h
 | cons e es ih => intro xs h; exact ih (h.setFar j _)
theorem farNode_len (d : De) (l : List S37) (xs : List Nd) (j : Nat) : (farNode d l xs j).length = xs.length := by unfold farNode; rw [farEdges_len, setFar_len]
theorem EB.farNode {d : De} {l : List S37} {xs : List Nd} {n : Nat} (h : EB xs n) (j : Nat) : EB (PAll.farNode d l xs j) n := EB.farEdges j _ (h.setFar j _)
theorem farNodes_len (d : De) (l : List S37) (js : List Nat) : ∀ xs : List Nd, (js.foldl (farNode d l) xs).length = xs.length := by
 induction js with
 | nil => intro xs; rfl
 | cons e es ih => intro xs; rw [List.foldl_cons, ih, farNode_len]
theorem EB.farNodes {d : De} {l : List S37} {n : Nat} (js : List Nat) : ∀ {xs : List Nd}, EB xs n → EB (js.foldl (PAll.farNode d l) xs) n := by
 induction js with
 | nil => intro xs h; exact h
 | cons e es ih => intro xs h; exact ih (h.farNode e)
theorem farNode_beh (d : De) (l : List S37) (xs : List Nd) (j k : Nat) : ((farNode d l xs j).getD k nz).beh = (xs.getD k nz).beh ∧ ((farNode d l xs j).getD k nz).pos = (xs.getD k nz).pos ∧ ((farNode d l xs j).getD k nz).ahead = (xs.getD k nz).ahead ∧ ((farNode d l xs j).getD k nz).frm = (xs.getD k nz).frm := by
 have h1 := farEdges_beh j (xs.getD j nz).beh (setFar xs j (ltP (l.getD (xs.getD j nz).pos.toNat z37).f0 d)) k
 have h2 := setFar_beh xs j k (ltP (l.getD (xs.getD j nz).pos.toNat z37).f0 d)
 exact ⟨h1.1.trans h2.1, h1.2.1.trans h2.2.1, h1.2.2.1.trans h2.2.2.1, h1.2.2.2.trans h2.2.2.2⟩
theorem EB.after {xs : List Nd} {n m : Nat} {p : Nat × Int} {c : Nat} (h : ∀ x ∈ xs, (0 ≤ x.pos ∧ x.pos < n) ∧ ∀ e ∈ x.beh, 0 ≤ e.1 ∧ e.1 < n) (hm : m < n) :
    ∀ x ∈ afterP xs m (m : Int) p, (0 ≤ x.pos ∧ x.pos < n) ∧ ∀ e ∈ x.beh, 0 ≤ e.1 ∧ e.1 < n := by
 have key : ∀ y ∈ xs.modify p.1 (fun x => { x with beh := x.beh ++ [((m : Int), p.2)] }), (0 ≤ y.pos ∧ y.pos < n) ∧ ∀ e ∈ y.beh, 0 ≤ e.1 ∧ e.1 < n := by
  intro y hy
  rcases mem_modify _ _ _ _ hy with hy | ⟨z, hz, rfl⟩
  · exact h y hy
  · refine ⟨(h z hz).1, fun e he => ?_⟩
    rcases List.mem_append.1 he with he | he
    · exact (h z hz).2 e he
    · rw [List.mem_singleton.1 he]; simp only; omega
 intro x hx
 rcases mem_modify _ _ _ _ hx with hx | ⟨y, hy, rfl⟩
 · exact key x hx
 · exact key y hy
theorem EB.afs {m n : Nat} (hm : m < n) (es : List (Nat × Int)) : ∀ {xs : List Nd}, (∀ x ∈ xs, (0 ≤ x.pos ∧ x.pos < n) ∧ ∀ e ∈ x.beh, 0 ≤ e.1 ∧ e.1 < n) → ∀ x ∈ PAll.afs m xs es, (0 ≤ x.pos ∧ x.pos < n) ∧ ∀ e ∈ x.beh, 0 ≤ e.1 ∧ e.1 < n := by
 induction es with
 | nil => intro xs h; exact h
 | cons e es ih => intro xs h; exact ih (EB.after (c := 0) h hm)
theorem gSt_EB {d : De} {l : List S37} (h : Sh l) (k : Nat) (hk : k ≤ l.length) : EB (gSt d l k).nd k := by
 have key : ∀ k, k ≤ l.length → ∀ x ∈ (gSt d l k).nd, (0 ≤ x.pos ∧ x.pos < k) ∧ ∀ e ∈ x.beh, 0 ≤ e.1 ∧ e.1 < k := by
  intro k
  induction k with
  | zero => intro _ x hx; simp [gSt] at hx
  | succ k ih =>
   intro hk
   rw [gSt_succ d l k (by omega)]
   have hlen := (gSt_GI h k (by omega) (d := d)).len
   simp only [gStep, hlen]
   refine EB.afs (by omega) _ ?_
   intro x hx
   rcases List.mem_append.1 hx with hx | hx
   · have := ih (by omega) x hx
     exact ⟨⟨this.1.1, by omega⟩, fun e he => by have := this.2 e he; omega⟩
   · rw [List.mem_singleton.1 hx]
     refine ⟨⟨?_, ?_⟩, fun e he => by simp [nd0] at he⟩
     · show (0 : Int) ≤ ((k : Nat) : Int); omega
     · show ((k : Nat) : Int) < _; omega
 have hb := (gSt_GI h k hk (d := d)).bd
 have hl := h.1
 exact fun x hx => ⟨(key k hk x hx).1, by have := (hb x hx).1; omega, (key k hk x hx).2⟩
/-- What may lie beside a row of instructions: cells that are neither these nor int. -/
def Ds.ok : Ds → Prop
 | .cells _ t => t ≠ 3 ∧ t ≠ 37
 | .row e _ _ _ _ => e ≠ 3 ∧ e ≠ 37
 | .map _ => False
def FR (w0 w : World) (E0 : Env) (nb : Nat → Nat) (xs : List Nd) : Prop :=
 ∃ E', Sat w0 w E' ∧ (∀ τ : Tag, τ.1 ≠ 0 → E' τ = E0 τ) ∧ NodesRep E' nb xs ∧ ∀ τ b d, E' τ = some (b, d) → Ds.ok d
section
variable {w0 w w' : World} {E0 : Env} {nb : Nat → Nat} {xs : List Nd} {τ : Tag} {b : Nat}
theorem FR.below (h : FR w0 w E0 nb xs) : Below w0.heap.size w0 w := by obtain ⟨E', h, _⟩ := h; exact h.below
theorem FR.grow (h : FR w0 w E0 nb xs) (hb : Below w.heap.size w w') : FR w0 w' E0 nb xs := by obtain ⟨E', h, r⟩ := h; exact ⟨E', h.grow hb, r⟩
theorem FR.drew (h : FR w0 w E0 nb xs) : FR w0 w.drew E0 nb xs := h.grow (below_drew1 (Below.refl _ _))
theorem FR.cell (h : FR w0 w E0 nb xs) {cs : Array Value} {t : TypeId} (he : E0 τ = some (b, .cells cs t)) (h0 : τ.1 ≠ 0) (i : Nat) : w.cell? ⟨b, i, none⟩ = cs[i]? := by
 obtain ⟨E', h, r, _⟩ := h
 exact h.cell ((r τ h0).trans he) i
theorem FR.rowCell (h : FR w0 w E0 nb xs) {e n c : Nat} {ys : List Value} (he : E0 τ = some (b, .row e 1 n ys c)) (h0 : τ.1 ≠ 0) (i : Nat) (hi : i < n) : w.cell? ⟨b, i, none⟩ = ys[i]? := by
 obtain ⟨E', h, r, _⟩ := h
 exact h.rowCell ((r τ h0).trans he) i hi
theorem cells_blk {d : Ds} (hd : Ds.ok d) (h : d.Holds w b) : ∃ o : Obj, w.heap[b]? = some o ∧ o.isCells = true := by
 cases d with
 | cells cs t => exact ⟨_, h, rfl⟩
 | row e size n xs cap =>
  obtain ⟨cells, hc⟩ := own_typed (show w.ownsRow 0 e size _ n xs from h) b rfl
  exact ⟨_, hc, rfl⟩
 | map f => exact hd.elim
/-- What is no cell may turn. -/
theorem FR.other (h : FR w0 w E0 nb xs) {row : Option Nat} (hg : w.grownBy w' row) (hr : ∀ r, row = some r → w0.heap.size ≤ r ∧ ∃ o : Obj, w.heap[r]? = some o ∧ o.isCells = false) : FR w0 w' E0 nb xs := by
 obtain ⟨E', hS, hE, hN, hM⟩ := h
 refine ⟨E', hS.frame (hS.below.grown hg hS.below.size (fun k hk => (hr k hk).1)) ?_, hE, hN, hM⟩
 intro τ b d he
 refine hg.block b (hS.lt he) ?_
 intro e
 obtain ⟨_, o, ho, hc⟩ := hr b e.symm
 obtain ⟨o', ho', hc'⟩ := cells_blk (hM τ b d he) (hS.holds _ _ _ he)
 rw [ho] at ho'
 injection ho' with ho'
 rw [ho', hc'] at hc
 exact absurd hc (by decide)
theorem FR.node (h : FR w0 w E0 nb xs) {j : Nat} (hj : j < xs.length) : ∃ v, IsRow E0 (1, j) v 73 2 (edgeCells (xs.getD j nz).beh) ∧ w.heap[nb j]? = some (.cells #[.int .i64 (xs.getD j nz).pos, .int .i64 (xs.getD j nz).ahead, .int .i64 (xs.getD j nz).far, .int .i64 (xs.getD j nz).frm, v] 61 (0, 0)) := by
 obtain ⟨E', hS, hE, hN, hM⟩ := h
 obtain ⟨v, h1, h2⟩ := hN j (xs.getD j nz) (by rw [List.getD_eq_getElem?_getD, List.getElem?_eq_getElem hj]; rfl)
 exact ⟨v, h2.congr (hE _ (by simp)).symm, hS.holds _ _ _ h1⟩
theorem FR.edges (h : FR w0 w E0 nb xs) {j : Nat} {v : Value} {es : List (Int × Int)} (hr : IsRow E0 (1, j) v 73 2 (edgeCells es)) : w.ownsRow 0 73 2 v es.length (edgeCells es) := by
 obtain ⟨E', hS, hE, hN, hM⟩ := h
 obtain ⟨n, hn, ho, _⟩ := (hr.congr (hE _ (by simp))).owns hS (by decide)
 rw [edgeCells_len] at hn
 have : n = es.length := by omega
 rwa [this] at ho
theorem FR.far (h : FR w0 w E0 nb xs) {j : Nat} (hj : j < xs.length) (v : Int) : FR w0 (w.setCell ⟨nb j, 2, none⟩ (.int .i64 v)) E0 nb (setFar xs j v) := by
 obtain ⟨E', hS, hE, hN, hM⟩ := h
 obtain ⟨u, h1, h2⟩ := hN j (xs.getD j nz) (by rw [List.getD_eq_getElem?_getD, List.getElem?_eq_getElem hj]; rfl)
 refine ⟨_, hS.store h1 2 (.int .i64 v), ?_, ?_, ?_⟩
 · intro σ h0
   rw [set_tag _ _ h0]
   exact hE σ h0
 · intro k y hy
   rw [setFar_get] at hy
   by_cases hk : j = k
   · subst hk
     rw [if_pos rfl] at hy
     rw [List.getElem?_eq_getElem hj] at hy
     simp only [Option.map_some, Option.some.injEq] at hy
     subst hy
     rw [List.getD_eq_getElem?_getD, List.getElem?_eq_getElem hj] at h1 h2
     refine ⟨u, ?_, h2.congr (set_tag _ _ (by simp))⟩
     rw [set_same]
     rw [List.getD_eq_getElem?_getD, List.getElem?_eq_getElem hj]
     rfl
   · rw [if_neg hk] at hy
     refine (hN k y hy).congr ?_ (set_tag _ _ (by simp))
     refine set_ne _ _ ?_
     simp only [ne_eq, Prod.mk.injEq, true_and]
     omega
 · intro σ c f
   unfold Env.set
   split
   · intro e
     simp only [Option.some.injEq, Prod.mk.injEq] at e
     rw [← e.2]
     simp [Ds.ok]
   · exact hM σ c f
theorem FR.apart (h : FR w0 w E0 nb xs) {j : Nat} (hj : j < xs.length) {d : Ds} (he : E0 τ = some (b, d)) (h0 : τ.1 ≠ 0) : b ≠ nb j := by
 obtain ⟨E', hS, hE, hN, hM⟩ := h
 obtain ⟨u, h1, h2⟩ := hN j (xs.getD j nz) (by rw [List.getD_eq_getElem?_getD, List.getElem?_eq_getElem hj]; rfl)
 exact hS.ne ((hE τ h0).trans he) h1 (fun e => h0 (by rw [e]))
theorem IsRow.uniq {E : Env} {v v' : Value} {e e' s s' : Nat} {ys ys' : List Value} (h : IsRow E τ v e s ys) (h' : IsRow E τ v' e' s' ys') : v = v' := by
 rcases h with ⟨h1, _, h3⟩ | ⟨b, n, c, h1, h2⟩ <;> rcases h' with ⟨g1, _, g3⟩ | ⟨b', n', c', g1, g2⟩
 · rw [h1, g1]
 · rw [h3] at g2; simp at g2
 · rw [g3] at h2; simp at h2
 · rw [h2] at g2
   simp only [Option.some.injEq, Prod.mk.injEq, Ds.row.injEq] at g2
   obtain ⟨rfl, rfl, rfl, rfl, rfl, rfl⟩ := g2
   rw [h1, g1]
theorem FR.blk (h : FR w0 w E0 nb xs) {j : Nat} (hj : j < xs.length) {v : Value} {ys : List Value} {e s : Nat} (hr : IsRow E0 (1, j) v e s ys) :
    w.heap[nb j]? = some (.cells #[.int .i64 (xs.getD j nz).pos, .int .i64 (xs.getD j nz).ahead, .int .i64 (xs.getD j nz).far, .int .i64 (xs.getD j nz).frm, v] 61 (0, 0)) := by
 obtain ⟨u, h1, h2⟩ := h.node hj
 have e := IsRow.uniq hr h1
 subst e
 exact h2
theorem FR.farCell (h : FR w0 w E0 nb xs) {j : Nat} (hj : j < xs.length) : w.cell? ⟨nb j, 2, none⟩ = some (.int .i64 (farOf xs j)) := by
 obtain ⟨u, h1, h2⟩ := h.node hj
 exact (blk_cell h2 2).trans rfl
theorem FR.free (h : FR w0 w E0 nb xs) {j : Nat} (hj : j < xs.length) (i : Nat) : w.frozen? ⟨nb j, i, none⟩ = false := by
 obtain ⟨u, h1, h2⟩ := h.node hj
 simp [World.frozen?, h2]
theorem FR.lt (h : FR w0 w E0 nb xs) {d : Ds} (he : E0 τ = some (b, d)) (h0 : τ.1 ≠ 0) : b < w.heap.size := by
 obtain ⟨E', hS, hE, hN, hM⟩ := h
 exact hS.lt ((hE τ h0).trans he)
theorem FR.keeps (h : FR w0 w E0 nb xs) {j : Nat} (hj : j < xs.length) (hg : w.grownBy w' (some (nb j))) (B : Nat) : KeepsFrom B w w' := by
 obtain ⟨u, h1, h2⟩ := h.node hj
 refine ⟨hg.size, fun k o hk h0 ho => (hg.block k (blk_lt h0) ?_).trans h0⟩
 intro e
 injection e with e
 rw [e, h2] at h0
 injection h0 with h0
 rw [← h0] at ho
 exact absurd ho (by simp [Obj.isCells])
theorem FR.kpb (h : FR w0 w E0 nb xs) {j : Nat} (hj : j < xs.length) (hg : w.grownBy w' (some (nb j))) {Bs rb : Nat} {d d' : Ds} (e1 : E0 (16, 0) = some (Bs, d)) (e2 : E0 (5, 0) = some (rb, d')) : KpB Bs rb w w' :=
 ⟨hg.block _ (h.lt e1 (by decide)) (by simpa using h.apart hj e1 (by decide)), hg.block _ (h.lt e2 (by decide)) (by simpa using h.apart hj e2 (by decide))⟩
theorem edgeCells_get (es : List (Int × Int)) (m : Nat) (hm : m < es.length) : (edgeCells es)[m * 2]? = some (.int .i64 (es.getD m (0, 0)).1) ∧ (edgeCells es)[m * 2 + 1]? = some (.int .i64 (es.getD m (0, 0)).2) := by
 induction es generalizing m with
 | nil => simp at hm
 | cons e es ih =>
  have hc : edgeCells (e :: es) = .int .i64 e.1 :: .int .i64 e.2 :: edgeCells es := by simp [edgeCells]
  rw [hc]
  cases m with
  | zero => simp
  | succ m =>
   have := ih m (by simpa using hm)
   rw [show (m + 1) * 2 = m * 2 + 1 + 1 from by omega]
   simpa using this
theorem FR.edgeAt (h : FR w0 w E0 nb xs) {j : Nat} {A : Option Addr} {c : Nat} {es : List (Int × Int)} (hr : IsRow E0 (1, j) (.slice A es.length c) 73 2 (edgeCells es)) (m : Nat) (hm : m < es.length) :
    ∃ g, A = some ⟨g, 0, none⟩ ∧ w.cell? ⟨g, m * 2, none⟩ = some (.int .i64 (es.getD m (0, 0)).1) ∧ w.cell? ⟨g, m * 2 + 1, none⟩ = some (.int .i64 (es.getD m (0, 0)).2) := by
 have ho := h.edges hr
 rcases ho.2 with ⟨h', h2⟩ | ⟨g, cap, cur, h', _⟩
 · omega
 · simp only [Value.slice.injEq] at h'
   obtain ⟨rfl, -, rfl⟩ := h'
   have h2 := ho.cells (g := g) rfl (m * 2) _ (edgeCells_get es m hm).1
   have h3 := ho.cells (g := g) rfl (m * 2 + 1) _ (edgeCells_get es m hm).2
   rw [add_plain] at h2 h3
   exact ⟨g, rfl, h2, h3⟩
theorem grown_below {row : Option Nat} (hb : Below w.heap.size w w') : w.grownBy w' row := ⟨hb.os, hb.tape, hb.output, hb.size, fun i hi _ => hb.block i hi⟩
def farE (E : Env) (n Bs : Nat) (d : Ds) : Env := fun τ =>
 if τ.1 = 0 ∨ τ.1 = 1 then (if 0 ≤ τ.2 ∧ τ.2 < n then E τ else none) else if τ = (5, 0) ∨ τ = (6, 0) ∨ τ = (15, 0) ∨ τ = (15, 1) then E τ else if τ = (16, 0) then some (Bs, d) else none
theorem FR.start {v9 : Value} {g : GP} {n : Nat} {s : GS} {E : Env} (h : GM w0 w E nb g n v9 s) (hn : s.nd.length = n) :
    ∃ E0 ps, FR w0 (w.alloc (.cells #[.slice (some ⟨g.rb, 0, none⟩) g.l.length g.l.length] 56)) E0 nb s.nd ∧ E0 (5, 0) = some (g.rb, .row 58 1 g.l.length ps g.l.length) ∧ (∀ k, k < n → ps[k]? = some (.pointer (some ⟨nb k, 0, none⟩))) ∧
     E0 (6, 0) = some (g.bN, .cells #[.slice (some ⟨g.rb, 0, none⟩) g.l.length g.l.length] 56) ∧ E0 (15, 0) = some (g.b2, .cells #[.slice g.A0 g.l.length g.c0] 22) ∧
     E0 (15, 1) = some (g.b3, .cells #[.int .i64 g.d.mul, .int .i64 g.d.dv, .int .i64 g.d.ld, .int .i64 g.d.tk] 27) ∧ E0 (16, 0) = some (w.heap.size, .cells #[.slice (some ⟨g.rb, 0, none⟩) g.l.length g.l.length] 56) := by
 obtain ⟨ps, hR, hps⟩ := h.hR
 have h5 : farE E n w.heap.size (.cells #[.slice (some ⟨g.rb, 0, none⟩) g.l.length g.l.length] 56) (5, 0) = some (g.rb, .row 58 1 g.l.length ps g.l.length) := by simpa [farE] using hR
 have h6 : farE E n w.heap.size (.cells #[.slice (some ⟨g.rb, 0, none⟩) g.l.length g.l.length] 56) (6, 0) = some (g.bN, .cells #[.slice (some ⟨g.rb, 0, none⟩) g.l.length g.l.length] 56) := by simpa [farE] using h.gc.hN
 have h15 : farE E n w.heap.size (.cells #[.slice (some ⟨g.rb, 0, none⟩) g.l.length g.l.length] 56) (15, 0) = some (g.b2, .cells #[.slice g.A0 g.l.length g.c0] 22) := by simpa [farE] using h.gc.box2
 have h151 : farE E n w.heap.size (.cells #[.slice (some ⟨g.rb, 0, none⟩) g.l.length g.l.length] 56) (15, 1) = some (g.b3, .cells #[.int .i64 g.d.mul, .int .i64 g.d.dv, .int .i64 g.d.ld, .int .i64 g.d.tk] 27) := by simpa [farE] using h.gc.box3
 have h16 : farE E n w.heap.size (.cells #[.slice (some ⟨g.rb, 0, none⟩) g.l.length g.l.length] 56) (16, 0) = some (w.heap.size, .cells #[.slice (some ⟨g.rb, 0, none⟩) g.l.length g.l.length] 56) := by simp [farE]
 have hj0 : ∀ j : Nat, j < n → farE E n w.heap.size (.cells #[.slice (some ⟨g.rb, 0, none⟩) g.l.length g.l.length] 56) (0, (j : Int)) = E (0, (j : Int)) := by
  intro j hj
  unfold farE
  rw [if_pos (.inl rfl), if_pos (by simp only; omega)]
 have hj1 : ∀ j : Nat, j < n → farE E n w.heap.size (.cells #[.slice (some ⟨g.rb, 0, none⟩) g.l.length g.l.length] 56) (1, (j : Int)) = E (1, (j : Int)) := by
  intro j hj
  unfold farE
  rw [if_pos (.inr rfl), if_pos (by simp only; omega)]
 refine ⟨_, ps, ⟨_, ?_, fun _ _ => rfl, ?_, ?_⟩, h5, hps, h6, h15, h151, h16⟩
 · refine (h.sat.alloc (16, 0) #[.slice (some ⟨g.rb, 0, none⟩) g.l.length g.l.length] 56).sub fun τ => ?_
   unfold farE
   split
   · rename_i h1
     split
     · right; rw [set_ne _ _ (fun e => by rw [e] at h1; simp at h1)]
     · left; rfl
   · split
     · rename_i h1
       right; rw [set_ne _ _ (fun e => by rw [e] at h1; simp at h1)]
     · split
       · rename_i h1
         right; rw [h1, set_same]
       · left; rfl
 · intro j y hy
   have hj : j < n := by have := (List.getElem?_eq_some_iff.1 hy).1; omega
   exact (h.nodes j y hy).congr (hj0 j hj) (hj1 j hj)
 · intro τ b f he
   obtain ⟨t1, t2⟩ := τ
   have fin : ∀ {o : Option (Nat × Ds)} {c : Nat} {d : Ds}, o = some (c, d) → Ds.ok d → o = some (b, f) → Ds.ok f := by
    intro o c d h1 h2 h3
    rw [h1] at h3
    simp only [Option.some.injEq, Prod.mk.injEq] at h3
    rw [← h3.2]; exact h2
   unfold farE at he
   split at he
   · rename_i h1
     split at he
     · rename_i h2
       simp only at h1 h2
       obtain ⟨j, rfl⟩ : ∃ j : Nat, t2 = j := ⟨t2.toNat, by omega⟩
       obtain ⟨v, e1, e2⟩ := h.nodes j (s.nd.getD j nz) (by rw [List.getD_eq_getElem?_getD, List.getElem?_eq_getElem (by omega)]; rfl)
       rcases h1 with rfl | rfl
       · exact fin e1 (by simp [Ds.ok]) he
       · rcases e2 with ⟨_, _, e3⟩ | ⟨_, _, _, _, e3⟩
         · rw [e3] at he; simp at he
         · exact fin e3 (by simp [Ds.ok]) he
     · simp at he
   · split at he
     · rename_i h1
       rcases h1 with h1 | h1 | h1 | h1 <;> rw [h1] at he
       · exact fin hR (by simp [Ds.ok]) he
       · exact fin h.gc.hN (by simp [Ds.ok]) he
       · exact fin h.gc.box2 (by simp [Ds.ok]) he
       · exact fin h.gc.box3 (by simp [Ds.ok]) he
     · split at he
       · exact fin rfl (by simp [Ds.ok]) he
       · simp at he
end
end Go.Proofs.Ytocndmielggnpaa.PAll
end
section
namespace Go.Proofs.Ytocndmielggnpaa.PAll
open Go.RowKit Go.Proofs.YtocndmielggnpaaW.PrintWords Go.Proofs.YtocndmielggnpaaW.PrintLast Go.Proofs.YtocndmielggnpaaW.PrintMore
open Go.Proofs.Ytocndmielggnpaa.AMap Go.Proofs.Ytocndmielggnpaa.Env Go.Proofs.Ytocndmielggnpaa.Kind
attribute [local go_sem] max2_int min2_int max_two min_two Oper.semAt_some
theorem start_GM (g : GP) (w : World) (h2 : g.b2 = w.heap.size) (h3 : g.b3 = w.heap.size + 1) (hrb : g.rb = w.heap.size + 1 + 1) (hbN : g.bN = w.heap.size + 1 + 1 + 1) (hbm : g.bm = w.heap.size + 1 + 1 + 1 + 1) (hbt : g.bt = w.heap.size + 1 + 1 + 1 + 1 + 1) (hl : g.l.length ≤ 100) :
    ∃ E, GM w (((((((w.alloc (.cells #[.slice g.A0 g.l.length g.c0] 22)).alloc (.cells #[.int .i64 g.d.mul, .int .i64 g.d.dv, .int .i64 g.d.ld, .int .i64 g.d.tk] 27)).alloc (.cells (madeCells #[.pointer none] g.l.length) 58)).alloc
     (.cells #[.slice (some ⟨w.heap.size + 1 + 1, 0, none⟩) g.l.length g.l.length] 56)).alloc (.map #[] 0)).alloc (.map #[] 0)).alloc (.cells #[] 3)) E (fun _ => 0) g 0 (.slice (some ⟨w.heap.size + 1 + 1 + 1 + 1 + 1 + 1, 0, none⟩) 0 0) (gSt g.d g.l 0) := by
 have s0 := Sat.empty w
 have s1 := s0.alloc (15, 0) #[.slice g.A0 g.l.length g.c0] 22
 have s2 := s1.alloc (15, 1) #[.int .i64 g.d.mul, .int .i64 g.d.dv, .int .i64 g.d.ld, .int .i64 g.d.tk] 27
 have o3 := own_made_of (enc := fun _ : Unit => Value.pointer none) (d := ()) ((w.alloc (.cells #[.slice g.A0 g.l.length g.c0] 22)).alloc (.cells #[.int .i64 g.d.mul, .int .i64 g.d.dv, .int .i64 g.d.ld, .int .i64 g.d.tk] 27)) 0 58 g.l.length (Nat.zero_le _) (by omega)
 have s3 := s2.new (5, 0) (below_alloc (Below.refl _ _) (.cells (madeCells #[.pointer none] g.l.length) 58)) (Nat.le_refl _) (d := .row 58 1 g.l.length _ g.l.length) o3
 have s4 := s3.alloc (6, 0) #[.slice (some ⟨w.heap.size + 1 + 1, 0, none⟩) g.l.length g.l.length] 56
 have s5 := s4.allocMap (2, 0)
 have s6 := s5.allocMap (3, 0)
 have o7 := own_lit_of (enc := fun _ : Unit => Value.pointer none) ((((((w.alloc (.cells #[.slice g.A0 g.l.length g.c0] 22)).alloc (.cells #[.int .i64 g.d.mul, .int .i64 g.d.dv, .int .i64 g.d.ld, .int .i64 g.d.tk] 27)).alloc (.cells (madeCells #[.pointer none] g.l.length) 58)).alloc
     (.cells #[.slice (some ⟨w.heap.size + 1 + 1, 0, none⟩) g.l.length g.l.length] 56)).alloc (.map #[] 0)).alloc (.map #[] 0)) 0 3 [] (Nat.zero_le _) (by simp)
 have s7 := s6.new (12, 0) (below_alloc (Below.refl _ _) (.cells #[] 3)) (Nat.le_refl _) (d := .row 3 1 0 [] 0) o7
 simp only [World.size_alloc] at s7
 refine ⟨_, ⟨s7, ⟨?_, ?_, ?_, ⟨fun _ => none, ?_, fun p => ?_⟩, ⟨fun _ => none, ?_, fun p => ?_⟩, ?_⟩, ⟨encs (fun _ : Unit => Value.pointer none) (List.replicate g.l.length ()), ?_, fun k hk => by omega⟩, ?_⟩⟩
 · simp [Env.set, h2]
 · simp [Env.set, h3]
 · simp [Env.set, hbN, hrb]
 · simp [Env.set, hbm]
 · simp [gSt]
 · simp [Env.set, hbt]
 · exact .inl ⟨rfl, by simp [gSt, nats, nums], by simp [Env.set]⟩
 · refine .inr ⟨_, 0, 0, rfl, ?_⟩
   simp [Env.set, gSt, nats, nums]
 · simp [Env.set, hrb]
 · intro j x hx; simp [gSt] at hx
theorem ce4_of {w0 w : World} {E : Env} {nb : Nat → Nat} {g : GP} {i : Nat} {v9 : Value} {s : GS} (h : GM w0 w E nb g i v9 s) (j : Nat) (hj : j < g.l.length) : ∃ u, ∀ o1 o2 o3 o4, ((((w.alloc o1).alloc o2).alloc o3).alloc o4).cell? ⟨g.rb, j, none⟩ = some u := by
 obtain ⟨ps, hR, _⟩ := h.hR
 have h1 := (show World.ownsRow _ 0 58 1 _ _ _ from h.sat.holds _ _ _ hR).1
 have h2 := h.sat.rowCell hR j hj
 rw [List.getElem?_eq_getElem (by omega)] at h2
 exact ⟨_, fun o1 o2 o3 o4 => cell_b (below_alloc (below_alloc (below_alloc (below_alloc (Below.refl _ _) _) _) _) _) h2⟩
theorem goesC_ {P : Program} {ops : Array Oper} {Q : Exit → Act → World → Prop} {oi : Oper} {N : Option Tmp} {a : Act} {w : World} {K : Act → World → Prop} {f : FuncId} {fn : Func} {as0 : Array Operand} {ts : Array TypeId} {x : Operand} {caps : Array Value}
    (hf : P.funcs[f]? = some fn) (hname : (fn.name == "runtime.NumGoroutine") = false) (hb : fn.body.isSome = true) (args : Array Value)
    (hw : Region.wanted oi (yielded ops a.tmps) = true) (hN : oi.dst = N) (hop : oi.op = .call { callee := .value x, args := as0, argTypes := ts }) (hx : a.eval x = .func (.func f) #[] caps) (hargs : as0.map a.eval ++ caps = args)
    (h : Calls P f args w fun e w' => ∃ v, e = .returned v ∧ K (a.put N v) w') : if Region.wanted oi (yielded ops a.tmps) = true then Oper.wp P oi a w K Q else K (a.put N undef) w := by
 refine call_ f args hw hN ?_ h
 have he := enters_ hf hname hb args w
 unfold execOp
 simp [hop, resolve, Deferred.ofValue, invoke, hx, hargs, he]
theorem fm_take {β : Type} (f : Int → List β) (l : List Int) (j : Nat) (hj : j < l.length) : (l.take (j + 1)).flatMap f = (l.take j).flatMap f ++ f (l.getD j 0) := by
 rw [List.take_succ_eq_append_getElem hj, List.flatMap_append]
 simp [List.getD_eq_getElem?_getD, List.getElem?_eq_getElem hj]
theorem take_fm_len {α β : Type} (f : α → List β) (l : List α) (j : Nat) : ((l.take j).flatMap f).length ≤ (l.flatMap f).length := by
 conv => rhs; rw [← List.take_append_drop j l, List.flatMap_append, List.length_append]
 omega
theorem ones_take (l : List Nat) (m : Nat) (hm : m < l.length) : ones (l.take (m + 1)) = ones (l.take m) ++ [(l.getD m 0, 1)] := by
 rw [List.take_succ_eq_append_getElem hm]
 simp only [ones, List.map_append, List.map_cons, List.map_nil, List.getD_eq_getElem?_getD, List.getElem?_eq_getElem hm, Option.getD_some]
theorem ones_len (l : List Nat) : (ones l).length = l.length := by simp [ones]
theorem loads_eq (x : S35) : sched_loads.f x.f0 = some (decide (isLd x)) := by
 unfold sched_loads.f isLd
 by_cases h : x.f0 = 24
 · simp [h]
 · by_cases h2 : x.f0 = 25 <;> simp [h, h2]
theorem bound_eq (x : S35) : sched_bound.f x.f0 = some (decide (isBd x)) := by
 unfold sched_bound.f
 rw [loads_eq]
 unfold isBd
 by_cases h : isLd x
 · simp [h]
 · by_cases h1 : x.f0 = 26
   · simp [h, h1]
   · by_cases h2 : x.f0 = 27
     · simp [h, h1, h2]
     · by_cases h3 : x.f0 = 28
       · simp [h, h1, h2, h3]
       · by_cases h4 : x.f0 = 17 <;> simp [h, h1, h2, h3, h4]
def sSw (s : GS) (i : Nat) (x : S35) : GS := { s with last := if isLd x then s.last else if isBd x then some i else s.last, since := if isLd x then s.since ++ [i] else if isBd x then [] else s.since }
theorem tkAdd_snoc (tk : Int → List Nat) (i : Nat) (l : List Int) (m : Nat) (hm : m < l.length) :
    tkAdd tk i (l.take (m + 1)) = fun q => if q = l.getD m 0 then tkAdd tk i (l.take m) (l.getD m 0) ++ [i] else tkAdd tk i (l.take m) q := by
 funext q
 have e : l.getD m 0 = l[m] := by simp [List.getD_eq_getElem?_getD, List.getElem?_eq_getElem hm]
 rw [e, List.take_succ_eq_append_getElem hm]
 unfold tkAdd
 rw [List.count_append]
 by_cases hq : q = l[m]
 · rw [if_pos hq, hq]
   simp [List.replicate_succ', List.append_assoc]
 · rw [if_neg hq]
   have : List.count q [l[m]] = 0 := by simp [List.count_eq_zero, hq]
   rw [this, Nat.add_zero]
theorem mem_take_succ (l : List Int) (m : Nat) (hm : m < l.length) (q : Int) : q ∈ l.take (m + 1) ↔ q = l.getD m 0 ∨ q ∈ l.take m := by
 have e : l.getD m 0 = l[m] := by simp [List.getD_eq_getElem?_getD, List.getElem?_eq_getElem hm]
 rw [e, List.take_succ_eq_append_getElem hm, List.mem_append, List.mem_singleton, or_comm]
def sTk (s : GS) (i : Nat) (x : S35) (m : Nat) : GS := { sSw s i x with tk := tkAdd s.tk i ((tkP x).take m) }
def sMd (s : GS) (i : Nat) (x : S35) (m : Nat) : GS :=
 { sSw s i x with made := fun p => if p ∈ (chP x).take m then some i else s.made p, tk := fun p => if p ∈ (chP x).take m then [] else tkAdd s.tk i (tkP x) p }
theorem onlyN_norm {Q : Exit → Act → World → Prop} {a : Act} {w : World} (h : Q .normal a w) : onlyN Q .normal a w := h
theorem startN_ {P : Program} {ops : Array Oper} {Q : Exit → Act → World → Prop} {S : World → Prop} {ds : List Nat} {id n : Nat} {a : Act} {w : World} (l : Array Bool) (hm : P.follows .mixedOrders = true) (hn : ops.size = n) (hl : Array.replicate n false = l) (hS : S w.drew)
    (h : S w.drew → wpAnyLast P .any ops (onlyN Q) S ds n l a w.drew) : (Code.region id ops true).wp P Q a w := by
 refine wp_mono (Q := onlyN Q) (start_ l hm hn hl hS h) ?_
 intro e a w he
 cases e with
 | normal => exact he
 | _ => exact he.elim
theorem wp_eq_world {P : Program} (c : Code) (Q : Exit → Act → World → Prop) (a : Act) {w' w : World} (h : w' = w) (hw : Code.wp P c Q a w') : Code.wp P c Q a w := h ▸ hw
theorem fr4_of {w0 w : World} {E : Env} {nb : Nat → Nat} {g : GP} {i : Nat} {v9 : Value} {s : GS} (h : GM w0 w E nb g i v9 s) (o1 o2 o3 o4 : Obj) (j : Nat) : ((((w.alloc o1).alloc o2).alloc o3).alloc o4).frozen? ⟨g.rb, j, none⟩ = false := by
 obtain ⟨ps, hR, _⟩ := h.hR
 exact (show World.ownsRow _ 0 58 1 _ _ _ from ((((h.sat.alloc_ o1).alloc_ o2).alloc_ o3).alloc_ o4).holds _ _ _ hR).frozenAt j
end Go.Proofs.Ytocndmielggnpaa.PAll
end
section
namespace Go.Proofs.Ytocndmielggnpaa.PAll
open Go.RowKit Go.Proofs.YtocndmielggnpaaW.PrintWords Go.Proofs.YtocndmielggnpaaW.PrintLast Go.Proofs.YtocndmielggnpaaW.PrintMore
open Go.Proofs.Ytocndmielggnpaa.AMap Go.Proofs.Ytocndmielggnpaa.Env Go.Proofs.Ytocndmielggnpaa.Kind
attribute [local go_sem] max2_int min2_int max_two min_two
/-- All but the queues' rows and structs lies as it lay. -/
def KT (w w' : World) : Prop := w.heap.size ≤ w'.heap.size ∧ ∀ (k : Nat) (cs : Array Value) (t : TypeId), w.heap[k]? = some (.cells cs t (0, 0)) → t ≠ 58 → t ≠ 67 → w'.heap[k]? = w.heap[k]?
theorem KT.refl (w : World) : KT w w := ⟨Nat.le_refl _, fun _ _ _ _ _ _ => rfl⟩
theorem KT.trans {a b c : World} (h : KT a b) (h' : KT b c) : KT a c := ⟨Nat.le_trans h.1 h'.1, fun k cs t h1 h2 h3 => (h'.2 k cs t ((h.2 k cs t h1 h2 h3).trans h1) h2 h3).trans (h.2 k cs t h1 h2 h3)⟩
theorem KT.below {w w' : World} (h : Below w.heap.size w w') : KT w w' := ⟨h.size, fun k cs t h1 _ _ => h.block k (blk_lt h1)⟩
theorem KT.grown {w w' : World} {b : Nat} {cs : Array Value} {t : TypeId} (hg : w.grownBy w' (some b)) (hb : w.heap[b]? = some (.cells cs t (0, 0))) (ht : t = 58 ∨ t = 67) : KT w w' := by
 refine ⟨hg.size, fun k cs' t' h1 h2 h3 => hg.block k (blk_lt h1) ?_⟩
 intro e
 injection e with e
 rw [e, hb] at h1
 simp only [Option.some.injEq, Obj.cells.injEq] at h1
 obtain ⟨-, rfl, -⟩ := h1
 rcases ht with ht | ht
 · exact h2 ht
 · exact h3 ht
theorem KT.grown0 {w w' : World} (hg : w.grownBy w' none) : KT w w' := ⟨hg.size, fun k cs t h1 _ _ => hg.block k (blk_lt h1) (by simp)⟩
/-- All but the nodes lies as it lay. -/
def KN (w w' : World) : Prop := w.heap.size ≤ w'.heap.size ∧ ∀ (k : Nat) (cs : Array Value) (t : TypeId), w.heap[k]? = some (.cells cs t (0, 0)) → t ≠ 61 → w'.heap[k]? = w.heap[k]?
theorem KN.grown {w w' : World} {b : Nat} {cs : Array Value} (hg : w.grownBy w' (some b)) (hb : w.heap[b]? = some (.cells cs 61 (0, 0))) : KN w w' := by
 refine ⟨hg.size, fun k cs' t' h1 h2 => hg.block k (blk_lt h1) ?_⟩
 intro e
 injection e with e
 rw [e, hb] at h1
 simp only [Option.some.injEq, Obj.cells.injEq] at h1
 exact h2 h1.2.1.symm
structure BP where
 n : Nat
 rb : Nat
 nb : Nat → Nat
 bq : Nat → Nat
 bx : Nat → Nat
 bk : Nat → Nat
def ptrs (nb : Nat → Nat) (q : List Nat) : List Value := q.map fun k => .pointer (some ⟨nb k, 0, none⟩)
theorem ptrs_len (nb : Nat → Nat) (q : List Nat) : (ptrs nb q).length = q.length := by simp [ptrs]
theorem ptrs_get (nb : Nat → Nat) (q : List Nat) (j : Nat) (h : j < q.length) : (ptrs nb q)[j]? = some (.pointer (some ⟨nb (q.getD j 0), 0, none⟩)) := by simp [ptrs, List.getElem?_eq_getElem h, List.getD_eq_getElem?_getD]
def keyF (i : Nat) : Nat := if i = 0 then 33 else 34
def lessV (p : BP) (i : Nat) : Value := .func (.func 54) #[] #[.pointer (some ⟨p.bx i, 0, none⟩)]
/-- The order of queue i. -/
def key1 (i : Nat) (xs : List Nd) (a : Nat) : Int := if i = 0 then wrap64 (-(xs.getD a nz).far) else (xs.getD a nz).frm
def lessP (i : Nat) (xs : List Nd) (a b : Nat) : Bool := decide (key1 i xs a < key1 i xs b) || (decide (key1 i xs a = key1 i xs b) && decide ((xs.getD a nz).pos < (xs.getD b nz).pos))
structure BE (w0 w : World) (p : BP) (xs : List Nd) (qs : Nat → List Nat) (E : Env) : Prop where
 sat : Sat w0 w E
 ok : ∀ τ b d, E τ = some (b, d) → Ds.ok d
 nodes : NodesRep E p.nb xs
 len : xs.length = p.n
 row : ∃ ps, E (5, 0) = some (p.rb, .row 58 1 p.n ps p.n) ∧ ∀ k, k < p.n → ps[k]? = some (.pointer (some ⟨p.nb k, 0, none⟩))
 q : ∀ i : Nat, i < 2 → ∃ v, E (20, i) = some (p.bq i, .cells #[v, lessV p i] 67) ∧ IsRow E (21, i) v 58 1 (ptrs p.nb (qs i))
 box : ∀ i : Nat, i < 2 → E (22, i) = some (p.bx i, .cells #[.slice (some ⟨p.bk i, 0, none⟩) 2 2] 87)
 keys : ∀ i : Nat, i < 2 → E (23, i) = some (p.bk i, .cells #[.func (.func (keyF i)) #[] #[], .func (.func 31) #[] #[]] 62)
 inn : ∀ i : Nat, i < 2 → ∀ k ∈ qs i, k < p.n
def BM (w0 w : World) (p : BP) (xs : List Nd) (qs : Nat → List Nat) : Prop := ∃ E, BE w0 w p xs qs E
section
variable {w0 w w' : World} {p : BP} {xs : List Nd} {qs : Nat → List Nat}
theorem BM.below (h : BM w0 w p xs qs) : Below w0.heap.size w0 w := by obtain ⟨E, h⟩ := h; exact h.sat.below
theorem BM.len (h : BM w0 w p xs qs) : xs.length = p.n := by obtain ⟨E, h⟩ := h; exact h.len
theorem BM.grow (h : BM w0 w p xs qs) (hb : Below w.heap.size w w') : BM w0 w' p xs qs := by
 obtain ⟨E, a, b, c, d, e, f, g, k, l⟩ := h
 exact ⟨E, a.grow hb, b, c, d, e, f, g, k, l⟩
theorem BM.drew (h : BM w0 w p xs qs) : BM w0 w.drew p xs qs := h.grow (below_drew1 (Below.refl _ _))
theorem BM.drewN (h : BM w0 w p xs qs) (n : Nat) : BM w0 (w.drewN n) p xs qs := h.grow (pw_below_drewN (Below.refl _ _) n)
theorem BM.frame (h : BM w0 w p xs qs) (hb : Below w0.heap.size w0 w') (hk : ∀ (k : Nat) (cs : Array Value) (t : TypeId), w.heap[k]? = some (.cells cs t (0, 0)) → t ≠ 3 → t ≠ 37 → w'.heap[k]? = w.heap[k]?) : BM w0 w' p xs qs := by
 obtain ⟨E, a, b, r1, r2, r3, r4, r5, r6, r7⟩ := h
 refine ⟨E, a.frame hb fun τ c d he => ?_, b, r1, r2, r3, r4, r5, r6, r7⟩
 have h1 := a.holds _ _ _ he
 have h2 := b _ _ _ he
 cases d with
 | cells cs t => exact hk c cs t h1 h2.1 h2.2
 | row e size n ys cap =>
  obtain ⟨cells, hc⟩ := own_typed (show w.ownsRow 0 e size _ n ys from h1) c rfl
  exact hk c cells e hc h2.1 h2.2
 | map f => exact h2.elim
theorem BM.node (h : BM w0 w p xs qs) {j : Nat} (hj : j < p.n) : ∃ v, w.heap[p.nb j]? = some (.cells #[.int .i64 (xs.getD j nz).pos, .int .i64 (xs.getD j nz).ahead, .int .i64 (xs.getD j nz).far, .int .i64 (xs.getD j nz).frm, v] 61 (0, 0)) := by
 obtain ⟨E, h⟩ := h
 obtain ⟨v, h1, h2⟩ := h.nodes j (xs.getD j nz) (by rw [List.getD_eq_getElem?_getD, List.getElem?_eq_getElem (by rw [h.len]; exact hj)]; rfl)
 exact ⟨v, h.sat.holds _ _ _ h1⟩
theorem BM.queue (h : BM w0 w p xs qs) {i : Nat} (hi : i < 2) : ∃ A c, w.heap[p.bq i]? = some (.cells #[.slice A (qs i).length c, lessV p i] 67 (0, 0)) ∧ w.ownsRow 0 58 1 (.slice A (qs i).length c) (qs i).length (ptrs p.nb (qs i)) := by
 obtain ⟨E, h⟩ := h
 obtain ⟨v, h1, h2⟩ := h.q i hi
 have ho := IsRow.ok h.sat h2
 rw [ptrs_len] at ho
 obtain ⟨A, c, rfl⟩ := own_slice ho
 exact ⟨A, c, h.sat.holds _ _ _ h1, ho⟩
theorem BM.inn (h : BM w0 w p xs qs) {i : Nat} (hi : i < 2) : ∀ k ∈ qs i, k < p.n := by obtain ⟨E, h⟩ := h; exact h.inn i hi
theorem BM.boxAt (h : BM w0 w p xs qs) {i : Nat} (hi : i < 2) : w.cell? ⟨p.bx i, 0, none⟩ = some (.slice (some ⟨p.bk i, 0, none⟩) 2 2) ∧ w.cell? ⟨p.bk i, 0, none⟩ = some (.func (.func (keyF i)) #[] #[]) ∧ w.cell? ⟨p.bk i, 1, none⟩ = some (.func (.func 31) #[] #[]) := by
 obtain ⟨E, h⟩ := h
 exact ⟨(h.sat.cell (h.box i hi) 0).trans rfl, (h.sat.cell (h.keys i hi) 0).trans rfl, (h.sat.cell (h.keys i hi) 1).trans rfl⟩
theorem BM.rowAt (h : BM w0 w p xs qs) (k : Nat) (hk : k < p.n) : w.cell? ⟨p.rb, k, none⟩ = some (.pointer (some ⟨p.nb k, 0, none⟩)) := by
 obtain ⟨E, h⟩ := h
 obtain ⟨ps, h1, h2⟩ := h.row
 exact (h.sat.rowCell h1 k hk).trans (h2 k hk)
end
theorem at_calls (b : Nat) (x : Nd) (v : Value) (w : World) (h : w.heap[b]? = some (.cells #[.int .i64 x.pos, .int .i64 x.ahead, .int .i64 x.far, .int .i64 x.frm, v] 61 (0, 0))) :
    Calls Try.prog 31 #[.pointer (some ⟨b, 0, none⟩)] w fun e w' => e = .returned (.int .i64 x.pos) ∧ w' = w := by
 have c0 : w.cell? ⟨b, 0, none⟩ = some (.int .i64 x.pos) := (blk_cell h 0).trans rfl
 have H := Aside0.mk h
 clear h
 go_enter Try.func31, Try.ntmps31
 go_wp2; go_ret
 exact ⟨rfl, rfl⟩
theorem far_calls (b : Nat) (x : Nd) (v : Value) (w : World) (h : w.heap[b]? = some (.cells #[.int .i64 x.pos, .int .i64 x.ahead, .int .i64 x.far, .int .i64 x.frm, v] 61 (0, 0))) :
    Calls Try.prog 33 #[.pointer (some ⟨b, 0, none⟩)] w fun e w' => e = .returned (.int .i64 (wrap64 (-x.far))) ∧ w' = w := by
 have c0 : w.cell? ⟨b, 2, none⟩ = some (.int .i64 x.far) := (blk_cell h 2).trans rfl
 have H := Aside0.mk h
 clear h
 go_enter Try.func33, Try.ntmps33
 go_wp2; go_ret
 exact ⟨rfl, rfl⟩
theorem from_calls (b : Nat) (x : Nd) (v : Value) (w : World) (h : w.heap[b]? = some (.cells #[.int .i64 x.pos, .int .i64 x.ahead, .int .i64 x.far, .int .i64 x.frm, v] 61 (0, 0))) :
    Calls Try.prog 34 #[.pointer (some ⟨b, 0, none⟩)] w fun e w' => e = .returned (.int .i64 x.frm) ∧ w' = w := by
 have c0 : w.cell? ⟨b, 3, none⟩ = some (.int .i64 x.frm) := (blk_cell h 3).trans rfl
 have H := Aside0.mk h
 clear h
 go_enter Try.func34, Try.ntmps34
 go_wp2; go_ret
 exact ⟨rfl, rfl⟩
theorem key_calls (i b : Nat) (xs : List Nd) (a : Nat) (v : Value) (w : World) (h : w.heap[b]? = some (.cells #[.int .i64 (xs.getD a nz).pos, .int .i64 (xs.getD a nz).ahead, .int .i64 (xs.getD a nz).far, .int .i64 (xs.getD a nz).frm, v] 61 (0, 0))) :
    Calls Try.prog (keyF i) #[.pointer (some ⟨b, 0, none⟩)] w fun e w' => e = .returned (.int .i64 (key1 i xs a)) ∧ w' = w := by
 unfold keyF key1
 split
 · exact far_calls b _ v w h
 · exact from_calls b _ v w h
theorem by_calls (A : Option Addr) (n c : Nat) (w : World) : Calls Try.prog 32 #[.slice A n c] w fun e w' => e = .returned (.func (.func 54) #[] #[.pointer (some ⟨w.heap.size, 0, none⟩)]) ∧ w' = w.alloc (.cells #[.slice A n c] 87) := by
 go_enter Try.func32, Try.ntmps32
 go_wp2; go_ret
 exact ⟨rfl, rfl⟩
end Go.Proofs.Ytocndmielggnpaa.PAll
end
section
namespace Go.Proofs.Ytocndmielggnpaa.PAll
open Go.RowKit Go.Proofs.YtocndmielggnpaaW.PrintWords Go.Proofs.YtocndmielggnpaaW.PrintLast Go.Proofs.YtocndmielggnpaaW.PrintMore
open Go.Proofs.Ytocndmielggnpaa.AMap Go.Proofs.Ytocndmielggnpaa.Env Go.Proofs.Ytocndmielggnpaa.Kind
attribute [local go_sem] max2_int min2_int max_two min_two
def cmpP (a b : Int) : Int := if a < b then -1 else if b < a then 1 else 0
theorem cmp_eq (a b : Int) : cmp_Compare_int.f a b = some (cmpP a b) := by
 unfold cmp_Compare_int.f cmp_isNaN_int.f cmpP
 simp
 split
 · rfl
 · split <;> rfl
theorem key_enters (i : Nat) (args : Array Value) (w : World) : (callFunc (keyF i) args).run Try.prog w = .ok (.enter (keyF i) args) w := by
 unfold keyF
 split
 · exact enters_ Try.func33 (by kernel_rfl) rfl args w
 · exact enters_ Try.func34 (by kernel_rfl) rfl args w
section
variable {w0 w : World} {p : BP} {xs : List Nd} {qs : Nat → List Nat}
set_option maxHeartbeats 2000000 in
theorem order_calls (h : BM w0 w p xs qs) {i a b : Nat} (hi : i < 2) (ha : a < p.n) (hb : b < p.n) :
    Calls Try.prog 54 #[.pointer (some ⟨p.nb a, 0, none⟩), .pointer (some ⟨p.nb b, 0, none⟩), .pointer (some ⟨p.bx i, 0, none⟩)] w fun e w' => e = .returned (.bool (lessP i xs a b)) ∧ Below w.heap.size w w' := by
 obtain ⟨c0, c1, c2⟩ := h.boxAt hi
 obtain ⟨va, na⟩ := h.node ha
 obtain ⟨vb, nb⟩ := h.node hb
 have H := Aside0.mk h
 have NA := Aside0.mk na
 have NB := Aside0.mk nb
 have C1 := Aside0.mk c1
 have C2 := Aside0.mk c2
 have hke := key_enters i
 have hlp : lessP i xs a b = (decide (key1 i xs a < key1 i xs b) || (decide (key1 i xs a = key1 i xs b) && decide ((xs.getD a nz).pos < (xs.getD b nz).pos))) := rfl
 have HLP := Aside0.mk hlp
 obtain ⟨r, hr⟩ : ∃ r, r = lessP i xs a b := ⟨_, rfl⟩
 have HR := Aside0.mk hr
 obtain ⟨ka, hka⟩ : ∃ k, k = key1 i xs a := ⟨_, rfl⟩
 obtain ⟨kb, hkb⟩ : ∃ k, k = key1 i xs b := ⟨_, rfl⟩
 obtain ⟨pa, hpa⟩ : ∃ k, k = (xs.getD a nz).pos := ⟨_, rfl⟩
 obtain ⟨pb, hpb⟩ : ∃ k, k = (xs.getD b nz).pos := ⟨_, rfl⟩
 rw [← hkb, ← hka, ← hpa, ← hpb] at HLP
 have KA := Aside0.mk hka
 have KB := Aside0.mk hkb
 have PA := Aside0.mk hpa
 have PB := Aside0.mk hpb
 rw [← HR.out]
 clear h na nb c1 c2 hlp hr hka hkb hpa hpb
 go_enter Try.func54, Try.ntmps54
 go_wp2_with fail
 go_loopw [11] (fun v11 wr => ∃ k : Nat, k ≤ 2 ∧ v11 = .int .i64 k ∧ Aside0 (Below w.heap.size w wr) ∧ Aside0 ((1 ≤ k → ka = kb) ∧ (k = 2 → pa = pb))) (fun v11 _ => 2 - (intOf v11).toNat)
 case atStart => exact ⟨0, by omega, rfl, ⟨Below.refl _ _⟩, ⟨⟨by omega, by omega⟩⟩⟩
 case round =>
  obtain ⟨k, hk, rfl, HB, HE⟩ := hrel
  by_cases h0 : k = 0
  · subst h0
    have d1 := cell_b HB.out C1.out
    go_wp2_with fail
    refine (key_calls i (p.nb a) xs a va _ (blk_b HB.out NA.out)).mono ?_
    rintro e w1 ⟨rfl, rfl⟩
    go_wp2_with fail
    refine (key_calls i (p.nb b) xs b vb _ (blk_b HB.out NB.out)).mono ?_
    rintro e w2 ⟨rfl, rfl⟩
    rw [← KA.out, ← KB.out]
    go_wp2_with fail
    refine (cmp_Compare_int.calls ka kb _ _ (cmp_eq ka kb)).mono ?_
    rintro e w3 ⟨rfl, hD⟩
    have HB3 := Aside0.mk (below_then HB.out HB.out.size hD.below)
    clear hD
    obtain ⟨c, hc⟩ : ∃ c, c = cmpP ka kb := ⟨_, rfl⟩
    rw [← hc]
    unfold cmpP at hc
    by_cases h1 : ka < kb
    · rw [if_pos h1] at hc
      subst hc; go_wp2; go_ret
      refine ⟨?_, HB3.out⟩
      rw [HR.out, HLP.out]
      simp [h1]
    · rw [if_neg h1] at hc
      by_cases h2 : kb < ka
      · rw [if_pos h2] at hc
        subst hc; go_wp2; go_ret
        refine ⟨?_, HB3.out⟩
        rw [HR.out, HLP.out]
        have : ¬ ka = kb := by omega
        simp [h1, this]
      · rw [if_neg h2] at hc
        subst hc; go_wp2
        go_roundw
        case rel => exact ⟨1, by omega, by go_num, HB3, ⟨⟨fun _ => by omega, by omega⟩⟩⟩
        case measure => simp [intOf]
  · by_cases h9 : k = 1
    · subst h9
      have he := HE.out.1 (by omega)
      have d1 := cell_b HB.out C2.out
      have H31a := Aside0.mk (at_calls (p.nb a) (xs.getD a nz) va _ (blk_b HB.out NA.out))
      have H31b := Aside0.mk (at_calls (p.nb b) (xs.getD b nz) vb _ (blk_b HB.out NB.out))
      have Hee := Aside0.mk he
      clear he hke
      go_wp2_with fail
      refine H31a.out.mono ?_
      rintro e w1 ⟨rfl, rfl⟩
      rw [← PA.out]
      go_wp2_with fail
      refine H31b.out.mono ?_
      rintro e w2 ⟨rfl, rfl⟩
      rw [← PB.out]
      go_wp2_with fail
      refine (cmp_Compare_int.calls pa pb _ _ (cmp_eq pa pb)).mono ?_
      rintro e w3 ⟨rfl, hD⟩
      have HB3 := Aside0.mk (below_then HB.out HB.out.size hD.below)
      clear hD
      obtain ⟨c, hc⟩ : ∃ c, c = cmpP pa pb := ⟨_, rfl⟩
      rw [← hc]
      unfold cmpP at hc
      by_cases h1 : pa < pb
      · rw [if_pos h1] at hc
        subst hc; go_wp2; go_ret
        refine ⟨?_, HB3.out⟩
        rw [HR.out, HLP.out, Hee.out]
        simp [h1]
      · rw [if_neg h1] at hc
        by_cases h2 : pb < pa
        · rw [if_pos h2] at hc
          subst hc; go_wp2; go_ret
          refine ⟨?_, HB3.out⟩
          rw [HR.out, HLP.out, Hee.out]
          simp [h1]
        · rw [if_neg h2] at hc
          subst hc; go_wp2
          go_roundw
          case rel => exact ⟨2, by omega, by go_num, HB3, ⟨⟨fun _ => Hee.out, fun _ => by omega⟩⟩⟩
          case measure => simp [intOf]
    · have h10 : k = 2 := by omega
      subst h10
      have he := HE.out
      have Hee := Aside0.mk he
      clear he HE; go_wp2; go_ret
      refine ⟨?_, HB.out⟩
      have e1 := Hee.out.1 (by omega)
      have e2 : pa = pb := Hee.out.2 (by decide)
      rw [HR.out, HLP.out, e1, e2]
      simp
end
end Go.Proofs.Ytocndmielggnpaa.PAll
end
section
namespace Go.Proofs.Ytocndmielggnpaa.PAll
open Go.RowKit Go.Proofs.YtocndmielggnpaaW.PrintWords Go.Proofs.YtocndmielggnpaaW.PrintLast Go.Proofs.YtocndmielggnpaaW.PrintMore
open Go.Proofs.Ytocndmielggnpaa.AMap Go.Proofs.Ytocndmielggnpaa.Env Go.Proofs.Ytocndmielggnpaa.Kind
attribute [local go_sem] max2_int min2_int max_two min_two
def updQ (qs : Nat → List Nat) (i : Nat) (q : List Nat) : Nat → List Nat := fun k => if k = i then q else qs k
theorem updQ_same (qs : Nat → List Nat) (i : Nat) (q : List Nat) : updQ qs i q i = q := by simp [updQ]
theorem updQ_updQ (qs : Nat → List Nat) (i : Nat) (q q' : List Nat) : updQ (updQ qs i q) i q' = updQ qs i q' := by funext k; simp only [updQ]; split <;> rfl
theorem updQ_self (qs : Nat → List Nat) (i : Nat) : updQ qs i (qs i) = qs := by funext k; simp only [updQ]; split <;> simp_all
def swp (q : List Nat) (a b : Nat) : List Nat := (q.set a (q.getD b 0)).set b (q.getD a 0)
theorem swp_len (q : List Nat) (a b : Nat) : (swp q a b).length = q.length := by simp [swp]
theorem info58 : (Try.prog.info? 58).map (fun i => (i.zero, i.size, i.bytes)) = some (some (.pointer none), 1, 8) := by kernel_rfl
section
variable {w0 w w' : World} {p : BP} {xs : List Nd} {qs : Nat → List Nat}
/-- The queue's row and struct are written anew. -/
theorem BE.setQ {E : Env} (h : BE w0 w p xs qs E) {i : Nat} (hi : i < 2) {E' : Env} {q : List Nat} {v : Value} (hS : Sat w0 w' E') (hE : ∀ τ : Tag, τ ≠ (20, (i : Int)) → τ ≠ (21, (i : Int)) → E' τ = E τ)
    (h20 : E' (20, (i : Int)) = some (p.bq i, .cells #[v, lessV p i] 67)) (h21 : IsRow E' (21, (i : Int)) v 58 1 (ptrs p.nb q)) (hq : ∀ k ∈ q, k < p.n) : BE w0 w' p xs (updQ qs i q) E' := by
 have hne : ∀ τ : Tag, τ.1 ≠ 20 → τ.1 ≠ 21 → E' τ = E τ := fun τ h1 h2 => hE τ (fun e => h1 (by rw [e])) (fun e => h2 (by rw [e]))
 obtain ⟨ps, r1, r2⟩ := h.row
 refine ⟨hS, ?_, h.nodes.congr (fun j => hne _ (by simp) (by simp)) (fun j => hne _ (by simp) (by simp)), h.len, ⟨ps, (hne _ (by decide) (by decide)).trans r1, r2⟩, ?_, fun k hk => (hne _ (by simp) (by simp)).trans (h.box k hk), fun k hk => (hne _ (by simp) (by simp)).trans (h.keys k hk), ?_⟩
 · intro τ b d he
   by_cases h1 : τ = (20, (i : Int))
   · rw [h1, h20] at he
     simp only [Option.some.injEq, Prod.mk.injEq] at he
     rw [← he.2]; simp [Ds.ok]
   · by_cases h2 : τ = (21, (i : Int))
     · rw [h2] at he
       rcases h21 with ⟨_, _, e3⟩ | ⟨_, _, _, _, e3⟩
       · rw [e3] at he; simp at he
       · rw [e3] at he
         simp only [Option.some.injEq, Prod.mk.injEq] at he
         rw [← he.2]; simp [Ds.ok]
     · rw [hE τ h1 h2] at he
       exact h.ok _ _ _ he
 · intro k hk
   by_cases hki : k = i
   · subst hki
     refine ⟨v, h20, ?_⟩
     rw [updQ_same]; exact h21
   · obtain ⟨u, u1, u2⟩ := h.q k hk
     have e1 : E' (20, (k : Int)) = E (20, (k : Int)) := hE _ (by simp only [ne_eq, Prod.mk.injEq, true_and]; omega) (by simp)
     have e2 : E' (21, (k : Int)) = E (21, (k : Int)) := hE _ (by simp) (by simp only [ne_eq, Prod.mk.injEq, true_and]; omega)
     refine ⟨u, e1.trans u1, ?_⟩
     simp only [updQ, if_neg hki]
     exact u2.congr e2
 · intro k hk j hj
   simp only [updQ] at hj
   split at hj
   · exact hq j hj
   · exact h.inn k hk j hj
theorem BE.val {E : Env} (h : BE w0 w p xs qs E) {i : Nat} (hi : i < 2) {v : Value} {lv : Value} (hq : w.heap[p.bq i]? = some (.cells #[v, lv] 67 (0, 0))) : E (20, (i : Int)) = some (p.bq i, .cells #[v, lessV p i] 67) ∧ IsRow E (21, (i : Int)) v 58 1 (ptrs p.nb (qs i)) := by
 obtain ⟨u, u1, u2⟩ := h.q i hi
 have h1 : w.heap[p.bq i]? = some (.cells #[u, lessV p i] 67 (0, 0)) := h.sat.holds _ _ _ u1
 rw [hq] at h1
 simp only [Option.some.injEq, Obj.cells.injEq, Array.mk.injEq, List.cons.injEq] at h1
 obtain ⟨⟨rfl, -⟩, -⟩ := h1
 exact ⟨u1, u2⟩
/-- A row of another length, or other contents in its place. -/
theorem BM.rerow (h : BM w0 w p xs qs) {i : Nat} (hi : i < 2) {A : Option Addr} {n c : Nat} {lv : Value} (hq : w.heap[p.bq i]? = some (.cells #[.slice A n c, lv] 67 (0, 0))) {q : List Nat} (hg : w.grownBy w' (Value.slice A n c).ownBlock)
    (ho : w'.ownsRow 0 58 1 (.slice A q.length c) q.length (ptrs p.nb q)) (hin : ∀ k ∈ q, k < p.n) (hn : n = q.length) : BM w0 w' p xs (updQ qs i q) ∧ KT w w' := by
 obtain ⟨E, h⟩ := h
 subst hn
 obtain ⟨e20, e21⟩ := h.val hi hq
 obtain ⟨o, hS, hr⟩ := h.sat.regrow e21 hg ho (.inl rfl)
 refine ⟨⟨_, h.setQ hi hS (fun τ h1 h2 => set_ne _ _ h2) ((set_tag _ _ (by simp)).trans e20) hr hin⟩, ?_⟩
 rcases e21 with ⟨e, _⟩ | ⟨b, n', c', e, e2⟩
 · simp only [Value.slice.injEq] at e
   obtain ⟨rfl, -, -⟩ := e
   exact KT.grown0 hg
 · simp only [Value.slice.injEq] at e
   obtain ⟨rfl, rfl, rfl⟩ := e
   obtain ⟨cells, hc⟩ := own_typed (show w.ownsRow 0 58 1 _ _ _ from h.sat.holds _ _ _ e2) b rfl
   exact KT.grown hg hc (by decide)
/-- The struct's slice is set (the row as it lies under the new length). -/
theorem BM.reset (h : BM w0 w p xs qs) {i : Nat} (hi : i < 2) {A : Option Addr} {n c m : Nat} {lv : Value} (hq : w.heap[p.bq i]? = some (.cells #[.slice A n c, lv] 67 (0, 0))) (hm : m ≤ n) (hn : n = (qs i).length) :
    BM w0 (w.setCell ⟨p.bq i, 0, none⟩ (.slice A m c)) p xs (updQ qs i ((qs i).take m)) ∧ KT w (w.setCell ⟨p.bq i, 0, none⟩ (.slice A m c)) := by
 obtain ⟨E, h⟩ := h
 obtain ⟨e20, e21⟩ := h.val hi hq
 have hS := h.sat.store e20 0 (.slice A m c)
 have hin : ∀ k ∈ (qs i).take m, k < p.n := fun k hk => h.inn i hi k (List.mem_of_mem_take hk)
 have hkt := KT.grown (grown_setCell w ⟨p.bq i, 0, none⟩ (.slice A m c)) hq (by decide)
 rcases e21 with ⟨e, e2, e3⟩ | ⟨b, n', c', e, e2⟩
 · simp only [Value.slice.injEq] at e
   obtain ⟨rfl, rfl, rfl⟩ := e
   have hm0 : m = 0 := by omega
   subst hm0
   refine ⟨⟨_, h.setQ hi hS (fun τ h1 h2 => set_ne _ _ h1) (set_same _ _ _) ?_ hin⟩, hkt⟩
   exact .inl ⟨rfl, by simp [ptrs], (set_tag _ _ (by simp)).trans e3⟩
 · simp only [Value.slice.injEq] at e
   obtain ⟨rfl, rfl, rfl⟩ := e
   have e21' : Env.set E (20, (i : Int)) (some (p.bq i, .cells (#[.slice (some ⟨b, 0, none⟩) n c, lessV p i].setIfInBounds 0 (.slice (some ⟨b, 0, none⟩) m c)) 67)) (21, (i : Int)) = some (b, .row 58 1 n (ptrs p.nb (qs i)) c) := (set_tag _ _ (by simp)).trans e2
   have ho := own_take (show World.ownsRow _ 0 58 1 (.slice (some ⟨b, 0, none⟩) n c) n _ from hS.holds _ _ _ e21') hm
   have hS2 := hS.upd e21' (World.grownBy.refl _ _) (d' := .row 58 1 m ((ptrs p.nb (qs i)).take (m * 1)) c) ho
   refine ⟨⟨_, h.setQ hi (v := .slice (some ⟨b, 0, none⟩) m c) hS2 (fun τ h1 h2 => by rw [set_ne _ _ h2, set_ne _ _ h1]) ?_ ?_ hin⟩, hkt⟩
   · rw [set_tag _ _ (by simp), set_same]; rfl
   · refine .inr ⟨b, m, c, rfl, ?_⟩
     rw [set_same]
     simp [ptrs, List.map_take]
/-- Behind an append. -/
theorem BM.pushed (h : BM w0 w p xs qs) {i : Nat} (hi : i < 2) {A : Option Addr} {n c : Nat} {lv : Value} (hq : w.heap[p.bq i]? = some (.cells #[.slice A n c, lv] 67 (0, 0))) {A1 : Option Addr} {n1 c1 : Nat} {q : List Nat}
    (hg : w.grownBy w' (Value.slice A n c).ownBlock) (ho : w'.ownsRow 0 58 1 (.slice A1 n1 c1) n1 (ptrs p.nb q)) (hat : (Value.slice A1 n1 c1).ownBlock = (Value.slice A n c).ownBlock ∨ ∃ b, (Value.slice A1 n1 c1).ownBlock = some b ∧ w.heap.size ≤ b) (hin : ∀ k ∈ q, k < p.n) :
    w'.frozen? ⟨p.bq i, 0, none⟩ = false ∧ w'.cell? ⟨p.bq i, 0, none⟩ = some (.slice A n c) ∧ w'.cell? ⟨p.bq i, 1, none⟩ = some (lessV p i) ∧ KT w w' ∧
     BM w0 (w'.setCell ⟨p.bq i, 0, none⟩ (.slice A1 n1 c1)) p xs (updQ qs i q) ∧ KT w (w'.setCell ⟨p.bq i, 0, none⟩ (.slice A1 n1 c1)) := by
 obtain ⟨E, h⟩ := h
 obtain ⟨e20, e21⟩ := h.val hi hq
 obtain ⟨o, hS, hr⟩ := h.sat.regrow e21 hg ho hat
 have e20' : Env.set E (21, (i : Int)) o (20, (i : Int)) = some (p.bq i, .cells #[.slice A n c, lessV p i] 67) := (set_tag _ _ (by simp)).trans e20
 have hS2 := hS.store e20' 0 (.slice A1 n1 c1)
 have hkt : KT w w' := by
  rcases e21 with ⟨e, _⟩ | ⟨b, n', c', e, e2⟩
  · simp only [Value.slice.injEq] at e
    obtain ⟨rfl, -, -⟩ := e
    exact KT.grown0 hg
  · simp only [Value.slice.injEq] at e
    obtain ⟨rfl, rfl, rfl⟩ := e
    obtain ⟨cells, hc⟩ := own_typed (show w.ownsRow 0 58 1 _ _ _ from h.sat.holds _ _ _ e2) b rfl
    exact KT.grown hg hc (by decide)
 refine ⟨hS.free e20' 0, (hS.cell e20' 0).trans rfl, (hS.cell e20' 1).trans rfl, hkt, ⟨_, h.setQ hi (v := .slice A1 n1 c1) hS2 (fun τ h1 h2 => by rw [set_ne _ _ h1, set_ne _ _ h2]) ?_ ?_ hin⟩, hkt.trans (KT.grown (grown_setCell _ ⟨p.bq i, 0, none⟩ _) (hS.holds _ _ _ e20') (by decide))⟩
 · rw [set_same]; rfl
 · exact hr.congr (set_tag _ _ (by simp))
theorem len_calls (h : BM w0 w p xs qs) {i : Nat} (hi : i < 2) : Calls Try.prog 36 #[.pointer (some ⟨p.bq i, 0, none⟩)] w fun e w' => e = .returned (.int .i64 (qs i).length) ∧ w' = w := by
 obtain ⟨A, c, hq, ho⟩ := h.queue hi
 have c0 := (blk_cell hq 0).trans rfl
 have hle := own_le ho
 have H := Aside0.mk h
 have HQ := Aside0.mk hq
 have HO := Aside0.mk ho
 clear h hq ho
 go_enter Try.func36, Try.ntmps36
 go_wp2; go_ret
 exact ⟨rfl, rfl⟩
theorem row58 {A : Option Addr} {c : Nat} {nb : Nat → Nat} {q : List Nat} (ho : w.ownsRow 0 58 1 (.slice A q.length c) q.length (ptrs nb q)) (j : Nat) (hj : j < q.length) : ∃ g, A = some ⟨g, 0, none⟩ ∧ w.cell? ⟨g, j, none⟩ = some (.pointer (some ⟨nb (q.getD j 0), 0, none⟩)) := by
 have ho' := ho
 rw [show q.length = (ptrs nb q).length from (ptrs_len nb q).symm] at ho'
 obtain ⟨g, h1, h2⟩ := row_at ho' j (by rw [ptrs_len]; exact hj)
 exact ⟨g, h1, h2.trans (ptrs_get nb q j hj)⟩
set_option maxHeartbeats 2000000 in
set_option maxRecDepth 100000 in
theorem less_calls (h : BM w0 w p xs qs) {i : Nat} (hi : i < 2) (a b : Nat) (ha : a < (qs i).length) (hb : b < (qs i).length) :
    Calls Try.prog 92 #[.pointer (some ⟨p.bq i, 0, none⟩), .int .i64 a, .int .i64 b] w fun e w' => e = .returned (.bool (lessP i xs ((qs i).getD a 0) ((qs i).getD b 0))) ∧ BM w0 w' p xs qs ∧ KT w w' := by
 obtain ⟨A, c, hq, ho⟩ := h.queue hi
 obtain ⟨g, rfl, ca⟩ := row58 ho a ha
 obtain ⟨g', e, cb⟩ := row58 ho b hb
 obtain rfl : g = g' := by simpa using e
 have hle := own_le ho
 have hl9 : (qs i).length ≤ 9223372036854775807 := by
  rcases ho.2 with ⟨h, _⟩ | ⟨_, _, _, h, _, _, _, h2, _⟩
  · simp at h
  · simp only [Value.slice.injEq] at h; obtain ⟨_, _, rfl⟩ := h; exact Nat.le_trans hle h2
 obtain ⟨ka, hka⟩ : ∃ k, k = (qs i).getD a 0 := ⟨_, rfl⟩
 obtain ⟨kb, hkb⟩ : ∃ k, k = (qs i).getD b 0 := ⟨_, rfl⟩
 have hkan : ka < p.n := h.inn hi ka (by rw [hka, List.getD_eq_getElem?_getD, List.getElem?_eq_getElem ha]; exact List.getElem_mem ha)
 have hkbn : kb < p.n := h.inn hi kb (by rw [hkb, List.getD_eq_getElem?_getD, List.getElem?_eq_getElem hb]; exact List.getElem_mem hb)
 rw [← hka] at ca
 rw [← hkb] at cb
 rw [← hka, ← hkb]
 have H := Aside0.mk h
 have HQ := Aside0.mk hq
 have HO := Aside0.mk ho
 have CA := Aside0.mk ca
 have CB := Aside0.mk cb
 have KA := Aside0.mk hka
 have KB := Aside0.mk hkb
 clear h hq ho ca cb hka hkb
 go_enter Try.func92, Try.ntmps92
 go_wp2_with fail
 refine start_ (n := 20) (S := fun w' => w'.cell? ⟨p.bq i, 0, none⟩ = some (.slice (some ⟨g, 0, none⟩) (qs i).length c) ∧ w'.cell? ⟨p.bq i, 1, none⟩ = some (lessV p i) ∧ w'.cell? ⟨g, a, none⟩ = some (.pointer (some ⟨p.nb ka, 0, none⟩)) ∧ w'.cell? ⟨g, b, none⟩ = some (.pointer (some ⟨p.nb kb, 0, none⟩))) (ds := []) (bm 20 0) (by kernel_rfl) rfl rfl ⟨(blk_cell HQ.out 0).trans rfl, (blk_cell HQ.out 1).trans rfl, CA.out, CB.out⟩ (fun hHeld => ?_)
 refine pu 0 7 (bm 20 1) rfl rfl (by kernel_rfl) (fun _ _ _ h => h) (by rfl) (v := ?_) (a' := ?_) (by intro w'; go_simp; with_reducible rfl) (by simp only [np]; rfl) ?_
 refine pu 1 8 (bm 20 3) rfl rfl (by kernel_rfl) (fun _ _ _ h => h) (by rfl) (v := ?_) (a' := ?_) (by intro w'; go_simp; with_reducible rfl) (by simp only [np]; rfl) ?_
 refine pu 2 9 (bm 20 7) rfl rfl (by kernel_rfl) (fun _ _ _ h => h) (by rfl) (v := ?_) (a' := ?_) (by intro w'; go_simp; with_reducible rfl) (by simp only [np]; rfl) ?_
 refine pu 4 11 (bm 20 23) rfl rfl (by kernel_rfl) (fun _ _ _ h => h) (by rfl) (v := ?_) (a' := ?_) (by intro w'; go_simp; with_reducible rfl) (by simp only [np]; rfl) ?_
 refine pu 5 12 (bm 20 55) rfl rfl (by kernel_rfl) (fun _ _ _ h => h) (by rfl) (v := ?_) (a' := ?_) (by intro w'; go_simp; with_reducible rfl) (by simp only [np]; rfl) ?_
 refine pu 6 13 (bm 20 119) rfl rfl (by kernel_rfl) (fun _ _ _ h => h) (by rfl) (v := ?_) (a' := ?_) (by intro w'; go_simp; with_reducible rfl) (by simp only [np]; rfl) ?_
 refine pu 8 15 (bm 20 375) rfl rfl (by kernel_rfl) (fun _ _ _ h => h) (by rfl) (v := ?_) (a' := ?_) (by intro w'; go_simp; with_reducible rfl) (by simp only [np]; rfl) ?_
 refine pu 11 18 (bm 20 2423) rfl rfl (by kernel_rfl) (fun _ _ _ h => h) (by rfl) (v := ?_) (a' := ?_) (by intro w'; go_simp; with_reducible rfl) (by simp only [np]; rfl) ?_
 refine pu 12 19 (bm 20 6519) rfl rfl (by kernel_rfl) (fun _ _ _ h => h) (by rfl) (v := ?_) (a' := ?_) (by intro w'; go_simp; with_reducible rfl) (by simp only [np]; rfl) ?_
 refine pu 13 20 (bm 20 14711) rfl rfl (by kernel_rfl) (fun _ _ _ h => h) (by rfl) (v := ?_) (a' := ?_) (by intro w'; go_simp; with_reducible rfl) (by simp only [np]; rfl) ?_
 refine pu 15 22 (bm 20 47479) rfl rfl (by kernel_rfl) (fun _ _ _ h => h) (by rfl) (v := ?_) (a' := ?_) (by intro w'; go_simp; with_reducible rfl) (by simp only [np]; rfl) ?_
 refine tu 3 10 (bm 20 47487) rfl rfl (by kernel_rfl) (fun _ _ _ h => h) (by rfl) (v := ?_) (a' := ?_) (by rintro w' ⟨s0, s1, s2, s3⟩; go_simp; with_reducible rfl) hHeld (by simp only [np]; rfl) ?_
 refine tu 7 14 (bm 20 47615) rfl rfl (by kernel_rfl) (fun _ _ _ h => h) (by rfl) (v := ?_) (a' := ?_) (by rintro w' ⟨s0, s1, s2, s3⟩; go_simp; with_reducible rfl) hHeld (by simp only [np]; rfl) ?_
 refine pu 9 16 (bm 20 48127) rfl rfl (by kernel_rfl) (fun _ _ _ h => h) (by rfl) (v := ?_) (a' := ?_) (by intro w'; go_simp; with_reducible rfl) (by simp only [np]; rfl) ?_
 refine tu 10 17 (bm 20 49151) rfl rfl (by kernel_rfl) (fun _ _ _ h => h) (by rfl) (v := ?_) (a' := ?_) (by rintro w' ⟨s0, s1, s2, s3⟩; go_simp; with_reducible rfl) hHeld (by simp only [np]; rfl) ?_
 refine tu 14 21 (bm 20 65535) rfl rfl (by kernel_rfl) (fun _ _ _ h => h) (by rfl) (v := ?_) (a' := ?_) (by rintro w' ⟨s0, s1, s2, s3⟩; go_simp; with_reducible rfl) hHeld (by simp only [np]; rfl) ?_
 refine pu 16 23 (bm 20 131071) rfl rfl (by kernel_rfl) (fun _ _ _ h => h) (by rfl) (v := ?_) (a' := ?_) (by intro w'; go_simp; with_reducible rfl) (by simp only [np]; rfl) ?_
 refine tu 17 24 (bm 20 262143) rfl rfl (by kernel_rfl) (fun _ _ _ h => h) (by rfl) (v := ?_) (a' := ?_) (by rintro w' ⟨s0, s1, s2, s3⟩; go_simp; with_reducible rfl) hHeld (by simp only [np]; rfl) ?_
 refine one_ (i := 18) (N := some 25) (bm 20 524287) rfl rfl (by kernel_rfl) (by decide) (fun K hK => ?_)
 refine goesC_ Try.func54 (by kernel_rfl) rfl #[.pointer (some ⟨p.nb ka, 0, none⟩), .pointer (some ⟨p.nb kb, 0, none⟩), .pointer (some ⟨p.bx i, 0, none⟩)] (by rfl) rfl rfl (by rfl) (by simp only [List.map_toArray, List.map_cons, List.map_nil, List.append_toArray, List.cons_append, List.nil_append]; rfl) ?_
 refine (order_calls H.out.drew hi hkan hkbn).mono ?_
 rintro e w5 ⟨rfl, hb⟩
 refine ⟨_, rfl, ?_⟩
 have HF := Aside0.mk (And.intro (H.out.drew.grow hb) ((KT.below (below_drew1 (Below.refl _ _))).trans (KT.below hb)))
 refine hK.out _ _ ⟨cell_b hb (hHeld.1), cell_b hb (hHeld.2.1), cell_b hb (hHeld.2.2.1), cell_b hb (hHeld.2.2.2)⟩ (fun hHeld => ?_)
 clear hK K
 refine norm_ (a' := ?_) ?_ ?_
 rotate_left
 · show Act.put _ (some 25) _ = _; simp only [np]; rfl
 refine pu 19 6 (bm 20 1048575) rfl rfl (by kernel_rfl) (fun _ _ _ h => h) (by rfl) (v := ?_) (a' := ?_) (by intro w'; go_simp; with_reducible rfl) (by simp only [np]; rfl) ?_
 refine done_ (by kernel_rfl) ?_
 go_wp2; go_ret
 exact ⟨rfl, HF.out⟩
theorem assert58 (v : Value) (w : World) : (Instr.typeAssert (.iface 58 v) 20 58 false).run Try.prog w = .ok v w := by kernel_rfl
theorem ptrs_swp (nb : Nat → Nat) (q : List Nat) (a b : Nat) (ha : a < q.length) (hb : b < q.length) : ((ptrs nb q).set a (.pointer (some ⟨nb (q.getD b 0), 0, none⟩))).set b (.pointer (some ⟨nb (q.getD a 0), 0, none⟩)) = ptrs nb (swp q a b) := by simp [ptrs, swp, List.map_set]
theorem swp_mem (q : List Nat) (a b : Nat) (ha : a < q.length) (hb : b < q.length) : ∀ k ∈ swp q a b, k ∈ q := by
 intro k hk
 unfold swp at hk
 rcases List.mem_or_eq_of_mem_set hk with hk | hk
 · rcases List.mem_or_eq_of_mem_set hk with hk | hk
   · exact hk
   · rw [hk, List.getD_eq_getElem?_getD, List.getElem?_eq_getElem hb]; exact List.getElem_mem hb
 · rw [hk, List.getD_eq_getElem?_getD, List.getElem?_eq_getElem ha]; exact List.getElem_mem ha
set_option maxHeartbeats 4000000 in
set_option maxRecDepth 100000 in
theorem swap_calls (h : BM w0 w p xs qs) {i : Nat} (hi : i < 2) (a b : Nat) (ha : a < (qs i).length) (hb : b < (qs i).length) :
    Calls Try.prog 95 #[.pointer (some ⟨p.bq i, 0, none⟩), .int .i64 a, .int .i64 b] w fun e w' => e = .returned (.tuple #[]) ∧ BM w0 w' p xs (updQ qs i (swp (qs i) a b)) ∧ KT w w' := by
 obtain ⟨A, c, hq, ho⟩ := h.queue hi
 obtain ⟨g, rfl, ca⟩ := row58 ho a ha
 obtain ⟨g', e, cb⟩ := row58 ho b hb
 obtain rfl : g = g' := by simpa using e
 have hle := own_le ho
 have hl9 : (qs i).length ≤ 9223372036854775807 := by
  rcases ho.2 with ⟨h, _⟩ | ⟨_, _, _, h, _, _, _, h2, _⟩
  · simp at h
  · simp only [Value.slice.injEq] at h; obtain ⟨_, _, rfl⟩ := h; exact Nat.le_trans hle h2
 have h1 := ho.stored a (.pointer (some ⟨p.nb ((qs i).getD b 0), 0, none⟩))
 have h2 := h1.1.stored b (.pointer (some ⟨p.nb ((qs i).getD a 0), 0, none⟩))
 rw [ptrs_swp _ _ _ _ ha hb] at h2
 have hfin := h.rerow hi hq (w' := (w.setCell ⟨g, a, none⟩ (.pointer (some ⟨p.nb ((qs i).getD b 0), 0, none⟩))).setCell ⟨g, b, none⟩ (.pointer (some ⟨p.nb ((qs i).getD a 0), 0, none⟩))) (q := swp (qs i) a b) (h1.2.trans h2.2) (by rw [swp_len]; exact h2.1)
  (fun k hk => h.inn hi k (swp_mem _ _ _ ha hb k hk)) (swp_len _ _ _).symm
 have HFIN := Aside0.mk hfin
 have fa : w.frozen? ⟨g, a, none⟩ = false := ho.frozenAt a
 have fb : w.frozen? ⟨g, b, none⟩ = false := ho.frozenAt b
 obtain ⟨u, cb2⟩ : ∃ u, (w.setCell ⟨g, a, none⟩ (.pointer (some ⟨p.nb ((qs i).getD b 0), 0, none⟩))).cell? ⟨g, b, none⟩ = some u := by
  have hlt : b < ((ptrs p.nb (qs i)).set a (.pointer (some ⟨p.nb ((qs i).getD b 0), 0, none⟩))).length := by rw [List.length_set, ptrs_len]; exact hb
  have h3 := h1.1.cells (g := g) rfl b _ (List.getElem?_eq_getElem hlt)
  rw [add_plain] at h3
  exact ⟨_, h3⟩
 obtain ⟨ka, hka⟩ : ∃ k, k = (qs i).getD a 0 := ⟨_, rfl⟩
 obtain ⟨kb, hkb⟩ : ∃ k, k = (qs i).getD b 0 := ⟨_, rfl⟩
 rw [← hka] at ca HFIN
 rw [← hkb] at cb cb2 HFIN
 have HQ := Aside0.mk hq
 have CA := Aside0.mk ca
 have CB := Aside0.mk cb
 have CB2 := Aside0.mk cb2
 clear h hq ho ca cb hka hkb h1 h2 hfin
 go_enter Try.func95, Try.ntmps95
 go_wp2_with fail
 refine start_ (n := 28) (S := fun w' => w'.cell? ⟨p.bq i, 0, none⟩ = some (.slice (some ⟨g, 0, none⟩) (qs i).length c) ∧ w'.cell? ⟨g, a, none⟩ = some (.pointer (some ⟨p.nb ka, 0, none⟩)) ∧ w'.cell? ⟨g, b, none⟩ = some (.pointer (some ⟨p.nb kb, 0, none⟩))) (ds := [25, 27]) (bm 28 0) (by kernel_rfl) rfl rfl ⟨(blk_cell HQ.out 0).trans rfl, CA.out, CB.out⟩ (fun hHeld => ?_)
 refine pu 0 6 (bm 28 1) rfl rfl (by kernel_rfl) (fun _ _ _ h => h) (by rfl) (v := ?_) (a' := ?_) (by intro w'; go_simp; with_reducible rfl) (by simp only [np]; rfl) ?_
 refine pu 1 7 (bm 28 3) rfl rfl (by kernel_rfl) (fun _ _ _ h => h) (by rfl) (v := ?_) (a' := ?_) (by intro w'; go_simp; with_reducible rfl) (by simp only [np]; rfl) ?_
 refine pu 2 8 (bm 28 7) rfl rfl (by kernel_rfl) (fun _ _ _ h => h) (by rfl) (v := ?_) (a' := ?_) (by intro w'; go_simp; with_reducible rfl) (by simp only [np]; rfl) ?_
 refine pu 4 10 (bm 28 23) rfl rfl (by kernel_rfl) (fun _ _ _ h => h) (by rfl) (v := ?_) (a' := ?_) (by intro w'; go_simp; with_reducible rfl) (by simp only [np]; rfl) ?_
 refine pu 5 11 (bm 28 55) rfl rfl (by kernel_rfl) (fun _ _ _ h => h) (by rfl) (v := ?_) (a' := ?_) (by intro w'; go_simp; with_reducible rfl) (by simp only [np]; rfl) ?_
 refine pu 6 12 (bm 28 119) rfl rfl (by kernel_rfl) (fun _ _ _ h => h) (by rfl) (v := ?_) (a' := ?_) (by intro w'; go_simp; with_reducible rfl) (by simp only [np]; rfl) ?_
 refine pu 7 13 (bm 28 247) rfl rfl (by kernel_rfl) (fun _ _ _ h => h) (by rfl) (v := ?_) (a' := ?_) (by intro w'; go_simp; with_reducible rfl) (by simp only [np]; rfl) ?_
 refine pu 9 15 (bm 28 759) rfl rfl (by kernel_rfl) (fun _ _ _ h => h) (by rfl) (v := ?_) (a' := ?_) (by intro w'; go_simp; with_reducible rfl) (by simp only [np]; rfl) ?_
 refine pu 10 16 (bm 28 1783) rfl rfl (by kernel_rfl) (fun _ _ _ h => h) (by rfl) (v := ?_) (a' := ?_) (by intro w'; go_simp; with_reducible rfl) (by simp only [np]; rfl) ?_
 refine pu 11 17 (bm 28 3831) rfl rfl (by kernel_rfl) (fun _ _ _ h => h) (by rfl) (v := ?_) (a' := ?_) (by intro w'; go_simp; with_reducible rfl) (by simp only [np]; rfl) ?_
 refine pu 12 18 (bm 28 7927) rfl rfl (by kernel_rfl) (fun _ _ _ h => h) (by rfl) (v := ?_) (a' := ?_) (by intro w'; go_simp; with_reducible rfl) (by simp only [np]; rfl) ?_
 refine pu 14 20 (bm 28 24311) rfl rfl (by kernel_rfl) (fun _ _ _ h => h) (by rfl) (v := ?_) (a' := ?_) (by intro w'; go_simp; with_reducible rfl) (by simp only [np]; rfl) ?_
 refine pu 17 23 (bm 28 155383) rfl rfl (by kernel_rfl) (fun _ _ _ h => h) (by rfl) (v := ?_) (a' := ?_) (by intro w'; go_simp; with_reducible rfl) (by simp only [np]; rfl) ?_
 refine pu 18 24 (bm 28 417527) rfl rfl (by kernel_rfl) (fun _ _ _ h => h) (by rfl) (v := ?_) (a' := ?_) (by intro w'; go_simp; with_reducible rfl) (by simp only [np]; rfl) ?_
 refine pu 19 25 (bm 28 941815) rfl rfl (by kernel_rfl) (fun _ _ _ h => h) (by rfl) (v := ?_) (a' := ?_) (by intro w'; go_simp; with_reducible rfl) (by simp only [np]; rfl) ?_
 refine pu 21 27 (bm 28 3038967) rfl rfl (by kernel_rfl) (fun _ _ _ h => h) (by rfl) (v := ?_) (a' := ?_) (by intro w'; go_simp; with_reducible rfl) (by simp only [np]; rfl) ?_
 refine tu 3 9 (bm 28 3038975) rfl rfl (by kernel_rfl) (fun _ _ _ h => h) (by rfl) (v := ?_) (a' := ?_) (by rintro w' ⟨s0, s1, s2⟩; go_simp; with_reducible rfl) hHeld (by simp only [np]; rfl) ?_
 refine tu 8 14 (bm 28 3039231) rfl rfl (by kernel_rfl) (fun _ _ _ h => h) (by rfl) (v := ?_) (a' := ?_) (by rintro w' ⟨s0, s1, s2⟩; go_simp; with_reducible rfl) hHeld (by simp only [np]; rfl) ?_
 refine tu 13 19 (bm 28 3047423) rfl rfl (by kernel_rfl) (fun _ _ _ h => h) (by rfl) (v := ?_) (a' := ?_) (by rintro w' ⟨s0, s1, s2⟩; go_simp; with_reducible rfl) hHeld (by simp only [np]; rfl) ?_
 refine pu 15 21 (bm 28 3080191) rfl rfl (by kernel_rfl) (fun _ _ _ h => h) (by rfl) (v := ?_) (a' := ?_) (by intro w'; go_simp; with_reducible rfl) (by simp only [np]; rfl) ?_
 refine tu 16 22 (bm 28 3145727) rfl rfl (by kernel_rfl) (fun _ _ _ h => h) (by rfl) (v := ?_) (a' := ?_) (by rintro w' ⟨s0, s1, s2⟩; go_simp; with_reducible rfl) hHeld (by simp only [np]; rfl) ?_
 refine tu 20 26 (bm 28 4194303) rfl rfl (by kernel_rfl) (fun _ _ _ h => h) (by rfl) (v := ?_) (a' := ?_) (by rintro w' ⟨s0, s1, s2⟩; go_simp; with_reducible rfl) hHeld (by simp only [np]; rfl) ?_
 refine pu 22 28 (bm 28 8388607) rfl rfl (by kernel_rfl) (fun _ _ _ h => h) (by rfl) (v := ?_) (a' := ?_) (by intro w'; go_simp; with_reducible rfl) (by simp only [np]; rfl) ?_
 refine tu 23 29 (bm 28 16777215) rfl rfl (by kernel_rfl) (fun _ _ _ h => h) (by rfl) (v := ?_) (a' := ?_) (by rintro w' ⟨s0, s1, s2⟩; go_simp; with_reducible rfl) hHeld (by simp only [np]; rfl) ?_
 refine pu 24 30 (bm 28 33554431) rfl rfl (by kernel_rfl) (fun _ _ _ h => h) (by rfl) (v := ?_) (a' := ?_) (by intro w'; go_simp; with_reducible rfl) (by simp only [np]; rfl) ?_
 refine last_ (i := 25) (N := none) (bm 28 67108863) rfl rfl (by kernel_rfl) (by decide) (fun K hK => ?_)
 refine skip_ (w1 := ?_) (by rfl) rfl ?_ ?_
 rotate_left
 · go_simp; rfl
 refine hK.out _ _ ?_
 clear hK K
 refine pu 26 31 (bm 28 134217727) rfl rfl (by kernel_rfl) (fun _ _ _ h => h) (by rfl) (v := ?_) (a' := ?_) (by intro w'; go_simp; with_reducible rfl) (by simp only [np]; rfl) ?_
 refine last_ (i := 27) (N := none) (bm 28 268435455) rfl rfl (by kernel_rfl) (by decide) (fun K hK => ?_)
 have cb3 := CB2.out
 refine skip_ (w1 := ?_) (by rfl) rfl ?_ ?_
 rotate_left
 · go_simp; rfl
 refine hK.out _ _ ?_
 clear hK K
 refine done_ (by kernel_rfl) ?_
 go_end0
 exact ⟨rfl, HFIN.out.1.drew, HFIN.out.2.trans (KT.below (below_drew1 (Below.refl _ _)))⟩
set_option maxHeartbeats 4000000 in
set_option maxRecDepth 100000 in
theorem qpush_calls (h : BM w0 w p xs qs) {i : Nat} (hi : i < 2) (k : Nat) (hk : k < p.n) (hlen : (qs i).length ≤ 1000000000000) :
    Calls Try.prog 94 #[.pointer (some ⟨p.bq i, 0, none⟩), .iface 58 (.pointer (some ⟨p.nb k, 0, none⟩))] w fun e w' => e = .returned (.tuple #[]) ∧ BM w0 w' p xs (updQ qs i (qs i ++ [k])) ∧ KT w w' := by
 obtain ⟨A, c, hq, ho⟩ := h.queue hi
 have HIN : Aside0 (∀ j ∈ qs i ++ [k], j < p.n) := ⟨fun j hj => by
  rcases List.mem_append.1 hj with hj | hj
  · exact h.inn hi j hj
  · rw [List.mem_singleton.1 hj]; exact hk⟩
 have H := Aside0.mk h
 have HQ := Aside0.mk hq
 have HO := Aside0.mk ho
 clear h hq ho
 have hta : ∀ w, (Instr.typeAssert (.iface 58 (.pointer (some ⟨p.nb k, 0, none⟩))) 20 58 false).run Try.prog w = .ok (.pointer (some ⟨p.nb k, 0, none⟩)) w := fun w => assert58 _ w
 go_enter Try.func94, Try.ntmps94
 go_wp2_with fail
 refine start_ (n := 12) (S := fun w' => w'.cell? ⟨p.bq i, 0, none⟩ = some (.slice A (qs i).length c)) (ds := [11]) (bm 12 0) (by kernel_rfl) rfl rfl ((blk_cell HQ.out 0).trans rfl) (fun hHeld => ?_)
 have HD := Aside0.mk H.out.drew
 have HOD : Aside0 (w.drew.ownsRow 0 58 1 (.slice A (qs i).length c) (qs i).length (ptrs p.nb (qs i))) := ⟨HO.out⟩
 have HQD : Aside0 (w.drew.heap[p.bq i]? = some (.cells #[.slice A (qs i).length c, lessV p i] 67 (0, 0))) := ⟨HQ.out⟩
 have HKD := Aside0.mk (KT.below (below_drew1 (Below.refl w.heap.size w)))
 generalize w.drew = wd at hHeld HD HOD HQD HKD ⊢
 refine pu 0 4 (bm 12 1) rfl rfl (by kernel_rfl) (fun _ _ _ h => h) (by rfl) (v := ?_) (a' := ?_) (by intro w'; go_simp; with_reducible rfl) (by simp only [np]; rfl) ?_
 refine pu 1 5 (bm 12 3) rfl rfl (by kernel_rfl) (fun _ _ _ h => h) (by rfl) (v := ?_) (a' := ?_) (by intro w'; go_simp; with_reducible rfl) (by simp only [np]; rfl) ?_
 refine pu 2 6 (bm 12 7) rfl rfl (by kernel_rfl) (fun _ _ _ h => h) (by rfl) (v := ?_) (a' := ?_) (by intro w'; go_simp; with_reducible rfl) (by simp only [np]; rfl) ?_
 refine pu 3 7 (bm 12 15) rfl rfl (by kernel_rfl) (fun _ _ _ h => h) (by rfl) (v := ?_) (a' := ?_) (by intro w'; go_simp; with_reducible rfl) (by simp only [np]; rfl) ?_
 refine pu 5 9 (bm 12 47) rfl rfl (by kernel_rfl) (fun _ _ _ h => h) (by rfl) (v := ?_) (a' := ?_) (by intro w'; go_simp; with_reducible rfl) (by simp only [np]; rfl) ?_
 refine pu 6 10 (bm 12 111) rfl rfl (by kernel_rfl) (fun _ _ _ h => h) (by rfl) (v := ?_) (a' := ?_) (by intro w'; go_simp; with_reducible rfl) (by simp only [np]; rfl) ?_
 refine tu 4 8 (bm 12 127) rfl rfl (by kernel_rfl) (fun _ _ _ h => h) (by rfl) (v := ?_) (a' := ?_) (by intro w' s0; go_simp; with_reducible rfl) hHeld (by simp only [np]; rfl) ?_
 refine one_ (i := 7) (N := some 11) (bm 12 255) rfl rfl (by kernel_rfl) (by decide) (fun K hK => ?_)
 refine value_ (w1 := ?_) (v := ?_) (by rfl) rfl ?_ ?_
 rotate_left 2
 · go_simp
   constructor
   · rfl
   · rfl
 refine hK.out _ _ ((World.cell?_alloc_lt _ _ _ (World.block_lt_of_cell? _ _ (hHeld))).trans (hHeld)) (fun hHeld => ?_)
 clear hK K
 refine norm_ (a' := ?_) ?_ ?_
 rotate_left
 · show Act.put _ (some 11) _ = _; simp only [np]; rfl
 refine one_ (i := 8) (N := some 12) (bm 12 511) rfl rfl (by kernel_rfl) (by decide) (fun K hK => ?_)
 refine step_append_cells (w0 := w0) 0 (by rfl) (.tmp 8) (.tmp 11) 56 58 (.pointer none) 1 8 rfl Try.underlying56 info58 rfl (by decide) (by decide) (.slice A (qs i).length c) (qs i).length (ptrs p.nb (qs i)) [.pointer (some ⟨p.nb k, 0, none⟩)] (by rfl) (by rfl) rfl (by simp [Value.oneCell']) HOD.out ((HD.out.below).mono (Nat.zero_le _)) (Nat.zero_le _) (by omega) ?_
 intro v1 w1 ho1 hb1 hg1 hat1
 obtain ⟨A1, c1, rfl⟩ := own_slice ho1
 obtain ⟨fz, z0, z1, hkt1, hbm, hkt2⟩ := HD.out.pushed hi HQD.out (A1 := A1) (n1 := (qs i).length + 1) (c1 := c1) (q := qs i ++ [k]) hg1 (by rw [show ptrs p.nb (qs i ++ [k]) = ptrs p.nb (qs i) ++ [.pointer (some ⟨p.nb k, 0, none⟩)] from by simp [ptrs]]; exact ho1) hat1 HIN.out
 have HFIN := Aside0.mk (And.intro hbm (HKD.out.trans hkt2))
 have z0' := z0
 clear ho1 hb1 hg1 hat1 hbm hkt2 hkt1 z1
 refine hK.out _ _ (z0') (fun hHeld => ?_)
 clear hK K
 refine norm_ (a' := ?_) ?_ ?_
 rotate_left
 · show Act.put _ (some 12) _ = _; simp only [np]; rfl
 refine pu 9 13 (bm 12 1023) rfl rfl (by kernel_rfl) (fun _ _ _ h => h) (by rfl) (v := ?_) (a' := ?_) (by intro w'; go_simp; with_reducible rfl) (by simp only [np]; rfl) ?_
 refine pu 10 14 (bm 12 2047) rfl rfl (by kernel_rfl) (fun _ _ _ h => h) (by rfl) (v := ?_) (a' := ?_) (by intro w'; go_simp; with_reducible rfl) (by simp only [np]; rfl) ?_
 refine last_ (i := 11) (N := none) (bm 12 4095) rfl rfl (by kernel_rfl) (by decide) (fun K hK => ?_)
 refine skip_ (w1 := ?_) (by rfl) rfl ?_ ?_
 rotate_left
 · go_simp; rfl
 refine hK.out _ _ ?_
 clear hK K
 refine done_ (by kernel_rfl) ?_
 go_end0
 exact ⟨rfl, HFIN.out⟩
set_option maxHeartbeats 4000000 in
set_option maxRecDepth 100000 in
theorem qpop_calls (h : BM w0 w p xs qs) {i : Nat} (hi : i < 2) (hne : 0 < (qs i).length) :
    Calls Try.prog 93 #[.pointer (some ⟨p.bq i, 0, none⟩)] w fun e w' => e = .returned (.iface 58 (.pointer (some ⟨p.nb ((qs i).getD ((qs i).length - 1) 0), 0, none⟩))) ∧ BM w0 w' p xs (updQ qs i ((qs i).take ((qs i).length - 1))) ∧ KT w w' := by
 obtain ⟨A, c, hq, ho⟩ := h.queue hi
 obtain ⟨n, hn⟩ : ∃ n, (qs i).length = n + 1 := ⟨(qs i).length - 1, by omega⟩
 obtain ⟨g, rfl, ca⟩ := row58 ho n (by omega)
 rw [show (qs i).length - 1 = n from by omega]
 have hle := own_le ho
 have hl9 : (qs i).length ≤ 9223372036854775807 := by
  rcases ho.2 with ⟨h, _⟩ | ⟨_, _, _, h, _, _, _, h2, _⟩
  · simp at h
  · simp only [Value.slice.injEq] at h; obtain ⟨_, _, rfl⟩ := h; exact Nat.le_trans hle h2
 have H := Aside0.mk h
 have HO := Aside0.mk ho
 have HN := Aside0.mk hn
 rw [hn] at hq hle hl9
 have hwn : wrap64 ((n : Nat) : Int) = n := by unfold wrap64; omega
 have hnn : ((n : Nat) : Int) < (n : Int) + 1 := by omega
 have hnc : n ≤ c := by omega
 have fzq : w.frozen? ⟨p.bq i, 0, none⟩ = false := by simp [World.frozen?, hq]
 have HQ := Aside0.mk hq
 have CA := Aside0.mk ca
 clear h hq ho ca hn
 go_enter Try.func93, Try.ntmps93
 go_wp2_with fail
 refine start_ (n := 13) (S := fun w' => w'.cell? ⟨p.bq i, 0, none⟩ = some (.slice (some ⟨g, 0, none⟩) (n + 1) c) ∧ w'.cell? ⟨g, n, none⟩ = some (.pointer (some ⟨p.nb ((qs i).getD n 0), 0, none⟩))) (ds := []) (bm 13 0) (by kernel_rfl) rfl rfl ⟨(blk_cell HQ.out 0).trans rfl, CA.out⟩ (fun hHeld => ?_)
 refine pu 0 4 (bm 13 1) rfl rfl (by kernel_rfl) (fun _ _ _ h => h) (by rfl) (v := ?_) (a' := ?_) (by intro w'; go_simp; with_reducible rfl) (by simp only [np]; rfl) ?_
 refine pu 1 5 (bm 13 3) rfl rfl (by kernel_rfl) (fun _ _ _ h => h) (by rfl) (v := ?_) (a' := ?_) (by intro w'; go_simp; with_reducible rfl) (by simp only [np]; rfl) ?_
 refine pu 2 6 (bm 13 7) rfl rfl (by kernel_rfl) (fun _ _ _ h => h) (by rfl) (v := ?_) (a' := ?_) (by intro w'; go_simp; with_reducible rfl) (by simp only [np]; rfl) ?_
 refine pu 4 8 (bm 13 23) rfl rfl (by kernel_rfl) (fun _ _ _ h => h) (by rfl) (v := ?_) (a' := ?_) (by intro w'; go_simp; with_reducible rfl) (by simp only [np]; rfl) ?_
 refine pu 5 9 (bm 13 55) rfl rfl (by kernel_rfl) (fun _ _ _ h => h) (by rfl) (v := ?_) (a' := ?_) (by intro w'; go_simp; with_reducible rfl) (by simp only [np]; rfl) ?_
 refine pu 6 10 (bm 13 119) rfl rfl (by kernel_rfl) (fun _ _ _ h => h) (by rfl) (v := ?_) (a' := ?_) (by intro w'; go_simp; with_reducible rfl) (by simp only [np]; rfl) ?_
 refine tu 3 7 (bm 13 127) rfl rfl (by kernel_rfl) (fun _ _ _ h => h) (by rfl) (v := ?_) (a' := ?_) (by rintro w' ⟨s0, s1⟩; go_simp; with_reducible rfl) hHeld (by simp only [np]; rfl) ?_
 refine tu 7 11 (bm 13 255) rfl rfl (by kernel_rfl) (fun _ _ _ h => h) (by rfl) (v := ?_) (a' := ?_) (by rintro w' ⟨s0, s1⟩; go_simp; with_reducible rfl) hHeld (by simp only [np]; rfl) ?_
 refine pu 8 12 (bm 13 511) rfl rfl (by kernel_rfl) (fun _ _ _ h => h) (by rfl) (v := ?_) (a' := ?_) (by intro w'; go_simp; with_reducible rfl) (by simp only [np]; rfl) ?_
 refine pu 9 13 (bm 13 1023) rfl rfl (by kernel_rfl) (fun _ _ _ h => h) (by rfl) (v := ?_) (a' := ?_) (by intro w'; go_simp; with_reducible rfl) (by simp only [np]; rfl) ?_
 refine pu 10 14 (bm 13 2047) rfl rfl (by kernel_rfl) (fun _ _ _ h => h) (by rfl) (v := ?_) (a' := ?_) (by intro w'; go_simp; with_reducible rfl) (by simp only [np]; rfl) ?_
 refine tu 11 15 (bm 13 4095) rfl rfl (by kernel_rfl) (fun _ _ _ h => h) (by rfl) (v := ?_) (a' := ?_) (by rintro w' ⟨s0, s1⟩; go_simp; with_reducible rfl) hHeld (by simp only [np]; rfl) ?_
 refine pu 12 3 (bm 13 8191) rfl rfl (by kernel_rfl) (fun _ _ _ h => h) (by rfl) (v := ?_) (a' := ?_) (by intro w'; go_simp; with_reducible rfl) (by simp only [np]; rfl) ?_
 refine done_ (by kernel_rfl) ?_
 go_wp2_with fail
 refine start_ (n := 15) (S := fun w' => w'.cell? ⟨p.bq i, 0, none⟩ = some (.slice (some ⟨g, 0, none⟩) (n + 1) c)) (ds := [14]) (bm 15 0) (by kernel_rfl) rfl rfl ((blk_cell HQ.out 0).trans rfl) (fun hHeld => ?_)
 refine pu 0 16 (bm 15 1) rfl rfl (by kernel_rfl) (fun _ _ _ h => h) (by rfl) (v := ?_) (a' := ?_) (by intro w'; go_simp; with_reducible rfl) (by simp only [np]; rfl) ?_
 refine pu 1 17 (bm 15 3) rfl rfl (by kernel_rfl) (fun _ _ _ h => h) (by rfl) (v := ?_) (a' := ?_) (by intro w'; go_simp; with_reducible rfl) (by simp only [np]; rfl) ?_
 refine pu 2 18 (bm 15 7) rfl rfl (by kernel_rfl) (fun _ _ _ h => h) (by rfl) (v := ?_) (a' := ?_) (by intro w'; go_simp; with_reducible rfl) (by simp only [np]; rfl) ?_
 refine pu 3 19 (bm 15 15) rfl rfl (by kernel_rfl) (fun _ _ _ h => h) (by rfl) (v := ?_) (a' := ?_) (by intro w'; go_simp; with_reducible rfl) (by simp only [np]; rfl) ?_
 refine pu 5 21 (bm 15 47) rfl rfl (by kernel_rfl) (fun _ _ _ h => h) (by rfl) (v := ?_) (a' := ?_) (by intro w'; go_simp; with_reducible rfl) (by simp only [np]; rfl) ?_
 refine pu 6 22 (bm 15 111) rfl rfl (by kernel_rfl) (fun _ _ _ h => h) (by rfl) (v := ?_) (a' := ?_) (by intro w'; go_simp; with_reducible rfl) (by simp only [np]; rfl) ?_
 refine pu 7 23 (bm 15 239) rfl rfl (by kernel_rfl) (fun _ _ _ h => h) (by rfl) (v := ?_) (a' := ?_) (by intro w'; go_simp; with_reducible rfl) (by simp only [np]; rfl) ?_
 refine tu 4 20 (bm 15 255) rfl rfl (by kernel_rfl) (fun _ _ _ h => h) (by rfl) (v := ?_) (a' := ?_) (by intro w' s0; go_simp; with_reducible rfl) hHeld (by simp only [np]; rfl) ?_
 refine tu 8 24 (bm 15 511) rfl rfl (by kernel_rfl) (fun _ _ _ h => h) (by rfl) (v := ?_) (a' := ?_) (by intro w' s0; go_simp; with_reducible rfl) hHeld (by simp only [np]; rfl) ?_
 refine pu 9 25 (bm 15 1023) rfl rfl (by kernel_rfl) (fun _ _ _ h => h) (by rfl) (v := ?_) (a' := ?_) (by intro w'; go_simp; with_reducible rfl) (by simp only [np]; rfl) ?_
 refine pu 10 26 (bm 15 2047) rfl rfl (by kernel_rfl) (fun _ _ _ h => h) (by rfl) (v := ?_) (a' := ?_) (by intro w'; go_simp; with_reducible rfl) (by simp only [np]; rfl) ?_
 refine pu 11 27 (bm 15 4095) rfl rfl (by kernel_rfl) (fun _ _ _ h => h) (by rfl) (v := ?_) (a' := ?_) (by intro w'; go_simp; with_reducible rfl) (by simp only [np]; rfl) ?_
 refine pu 12 28 (bm 15 8191) rfl rfl (by kernel_rfl) (fun _ _ _ h => h) (by rfl) (v := ?_) (a' := ?_) (by intro w'; go_simp; with_reducible rfl) (by simp only [np]; rfl) ?_
 refine pu 13 29 (bm 15 16383) rfl rfl (by kernel_rfl) (fun _ _ _ h => h) (by rfl) (v := ?_) (a' := ?_) (by intro w'; go_simp; with_reducible rfl) (by simp only [np]; rfl) ?_
 refine last_ (i := 14) (N := none) (bm 15 32767) rfl rfl (by kernel_rfl) (by decide) (fun K hK => ?_)
 have HFIN := Aside0.mk (And.intro (H.out.reset hi HQ.out (Nat.le_succ n) HN.out.symm).1.drew.drew ((H.out.reset hi HQ.out (Nat.le_succ n) HN.out.symm).2.trans (KT.below (below_drew1 (below_drew1 (Below.refl _ _))))))
 refine skip_ (w1 := ?_) (by rfl) rfl ?_ ?_
 rotate_left
 · go_simp; rfl
 refine hK.out _ _ ?_
 clear hK K
 refine done_ (by kernel_rfl) ?_
 go_wp2; go_ret
 exact ⟨rfl, HFIN.out⟩
end
end Go.Proofs.Ytocndmielggnpaa.PAll
end
section
namespace Go.Proofs.Ytocndmielggnpaa.PAll
open Go.RowKit Go.Proofs.YtocndmielggnpaaW.PrintWords Go.Proofs.YtocndmielggnpaaW.PrintLast Go.Proofs.YtocndmielggnpaaW.PrintMore
open Go.Proofs.Ytocndmielggnpaa.AMap Go.Proofs.Ytocndmielggnpaa.Env Go.Proofs.Ytocndmielggnpaa.Kind
attribute [local go_sem] max2_int min2_int max_two min_two
def upP (less : Nat → Nat → Bool) (q : List Nat) (j : Nat) : List Nat :=
 if h : j = 0 then q else if less (q.getD j 0) (q.getD ((j - 1) / 2) 0) = true then upP less (swp q ((j - 1) / 2) j) ((j - 1) / 2) else q
termination_by j
decreasing_by omega
def downP (less : Nat → Nat → Bool) (q : List Nat) (i n : Nat) : List Nat :=
 if h : 2 * i + 1 < n then
  let j := if 2 * i + 2 < n ∧ less (q.getD (2 * i + 2) 0) (q.getD (2 * i + 1) 0) = true then 2 * i + 2 else 2 * i + 1
  if less (q.getD j 0) (q.getD i 0) = true then downP less (swp q i j) j n else q
 else q
termination_by n - i
decreasing_by
 simp only [j] at *
 split <;> omega
theorem upP_zero (less : Nat → Nat → Bool) (q : List Nat) : upP less q 0 = q := by rw [upP, dif_pos rfl]
theorem upP_pos (less : Nat → Nat → Bool) (q : List Nat) (j : Nat) (h : ¬ j = 0) : upP less q j = if less (q.getD j 0) (q.getD ((j - 1) / 2) 0) = true then upP less (swp q ((j - 1) / 2) j) ((j - 1) / 2) else q := by rw [upP, dif_neg h]
def pushP (less : Nat → Nat → Bool) (q : List Nat) (k : Nat) : List Nat := upP less (q ++ [k]) q.length
def popP (less : Nat → Nat → Bool) (q : List Nat) : Nat × List Nat :=
 let r := downP less (swp q 0 (q.length - 1)) 0 (q.length - 1)
 (r.getD (q.length - 1) 0, r.take (q.length - 1))
section
variable {w0 w w' : World} {p : BP} {xs : List Nd} {qs : Nat → List Nat}
set_option maxHeartbeats 2000000 in
set_option maxRecDepth 100000 in
theorem up_calls (h : BM w0 w p xs qs) {i : Nat} (hi : i < 2) (j : Nat) (hj : j < (qs i).length) (hl : (qs i).length ≤ 1000000) :
    Calls Try.prog 56 #[.iface 63 (.pointer (some ⟨p.bq i, 0, none⟩)), .int .i64 j] w fun e w' => e = .returned (.tuple #[]) ∧ BM w0 w' p xs (updQ qs i (upP (lessP i xs) (qs i) j)) ∧ KT w w' := by
 have H := Aside0.mk h
 clear h
 go_enter Try.func56, Try.ntmps56
 go_wp2_with fail
 go_loopw [1] (fun v1 wr => ∃ (k : Nat) (q : List Nat), v1 = .int .i64 k ∧ k < q.length ∧ q.length = (qs i).length ∧ Aside0 (BM w0 wr p xs (updQ qs i q)) ∧ Aside0 (KT w wr) ∧ Aside0 (upP (lessP i xs) q k = upP (lessP i xs) (qs i) j)) (fun v1 _ => (intOf v1).toNat)
 case atStart => exact ⟨j, qs i, rfl, hj, rfl, ⟨by rw [updQ_self]; exact H.out⟩, ⟨KT.refl _⟩, ⟨rfl⟩⟩
 case round =>
  obtain ⟨k, q, rfl, hk, hql, HB, HK, HU⟩ := hrel
  by_cases hk0 : k = 0
  · subst hk0
    go_wp2
    go_end0
    have hu := (upP_zero _ _).symm.trans HU.out
    exact ⟨rfl, by rw [← hu]; exact HB.out, HK.out⟩
  · obtain ⟨m, hm⟩ : ∃ m : Nat, m = (k - 1) / 2 := ⟨_, rfl⟩
    have hmk : m < k := by omega
    have hmi : ((k : Int) - 1) / 2 = (m : Int) := by omega
    have hne : ((m : Int) == (k : Int)) = false := by simp; omega
    have hne2 : ¬ (m : Int) = (k : Int) := by omega
    have hu := (upP_pos _ _ _ hk0).symm.trans HU.out
    rw [← hm] at hu
    clear hm
    by_cases hr : lessP i xs (q.getD k 0) (q.getD m 0) = true
    · rw [if_pos hr] at hu
      have HR := Aside0.mk hr
      have HU2 := Aside0.mk hu
      clear hr hu HU
      go_upto_region 1 with fail
      rw [hmi]
      go_wp2_with fail
      refine (less_calls HB.out hi k m (by rw [updQ_same]; exact hk) (by rw [updQ_same]; omega)).mono ?_
      rintro e w3 ⟨rfl, hb3, hk3⟩
      rw [updQ_same, HR.out]
      have HB3 := Aside0.mk hb3
      have HK3 := Aside0.mk (HK.out.trans hk3)
      clear hb3 hk3 HB HK
      go_wp2_with fail
      refine (swap_calls HB3.out hi m k (by rw [updQ_same]; omega) (by rw [updQ_same]; exact hk)).mono ?_
      rintro e w4 ⟨rfl, hb4, hk4⟩
      rw [updQ_same, updQ_updQ] at hb4
      have HB4 := Aside0.mk hb4
      have HK4 := Aside0.mk (HK3.out.trans hk4)
      clear hb4 hk4 HB3 HK3; go_wp2
      go_roundw
      case rel => exact ⟨m, swp q m k, rfl, by rw [swp_len]; omega, by rw [swp_len]; exact hql, HB4, HK4, HU2⟩
      case measure => simp [intOf]; omega
    · rw [if_neg hr] at hu
      have hr2 : lessP i xs (q.getD k 0) (q.getD m 0) = false := by simpa using hr
      have HR := Aside0.mk hr2
      have HU2 := Aside0.mk hu
      clear hr hr2 hu HU
      go_upto_region 1 with fail
      rw [hmi]
      go_wp2_with fail
      refine (less_calls HB.out hi k m (by rw [updQ_same]; exact hk) (by rw [updQ_same]; omega)).mono ?_
      rintro e w3 ⟨rfl, hb3, hk3⟩
      rw [updQ_same, HR.out]
      have HB3 := Aside0.mk hb3
      have HK3 := Aside0.mk (HK.out.trans hk3)
      clear hb3 hk3 HB HK; go_wp2
      go_end0
      exact ⟨rfl, by rw [← HU2.out]; exact HB3.out, HK3.out⟩
end
end Go.Proofs.Ytocndmielggnpaa.PAll
end
