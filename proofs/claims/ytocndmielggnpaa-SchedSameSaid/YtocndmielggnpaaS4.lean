/- What the rows of chapter 16 lean on, part 5. -/
import Derived.Test.YtocndmielggnpaaProg
import Derived.Below
import Derived.Deep.Draws
import Derived.Deep.AppendLies
import Derived.Maps.AppendAt
import Derived.OwnWalk
import Derived.Laws.BytesArg
import Derived.Laws.MakeOwn
import Derived.Laws.OwnMore
import Derived.Deep.OwnRows
import Derived.Tactics
import Derived.Lib.ConvBytes
import Derived.Laws.Slices
import Derived.WalkKit
import Derived.KernelRfl
import Derived.RowKit3
import Derived.Deep.LoopGhost
import Derived.Deep.QuietTactic
import Derived.BigQuiet
import Derived.WideLaws
import Derived.Deep.DeepCutAuto
import Derived.Deep.CutBlock
import Derived.Deep.RegionHeld3
import Derived.Laws.Rows
import Derived.Lib.AppendStr
import Derived.ArgAppend
import Derived.Laws.IdiomCopy
import Derived.OrdersHeld
import Derived.Laws.BitsLemmas
import Derived.RowKit
import Derived.Laws.StructEq
import Derived.Lib.Hide
import Derived.Outline
import Derived.Laws.EntriesVeiled
import Derived.Lib.SliceRun
import Derived.Test.YtocndmielggnpaaS1
import Derived.Test.YtocndmielggnpaaS3
import Derived.Test.YtocndmielggnpaaS2
import Derived.Test.YtocndmielggnpaaS0
set_option linter.unusedSimpArgs false
set_option linter.unusedVariables false
section
namespace Go.Proofs.Ytocndmielggnpaa.PAll
open Go.RowKit Go.Proofs.YtocndmielggnpaaW.PrintWords Go.Proofs.YtocndmielggnpaaW.PrintLast Go.Proofs.YtocndmielggnpaaW.PrintMore
attribute [local go_sem] max2_int min2_int max_two min_two max_three min_three max_four min_four   -- for this text's walks alone
def errW : Option Int → Value
 | none => .nilIface
 | some c => .iface 0 (.int .i64 c)
theorem errW_none : errW none = .nilIface := rfl
theorem errW_some (c : Int) : errW (some c) = .iface 0 (.int .i64 c) := rfl
theorem info3 : (Try.prog.info? 3).map (fun i => (i.zero, i.size, i.bytes)) = some (some (.int .i64 0), 1, 8) := by kernel_rfl
theorem info4 : (Try.prog.info? 4).map (fun i => (i.zero, i.size, i.bytes)) = some (some (.bool false), 1, 1) := by kernel_rfl
structure S35 where
 f0 : Int
 f1 : Int
 f2 : Int
 f3 : Int
 f4 : Int
 f5 : Int
 f6 : Int
 f7 : (List Int)
def z35 : S35 := ⟨(0 : Int), (0 : Int), (0 : Int), (0 : Int), (0 : Int), (0 : Int), (0 : Int), ([] : List Int)⟩
def k35 : Kd S35 := Kd.iso (Kd.pair (Kd.int .i64) (Kd.pair (Kd.int .i64) (Kd.pair (Kd.int .i64) (Kd.pair (Kd.int .i64) (Kd.pair (Kd.int .i64) (Kd.pair (Kd.int .i64) (Kd.pair (Kd.int .i32) (Kd.slice 3 (Kd.int .i64))))))))) (fun x : S35 => (x.f0, x.f1, x.f2, x.f3, x.f4, x.f5, x.f6, x.f7))
theorem k35_open {w : World} {x : S35} {cs : List Value} (h : k35.K w x cs) : ∃ A7 c7, cs = [.int .i64 x.f0, .int .i64 x.f1, .int .i64 x.f2, .int .i64 x.f3, .int .i64 x.f4, .int .i64 x.f5, .int .i32 x.f6, .slice A7 x.f7.length c7] ∧ x.f7.length ≤ c7 ∧ (Kd.int .i64).C w A7 x.f7.length x.f7 := by
 obtain ⟨_, _, rfl, rfl, ⟨_, _, rfl, rfl, ⟨_, _, rfl, rfl, ⟨_, _, rfl, rfl, ⟨_, _, rfl, rfl, ⟨_, _, rfl, rfl, ⟨_, _, rfl, rfl, ⟨A7, c7, rfl, l7, g7⟩⟩⟩⟩⟩⟩⟩⟩ := h
 exact ⟨A7, c7, rfl, l7, g7⟩
theorem k35_mk (w : World) (x : S35) {A7 : Option Addr} {c7 : Nat} (l7 : x.f7.length ≤ c7) (g7 : (Kd.int .i64).C w A7 x.f7.length x.f7) : k35.K w x [.int .i64 x.f0, .int .i64 x.f1, .int .i64 x.f2, .int .i64 x.f3, .int .i64 x.f4, .int .i64 x.f5, .int .i32 x.f6, .slice A7 x.f7.length c7] := ⟨[.int .i64 x.f0], [.int .i64 x.f1, .int .i64 x.f2, .int .i64 x.f3, .int .i64 x.f4, .int .i64 x.f5, .int .i32 x.f6, .slice A7 x.f7.length c7], rfl, rfl, ⟨[.int .i64 x.f1], [.int .i64 x.f2, .int .i64 x.f3, .int .i64 x.f4, .int .i64 x.f5, .int .i32 x.f6, .slice A7 x.f7.length c7], rfl, rfl, ⟨[.int .i64 x.f2], [.int .i64 x.f3, .int .i64 x.f4, .int .i64 x.f5, .int .i32 x.f6, .slice A7 x.f7.length c7], rfl, rfl, ⟨[.int .i64 x.f3], [.int .i64 x.f4, .int .i64 x.f5, .int .i32 x.f6, .slice A7 x.f7.length c7], rfl, rfl, ⟨[.int .i64 x.f4], [.int .i64 x.f5, .int .i32 x.f6, .slice A7 x.f7.length c7], rfl, rfl, ⟨[.int .i64 x.f5], [.int .i32 x.f6, .slice A7 x.f7.length c7], rfl, rfl, ⟨[.int .i32 x.f6], [.slice A7 x.f7.length c7], rfl, rfl, ⟨A7, c7, rfl, l7, g7⟩⟩⟩⟩⟩⟩⟩⟩
theorem k35_mkM (w : World) (base : Nat) (ok : Nat → Prop) (x : S35) {v7 : Value} (g7 : (Kd.int .i64).R 3 w base ok v7 x.f7) : k35.M w base ok x [.int .i64 x.f0, .int .i64 x.f1, .int .i64 x.f2, .int .i64 x.f3, .int .i64 x.f4, .int .i64 x.f5, .int .i32 x.f6, v7] := ⟨[.int .i64 x.f0], [.int .i64 x.f1, .int .i64 x.f2, .int .i64 x.f3, .int .i64 x.f4, .int .i64 x.f5, .int .i32 x.f6, v7], rfl, rfl, ⟨[.int .i64 x.f1], [.int .i64 x.f2, .int .i64 x.f3, .int .i64 x.f4, .int .i64 x.f5, .int .i32 x.f6, v7], rfl, rfl, ⟨[.int .i64 x.f2], [.int .i64 x.f3, .int .i64 x.f4, .int .i64 x.f5, .int .i32 x.f6, v7], rfl, rfl, ⟨[.int .i64 x.f3], [.int .i64 x.f4, .int .i64 x.f5, .int .i32 x.f6, v7], rfl, rfl, ⟨[.int .i64 x.f4], [.int .i64 x.f5, .int .i32 x.f6, v7], rfl, rfl, ⟨[.int .i64 x.f5], [.int .i32 x.f6, v7], rfl, rfl, ⟨[.int .i32 x.f6], [v7], rfl, rfl, ⟨v7, rfl, g7⟩⟩⟩⟩⟩⟩⟩⟩
structure S37 where
 f0 : S35
 f1 : Int
def z37 : S37 := ⟨z35, (0 : Int)⟩
def k37 : Kd S37 := Kd.iso (Kd.pair k35 (Kd.int .i64)) (fun x : S37 => (x.f0, x.f1))
theorem k37_open {w : World} {x : S37} {cs : List Value} (h : k37.K w x cs) : ∃ A7 c7, cs = [.int .i64 x.f0.f0, .int .i64 x.f0.f1, .int .i64 x.f0.f2, .int .i64 x.f0.f3, .int .i64 x.f0.f4, .int .i64 x.f0.f5, .int .i32 x.f0.f6, .slice A7 x.f0.f7.length c7, .int .i64 x.f1] ∧ x.f0.f7.length ≤ c7 ∧ (Kd.int .i64).C w A7 x.f0.f7.length x.f0.f7 := by
 obtain ⟨_, _, rfl, s0, rfl⟩ := h
 obtain ⟨A7, c7, rfl, l7, g7⟩ := k35_open s0
 exact ⟨A7, c7, rfl, l7, g7⟩
theorem k37_mk (w : World) (x : S37) {A7 : Option Addr} {c7 : Nat} (l7 : x.f0.f7.length ≤ c7) (g7 : (Kd.int .i64).C w A7 x.f0.f7.length x.f0.f7) : k37.K w x [.int .i64 x.f0.f0, .int .i64 x.f0.f1, .int .i64 x.f0.f2, .int .i64 x.f0.f3, .int .i64 x.f0.f4, .int .i64 x.f0.f5, .int .i32 x.f0.f6, .slice A7 x.f0.f7.length c7, .int .i64 x.f1] := ⟨[.int .i64 x.f0.f0, .int .i64 x.f0.f1, .int .i64 x.f0.f2, .int .i64 x.f0.f3, .int .i64 x.f0.f4, .int .i64 x.f0.f5, .int .i32 x.f0.f6, .slice A7 x.f0.f7.length c7], [.int .i64 x.f1], rfl, (k35_mk w x.f0 l7 g7), rfl⟩
theorem k37_mkM (w : World) (base : Nat) (ok : Nat → Prop) (x : S37) {v7 : Value} (g7 : (Kd.int .i64).R 3 w base ok v7 x.f0.f7) : k37.M w base ok x [.int .i64 x.f0.f0, .int .i64 x.f0.f1, .int .i64 x.f0.f2, .int .i64 x.f0.f3, .int .i64 x.f0.f4, .int .i64 x.f0.f5, .int .i32 x.f0.f6, v7, .int .i64 x.f1] := ⟨[.int .i64 x.f0.f0, .int .i64 x.f0.f1, .int .i64 x.f0.f2, .int .i64 x.f0.f3, .int .i64 x.f0.f4, .int .i64 x.f0.f5, .int .i32 x.f0.f6, v7], [.int .i64 x.f1], rfl, (k35_mkM w base ok x.f0 g7), rfl⟩
def rd_T37 (xs : List S37) (i : Int) : S37 := xs.getD i.toNat z37
theorem at_T37 {w : World} {A : Option Addr} {n : Nat} {xs : List S37} (h : Kd.C k37 w A n xs) (i : Int) (h0 : 0 ≤ i) (h1 : i < n) : ∃ ad A7 c7, A = some ad ∧ w.cell? (ad.add (i.toNat * 9)) = some (.int .i64 (rd_T37 xs i).f0.f0) ∧ w.cell? ⟨(ad.add (i.toNat * 9)).block, (ad.add (i.toNat * 9)).off + 1, none⟩ = some (.int .i64 (rd_T37 xs i).f0.f1) ∧ w.cell? ⟨(ad.add (i.toNat * 9)).block, (ad.add (i.toNat * 9)).off + 2, none⟩ = some (.int .i64 (rd_T37 xs i).f0.f2) ∧ w.cell? ⟨(ad.add (i.toNat * 9)).block, (ad.add (i.toNat * 9)).off + 3, none⟩ = some (.int .i64 (rd_T37 xs i).f0.f3) ∧ w.cell? ⟨(ad.add (i.toNat * 9)).block, (ad.add (i.toNat * 9)).off + 4, none⟩ = some (.int .i64 (rd_T37 xs i).f0.f4) ∧ w.cell? ⟨(ad.add (i.toNat * 9)).block, (ad.add (i.toNat * 9)).off + 5, none⟩ = some (.int .i64 (rd_T37 xs i).f0.f5) ∧ w.cell? ⟨(ad.add (i.toNat * 9)).block, (ad.add (i.toNat * 9)).off + 6, none⟩ = some (.int .i32 (rd_T37 xs i).f0.f6) ∧ w.cell? ⟨(ad.add (i.toNat * 9)).block, (ad.add (i.toNat * 9)).off + 7, none⟩ = some (.slice A7 (rd_T37 xs i).f0.f7.length c7) ∧ w.cell? ⟨(ad.add (i.toNat * 9)).block, (ad.add (i.toNat * 9)).off + 8, none⟩ = some (.int .i64 (rd_T37 xs i).f1) ∧ (rd_T37 xs i).f0.f7.length ≤ c7 ∧ (Kd.int .i64).C w A7 (rd_T37 xs i).f0.f7.length (rd_T37 xs i).f0.f7 := by
 obtain ⟨ad, c, e, _, hK, hc0⟩ := Kd.C_get h z37 i h0 h1
 have hc : ∀ j u, c[j]? = some u → w.cell? (ad.add (i.toNat * 9 + j)) = some u := hc0
 obtain ⟨A7, c7, rfl, l7, g7⟩ := k37_open hK
 exact ⟨ad, A7, c7, e, hc 0 _ rfl, by rw [← add_field _ _ 1 (by omega)]; exact hc 1 _ rfl, by rw [← add_field _ _ 2 (by omega)]; exact hc 2 _ rfl, by rw [← add_field _ _ 3 (by omega)]; exact hc 3 _ rfl, by rw [← add_field _ _ 4 (by omega)]; exact hc 4 _ rfl, by rw [← add_field _ _ 5 (by omega)]; exact hc 5 _ rfl, by rw [← add_field _ _ 6 (by omega)]; exact hc 6 _ rfl, by rw [← add_field _ _ 7 (by omega)]; exact hc 7 _ rfl, by rw [← add_field _ _ 8 (by omega)]; exact hc 8 _ rfl, l7, g7⟩
end Go.Proofs.Ytocndmielggnpaa.PAll
end
section
namespace Go.Proofs.Ytocndmielggnpaa.PAll
open Go.RowKit Go.Proofs.YtocndmielggnpaaW.PrintWords Go.Proofs.YtocndmielggnpaaW.PrintLast Go.Proofs.YtocndmielggnpaaW.PrintMore
open Go.Proofs.Ytocndmielggnpaa.AMap Go.Proofs.Ytocndmielggnpaa.Env
attribute [local go_sem] max2_int min2_int max_two min_two
structure Nd where
 pos : Int
 ahead : Int
 far : Int
 frm : Int
 beh : List (Int × Int)
def edgeCells (l : List (Int × Int)) : List Value := l.flatMap fun p => [.int .i64 p.1, .int .i64 p.2]
theorem edgeCells_len (l : List (Int × Int)) : (edgeCells l).length = l.length * 2 := by
 induction l with
 | nil => rfl
 | cons p l ih => simp only [edgeCells, List.flatMap_cons, List.length_append, List.length_cons, List.length_nil] at ih ⊢; omega
theorem edgeCells_snoc (l : List (Int × Int)) (p : Int × Int) : edgeCells (l ++ [p]) = edgeCells l ++ [.int .i64 p.1, .int .i64 p.2] := by simp [edgeCells]
def NodeRep (E : Env) (j : Nat) (b : Nat) (x : Nd) : Prop :=
 ∃ v, E (0, j) = some (b, .cells #[.int .i64 x.pos, .int .i64 x.ahead, .int .i64 x.far, .int .i64 x.frm, v] 61) ∧ IsRow E (1, j) v 73 2 (edgeCells x.beh)
def NodesRep (E : Env) (nb : Nat → Nat) (xs : List Nd) : Prop := ∀ j x, xs[j]? = some x → NodeRep E j (nb j) x
def afterP (xs : List Nd) (m : Nat) (i : Int) (p : Nat × Int) : List Nd :=
 (xs.modify p.1 fun x => { x with beh := x.beh ++ [(i, p.2)] }).modify m fun x => { x with ahead := x.ahead + 1 }
theorem NodeRep.congr {E E' : Env} {j b : Nat} {x : Nd} (h : NodeRep E j b x) (h0 : E' (0, j) = E (0, j)) (h1 : E' (1, j) = E (1, j)) : NodeRep E' j b x := by
 obtain ⟨v, a, r⟩ := h
 exact ⟨v, h0.trans a, r.congr h1⟩
theorem NodesRep.congr {E E' : Env} {nb : Nat → Nat} {xs : List Nd} (h : NodesRep E nb xs) (h0 : ∀ j : Nat, E' (0, j) = E (0, j)) (h1 : ∀ j : Nat, E' (1, j) = E (1, j)) : NodesRep E' nb xs :=
 fun j x hx => (h j x hx).congr (h0 j) (h1 j)
theorem info73 : (Try.prog.info? 73).map (fun i => (i.zero, i.size, i.bytes)) = some (some (.agg #[.int .i64 0, .int .i64 0]), 2, 16) := by kernel_rfl
set_option maxHeartbeats 2000000 in
set_option maxRecDepth 100000 in
theorem after_calls (k m n rb bN bi bp : Nat) (late i : Int) (ps : List Value) (nb : Nat → Nat) (xs : List Nd) (w0 w : World) (E : Env) (hS : Sat w0 w E)
    (hN : E (6, 0) = some (bN, .cells #[.slice (some ⟨rb, 0, none⟩) n n] 56)) (hR : E (5, 0) = some (rb, .row 58 1 n ps n)) (hk : ps[k]? = some (.pointer (some ⟨nb k, 0, none⟩)))
    (hI : E (7, 0) = some (bi, .cells #[.int .i64 i] 3)) (hP : E (8, 0) = some (bp, .cells #[.pointer (some ⟨nb m, 0, none⟩)] 58))
    (hkm : k < m) (hm : m < xs.length) (hx : NodesRep E nb xs) (hb : ∀ x ∈ xs, x.beh.length ≤ 1000000000000 ∧ 0 ≤ x.ahead ∧ x.ahead ≤ 1000000000000000000) :
    Calls Try.prog 50 #[.int .i64 k, .int .i64 late, .pointer (some ⟨bN, 0, none⟩), .pointer (some ⟨bi, 0, none⟩), .pointer (some ⟨bp, 0, none⟩)] w fun e w' =>
     e = .returned (.tuple #[]) ∧ ∃ E', Sat w0 w' E' ∧ (∀ τ : Tag, τ.1 ≠ 0 → τ.1 ≠ 1 → E' τ = E τ) ∧ NodesRep E' nb (afterP xs m i (k, late)) := by
 obtain ⟨x, hxk⟩ : ∃ x, xs[k]? = some x := ⟨_, List.getElem?_eq_getElem (by omega)⟩
 obtain ⟨y, hxm⟩ : ∃ y, xs[m]? = some y := ⟨_, List.getElem?_eq_getElem hm⟩
 obtain ⟨v, hv0, hv1⟩ := hx k x hxk
 obtain ⟨u, hu0, hu1⟩ := hx m y hxm
 have hbx := hb x (List.mem_of_getElem? hxk)
 have hby := hb y (List.mem_of_getElem? hxm)
 have hrow : w.ownsRow 0 58 1 (.slice (some ⟨rb, 0, none⟩) n n) n ps := hS.holds _ _ _ hR
 have hkn : k < n := by have h1 := hrow.1; have h2 := (List.getElem?_eq_some_iff.1 hk).1; omega
 have hn9 : n ≤ 9223372036854775807 := by
  rcases hrow.2 with ⟨h, _⟩ | ⟨_, _, _, h, _, _, _, h2, _⟩
  · simp at h
  · simp only [Value.slice.injEq] at h; obtain ⟨_, _, rfl⟩ := h; exact h2
 have s0 : w.cell? ⟨bN, 0, none⟩ = some (.slice (some ⟨rb, 0, none⟩) n n) := (hS.cell hN 0).trans rfl
 have s1 : w.cell? ⟨rb, k, none⟩ = some (.pointer (some ⟨nb k, 0, none⟩)) := by have := hrow.cells (g := rb) rfl k _ hk; rwa [add_plain] at this
 have s2 : w.cell? ⟨nb k, 4, none⟩ = some v := (hS.cell hv0 4).trans rfl
 have s3 : w.cell? ⟨bi, 0, none⟩ = some (.int .i64 i) := (hS.cell hI 0).trans rfl
 obtain ⟨nx, hnx, hox, A, c, rfl, hac⟩ := hv1.owns hS.drew (by decide)
 have hnx2 : nx = x.beh.length := by have := edgeCells_len x.beh; omega
 subst hnx2
 have Hb := Aside0.mk hb
 have Hxk := Aside0.mk hxk
 have Hxm := Aside0.mk hxm
 have HS := Aside0.mk hS
 have HN := Aside0.mk hN
 have HR := Aside0.mk hR
 have HI := Aside0.mk hI
 have HP := Aside0.mk hP
 have HX := Aside0.mk hx
 have HV0 := Aside0.mk hv0
 have HU0 := Aside0.mk hu0
 have HV1 := Aside0.mk hv1
 have HU1 := Aside0.mk hu1
 have HOX := Aside0.mk hox
 have S0 := Aside0.mk s0
 have S1 := Aside0.mk s1
 have S2 := Aside0.mk s2
 have S3 := Aside0.mk s3
 have HK := Aside0.mk hk
 clear hb hxk hxm hS hN hR hI hP hx hv0 hu0 hv1 hu1 hrow hk s0 s1 s2 s3 hnx hox
 go_enter Try.func50, Try.ntmps50
 go_wp2
 refine start_ (n := 19) (S := fun w' => w'.cell? ⟨bN, 0, none⟩ = some (.slice (some ⟨rb, 0, none⟩) n n) ∧ w'.cell? ⟨rb, k, none⟩ = some (.pointer (some ⟨nb k, 0, none⟩)) ∧ w'.cell? ⟨nb k, 4, none⟩ = some (.slice A x.beh.length c) ∧ w'.cell? ⟨bi, 0, none⟩ = some (.int .i64 i)) (ds := [18]) (bm 19 0) (by kernel_rfl) rfl rfl ⟨S0.out, S1.out, S2.out, S3.out⟩ (fun hHeld => ?_)
 refine pu 1 8 (bm 19 2) rfl rfl (by kernel_rfl) (fun _ _ _ h => h) (by rfl) (v := ?_) (a' := ?_) (by intro w'; go_simp; with_reducible rfl) (by simp only [np]; rfl) ?_
 refine pu 5 12 (bm 19 34) rfl rfl (by kernel_rfl) (fun _ _ _ h => h) (by rfl) (v := ?_) (a' := ?_) (by intro w'; go_simp; with_reducible rfl) (by simp only [np]; rfl) ?_
 refine pu 12 19 (bm 19 4130) rfl rfl (by kernel_rfl) (fun _ _ _ h => h) (by rfl) (v := ?_) (a' := ?_) (by intro w'; go_simp; with_reducible rfl) (by simp only [np]; rfl) ?_
 refine tu 0 7 (bm 19 4131) rfl rfl (by kernel_rfl) (fun _ _ _ h => h) (by rfl) (v := ?_) (a' := ?_) (by rintro w' ⟨s0, s1, s2, s3⟩; go_simp; with_reducible rfl) hHeld (by simp only [np]; rfl) ?_
 refine pu 2 9 (bm 19 4135) rfl rfl (by kernel_rfl) (fun _ _ _ h => h) (by rfl) (v := ?_) (a' := ?_) (by intro w'; go_simp; with_reducible rfl) (by simp only [np]; rfl) ?_
 refine tu 3 10 (bm 19 4143) rfl rfl (by kernel_rfl) (fun _ _ _ h => h) (by rfl) (v := ?_) (a' := ?_) (by rintro w' ⟨s0, s1, s2, s3⟩; go_simp; with_reducible rfl) hHeld (by simp only [np]; rfl) ?_
 refine tu 4 11 (bm 19 4159) rfl rfl (by kernel_rfl) (fun _ _ _ h => h) (by rfl) (v := ?_) (a' := ?_) (by rintro w' ⟨s0, s1, s2, s3⟩; go_simp; with_reducible rfl) hHeld (by simp only [np]; rfl) ?_
 refine pu 6 13 (bm 19 4223) rfl rfl (by kernel_rfl) (fun _ _ _ h => h) (by rfl) (v := ?_) (a' := ?_) (by intro w'; go_simp; with_reducible rfl) (by simp only [np]; rfl) ?_
 refine tu 7 14 (bm 19 4351) rfl rfl (by kernel_rfl) (fun _ _ _ h => h) (by rfl) (v := ?_) (a' := ?_) (by rintro w' ⟨s0, s1, s2, s3⟩; go_simp; with_reducible rfl) hHeld (by simp only [np]; rfl) ?_
 refine pu 8 15 (bm 19 4607) rfl rfl (by kernel_rfl) (fun _ _ _ h => h) (by rfl) (v := ?_) (a' := ?_) (by intro w'; go_simp; with_reducible rfl) (by simp only [np]; rfl) ?_
 refine pu 9 16 (bm 19 5119) rfl rfl (by kernel_rfl) (fun _ _ _ h => h) (by rfl) (v := ?_) (a' := ?_) (by intro w'; go_simp; with_reducible rfl) (by simp only [np]; rfl) ?_
 refine tu 10 17 (bm 19 6143) rfl rfl (by kernel_rfl) (fun _ _ _ h => h) (by rfl) (v := ?_) (a' := ?_) (by rintro w' ⟨s0, s1, s2, s3⟩; go_simp; with_reducible rfl) hHeld (by simp only [np]; rfl) ?_
 refine tu 11 18 (bm 19 8191) rfl rfl (by kernel_rfl) (fun _ _ _ h => h) (by rfl) (v := ?_) (a' := ?_) (by rintro w' ⟨s0, s1, s2, s3⟩; go_simp; with_reducible rfl) hHeld (by simp only [np]; rfl) ?_
 refine pu 13 20 (bm 19 16383) rfl rfl (by kernel_rfl) (fun _ _ _ h => h) (by rfl) (v := ?_) (a' := ?_) (by intro w'; go_simp; with_reducible rfl) (by simp only [np]; rfl) ?_
 refine one_ (i := 14) (N := some 21) (bm 19 32767) rfl rfl (by kernel_rfl) (by decide) (fun K hK => ?_)
 refine value_ (w1 := ?_) (v := ?_) (by rfl) rfl ?_ ?_
 rotate_left 2
 · go_simp
   constructor
   · rfl
   · rfl
 refine hK.out _ _ ⟨(World.cell?_alloc_lt _ _ _ (World.block_lt_of_cell? _ _ (hHeld.1))).trans (hHeld.1), (World.cell?_alloc_lt _ _ _ (World.block_lt_of_cell? _ _ (hHeld.2.1))).trans (hHeld.2.1), (World.cell?_alloc_lt _ _ _ (World.block_lt_of_cell? _ _ (hHeld.2.2.1))).trans (hHeld.2.2.1), (World.cell?_alloc_lt _ _ _ (World.block_lt_of_cell? _ _ (hHeld.2.2.2))).trans (hHeld.2.2.2)⟩ (fun hHeld => ?_)
 clear hK K
 refine norm_ (a' := ?_) ?_ ?_
 rotate_left
 · show Act.put _ (some 21) _ = _; simp only [np]; rfl
 refine one_ (i := 15) (N := some 22) (bm 19 65535) rfl rfl (by kernel_rfl) (by decide) (fun K hK => ?_)
 refine step_append_cells (w0 := w0) 0 (by rfl) (.tmp 17) (.tmp 21) 59 73 (.agg #[.int .i64 0, .int .i64 0]) 2 16 rfl Try.underlying59 info73 rfl (by decide) (by decide) (.slice A x.beh.length c) x.beh.length (edgeCells x.beh) [.int .i64 i, .int .i64 late] (by rfl) (by rfl) rfl (by simp [Value.oneCell']) HOX.out ((HS.out.drew.below).mono (Nat.zero_le _)) (Nat.zero_le _) (by omega) ?_
 intro v1 w1 ho1 hb1 hg1 hat1
 obtain ⟨o, hS1, hr1⟩ := HS.out.drew.regrow HV1.out hg1 ho1 hat1
 obtain ⟨A1, c1, rfl⟩ := own_slice ho1
 have HS1 := Aside0.mk hS1
 have HR1 := Aside0.mk hr1
 have fz : w1.frozen? ⟨nb k, 4, none⟩ = false := hS1.free ((set_fst E o (by decide)).trans HV0.out) 4
 clear hS1 hr1 ho1 hb1 hg1 hat1
 refine hK.out _ _ ⟨(HS1.out.cell ((set_fst E o (by decide)).trans HN.out) 0).trans rfl, (HS1.out.rowCell ((set_fst E o (by decide)).trans HR.out) k hkn).trans HK.out, (HS1.out.cell ((set_fst E o (by decide)).trans HV0.out) 4).trans rfl, (HS1.out.cell ((set_fst E o (by decide)).trans HI.out) 0).trans rfl⟩ (fun hHeld => ?_)
 clear hK K
 refine norm_ (a' := ?_) ?_ ?_
 rotate_left
 · show Act.put _ (some 22) _ = _; simp only [np]; rfl
 refine pu 16 23 (bm 19 131071) rfl rfl (by kernel_rfl) (fun _ _ _ h => h) (by rfl) (v := ?_) (a' := ?_) (by intro w'; go_simp; with_reducible rfl) (by simp only [np]; rfl) ?_
 refine pu 17 24 (bm 19 262143) rfl rfl (by kernel_rfl) (fun _ _ _ h => h) (by rfl) (v := ?_) (a' := ?_) (by intro w'; go_simp; with_reducible rfl) (by simp only [np]; rfl) ?_
 refine last_ (i := 18) (N := none) (bm 19 524287) rfl rfl (by kernel_rfl) (by decide) (fun K hK => ?_)
 refine skip_ (w1 := ?_) (by rfl) rfl ?_ ?_
 rotate_left
 · go_simp; rfl
 refine hK.out _ _ ?_
 clear hK K
 refine done_ (by kernel_rfl) ?_
 have hkm' : ((m : Int)) ≠ (k : Int) := by omega
 have hS2 := HS1.out.store ((set_fst E o (by decide)).trans HV0.out) 4 (.slice A1 (x.beh.length + 1) c1)
 have e1 : ∀ τ : Tag, τ.1 ≠ 0 → τ.1 ≠ 1 → Env.set (Env.set E (1, (k : Int)) o) (0, (k : Int)) (some (nb k, .cells (#[.int .i64 x.pos, .int .i64 x.ahead, .int .i64 x.far, .int .i64 x.frm, .slice A x.beh.length c].setIfInBounds 4 (.slice A1 (x.beh.length + 1) c1)) 61)) τ = E τ := by
  intro τ h0 h1
  rw [set_ne _ _ (fun e => h0 (by rw [e])), set_ne _ _ (fun e => h1 (by rw [e]))]
 have hu2 : Env.set (Env.set E (1, (k : Int)) o) (0, (k : Int)) (some (nb k, .cells (#[.int .i64 x.pos, .int .i64 x.ahead, .int .i64 x.far, .int .i64 x.frm, .slice A x.beh.length c].setIfInBounds 4 (.slice A1 (x.beh.length + 1) c1)) 61)) (0, (m : Int)) = E (0, (m : Int)) := by
  rw [set_ne _ _ (by simpa using hkm'), set_ne _ _ (by simp)]
 have d0 := (hS2.cell ((e1 (8, 0) (by decide) (by decide)).trans HP.out) 0).trans rfl
 have d1 := (hS2.cell (hu2.trans HU0.out) 1).trans rfl
 have d2 := hS2.free (hu2.trans HU0.out) 1
 have HS2 := Aside0.mk hS2
 have E1 := Aside0.mk e1
 have HU2 := Aside0.mk hu2
 have hy1 := hby.2.1
 have hy2 := hby.2.2
 clear hS2 e1 hu2 hHeld fz hby hbx; go_wp2
 go_end0
 refine ⟨rfl, _, HS2.out.store (HU2.out.trans HU0.out) 1 (.int .i64 (y.ahead + 1)), ?_, ?_⟩
 · intro τ h0 h1
   rw [set_ne _ _ (fun e => h0 (by rw [e]))]
   exact E1.out τ h0 h1
 · intro j z hz
   have hE0 : ∀ j : Nat, j ≠ k → j ≠ m → ∀ v, NodeRep E j (nb j) v → NodeRep (Env.set (Env.set (Env.set E (1, (k : Int)) o) (0, (k : Int)) (some (nb k, .cells (#[.int .i64 x.pos, .int .i64 x.ahead, .int .i64 x.far, .int .i64 x.frm, .slice A x.beh.length c].setIfInBounds 4 (.slice A1 (x.beh.length + 1) c1)) 61))) (0, (m : Int)) (some (nb m, .cells (#[.int .i64 y.pos, .int .i64 y.ahead, .int .i64 y.far, .int .i64 y.frm, u].setIfInBounds 1 (.int .i64 (y.ahead + 1))) 61))) j (nb j) v := by
    intro j h1 h2 v hv
    refine hv.congr ?_ ?_
    · rw [set_ne _ _ (by simp only [ne_eq, Prod.mk.injEq, true_and]; omega), set_ne _ _ (by simp only [ne_eq, Prod.mk.injEq, true_and]; omega), set_ne _ _ (by simp)]
    · rw [set_ne _ _ (by simp), set_ne _ _ (by simp), set_ne _ _ (by simp only [ne_eq, Prod.mk.injEq, true_and]; omega)]
   simp only [afterP, List.getElem?_modify] at hz
   by_cases h1 : j = k
   · subst h1
     rw [Hxk.out] at hz
     simp only [Option.map_eq_map, Option.map_some, if_true, if_neg (show ¬ m = j from by omega), Option.some.injEq] at hz
     subst hz
     refine ⟨.slice A1 (x.beh.length + 1) c1, ?_, ?_⟩
     · rw [set_ne _ _ (by simp; omega), set_same]
       rfl
     · refine (show IsRow _ (1, (j : Int)) _ 73 2 _ from ?_)
       rw [edgeCells_snoc]
       exact HR1.out.congr (by rw [set_ne _ _ (by simp), set_ne _ _ (by simp)])
   · by_cases h2 : j = m
     · subst h2
       rw [Hxm.out] at hz
       simp only [Option.map_eq_map, Option.map_some, if_true, if_neg (show ¬ k = j from by omega), Option.some.injEq] at hz
       subst hz
       refine ⟨u, ?_, ?_⟩
       · rw [set_same]
         rfl
       · exact HU1.out.congr (by rw [set_ne _ _ (by simp), set_ne _ _ (by simp), set_ne _ _ (by simp only [ne_eq, Prod.mk.injEq, true_and]; omega)])
     · simp only [if_neg (show ¬ m = j from fun e => h2 e.symm), if_neg (show ¬ k = j from fun e => h1 e.symm), Option.map_eq_map, Option.map_id_fun', id_eq] at hz
       exact hE0 j h1 h2 z (HX.out j z hz)
end Go.Proofs.Ytocndmielggnpaa.PAll
end
section
namespace Go.Proofs.Ytocndmielggnpaa.PAll
open Go.RowKit Go.Proofs.YtocndmielggnpaaW.PrintWords Go.Proofs.YtocndmielggnpaaW.PrintLast Go.Proofs.YtocndmielggnpaaW.PrintMore
open Go.Proofs.Ytocndmielggnpaa.AMap
attribute [local go_sem] max2_int min2_int max_two min_two
theorem C_int_at {w : World} {A : Option Addr} {l : List Int} (h : (Kd.int .i64).C w A l.length l) (k : Nat) (hk : k < l.length) : ∃ ad, A = some ad ∧ w.cell? (ad.add k) = some (.int .i64 (l.getD k 0)) := by
 obtain ⟨ad, e, hc⟩ := h.2.2 (by omega)
 obtain ⟨c, h1, h2, h3⟩ := hc k (l.getD k 0) (by simp [List.getElem?_eq_getElem hk, List.getD_eq_getElem?_getD])
 have h2' : c = [.int .i64 (l.getD k 0)] := h2
 subst h2'
 exact ⟨ad, e, by simpa [Kd.int, Kd.scalar] using h3 0 _ rfl⟩
def issueP (g : Int → Int) (m : Int) (l : List Int) : Int := l.foldl (fun n p => max n (g p)) (m + 1)
theorem issueP_snoc (g : Int → Int) (m : Int) (l : List Int) (k : Nat) (hk : k < l.length) : issueP g m (l.take (k + 1)) = max (issueP g m (l.take k)) (g (l.getD k 0)) := by
 unfold issueP
 rw [List.take_succ_eq_append_getElem hk, List.foldl_append]
 simp [List.getD_eq_getElem?_getD, List.getElem?_eq_getElem hk]
theorem issueP_le (g : Int → Int) (m B : Int) (hB : ∀ p, g p ≤ B) (hm : m + 1 ≤ B) : ∀ l : List Int, issueP g m l ≤ B := by
 intro l
 unfold issueP
 generalize hx : m + 1 = x at hm
 clear hx
 induction l generalizing x with
 | nil => simpa using hm
 | cons p l ih => exact ih _ (by have := hB p; show max x (g p) ≤ B; omega)
theorem issueP_ge (g : Int → Int) (m : Int) : ∀ l : List Int, m + 1 ≤ issueP g m l := by
 intro l
 unfold issueP
 generalize m + 1 = x
 induction l generalizing x with
 | nil => simp
 | cons p l ih => exact Int.le_trans (by omega) (ih (max x (g p)))
set_option maxHeartbeats 1000000 in
theorem issue_calls (bn br bm : Nat) (A : Option Addr) (c : Nat) (l : List Int) (m : Int) (f : Int → Option Value) (g : Int → Int) (w : World)
    (hl : Kd.C (Kd.int .i64) w A l.length l) (hc : l.length ≤ c) (hn : w.heap[bn]? = some (.cells #[.int .i64 m] 3 (0, 0)))
    (hr : w.heap[br]? = some (.cells #[.map (some bm)] 50 (0, 0))) (hm : MapFn w bm f) (hg : ∀ p, (f p).getD (.int .i64 0) = .int .i64 (g p))
    (h0 : -1 ≤ m) (h1 : m ≤ 4000000000000000000) (hgb : ∀ p, g p ≤ 4000000000000000000) (hne : ∀ ad, A = some ad → 0 < l.length → ad.block ≠ bn) :
    Calls Try.prog 22 #[.slice A l.length c, .pointer (some ⟨bn, 0, none⟩), .pointer (some ⟨br, 0, none⟩)] w fun e w' =>
     e = .returned (.tuple #[]) ∧ w'.heap[bn]? = some (.cells #[.int .i64 (issueP g m l)] 3 (0, 0)) ∧ w.grownBy w' (some bn) := by
 have c0 := cell_of_one hn
 have f0 := free_of_one hn
 have hl9 : l.length ≤ 9223372036854775807 := hl.2.1
 have HG := Aside0.mk hg
 have HL := Aside0.mk hl
 have HM := Aside0.mk hm
 have HN := Aside0.mk hn
 have HR := Aside0.mk hr
 have HGB := Aside0.mk hgb
 have HNE := Aside0.mk hne
 clear hg hl hm hn hr hgb hne
 go_enter Try.func22, Try.ntmps22
 go_wp2
 go_loopw [10] (fun v10 wr => ∃ k : Nat, k ≤ l.length ∧ v10 = .int .i64 k ∧ Aside0 (wr.heap[bn]? = some (.cells #[.int .i64 (issueP g m (l.take k))] 3 (0, 0))) ∧ Aside0 (w.grownBy wr (some bn))) (fun v10 _ => l.length - (intOf v10).toNat)
 case atStart => exact ⟨0, Nat.zero_le _, rfl, ⟨by simpa [issueP] using one_setCell HN.out⟩, ⟨rfl, rfl, rfl, by simp [World.setCell], fun i _ hi => Below.heap_setCell _ _ _ _ (fun e => hi (by rw [e]))⟩⟩
 case round =>
  obtain ⟨k, hk, rfl, HX, HW⟩ := hrel
  have hx0 := issueP_ge g m (l.take k)
  have hx1 := issueP_le g m 4000000000000000001 (fun p => by have := HGB.out p; omega) (by omega) (l.take k)
  obtain ⟨x, hx⟩ : ∃ x, x = issueP g m (l.take k) := ⟨_, rfl⟩
  rw [← hx] at hx0 hx1 HX
  have Hx := Aside0.mk hx
  clear hx
  have c1 := cell_of_one HX.out
  have f1 := free_of_one HX.out
  by_cases hlt : k < l.length
  · obtain ⟨ad, e, hcell⟩ := C_int_at HL.out k hlt
    subst e
    have hb := HNE.out ad rfl (by omega)
    have hcell' : wr.cell? (ad.add k) = some (.int .i64 (l.getD k 0)) := by
     rw [← hcell]
     have hlt' := World.block_lt_of_cell? _ _ hcell
     have hab : (ad.add k).block = ad.block := by unfold Addr.add; split <;> rfl
     exact World.cell?_of_block (w := w) (HW.out.block _ hlt' (by rw [hab]; simpa using hb))
    obtain ⟨p, hp⟩ : ∃ p, p = l.getD k 0 := ⟨_, rfl⟩
    rw [← hp] at hcell'
    have Hp := Aside0.mk hp
    clear hp hcell hb
    have hbr : wr.heap[br]? = some (.cells #[.map (some bm)] 50 (0, 0)) := by
     rw [HW.out.block br (lt_of_block HR.out) ?_]
     · exact HR.out
     · intro e
       simp only [Option.some.injEq] at e
       have h1 := HN.out
       rw [← e, HR.out] at h1
       simp at h1
    have c2 := cell_of_one hbr
    have Hbr := Aside0.mk hbr
    clear hbr
    have hbm : MapFn wr bm f := HM.out.grown HW.out (by
     have := HM.out.ne_cells HN.out
     simpa using fun e => this e.symm)
    have hz : ∀ w, (zeroValue 3).run Try.prog w = .ok (.int .i64 0) w := fun w => by kernel_rfl
    have hlook := hbm.lookup Try.underlying50 Try.underlying3 (hz wr) p
    rw [HG.out] at hlook
    have hgp := HGB.out p
    obtain ⟨q, hq⟩ : ∃ q, q = g p := ⟨_, rfl⟩
    rw [← hq] at hlook hgp
    have Hq := Aside0.mk hq
    clear hq hz hbm; go_wp2
    go_roundw
    case rel =>
     refine ⟨k + 1, by omega, by go_num, ⟨?_⟩, ⟨?_⟩⟩
     · have e1 : (if x < q then q else x) = issueP g m (l.take (k + 1)) := by
        rw [issueP_snoc g m l k hlt, ← Hx.out, ← Hp.out, ← Hq.out]
        split <;> omega
       rw [e1]
       exact one_setCell HX.out
     · exact HW.out.trans ⟨rfl, rfl, rfl, by simp [World.setCell], fun i _ hi => Below.heap_setCell _ _ _ _ (fun e => hi (by rw [e]))⟩
    case measure => simp [intOf]; omega
  · go_wp2
    go_end0
    refine ⟨rfl, ?_, HW.out⟩
    have hkl : k = l.length := by omega
    rw [HX.out, Hx.out, hkl, List.take_length]
end Go.Proofs.Ytocndmielggnpaa.PAll
end
section
namespace Go.Proofs.Ytocndmielggnpaa.Kind
open Go Go.RowKit Go.Proofs.Ytocndmielggnpaa.AMap
def ag (t m : Nat) : Value := .agg #[.func (.func t) #[] #[], .func (.func m) #[] #[]]
/-- The table of the literal. -/
def tbl (op : Int) : Option (Nat × Nat) := (upd (upd (upd (upd (upd (upd (upd (upd (upd (upd (upd (upd (upd (fun _ => none) 1 (some (70, 69))) 2 (some (71, 71))) 3 (some (68, 69))) 4 (some (68, 69))) 23 (some (72, 69))) 24 (some (70, 69))) 25 (some (71, 69))) 26 (some (71, 68))) 27 (some (72, 68))) 28 (some (73, 69))) 29 (some (71, 74))) 30 (some (68, 69))) 31 (some (70, 68))) op
def kt (op : Int) : Nat × Nat := (tbl op).getD (if 5 ≤ op ∧ op ≤ 17 then (71, 69) else if 18 ≤ op ∧ op ≤ 22 then (70, 69) else (68, 68))
theorem tbl_eq (op : Int) : (upd (upd (upd (upd (upd (upd (upd (upd (upd (upd (upd (upd (upd (fun _ => none) 1 (some (ag 70 69))) 2 (some (ag 71 71))) 3 (some (ag 68 69))) 4 (some (ag 68 69))) 23 (some (ag 72 69))) 24 (some (ag 70 69))) 25 (some (ag 71 69))) 26 (some (ag 71 68))) 27 (some (ag 72 68))) 28 (some (ag 73 69))) 29 (some (ag 71 74))) 30 (some (ag 68 69))) 31 (some (ag 70 68))) op = (tbl op).map fun p => ag p.1 p.2 := by
 unfold tbl
 simp only [map_upd, Option.map_some, Option.map_none]
set_option maxHeartbeats 1000000 in
set_option maxRecDepth 100000 in
theorem kindOf_calls (op : Int) (w : World) :
    Calls Try.prog 62 #[.int .i64 op] w fun e w' => e = .returned (ag (kt op).1 (kt op).2) ∧ Below w.heap.size w w' := by
 have hmm := @run_makeMap Try.prog
 have h : MapFn ((w.alloc (.cells #[.nilFunc, .nilFunc] 98)).alloc (.map #[] 0)) (w.heap.size+1) (fun _ => none) := by simpa using MapFn.made (w.alloc (.cells #[.nilFunc, .nilFunc] 98))
 have HB : Below w.heap.size w ((w.alloc (.cells #[.nilFunc, .nilFunc] 98)).alloc (.map #[] 0)) := ((Below.refl _ _).alloc (Nat.le_refl _) _).alloc (by simp) _
 have hR : ((w.alloc (.cells #[.nilFunc, .nilFunc] 98)).alloc (.map #[] 0)).heap[w.heap.size]? = some (.cells #[.nilFunc, .nilFunc] 98 (0, 0)) := ((World.grownBy_alloc _ _ none).block w.heap.size (by simp) (by simp)).trans (heap_alloc_new w _)
 have hz : ∀ w, (zeroValue 98).run Try.prog w = .ok (.agg #[.nilFunc, .nilFunc]) w := fun w => by kernel_rfl
 go_enter Try.func62, Try.ntmps62
 go_wp2_with (first | (refine wpList_ins _ rfl _ _ _ 103 3 98 rfl Try.underlying103 Try.underlying3 _ _ rfl h 1 (ag 70 69) rfl rfl ?_; intro w1 h1 hg1; replace HB := HB.grown hg1 (by have := HB.size; omega) (by simp); replace hR := (hg1.block _ (lt_of_block hR) (by simp)).trans hR; replace h := h1; clear h1 hg1) | (refine wpList_ins _ rfl _ _ _ 103 3 98 rfl Try.underlying103 Try.underlying3 _ _ rfl h 2 (ag 71 71) rfl rfl ?_; intro w1 h1 hg1; replace HB := HB.grown hg1 (by have := HB.size; omega) (by simp); replace hR := (hg1.block _ (lt_of_block hR) (by simp)).trans hR; replace h := h1; clear h1 hg1) | (refine wpList_ins _ rfl _ _ _ 103 3 98 rfl Try.underlying103 Try.underlying3 _ _ rfl h 3 (ag 68 69) rfl rfl ?_; intro w1 h1 hg1; replace HB := HB.grown hg1 (by have := HB.size; omega) (by simp); replace hR := (hg1.block _ (lt_of_block hR) (by simp)).trans hR; replace h := h1; clear h1 hg1) | (refine wpList_ins _ rfl _ _ _ 103 3 98 rfl Try.underlying103 Try.underlying3 _ _ rfl h 4 (ag 68 69) rfl rfl ?_; intro w1 h1 hg1; replace HB := HB.grown hg1 (by have := HB.size; omega) (by simp); replace hR := (hg1.block _ (lt_of_block hR) (by simp)).trans hR; replace h := h1; clear h1 hg1) | (refine wpList_ins _ rfl _ _ _ 103 3 98 rfl Try.underlying103 Try.underlying3 _ _ rfl h 23 (ag 72 69) rfl rfl ?_; intro w1 h1 hg1; replace HB := HB.grown hg1 (by have := HB.size; omega) (by simp); replace hR := (hg1.block _ (lt_of_block hR) (by simp)).trans hR; replace h := h1; clear h1 hg1) | (refine wpList_ins _ rfl _ _ _ 103 3 98 rfl Try.underlying103 Try.underlying3 _ _ rfl h 24 (ag 70 69) rfl rfl ?_; intro w1 h1 hg1; replace HB := HB.grown hg1 (by have := HB.size; omega) (by simp); replace hR := (hg1.block _ (lt_of_block hR) (by simp)).trans hR; replace h := h1; clear h1 hg1) | (refine wpList_ins _ rfl _ _ _ 103 3 98 rfl Try.underlying103 Try.underlying3 _ _ rfl h 25 (ag 71 69) rfl rfl ?_; intro w1 h1 hg1; replace HB := HB.grown hg1 (by have := HB.size; omega) (by simp); replace hR := (hg1.block _ (lt_of_block hR) (by simp)).trans hR; replace h := h1; clear h1 hg1) | (refine wpList_ins _ rfl _ _ _ 103 3 98 rfl Try.underlying103 Try.underlying3 _ _ rfl h 26 (ag 71 68) rfl rfl ?_; intro w1 h1 hg1; replace HB := HB.grown hg1 (by have := HB.size; omega) (by simp); replace hR := (hg1.block _ (lt_of_block hR) (by simp)).trans hR; replace h := h1; clear h1 hg1) | (refine wpList_ins _ rfl _ _ _ 103 3 98 rfl Try.underlying103 Try.underlying3 _ _ rfl h 27 (ag 72 68) rfl rfl ?_; intro w1 h1 hg1; replace HB := HB.grown hg1 (by have := HB.size; omega) (by simp); replace hR := (hg1.block _ (lt_of_block hR) (by simp)).trans hR; replace h := h1; clear h1 hg1) | (refine wpList_ins _ rfl _ _ _ 103 3 98 rfl Try.underlying103 Try.underlying3 _ _ rfl h 28 (ag 73 69) rfl rfl ?_; intro w1 h1 hg1; replace HB := HB.grown hg1 (by have := HB.size; omega) (by simp); replace hR := (hg1.block _ (lt_of_block hR) (by simp)).trans hR; replace h := h1; clear h1 hg1) | (refine wpList_ins _ rfl _ _ _ 103 3 98 rfl Try.underlying103 Try.underlying3 _ _ rfl h 29 (ag 71 74) rfl rfl ?_; intro w1 h1 hg1; replace HB := HB.grown hg1 (by have := HB.size; omega) (by simp); replace hR := (hg1.block _ (lt_of_block hR) (by simp)).trans hR; replace h := h1; clear h1 hg1) | (refine wpList_ins _ rfl _ _ _ 103 3 98 rfl Try.underlying103 Try.underlying3 _ _ rfl h 30 (ag 68 69) rfl rfl ?_; intro w1 h1 hg1; replace HB := HB.grown hg1 (by have := HB.size; omega) (by simp); replace hR := (hg1.block _ (lt_of_block hR) (by simp)).trans hR; replace h := h1; clear h1 hg1) | (refine wpList_ins _ rfl _ _ _ 103 3 98 rfl Try.underlying103 Try.underlying3 _ _ rfl h 31 (ag 70 68) rfl rfl ?_; intro w1 h1 hg1; replace HB := HB.grown hg1 (by have := HB.size; omega) (by simp); replace hR := (hg1.block _ (lt_of_block hR) (by simp)).trans hR; replace h := h1; clear h1 hg1))
 have hl := h.lookup_ok Try.underlying103 Try.underlying3 (hz _) op
 rw [tbl_eq] at hl
 clear h hz hmm
 obtain ⟨c0, c1, fr0, fr1⟩ : w1.cell? ⟨w.heap.size, 0, none⟩ = some .nilFunc ∧ w1.cell? ⟨w.heap.size, 1, none⟩ = some .nilFunc ∧ w1.frozen? ⟨w.heap.size, 0, none⟩ = false ∧ w1.frozen? ⟨w.heap.size, 1, none⟩ = false := by simp [World.cell?, World.frozen?, hR]
 have hsz := lt_of_block hR
 clear hR
 rw [hl]
 clear hl
 cases hp : tbl op with
 | none =>
  have hk : kt op = (if 5 ≤ op ∧ op ≤ 17 then (71, 69) else if 18 ≤ op ∧ op ≤ 22 then (70, 69) else (68, 68)) := by unfold kt; rw [hp]; rfl
  clear hp; simp only [Option.map_none, Option.getD_none, Option.isSome_none]; go_wp2
  all_goals first
   | (have hk' : kt op = (71, 69) := by rw [hk, if_pos (by omega)]
      exact bodyPost_ret (v := .agg #[.func (.func 71) #[] #[], .func (.func 69) #[] #[]]) (by simp [results, Try.results62, go_sem, c0, c1, hsz]) rfl ⟨by first | (rw [hk']; rfl) | rfl, by repeat (first | exact HB | refine Below.alloc ?_ (by have := HB.size; simp; omega) _ | refine Below.setCell ?_ (by simp) _)⟩)
   | (have hk' : kt op = (70, 69) := by rw [hk, if_neg (by omega), if_pos (by omega)]
      exact bodyPost_ret (v := .agg #[.func (.func 70) #[] #[], .func (.func 69) #[] #[]]) (by simp [results, Try.results62, go_sem, c0, c1, hsz]) rfl ⟨by first | (rw [hk']; rfl) | rfl, by repeat (first | exact HB | refine Below.alloc ?_ (by have := HB.size; simp; omega) _ | refine Below.setCell ?_ (by simp) _)⟩)
   | (have hk' : kt op = (68, 68) := by rw [hk, if_neg (by omega), if_neg (by omega)]
      exact bodyPost_ret (v := .agg #[.func (.func 68) #[] #[], .func (.func 68) #[] #[]]) (by simp [results, Try.results62, go_sem, c0, c1, hsz]) rfl ⟨by first | (rw [hk']; rfl) | rfl, by repeat (first | exact HB | refine Below.alloc ?_ (by have := HB.size; simp; omega) _ | refine Below.setCell ?_ (by simp) _)⟩)
 | some p =>
  have hk' : kt op = p := by unfold kt; rw [hp]; rfl
  clear hp; simp only [Option.map_some, Option.getD_some, Option.isSome_some, ag]; go_wp2
  exact bodyPost_ret (v := .agg #[.func (.func p.1) #[] #[], .func (.func p.2) #[] #[]]) (by simp [results, Try.results62, go_sem, c0, c1, hsz]) rfl ⟨by first | (rw [hk']; rfl) | rfl, by repeat (first | exact HB | refine Below.alloc ?_ (by have := HB.size; simp; omega) _ | refine Below.setCell ?_ (by simp) _)⟩
end Go.Proofs.Ytocndmielggnpaa.Kind
end
section
namespace Go.Proofs.Ytocndmielggnpaa.PAll
open Go.RowKit Go.Proofs.YtocndmielggnpaaW.PrintWords Go.Proofs.YtocndmielggnpaaW.PrintLast Go.Proofs.YtocndmielggnpaaW.PrintMore
def slices_Clone_int_int.f (l0 : List Int) : Option (List Int) := if l0.length < 17592186044416 then some l0 else none
set_option maxHeartbeats 1000000 in
theorem slices_Clone_int_int.calls (A0 : Option Addr) (c0 : Nat) (l0 : List Int) (r : List Int) (w : World) (hr0 : Kd.C (Kd.int .i64) w A0 l0.length l0) (hc0 : l0.length ≤ c0) (h : slices_Clone_int_int.f l0 = some r) :
    Calls Try.prog 58 #[.slice A0 l0.length c0] w fun e w' => ∃ v0_ : Value, e = .returned (v0_) ∧ Kd.R (Kd.int .i64) 3 w' w.heap.size (fun _ => True) v0_ r ∧ Below w.heap.size w w' := by
 obtain ⟨hlen, rfl⟩ : l0.length < 17592186044416 ∧ l0 = r := by
  unfold slices_Clone_int_int.f at h
  split at h
  · exact ⟨by assumption, by simpa using h⟩
  · simp at h
 clear h
 have qT : ∀ (w : World) (a : Option Addr) (n c n' c' : Nat), (binOp .eql 23 (.slice a n c) (.slice none n' c')).run Try.prog w = .ok (.bool a.isNone) w := fun w a n c n' c' => Lib.run_eql_slice_nil w _ _ a n c n' c' Try.underlying23
 cases A0 with
 | none =>
  obtain rfl : l0 = [] := by
   rcases Nat.eq_zero_or_pos l0.length with h0 | h0
   · exact List.eq_nil_of_length_eq_zero h0
   · obtain ⟨ad, e, _⟩ := hr0.2.2 h0
     simp at e
  clear hr0
  go_enter Try.func58, Try.ntmps58
  go_wp2; go_ret
  exact ⟨_, rfl, Kd.R_nil _ _ _ _ _, Below.refl _ _⟩
 | some ad =>
  have HR := Aside0.mk hr0
  clear hr0
  have HO := Aside0.mk (show (Kd.int .i64).R 3 (w.alloc (.cells #[] 3)) w.heap.size (fun _ => True) (.slice (some ⟨w.heap.size, 0, none⟩) 0 0) [] from Kd.R_of_own (by
   have h := World.ownsRow_lit (base := w.heap.size) (e := 3) (size := 1) w #[] 0 (Nat.le_refl _) (by simp [maxLen]) (by simp)
   simpa [encs] using h) (fun _ _ => trivial))
  have HB := Aside0.mk (show Below w.heap.size w (w.alloc (.cells #[] 3)) from (Below.refl _ _).alloc (Nat.le_refl _) _)
  go_enter Try.func58, Try.ntmps58
  go_wp2_with (refine Kd.R_append_row (Value.int .i64) 0 w.heap.size rfl (.tmp 5) (.tmp 6) 23 3 (.int .i64 0) 8 rfl Try.underlying23 info3 rfl (by decide) _ [] l0 (some ad) l0.length c0 (fun _ => True) rfl rfl (fun _ _ => trivial) HO.out (Kd.C_below HR.out (below_alloc (Below.refl _ _) _)) HB.out (by simp) (by simp; omega) ?_; intro v1 w1 h1 hb1 hg1 hat1; have H1 := Aside0.mk h1; have HB1 := Aside0.mk hb1; clear h1 hb1 hg1 hat1)
  go_ret
  exact ⟨_, rfl, H1.out, HB1.out⟩
end Go.Proofs.Ytocndmielggnpaa.PAll
end
