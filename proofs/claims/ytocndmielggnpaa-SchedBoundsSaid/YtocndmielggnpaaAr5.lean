/- Two descriptions in an array, opened. -/
import Derived.Test.YtocndmielggnpaaLw5
import Derived.Test.YtocndmielggnpaaM12
set_option linter.unusedSimpArgs false
set_option linter.unusedVariables false
section
namespace Go.Proofs.Ytocndmielggnpaa.PAll
open Go.RowKit Go.Proofs.YtocndmielggnpaaW.PrintWords Go.Proofs.YtocndmielggnpaaW.PrintLast Go.Proofs.YtocndmielggnpaaW.PrintMore
open Go.ChangeShapes Go.WideShapes Go.ChangeAt Go.Deep
section
variable {H : Type} {enc : TypeId × Value → H} {W : World}
set_option maxRecDepth 100000 in
theorem arg39 {v : Value} {d : DataW H} {p : List MemPlace} {r : Reach} {b0 : Nat} (hv : Value.okWide Try.prog W r b0 39 v) (h : DataW.Trod enc Try.prog W 0 (fun _ => true) true 39 v d p) : ∃ d0 d1 : De, v = .agg (d8Cells d0 d1) := by
 obtain ⟨cs, rfl, hsz⟩ : ∃ cs, v = .agg cs ∧ cs.size = Try.prog.cellsOf 39 := by
  simp only [Value.okWide, Try.underlying39] at hv
  obtain ⟨cs, h1, h2, _⟩ := hv
  exact ⟨cs, h1, h2⟩
 obtain ⟨l⟩ := cs
 rw [cells39] at hsz
 have hl : l.length = 8 := hsz
 obtain ⟨fuel, hf⟩ := h
 obtain ⟨xs, n, _, _, hlen, hxl, hf⟩ := DataW.trod_array Try.underlying39 hf
 obtain ⟨v0, v1, v2, v3, v4, v5, v6, v7, rfl⟩ : ∃ v0 v1 v2 v3 v4 v5 v6 v7, l = [v0, v1, v2, v3, v4, v5, v6, v7] := by
  match l, hl with
  | [v0, v1, v2, v3, v4, v5, v6, v7], _ => exact ⟨v0, v1, v2, v3, v4, v5, v6, v7, rfl⟩
 obtain ⟨y0, e0⟩ := some_of (j := 0) (by omega) (hf 0 (by omega))
 obtain ⟨y1, e1⟩ := some_of (j := 1) (by omega) (hf 1 (by omega))
 rw [cells27] at e0 e1
 have g0 : DataW.trod enc Try.prog W 0 (fun _ => true) true n 27 [v0, v1, v2, v3] = some y0 := e0
 have g1 : DataW.trod enc Try.prog W 0 (fun _ => true) true n 27 [v4, v5, v6, v7] = some y1 := e1
 obtain ⟨a, ha⟩ := arg27c g0
 obtain ⟨b, hb⟩ := arg27c g1
 simp only [List.cons.injEq, and_true] at ha hb
 obtain ⟨rfl, rfl, rfl, rfl⟩ := ha
 obtain ⟨rfl, rfl, rfl, rfl⟩ := hb
 exact ⟨a, b, rfl⟩
end
end Go.Proofs.Ytocndmielggnpaa.PAll
end
