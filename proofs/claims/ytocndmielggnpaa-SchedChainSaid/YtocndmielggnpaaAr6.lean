/- A row of bytes, opened. -/
import Derived.Test.YtocndmielggnpaaLw6
import Derived.Test.YtocndmielggnpaaM12
set_option linter.unusedSimpArgs false
set_option linter.unusedVariables false
section
namespace Go.Proofs.Ytocndmielggnpaa.PAll
open Go.RowKit Go.Proofs.YtocndmielggnpaaW.PrintWords Go.Proofs.YtocndmielggnpaaW.PrintLast Go.Proofs.YtocndmielggnpaaW.PrintMore
open Go.ChangeShapes Go.WideShapes Go.ChangeAt Go.Deep
section
variable {H : Type} {enc : TypeId × Value → H} {W : World}
theorem cells5 : Try.prog.cellsOf 5 = 1 := by kernel_rfl
theorem arg43 {A : Option Addr} {len cap : Nat} {d : DataW H} {p : List MemPlace} (h : DataW.Trod enc Try.prog W 0 (fun _ => true) true 43 (.slice A len cap) d p) :
    ∃ l : List Int, len = l.length ∧ (l.length ≤ cap ∧ ∀ j, 0 ≤ l.getD j 0 ∧ l.getD j 0 ≤ 255) ∧ (Kd.int .u8).C W A l.length l := by
 obtain ⟨fuel, hf⟩ := h
 have key : ∃ zs : List Int, ((A = none ∧ len = 0 ∧ cap = 0 ∧ zs = []) ∨ ∃ x, A = some x ∧ len ≤ cap ∧ cap ≤ maxLen ∧ zs.length = cap ∧ (∀ i, i < zs.length → W.cell? (x.add i) = some (.int .u8 (zs.getD i 0))) ∧ ∀ n ∈ zs, (Lit.int .u8 n).wf = true) := by
  rcases open_ints Try.underlying43 Try.underlying5 cells5 hf with ⟨hcs, _⟩ | ⟨x, l, c, zs, hcs, _, hl, hm, hz, _, hcell, hwz⟩
  · simp [Value.cells] at hcs
    obtain ⟨rfl, rfl, rfl⟩ := hcs
    exact ⟨[], .inl ⟨rfl, rfl, rfl, rfl⟩⟩
  · simp [Value.cells] at hcs
    obtain ⟨rfl, rfl, rfl⟩ := hcs
    exact ⟨zs, .inr ⟨_, rfl, hl, hm, by simpa using hz, hcell, hwz⟩⟩
 obtain ⟨zs, hR⟩ := key
 obtain ⟨l, hl, hr, hm, hw, hc⟩ := ReadsInt.ofRowC hR
 refine ⟨l, hl, ⟨hc, fun j => ?_⟩, Kd.C_of_reads (d := (0 : Int)) (h1 := fun _ => rfl) hr⟩
 rw [List.getD_eq_getElem?_getD]
 by_cases hj : j < l.length
 · rw [List.getElem?_eq_getElem hj]
   exact bounds_u8 (hw _ (List.getElem_mem hj))
 · rw [List.getElem?_eq_none (by omega)]; simp
end
end Go.Proofs.Ytocndmielggnpaa.PAll
end
