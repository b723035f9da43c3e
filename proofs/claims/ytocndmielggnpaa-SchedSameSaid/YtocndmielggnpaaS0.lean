/- What the rows of chapter 16 lean on, part 1. -/
import Derived.WalkKit
import Derived.MapKept
import Derived.ChangeMaps5
import Derived.Carry
import Derived.Below
import Derived.Deep.Draws
set_option linter.unusedSimpArgs false
set_option linter.unusedVariables false
section
namespace Go.Proofs.Ytocndmielggnpaa.AMap
open Go Go.ChangeMaps Go.MapKept Go.RowKit
/-- The entries, as pairs. -/
def Ent (es : List MapEntry) (L : List (Int × Value)) : Prop := es.map (fun e => (e.key, e.val)) = L.map (fun p => (Value.int .i64 p.1, p.2))
def look (L : List (Int × Value)) (i : Int) : Option Value := (L.find? (fun p => p.1 == i)).map (·.2)
/-- Block b of w is a map from int that tells f. -/
def MapFn (w : World) (b : Nat) (f : Int → Option Value) : Prop :=
 ∃ es clock L, w.heap[b]? = some (.map es clock) ∧ Ent es.toList L ∧ (L.map (·.1)).Nodup ∧ ∀ i, look L i = f i
def upd {β : Type} (f : Int → Option β) (i : Int) (v : Option β) : Int → Option β := fun k => if k = i then v else f k
theorem map_upd {β γ : Type} (g : β → γ) (f : Int → Option β) (i : Int) (v : Option β) (k : Int) : (upd f i v k).map g = upd (fun j => (f j).map g) i (v.map g) k := by unfold upd; split <;> rfl
theorem find_ent (i : Int) : ∀ (es : List MapEntry) (L : List (Int × Value)) (n : Nat), Ent es L →
    (look L i = none ∧ (∀ p ∈ L, p.1 ≠ i) ∧ Instr.findNow (.int .i64) (.int .i64 i) es n = some none) ∨
    ∃ j v, L[j]? = some (i, v) ∧ look L i = some v ∧ Instr.findNow (.int .i64) (.int .i64 i) es n = some (some (n + j, v))
 | [], [], _, _ => .inl ⟨rfl, by simp, rfl⟩
 | [], _ :: _, _, h => by simp [Ent] at h
 | _ :: _, [], _, h => by simp [Ent] at h
 | e :: es, p :: L, n, h => by
  obtain ⟨k, u⟩ := p
  simp only [Ent, List.map_cons, List.cons.injEq, Prod.mk.injEq] at h
  obtain ⟨⟨h1, h2⟩, h3⟩ := h
  by_cases hk : k = i
  · subst hk
    refine .inr ⟨0, u, rfl, by simp [look], ?_⟩
    simp [Instr.findNow, h1, Instr.sameNow, h2]
  · rcases find_ent i es L (n + 1) h3 with ⟨a, b, c⟩ | ⟨j, v, a, b, c⟩
    · refine .inl ⟨?_, ?_, ?_⟩
      · simp only [look, List.find?_cons] at a ⊢
        rw [show (k == i) = false from by simpa using hk]; exact a
      · intro q hq
        rcases List.mem_cons.1 hq with rfl | hq
        · exact hk
        · exact b q hq
      · have hne : (i == k) = false := by simpa using fun e : i = k => hk e.symm
        simp [Instr.findNow, h1, Instr.sameNow, hne, c]
    · refine .inr ⟨j + 1, v, by simpa using a, ?_, ?_⟩
      · simp only [look, List.find?_cons] at b ⊢
        rw [show (k == i) = false from by simpa using hk]; exact b
      · have hne : (i == k) = false := by simpa using fun e : i = k => hk e.symm
        have : n + (j + 1) = n + 1 + j := by omega
        rw [this]
        simp [Instr.findNow, h1, Instr.sameNow, hne, c]
theorem look_append_new (L : List (Int × Value)) (i : Int) (v : Value) (h : ∀ p ∈ L, p.1 ≠ i) (k : Int) :
    look (L ++ [(i, v)]) k = if k = i then some v else look L k := by
 unfold look
 rw [List.find?_append]
 by_cases hk : k = i
 · subst hk
   have : L.find? (fun p => p.1 == k) = none := by
    rw [List.find?_eq_none]; intro p hp; simpa using h p hp
   simp [this]
 · have : ¬ i = k := fun e => hk e.symm
   simp [hk, this]
theorem look_set : ∀ (L : List (Int × Value)) (i : Int) (v u : Value) (j : Nat), L[j]? = some (i, u) → (L.map (·.1)).Nodup → ∀ k,
    look (L.set j (i, v)) k = if k = i then some v else look L k
 | [], _, _, _, _, h, _, _ => by simp at h
 | (a, b) :: L, i, v, u, 0, h, hn, k => by
  simp only [List.getElem?_cons_zero, Option.some.injEq, Prod.mk.injEq] at h
  obtain ⟨rfl, rfl⟩ := h
  by_cases hk : k = a
  · subst hk; simp [look]
  · have : ¬ a = k := fun e => hk e.symm
    simp [look, hk, this]
 | (a, b) :: L, i, v, u, j + 1, h, hn, k => by
  simp only [List.getElem?_cons_succ] at h
  simp only [List.map_cons, List.nodup_cons] at hn
  have hai : a ≠ i := by
   rintro rfl
   exact hn.1 (List.mem_map.2 ⟨(a, u), List.mem_of_getElem? h, rfl⟩)
  have ih := look_set L i v u j h hn.2 k
  simp only [look, List.set_cons_succ, List.find?_cons] at ih ⊢
  by_cases hk : k = i
  · subst hk
    rw [show (a == k) = false from by simpa using hai]
    exact ih
  · by_cases hak : a = k
    · subst hak; simp [hk]
    · rw [show (a == k) = false from by simpa using hak]
      exact ih
theorem look_erase : ∀ (L : List (Int × Value)) (i : Int) (u : Value) (j : Nat), L[j]? = some (i, u) → (L.map (·.1)).Nodup → ∀ k,
    look (L.eraseIdx j) k = if k = i then none else look L k
 | [], _, _, _, h, _, _ => by simp at h
 | (a, b) :: L, i, u, 0, h, hn, k => by
  simp only [List.getElem?_cons_zero, Option.some.injEq, Prod.mk.injEq] at h
  obtain ⟨rfl, rfl⟩ := h
  simp only [List.map_cons, List.nodup_cons] at hn
  simp only [List.eraseIdx_cons_zero]
  by_cases hk : k = a
  · subst hk
    have : L.find? (fun p => p.1 == k) = none := by
     rw [List.find?_eq_none]; intro p hp
     have : p.1 ≠ k := by rintro rfl; exact hn.1 (List.mem_map.2 ⟨p, hp, rfl⟩)
     simpa using this
    simp [look, this]
  · have : ¬ a = k := fun e => hk e.symm
    simp [look, hk, this]
 | (a, b) :: L, i, u, j + 1, h, hn, k => by
  simp only [List.getElem?_cons_succ] at h
  simp only [List.map_cons, List.nodup_cons] at hn
  have hai : a ≠ i := by
   rintro rfl
   exact hn.1 (List.mem_map.2 ⟨(a, u), List.mem_of_getElem? h, rfl⟩)
  have ih := look_erase L i u j h hn.2 k
  simp only [look, List.eraseIdx_cons_succ, List.find?_cons] at ih ⊢
  by_cases hk : k = i
  · subst hk
    rw [show (a == k) = false from by simpa using hai]
    exact ih
  · by_cases hak : a = k
    · subst hak; simp [hk]
    · rw [show (a == k) = false from by simpa using hak]
      exact ih
theorem ent_modify : ∀ (es : List MapEntry) (L : List (Int × Value)) (i : Int) (v u : Value) (j : Nat), Ent es L → L[j]? = some (i, u) →
    Ent (es.modify j fun e => { e with key := .int .i64 i, val := v }) (L.set j (i, v))
 | [], [], _, _, _, _, _, h => by simp at h
 | [], _ :: _, _, _, _, _, h, _ => by simp [Ent] at h
 | _ :: _, [], _, _, _, _, h, _ => by simp [Ent] at h
 | e :: es, p :: L, i, v, u, 0, h, hj => by
  simp only [Ent, List.map_cons, List.cons.injEq] at h
  simp [Ent, List.modify_cons, h.2]
 | e :: es, p :: L, i, v, u, j + 1, h, hj => by
  have h' := h
  simp only [Ent, List.map_cons, List.cons.injEq] at h'
  have ih := ent_modify es L i v u j h'.2 (by simpa using hj)
  simp only [Ent] at ih
  simp only [Ent, List.modify_succ_cons, List.set_cons_succ, List.map_cons, List.cons.injEq]
  exact ⟨h'.1, ih⟩
theorem ent_erase : ∀ (es : List MapEntry) (L : List (Int × Value)) (j : Nat), Ent es L → Ent (es.eraseIdx j) (L.eraseIdx j) := by
 intro es L j h
 simp only [Ent] at h ⊢
 have e1 : ∀ {α β : Type} (f : α → β) (l : List α) (j : Nat), (l.eraseIdx j).map f = (l.map f).eraseIdx j := by
  intro α β f l
  induction l with
  | nil => simp
  | cons a r ih => intro j; cases j <;> simp [ih]
 rw [e1, e1, h]
theorem nodup_erase {α : Type} : ∀ (l : List α) (j : Nat), l.Nodup → (l.eraseIdx j).Nodup := fun l j h => (List.eraseIdx_sublist l j).nodup h
section
variable {P : Program} {w : World} {b : Nat} {f : Int → Option Value} {t k e : TypeId}
theorem MapFn.lt (h : MapFn w b f) : b < w.heap.size := by
 obtain ⟨es, clock, L, hb, _⟩ := h
 exact (Array.getElem?_eq_some_iff.1 hb).1
theorem MapFn.move {w' : World} (h : MapFn w b f) (hb : w'.heap[b]? = w.heap[b]?) : MapFn w' b f := by
 obtain ⟨es, clock, L, h1, r⟩ := h
 exact ⟨es, clock, L, hb.trans h1, r⟩
theorem MapFn.below {w' : World} (h : MapFn w b f) (hb : Below w.heap.size w w') : MapFn w' b f := h.move (hb.block b h.lt)
theorem MapFn.grown {w' : World} {row : Option Nat} (h : MapFn w b f) (hg : w.grownBy w' row) (hne : some b ≠ row) : MapFn w' b f := h.move (hg.block b h.lt hne)
theorem MapFn.alloc (h : MapFn w b f) (o : Obj) : MapFn (w.alloc o) b f := h.grown (World.grownBy_alloc w o none) (by simp)
theorem MapFn.drew (h : MapFn w b f) : MapFn w.drew b f := h.move rfl
theorem MapFn.drewN (h : MapFn w b f) (n : Nat) : MapFn (w.drewN n) b f := h.move rfl
theorem MapFn.setCell (h : MapFn w b f) {p : Addr} (u : Value) (hne : b ≠ p.block) : MapFn (w.setCell p u) b f := h.move (Below.heap_setCell w p u b hne)
theorem MapFn.made (w : World) : MapFn (w.alloc (.map #[] 0)) w.heap.size (fun _ => none) :=
 ⟨#[], 0, [], (MapKept.heap_alloc w _).1, rfl, by simp, fun _ => rfl⟩
/-- A map's block is no row of cells. -/
theorem MapFn.ne_cells (h : MapFn w b f) {a : Nat} {cs : Array Value} {t : TypeId} {fr : Nat × Nat} (ha : w.heap[a]? = some (.cells cs t fr)) : a ≠ b := by
 rintro rfl
 obtain ⟨es, clock, L, h1, _⟩ := h
 rw [h1] at ha
 simp at ha
theorem MapFn.lookup (h : MapFn w b f) (ht : P.underlying t = some (.map k e)) (hk : P.underlying k = some (.int .i64)) {z : Value} (hz : (zeroValue e).run P w = .ok z w) (i : Int) :
    (Instr.lookup t (.map (some b)) (.int .i64 i) false).run P w = .ok ((f i).getD z) w := by
 obtain ⟨es, clock, L, hb, hE, hn, hl⟩ := h
 have hck : (Instr.checkKey es.isEmpty 10000 k (.int .i64 i)).run P w = .ok () w := run_checkKey hk (show IsKey (.int .i64) (.int .i64 i) from rfl) es.isEmpty 9999
 rcases find_ent i es.toList L 0 hE with ⟨h1, _, h2⟩ | ⟨j, v, _, h1, h2⟩
 · have h3 := run_findKey (w := w) hk h2
   rw [← hl, h1]
   simp [Instr.lookup, run_underlying ht, MapKept.run_getObj_map hb, hck, h3, hz, Result.andThen]
 · have h3 := run_findKey (w := w) hk h2
   rw [← hl, h1]
   simp [Instr.lookup, run_underlying ht, MapKept.run_getObj_map hb, hck, h3, Result.andThen]
theorem MapFn.lookup_ok (h : MapFn w b f) (ht : P.underlying t = some (.map k e)) (hk : P.underlying k = some (.int .i64)) {z : Value} (hz : (zeroValue e).run P w = .ok z w) (i : Int) :
    (Instr.lookup t (.map (some b)) (.int .i64 i) true).run P w = .ok (.tuple #[(f i).getD z, .bool (f i).isSome]) w := by
 obtain ⟨es, clock, L, hb, hE, hn, hl⟩ := h
 have hck : (Instr.checkKey es.isEmpty 10000 k (.int .i64 i)).run P w = .ok () w := run_checkKey hk (show IsKey (.int .i64) (.int .i64 i) from rfl) es.isEmpty 9999
 rcases find_ent i es.toList L 0 hE with ⟨h1, _, h2⟩ | ⟨j, v, _, h1, h2⟩
 · have h3 := run_findKey (w := w) hk h2
   rw [← hl, h1]
   simp [Instr.lookup, run_underlying ht, MapKept.run_getObj_map hb, hck, h3, hz, Result.andThen]
 · have h3 := run_findKey (w := w) hk h2
   rw [← hl, h1]
   simp [Instr.lookup, run_underlying ht, MapKept.run_getObj_map hb, hck, h3, Result.andThen]
theorem MapFn.set (h : MapFn w b f) (ht : P.underlying t = some (.map k e)) (hk : P.underlying k = some (.int .i64)) (i : Int) (v : Value) :
    ∃ w', (Instr.mapUpdate t (.map (some b)) (.int .i64 i) v).run P w = .ok () w' ∧ MapFn w' b (upd f i (some v)) ∧ w.grownBy w' (some b) := by
 obtain ⟨es, clock, L, hb, hE, hn, hl⟩ := h
 have hck : (Instr.checkKey false 10000 k (.int .i64 i)).run P w = .ok () w := run_checkKey hk (show IsKey (.int .i64) (.int .i64 i) from rfl) false 9999
 have hgr : ∀ o : Obj, w.grownBy (ChangeMaps.setBlock w b o) (some b) := fun o => ⟨rfl, rfl, rfl, by simp [ChangeMaps.setBlock], fun a _ ha => heap_setBlock_other hb _ (fun e => ha (by rw [e]))⟩
 rcases find_ent i es.toList L 0 hE with ⟨h1, hno, h2⟩ | ⟨j, u, hj, h1, h2⟩
 · have h3 := run_findKey (w := w) hk h2
   refine ⟨ChangeMaps.setBlock w b (.map (es.push { key := .int .i64 i, val := v, born := clock }) (clock + 1)), ?_, ?_, hgr _⟩
   · simp [Instr.mapUpdate, run_underlying ht, MapKept.run_getObj_map hb, hck, h3, MapKept.run_setObj_map _ hb, Result.andThen, ChangeMaps.setBlock]
   · refine ⟨_, _, L ++ [(i, v)], heap_setBlock_same hb _, ?_, ?_, fun q => ?_⟩
     · simp only [Ent] at hE ⊢
       simp [hE]
     · rw [List.map_append, List.nodup_append]
       refine ⟨hn, by simp, ?_⟩
       intro x hx y hy
       simp only [List.map_cons, List.map_nil, List.mem_singleton] at hy
       subst hy
       obtain ⟨p, hp, rfl⟩ := List.mem_map.1 hx
       exact hno p hp
     · rw [look_append_new L i v hno, upd, hl]
 · have h3 := run_findKey (w := w) hk h2
   simp only [Nat.zero_add] at h3
   have hes : es[j]? = some (es.toList[j]'(by
       have hlen : es.toList.length = L.length := by have := congrArg List.length hE; simpa using this
       have := (List.getElem?_eq_some_iff.1 hj).1
       omega)) := by
    rw [← Array.getElem?_toList]; simp
   have hkey : (es.toList[j]'(by
       have hlen : es.toList.length = L.length := by have := congrArg List.length hE; simpa using this
       have := (List.getElem?_eq_some_iff.1 hj).1
       omega)).key = .int .i64 i := by
    have hE' := congrArg (fun l => l[j]?) hE
    simp only [List.getElem?_map, hj] at hE'
    have hlen : es.toList.length = L.length := by have := congrArg List.length hE; simpa using this
    have hlt := (List.getElem?_eq_some_iff.1 hj).1
    rw [List.getElem?_eq_getElem (by omega)] at hE'
    simp only [Option.map_some, Option.some.injEq, Prod.mk.injEq] at hE'
    exact hE'.1
   refine ⟨ChangeMaps.setBlock w b (.map (es.modify j fun e => { e with key := .int .i64 i, val := v }) clock), ?_, ?_, hgr _⟩
   · have hst : (Instr.keyThatStays (.int .i64 i) (.int .i64 i)).run P w = .ok (.int .i64 i) w := run_keyThatStays (d := .int .i64) (k := .int .i64 i) (show IsKey (.int .i64) (.int .i64 i) from rfl)
     rw [Array.getElem_toList] at hkey
     simp [Instr.mapUpdate, run_underlying ht, MapKept.run_getObj_map hb, hck, h3, hes, hkey, hst, MapKept.run_setObj_map _ hb, Result.andThen, ChangeMaps.setBlock]
   · refine ⟨_, _, L.set j (i, v), heap_setBlock_same hb _, ?_, ?_, fun q => ?_⟩
     · rw [Array.toList_modify]
       exact ent_modify es.toList L i v u j hE hj
     · rw [List.map_set]
       have : (L.map (·.1)).set j i = L.map (·.1) := by
        apply List.ext_getElem?
        intro q
        rw [List.getElem?_set]
        split
        · subst_vars
          split
          · simp [hj]
          · have := (List.getElem?_eq_some_iff.1 hj).1
            simp at *
            omega
        · rfl
       simp only
       rw [this]; exact hn
     · rw [look_set L i v u j hj hn, upd, hl]
theorem MapFn.del (h : MapFn w b f) (ht : P.underlying t = some (.map k e)) (hk : P.underlying k = some (.int .i64)) (i : Int) (t2 ty : TypeId) :
    ∃ w', (Builtin.delete_ #[t, t2] ty #[.map (some b), .int .i64 i]).run P w = .ok (.tuple #[]) w' ∧ MapFn w' b (upd f i none) ∧ w.grownBy w' (some b) := by
 obtain ⟨es, clock, L, hb, hE, hn, hl⟩ := h
 have hck : (Instr.checkKey es.isEmpty 10000 k (.int .i64 i)).run P w = .ok () w := run_checkKey hk (show IsKey (.int .i64) (.int .i64 i) from rfl) es.isEmpty 9999
 have hgr : ∀ o : Obj, w.grownBy (ChangeMaps.setBlock w b o) (some b) := fun o => ⟨rfl, rfl, rfl, by simp [ChangeMaps.setBlock], fun a _ ha => heap_setBlock_other hb _ (fun e => ha (by rw [e]))⟩
 rcases find_ent i es.toList L 0 hE with ⟨h1, hno, h2⟩ | ⟨j, u, hj, h1, h2⟩
 · have h3 := run_findKey (w := w) hk h2
   refine ⟨ChangeMaps.setBlock w b (.map es clock), ?_, ?_, hgr _⟩
   · simp [Builtin.delete_, run_underlying ht, MapKept.run_getObj_map hb, hck, h3, MapKept.run_setObj_map _ hb, Result.andThen, ChangeMaps.setBlock]
   · refine ⟨_, _, L, heap_setBlock_same hb _, hE, hn, fun q => ?_⟩
     simp only [upd]
     split
     · subst_vars; exact h1
     · exact hl q
 · have h3 := run_findKey (w := w) hk h2
   simp only [Nat.zero_add] at h3
   refine ⟨ChangeMaps.setBlock w b (.map (es.eraseIdxIfInBounds j) clock), ?_, ?_, hgr _⟩
   · simp [Builtin.delete_, run_underlying ht, MapKept.run_getObj_map hb, hck, h3, MapKept.run_setObj_map _ hb, Result.andThen, ChangeMaps.setBlock]
   · refine ⟨_, _, L.eraseIdx j, heap_setBlock_same hb _, ?_, ?_, fun q => ?_⟩
     · have : (es.eraseIdxIfInBounds j).toList = es.toList.eraseIdx j := by
        rw [Array.toList_eraseIdxIfInBounds]
       rw [this]
       exact ent_erase es.toList L j hE
     · have e1 : (L.eraseIdx j).map (·.1) = (L.map (·.1)).eraseIdx j := by
        have e1 : ∀ {α β : Type} (f : α → β) (l : List α) (j : Nat), (l.eraseIdx j).map f = (l.map f).eraseIdx j := by
         intro α β f l
         induction l with
         | nil => simp
         | cons a r ih => intro j; cases j <;> simp [ih]
        exact e1 _ _ _
       rw [e1]
       exact nodup_erase _ _ hn
     · rw [look_erase L i u j hj hn, upd, hl]
end
section
variable {P : Program} {ops : Array Oper} {rest : List Oper} {o : Oper} {a : Act} {Q : Exit → Act → World → Prop}
/-- 'm[i] = v' at the operation. -/
theorem wpList_put (w : World) (hg : o.guard = none) (m x v : Operand) (t k e : TypeId) (hop : o.op = Op.mapUpdate t m x v) (ht : P.underlying t = some (.map k e)) (hk : P.underlying k = some (.int .i64))
    (b : Nat) (f : Int → Option Value) (hm : a.eval m = .map (some b)) (h : MapFn w b f) (i : Int) (u : Value) (hx : a.eval x = .int .i64 i) (hv : a.eval v = u)
    (hK : ∀ w', MapFn w' b (upd f i (some u)) → w.grownBy w' (some b) → wpList P ops Q rest (a.put o.dst undef) w') :
    wpList P ops Q (o :: rest) a w := by
 refine wpList_plain hg fun K' hK' => ?_
 obtain ⟨w', hrun, r1, r2⟩ := h.set ht hk i u
 unfold Oper.wp
 simp [execOp, hop, hm, hx, hv, hrun, Result.andThen]
 exact hK' _ _ (hK w' r1 r2)
/-- An element of a map literal, at the operation. -/
theorem wpList_ins (w : World) (hg : o.guard = none) (m x v : Operand) (t k e : TypeId) (hop : o.op = Op.insert t m x v) (ht : P.underlying t = some (.map k e)) (hk : P.underlying k = some (.int .i64))
    (b : Nat) (f : Int → Option Value) (hm : a.eval m = .map (some b)) (h : MapFn w b f) (i : Int) (u : Value) (hx : a.eval x = .int .i64 i) (hv : a.eval v = u)
    (hK : ∀ w', MapFn w' b (upd f i (some u)) → w.grownBy w' (some b) → wpList P ops Q rest (a.put o.dst undef) w') :
    wpList P ops Q (o :: rest) a w := by
 refine wpList_plain hg fun K' hK' => ?_
 obtain ⟨w', hrun, r1, r2⟩ := h.set ht hk i u
 unfold Oper.wp
 simp [execOp, hop, hm, hx, hv, hrun, Result.andThen]
 exact hK' _ _ (hK w' r1 r2)
end
end Go.Proofs.Ytocndmielggnpaa.AMap
end
