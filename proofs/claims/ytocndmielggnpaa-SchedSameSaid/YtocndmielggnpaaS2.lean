/- What the rows of chapter 16 lean on, part 3. -/
import Derived.Test.YtocndmielggnpaaS0
import Derived.Test.YtocndmielggnpaaS1
set_option linter.unusedSimpArgs false
set_option linter.unusedVariables false
section
namespace Go.Proofs.Ytocndmielggnpaa.Env
open Go Go.RowKit Go.Proofs.Ytocndmielggnpaa.AMap
open Go.Proofs.YtocndmielggnpaaW.PrintWords Go.Proofs.YtocndmielggnpaaW.PrintLast Go.Proofs.YtocndmielggnpaaW.PrintMore
inductive Ds where
 | cells (cs : Array Value) (t : TypeId)
 | row (e size n : Nat) (xs : List Value) (cap : Nat)
 | map (f : Int → Option Value)
def Ds.Holds (w : World) (b : Nat) : Ds → Prop
 | .cells cs t => w.heap[b]? = some (.cells cs t (0, 0))
 | .row e size n xs cap => w.ownsRow 0 e size (.slice (some ⟨b, 0, none⟩) n cap) n xs
 | .map f => MapFn w b f
abbrev Tag := Nat × Int
abbrev Env := Tag → Option (Nat × Ds)
def Env.set (E : Env) (τ : Tag) (v : Option (Nat × Ds)) : Env := fun τ' => if τ' = τ then v else E τ'
theorem set_same (E : Env) (τ : Tag) (v : Option (Nat × Ds)) : Env.set E τ v τ = v := by simp [Env.set]
theorem set_ne (E : Env) {τ τ' : Tag} (v : Option (Nat × Ds)) (h : τ' ≠ τ) : Env.set E τ v τ' = E τ' := by simp [Env.set, h]
theorem set_fst (E : Env) {k k' : Nat} {i i' : Int} (v : Option (Nat × Ds)) (h : k' ≠ k) : Env.set E (k, i) v (k', i') = E (k', i') := set_ne E v (fun e => h (by simpa using (Prod.mk.injEq _ _ _ _ ▸ e).1))
structure Sat (w0 w : World) (E : Env) : Prop where
 below : Below w0.heap.size w0 w
 inj : ∀ τ τ' b d d', E τ = some (b, d) → E τ' = some (b, d') → τ = τ'
 ge : ∀ τ b d, E τ = some (b, d) → w0.heap.size ≤ b
 holds : ∀ τ b d, E τ = some (b, d) → d.Holds w b
theorem Ds.Holds.lt {d : Ds} {w : World} {b : Nat} (h : d.Holds w b) : b < w.heap.size := by
 cases d with
 | cells cs t => exact blk_lt h
 | row e size n xs cap => exact own_lt h b rfl
 | map f => exact MapFn.lt h
theorem Ds.Holds.move {d : Ds} {w w' : World} {b : Nat} (h : d.Holds w b) (hb : w'.heap[b]? = w.heap[b]?) : d.Holds w' b := by
 cases d with
 | cells cs t => exact hb.trans h
 | row e size n xs cap => exact own_move h (fun k hk => by simp only [Value.ownBlock, Option.some.injEq] at hk; subst hk; exact hb)
 | map f => exact MapFn.move h hb
section
variable {w0 w w' : World} {E : Env} {τ : Tag} {b : Nat} {d d' : Ds}
theorem Sat.lt (h : Sat w0 w E) (he : E τ = some (b, d)) : b < w.heap.size := (h.holds τ b d he).lt
theorem Sat.empty (w : World) : Sat w w (fun _ => none) := ⟨Below.refl _ _, fun _ _ _ _ _ h => by simp at h, fun _ _ _ h => by simp at h, fun _ _ _ h => by simp at h⟩
theorem Sat.grow (h : Sat w0 w E) (hb : Below w.heap.size w w') : Sat w0 w' E :=
 ⟨below_then h.below h.below.size hb, h.inj, h.ge, fun τ b d he => (h.holds τ b d he).move (hb.block b (h.lt he))⟩
theorem Sat.drew (h : Sat w0 w E) : Sat w0 w.drew E := h.grow (below_drew1 (Below.refl _ _))
theorem Sat.drewN (h : Sat w0 w E) (n : Nat) : Sat w0 (w.drewN n) E := h.grow (pw_below_drewN (Below.refl _ _) n)
theorem Sat.frame (h : Sat w0 w E) (hb : Below w0.heap.size w0 w') (hk : ∀ τ b d, E τ = some (b, d) → w'.heap[b]? = w.heap[b]?) : Sat w0 w' E :=
 ⟨hb, h.inj, h.ge, fun τ b d he => (h.holds τ b d he).move (hk τ b d he)⟩
theorem Sat.ne (h : Sat w0 w E) {τ' : Tag} {b' : Nat} (he : E τ = some (b, d)) (he' : E τ' = some (b', d')) (hn : τ ≠ τ') : b ≠ b' := by
 rintro rfl
 exact hn (h.inj _ _ _ _ _ he he')
/-- A new block gets a name (what the name stood for is forgotten). -/
theorem Sat.new (h : Sat w0 w E) (τ : Tag) (hb : Below w.heap.size w w') (hf : w.heap.size ≤ b) (hd : d.Holds w' b) : Sat w0 w' (Env.set E τ (some (b, d))) := by
 have h' := h.grow hb
 refine ⟨h'.below, ?_, ?_, ?_⟩
 · intro σ σ' c e e' h1 h2
   simp only [Env.set] at h1 h2
   split at h1 <;> split at h2
   · simp_all
   · simp only [Option.some.injEq, Prod.mk.injEq] at h1
     have := h.lt h2
     omega
   · simp only [Option.some.injEq, Prod.mk.injEq] at h2
     have := h.lt h1
     omega
   · exact h.inj _ _ _ _ _ h1 h2
 · intro σ c e h1
   simp only [Env.set] at h1
   split at h1
   · simp only [Option.some.injEq, Prod.mk.injEq] at h1
     have := h.below.size
     omega
   · exact h.ge _ _ _ h1
 · intro σ c e h1
   simp only [Env.set] at h1
   split at h1
   · simp only [Option.some.injEq, Prod.mk.injEq] at h1
     obtain ⟨rfl, rfl⟩ := h1
     exact hd
   · exact h'.holds _ _ _ h1
/-- What a name's block holds is written anew. -/
theorem Sat.upd (h : Sat w0 w E) (he : E τ = some (b, d)) (hg : w.grownBy w' (some b)) (hd : d'.Holds w' b) : Sat w0 w' (Env.set E τ (some (b, d'))) := by
 refine ⟨h.below.grown hg h.below.size (fun k hk => ?_), ?_, ?_, ?_⟩
 · injection hk with hk
   subst hk
   exact h.ge _ _ _ he
 · intro σ σ' c e e' h1 h2
   simp only [Env.set] at h1 h2
   split at h1 <;> split at h2
   · simp_all
   · simp only [Option.some.injEq, Prod.mk.injEq] at h1
     obtain ⟨rfl, rfl⟩ := h1
     rename_i hs _
     rw [hs]
     exact h.inj _ _ _ _ _ he h2
   · simp only [Option.some.injEq, Prod.mk.injEq] at h2
     obtain ⟨rfl, rfl⟩ := h2
     rename_i hs
     rw [hs]
     exact h.inj _ _ _ _ _ h1 he
   · exact h.inj _ _ _ _ _ h1 h2
 · intro σ c e h1
   simp only [Env.set] at h1
   split at h1
   · simp only [Option.some.injEq, Prod.mk.injEq] at h1
     rw [← h1.1]; exact h.ge _ _ _ he
   · exact h.ge _ _ _ h1
 · intro σ c e h1
   simp only [Env.set] at h1
   split at h1
   · simp only [Option.some.injEq, Prod.mk.injEq] at h1
     obtain ⟨rfl, rfl⟩ := h1
     exact hd
   · rename_i hs
     have hne : c ≠ b := h.ne h1 he hs
     exact (h.holds _ _ _ h1).move (hg.block c (h.lt h1) (by simpa using hne))
theorem Sat.drop (h : Sat w0 w E) (τ : Tag) : Sat w0 w (Env.set E τ none) := by
 refine ⟨h.below, ?_, ?_, ?_⟩
 · intro σ σ' c e e' h1 h2
   simp only [Env.set] at h1 h2
   split at h1
   · simp at h1
   · split at h2
     · simp at h2
     · exact h.inj _ _ _ _ _ h1 h2
 · intro σ c e h1
   simp only [Env.set] at h1
   split at h1
   · simp at h1
   · exact h.ge _ _ _ h1
 · intro σ c e h1
   simp only [Env.set] at h1
   split at h1
   · simp at h1
   · exact h.holds _ _ _ h1
/-- Only what the names tell counts. -/
theorem Sat.sub {E' : Env} (h : Sat w0 w E) (hs : ∀ τ, E' τ = none ∨ E' τ = E τ) : Sat w0 w E' := by
 have hk : ∀ τ b d, E' τ = some (b, d) → E τ = some (b, d) := by
  intro τ b d h1
  rcases hs τ with h2 | h2
  · rw [h2] at h1; simp at h1
  · rw [← h2]; exact h1
 exact ⟨h.below, fun τ τ' b d d' h1 h2 => h.inj τ τ' b d d' (hk _ _ _ h1) (hk _ _ _ h2), fun τ b d h1 => h.ge τ b d (hk _ _ _ h1), fun τ b d h1 => h.holds τ b d (hk _ _ _ h1)⟩
theorem Sat.congr {E' : Env} (h : Sat w0 w E) (hs : ∀ τ, E' τ = E τ) : Sat w0 w E' := h.sub (fun τ => .inr (hs τ))
theorem Sat.alloc (h : Sat w0 w E) (τ : Tag) (cs : Array Value) (t : TypeId) : Sat w0 (w.alloc (.cells cs t)) (Env.set E τ (some (w.heap.size, .cells cs t))) :=
 h.new τ (below_alloc (Below.refl _ _) _) (Nat.le_refl _) (heap_alloc_new w _)
theorem Sat.allocMap (h : Sat w0 w E) (τ : Tag) : Sat w0 (w.alloc (.map #[] 0)) (Env.set E τ (some (w.heap.size, .map fun _ => none))) :=
 h.new τ (below_alloc (Below.refl _ _) _) (Nat.le_refl _) (MapFn.made w)
theorem Sat.alloc_ (h : Sat w0 w E) (o : Obj) : Sat w0 (w.alloc o) E := h.grow (below_alloc (Below.refl _ _) _)
theorem grown_setCell (w : World) (p : Addr) (u : Value) : w.grownBy (w.setCell p u) (some p.block) := ⟨rfl, rfl, rfl, by simp [World.setCell], fun i _ hi => Below.heap_setCell _ _ _ _ (fun e => hi (by rw [e]))⟩
theorem Sat.store (h : Sat w0 w E) {cs : Array Value} {t : TypeId} (he : E τ = some (b, .cells cs t)) (o : Nat) (u : Value) :
    Sat w0 (w.setCell ⟨b, o, none⟩ u) (Env.set E τ (some (b, .cells (cs.setIfInBounds o u) t))) := by
 refine h.upd he (grown_setCell w ⟨b, o, none⟩ u) ?_
 have h1 : w.heap[b]? = some (.cells cs t (0, 0)) := h.holds _ _ _ he
 show (w.setCell ⟨b, o, none⟩ u).heap[b]? = _
 simp [World.setCell, Array.getElem?_modify, h1]
theorem Sat.cell (h : Sat w0 w E) {cs : Array Value} {t : TypeId} (he : E τ = some (b, .cells cs t)) (i : Nat) : w.cell? ⟨b, i, none⟩ = cs[i]? := blk_cell (h.holds _ _ _ he) i
theorem Sat.free (h : Sat w0 w E) {cs : Array Value} {t : TypeId} (he : E τ = some (b, .cells cs t)) (i : Nat) : w.frozen? ⟨b, i, none⟩ = false := by
 have h1 : w.heap[b]? = some (.cells cs t (0, 0)) := h.holds _ _ _ he
 simp [World.frozen?, h1]
theorem Sat.rowCell (h : Sat w0 w E) {e n : Nat} {xs : List Value} {cap : Nat} (he : E τ = some (b, .row e 1 n xs cap)) (i : Nat) (hi : i < n) : w.cell? ⟨b, i, none⟩ = xs[i]? := by
 have h1 : w.ownsRow 0 e 1 (.slice (some ⟨b, 0, none⟩) n cap) n xs := h.holds _ _ _ he
 have hl : i < xs.length := by have := h1.1; omega
 have h2 := h1.cells (g := b) rfl i _ (List.getElem?_eq_getElem hl)
 rw [add_plain] at h2
 rw [h2, List.getElem?_eq_getElem hl]
/-- The slice v is the row of a name: nil, or at the head of its block. -/
def IsRow (E : Env) (τ : Tag) (v : Value) (e size : Nat) (xs : List Value) : Prop :=
 (v = .slice none 0 0 ∧ xs = [] ∧ E τ = none) ∨ ∃ b n cap, v = .slice (some ⟨b, 0, none⟩) n cap ∧ E τ = some (b, .row e size n xs cap)
theorem IsRow.nil (E : Env) (τ : Tag) (e size : Nat) (h : E τ = none) : IsRow E τ (.slice none 0 0) e size [] := .inl ⟨rfl, rfl, h⟩
theorem IsRow.congr {E' : Env} {v : Value} {e size : Nat} {xs : List Value} (h : IsRow E τ v e size xs) (he : E' τ = E τ) : IsRow E' τ v e size xs := by
 rcases h with ⟨h1, h2, h3⟩ | ⟨b, n, cap, h1, h2⟩
 · exact .inl ⟨h1, h2, he.trans h3⟩
 · exact .inr ⟨b, n, cap, h1, he.trans h2⟩
theorem IsRow.owns (h : Sat w0 w E) {v : Value} {e size : Nat} {xs : List Value} (hr : IsRow E τ v e size xs) (hs : 0 < size) : ∃ n, xs.length = n * size ∧ w.ownsRow 0 e size v n xs ∧ (∃ A c, v = .slice A n c ∧ n ≤ c) := by
 rcases hr with ⟨rfl, rfl, _⟩ | ⟨b, n, cap, rfl, he⟩
 · exact ⟨0, by simp, own_nil _ _ _ _, _, _, rfl, Nat.le_refl _⟩
 · have h1 : w.ownsRow 0 e size (.slice (some ⟨b, 0, none⟩) n cap) n xs := h.holds _ _ _ he
   exact ⟨n, h1.1, h1, _, _, rfl, own_le h1⟩
/-- Behind an append: the row has a name again. -/
theorem Sat.regrow (h : Sat w0 w E) {v v1 : Value} {e size n1 : Nat} {xs ys : List Value} (hr : IsRow E τ v e size xs) (hg : w.grownBy w' v.ownBlock) (ho : w'.ownsRow 0 e size v1 n1 ys)
    (hat : v1.ownBlock = v.ownBlock ∨ ∃ b, v1.ownBlock = some b ∧ w.heap.size ≤ b) : ∃ o, Sat w0 w' (Env.set E τ o) ∧ IsRow (Env.set E τ o) τ v1 e size ys := by
 rcases ho.2 with ⟨rfl, rfl⟩ | ⟨g, cap, cur, rfl, hg0, hh, r⟩
 · -- nothing is owned: only what the row's own block holds may have turned
   refine ⟨none, ?_, .inl ⟨rfl, List.eq_nil_of_length_eq_zero (by have := ho.1; simpa using this), set_same _ _ _⟩⟩
   rcases hr with ⟨rfl, rfl, hn⟩ | ⟨b, n, cap, rfl, he⟩
   · exact (h.grow ⟨hg.os, hg.tape, hg.output, hg.size, fun k hk => hg.block k hk (by simp [Value.ownBlock])⟩).drop τ
   · refine (h.drop τ).frame (h.below.grown hg h.below.size (fun k hk => ?_)) (fun σ c d hc => ?_)
     · simp only [Value.ownBlock, Option.some.injEq] at hk
       subst hk
       exact h.ge _ _ _ he
     · simp only [Env.set] at hc
       split at hc
       · simp at hc
       · rename_i hs
         exact hg.block c (h.lt hc) (by simpa [Value.ownBlock] using h.ne hc he hs)
 · refine ⟨some (g, .row e size n1 ys cap), ?_, .inr ⟨g, n1, cap, rfl, set_same _ _ _⟩⟩
   have hd : (Ds.row e size n1 ys cap).Holds w' g := ho
   rcases hr with ⟨rfl, rfl, hn⟩ | ⟨b, n, cap0, rfl, he⟩
   · rcases hat with hat | ⟨b, hb, hlt⟩
     · simp [Value.ownBlock] at hat
     · simp only [Value.ownBlock, Option.some.injEq] at hb
       subst hb
       exact h.new τ ⟨hg.os, hg.tape, hg.output, hg.size, fun k hk => hg.block k hk (by simp [Value.ownBlock])⟩ hlt hd
   · rcases hat with hat | ⟨b', hb, hlt⟩
     · simp only [Value.ownBlock, Option.some.injEq] at hat
       subst hat
       exact h.upd he hg hd
     · simp only [Value.ownBlock, Option.some.injEq] at hb
       subst hb
       -- the old block may have turned: it is forgotten first
       have h1 : Sat w0 w' (Env.set E τ none) := by
        refine (h.drop τ).frame (h.below.grown hg h.below.size (fun k hk => ?_)) (fun σ c d hc => ?_)
        · simp only [Value.ownBlock, Option.some.injEq] at hk
          subst hk
          exact h.ge _ _ _ he
        · simp only [Env.set] at hc
          split at hc
          · simp at hc
          · rename_i hs
            exact hg.block c (h.lt hc) (by simpa [Value.ownBlock] using h.ne hc he hs)
       refine ⟨h1.below, ?_, ?_, ?_⟩
       · intro σ σ' c e1 e2 hc1 hc2
         simp only [Env.set] at hc1 hc2
         split at hc1 <;> split at hc2
         · simp_all
         · simp only [Option.some.injEq, Prod.mk.injEq] at hc1
           have := h.lt hc2
           omega
         · simp only [Option.some.injEq, Prod.mk.injEq] at hc2
           have := h.lt hc1
           omega
         · exact h.inj _ _ _ _ _ hc1 hc2
       · intro σ c e1 hc1
         simp only [Env.set] at hc1
         split at hc1
         · simp only [Option.some.injEq, Prod.mk.injEq] at hc1
           have := h.below.size
           omega
         · exact h.ge _ _ _ hc1
       · intro σ c e1 hc1
         simp only [Env.set] at hc1
         split at hc1
         · simp only [Option.some.injEq, Prod.mk.injEq] at hc1
           obtain ⟨rfl, rfl⟩ := hc1
           exact hd
         · rename_i hs
           exact h1.holds σ c e1 (by rw [set_ne _ _ hs]; exact hc1)
end
end Go.Proofs.Ytocndmielggnpaa.Env
end
