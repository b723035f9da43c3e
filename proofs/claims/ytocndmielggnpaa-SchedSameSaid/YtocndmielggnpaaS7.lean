/- What the rows of chapter 16 lean on, part 8. -/
import Derived.Deep.DeepCutAuto
import Derived.Test.YtocndmielggnpaaS6
import Derived.Test.YtocndmielggnpaaS4
import Derived.Test.YtocndmielggnpaaS5
set_option linter.unusedSimpArgs false
set_option linter.unusedVariables false
section
namespace Go.Proofs.Ytocndmielggnpaa.PAll
open Go.RowKit Go.Proofs.YtocndmielggnpaaW.PrintWords Go.Proofs.YtocndmielggnpaaW.PrintLast Go.Proofs.YtocndmielggnpaaW.PrintMore
open Go.Proofs.Ytocndmielggnpaa.AMap Go.Proofs.Ytocndmielggnpaa.Env Go.Proofs.Ytocndmielggnpaa.Kind
attribute [local go_sem] max2_int min2_int max_two min_two
theorem downP_end (less : Nat → Nat → Bool) (q : List Nat) (i n : Nat) (h : ¬ 2 * i + 1 < n) : downP less q i n = q := by rw [downP, dif_neg h]
theorem downP_step (less : Nat → Nat → Bool) (q : List Nat) (i n j : Nat) (h : 2 * i + 1 < n) (hj : j = if 2 * i + 2 < n ∧ less (q.getD (2 * i + 2) 0) (q.getD (2 * i + 1) 0) = true then 2 * i + 2 else 2 * i + 1) :
    downP less q i n = if less (q.getD j 0) (q.getD i 0) = true then downP less (swp q i j) j n else q := by
 rw [downP, dif_pos h, hj]
section
variable {w0 w w' : World} {p : BP} {xs : List Nd} {qs : Nat → List Nat}
set_option maxHeartbeats 2000000 in
set_option maxRecDepth 100000 in
theorem down_calls (h : BM w0 w p xs qs) {i : Nat} (hi : i < 2) (i0 n : Nat) (hn : n ≤ (qs i).length) (hi0 : i0 < (qs i).length) (hl : (qs i).length ≤ 1000000) :
    Calls Try.prog 57 #[.iface 63 (.pointer (some ⟨p.bq i, 0, none⟩)), .int .i64 i0, .int .i64 n] w fun e w' => (∃ v, e = .returned v) ∧ BM w0 w' p xs (updQ qs i (downP (lessP i xs) (qs i) i0 n)) ∧ KT w w' := by
 have H := Aside0.mk h
 clear h
 go_enter Try.func57, Try.ntmps57
 go_wp2_with fail
 go_loopw [7] (fun v7 wr => ∃ (k : Nat) (q : List Nat), v7 = .int .i64 k ∧ k < q.length ∧ q.length = (qs i).length ∧ Aside0 (BM w0 wr p xs (updQ qs i q)) ∧ Aside0 (KT w wr) ∧ Aside0 (downP (lessP i xs) q k n = downP (lessP i xs) (qs i) i0 n)) (fun v7 _ => n - (intOf v7).toNat)
 case atStart => exact ⟨i0, qs i, rfl, hi0, rfl, ⟨by rw [updQ_self]; exact H.out⟩, ⟨KT.refl _⟩, ⟨rfl⟩⟩
 case round =>
  obtain ⟨k, q, rfl, hk, hql, HB, HK, HU⟩ := hrel
  by_cases hend : 2 * k + 1 < n
  · go_upto_region 3 with fail
    obtain ⟨a, ha⟩ : ∃ a : Nat, a = 2 * k + 1 := ⟨_, rfl⟩
    have hai : (2 * (k : Int) + 1) = (a : Int) := by omega
    rw [hai]
    have han : a < n := by omega
    have hka : k < a := by omega
    have HA := Aside0.mk ha
    have HE := Aside0.mk hend
    clear hai ha hend
    obtain ⟨b, hb⟩ : ∃ b : Nat, b = 2 * k + 2 := ⟨_, rfl⟩
    have hbi : ((a : Int) + 1) = (b : Int) := by have := HA.out; omega
    have hkb : k < b := by omega
    have HBB := Aside0.mk hb
    have Hbi := Aside0.mk hbi
    clear hb hbi
    by_cases h2 : b < n
    · by_cases hr : lessP i xs (q.getD b 0) (q.getD a 0) = true
      · have HJ := Aside0.mk (downP_step (lessP i xs) q k n b (by have := HE.out; exact this) (by rw [if_pos ⟨by have := HBB.out; omega, by rw [← HBB.out, ← HA.out]; exact hr⟩]; exact HBB.out))
        have HR := Aside0.mk hr
        clear hr
        go_upto_region 6 with fail
        rw [Hbi.out]
        go_wp2_with fail
        refine (less_calls HB.out hi b a (by rw [updQ_same]; omega) (by rw [updQ_same]; omega)).mono ?_
        rintro e w3 ⟨rfl, hb3, hk3⟩
        rw [updQ_same, HR.out]
        have HB3 := Aside0.mk hb3
        have HK3 := Aside0.mk (HK.out.trans hk3)
        clear hb3 hk3 HB HK HR
        have HB := HB3
        have HK := HK3
        clear HB3 HK3
        have hu := HJ.out.symm.trans HU.out
        by_cases hs : lessP i xs (q.getD b 0) (q.getD k 0) = true
        · rw [if_pos hs] at hu
          have HS := Aside0.mk hs
          have HU2 := Aside0.mk hu
          clear hs hu HU HJ
          go_wp2_with fail
          refine (less_calls HB.out hi b k (by rw [updQ_same]; omega) (by rw [updQ_same]; omega)).mono ?_
          rintro e w5 ⟨rfl, hb5, hk5⟩
          rw [updQ_same, HS.out]
          have HB5 := Aside0.mk hb5
          have HK5 := Aside0.mk (HK.out.trans hk5)
          clear hb5 hk5 HB HK
          go_wp2_with fail
          refine (swap_calls HB5.out hi k b (by rw [updQ_same]; omega) (by rw [updQ_same]; omega)).mono ?_
          rintro e w6 ⟨rfl, hb6, hk6⟩
          rw [updQ_same, updQ_updQ] at hb6
          have HB6 := Aside0.mk hb6
          have HK6 := Aside0.mk (HK5.out.trans hk6)
          clear hb6 hk6 HB5 HK5; go_wp2
          go_roundw
          case rel => exact ⟨b, swp q k b, rfl, by rw [swp_len]; omega, by rw [swp_len]; exact hql, HB6, HK6, HU2⟩
          case measure => simp [intOf]; omega
        · rw [if_neg hs] at hu
          have hs2 : lessP i xs (q.getD b 0) (q.getD k 0) = false := by simpa using hs
          have HS := Aside0.mk hs2
          have HU2 := Aside0.mk hu
          clear hs hs2 hu HU HJ
          go_wp2_with fail
          refine (less_calls HB.out hi b k (by rw [updQ_same]; omega) (by rw [updQ_same]; omega)).mono ?_
          rintro e w5 ⟨rfl, hb5, hk5⟩
          rw [updQ_same, HS.out]
          have HB5 := Aside0.mk hb5
          have HK5 := Aside0.mk (HK.out.trans hk5)
          clear hb5 hk5 HB HK; go_wp2; go_ret
          exact ⟨⟨_, rfl⟩, by rw [← HU2.out]; exact HB5.out, HK5.out⟩
      · have HJ := Aside0.mk (downP_step (lessP i xs) q k n a (by have := HE.out; exact this) (by rw [if_neg (fun hh => hr (by rw [HBB.out, HA.out]; exact hh.2))]; exact HA.out))
        have hr2 : lessP i xs (q.getD b 0) (q.getD a 0) = false := by simpa using hr
        have HR := Aside0.mk hr2
        clear hr hr2
        go_upto_region 6 with fail
        rw [Hbi.out]
        go_wp2_with fail
        refine (less_calls HB.out hi b a (by rw [updQ_same]; omega) (by rw [updQ_same]; omega)).mono ?_
        rintro e w3 ⟨rfl, hb3, hk3⟩
        rw [updQ_same, HR.out]
        have HB3 := Aside0.mk hb3
        have HK3 := Aside0.mk (HK.out.trans hk3)
        clear hb3 hk3 HB HK HR
        have HB := HB3
        have HK := HK3
        clear HB3 HK3
        have hu := HJ.out.symm.trans HU.out
        by_cases hs : lessP i xs (q.getD a 0) (q.getD k 0) = true
        · rw [if_pos hs] at hu
          have HS := Aside0.mk hs
          have HU2 := Aside0.mk hu
          clear hs hu HU HJ
          go_wp2_with fail
          refine (less_calls HB.out hi a k (by rw [updQ_same]; omega) (by rw [updQ_same]; omega)).mono ?_
          rintro e w5 ⟨rfl, hb5, hk5⟩
          rw [updQ_same, HS.out]
          have HB5 := Aside0.mk hb5
          have HK5 := Aside0.mk (HK.out.trans hk5)
          clear hb5 hk5 HB HK
          go_wp2_with fail
          refine (swap_calls HB5.out hi k a (by rw [updQ_same]; omega) (by rw [updQ_same]; omega)).mono ?_
          rintro e w6 ⟨rfl, hb6, hk6⟩
          rw [updQ_same, updQ_updQ] at hb6
          have HB6 := Aside0.mk hb6
          have HK6 := Aside0.mk (HK5.out.trans hk6)
          clear hb6 hk6 HB5 HK5; go_wp2
          go_roundw
          case rel => exact ⟨a, swp q k a, rfl, by rw [swp_len]; omega, by rw [swp_len]; exact hql, HB6, HK6, HU2⟩
          case measure => simp [intOf]; omega
        · rw [if_neg hs] at hu
          have hs2 : lessP i xs (q.getD a 0) (q.getD k 0) = false := by simpa using hs
          have HS := Aside0.mk hs2
          have HU2 := Aside0.mk hu
          clear hs hs2 hu HU HJ
          go_wp2_with fail
          refine (less_calls HB.out hi a k (by rw [updQ_same]; omega) (by rw [updQ_same]; omega)).mono ?_
          rintro e w5 ⟨rfl, hb5, hk5⟩
          rw [updQ_same, HS.out]
          have HB5 := Aside0.mk hb5
          have HK5 := Aside0.mk (HK.out.trans hk5)
          clear hb5 hk5 HB HK; go_wp2; go_ret
          exact ⟨⟨_, rfl⟩, by rw [← HU2.out]; exact HB5.out, HK5.out⟩
    · have HJ := Aside0.mk (downP_step (lessP i xs) q k n a (by have := HE.out; exact this) (by rw [if_neg (fun hh => h2 (by have := HBB.out; omega))]; exact HA.out))
      go_upto_region 6 with fail
      rw [Hbi.out]
      have hu := HJ.out.symm.trans HU.out
      by_cases hs : lessP i xs (q.getD a 0) (q.getD k 0) = true
      · rw [if_pos hs] at hu
        have HS := Aside0.mk hs
        have HU2 := Aside0.mk hu
        clear hs hu HU HJ
        go_wp2_with fail
        refine (less_calls HB.out hi a k (by rw [updQ_same]; omega) (by rw [updQ_same]; omega)).mono ?_
        rintro e w5 ⟨rfl, hb5, hk5⟩
        rw [updQ_same, HS.out]
        have HB5 := Aside0.mk hb5
        have HK5 := Aside0.mk (HK.out.trans hk5)
        clear hb5 hk5 HB HK
        go_wp2_with fail
        refine (swap_calls HB5.out hi k a (by rw [updQ_same]; omega) (by rw [updQ_same]; omega)).mono ?_
        rintro e w6 ⟨rfl, hb6, hk6⟩
        rw [updQ_same, updQ_updQ] at hb6
        have HB6 := Aside0.mk hb6
        have HK6 := Aside0.mk (HK5.out.trans hk6)
        clear hb6 hk6 HB5 HK5; go_wp2
        go_roundw
        case rel => exact ⟨a, swp q k a, rfl, by rw [swp_len]; omega, by rw [swp_len]; exact hql, HB6, HK6, HU2⟩
        case measure => simp [intOf]; omega
      · rw [if_neg hs] at hu
        have hs2 : lessP i xs (q.getD a 0) (q.getD k 0) = false := by simpa using hs
        have HS := Aside0.mk hs2
        have HU2 := Aside0.mk hu
        clear hs hs2 hu HU HJ
        go_wp2_with fail
        refine (less_calls HB.out hi a k (by rw [updQ_same]; omega) (by rw [updQ_same]; omega)).mono ?_
        rintro e w5 ⟨rfl, hb5, hk5⟩
        rw [updQ_same, HS.out]
        have HB5 := Aside0.mk hb5
        have HK5 := Aside0.mk (HK.out.trans hk5)
        clear hb5 hk5 HB HK; go_wp2; go_ret
        exact ⟨⟨_, rfl⟩, by rw [← HU2.out]; exact HB5.out, HK5.out⟩
  · have hu := (downP_end _ _ _ _ hend).symm.trans HU.out
    have HU2 := Aside0.mk hu
    clear hu HU; go_wp2; go_ret
    exact ⟨⟨_, rfl⟩, by rw [← HU2.out]; exact HB.out, HK.out⟩
end
end Go.Proofs.Ytocndmielggnpaa.PAll
end
section
namespace Go.Proofs.Ytocndmielggnpaa.PAll
open Go.RowKit Go.Proofs.YtocndmielggnpaaW.PrintWords Go.Proofs.YtocndmielggnpaaW.PrintLast Go.Proofs.YtocndmielggnpaaW.PrintMore
open Go.Proofs.Ytocndmielggnpaa.AMap Go.Proofs.Ytocndmielggnpaa.Env Go.Proofs.Ytocndmielggnpaa.Kind
attribute [local go_sem] max2_int min2_int max_two min_two
theorem swp_perm (q : List Nat) (a b : Nat) (ha : a < q.length) (hb : b < q.length) : (swp q a b).Perm q := by
 unfold swp
 have e1 : q.getD a 0 = q[a] := by simp [List.getD_eq_getElem?_getD, List.getElem?_eq_getElem ha]
 have e2 : q.getD b 0 = q[b] := by simp [List.getD_eq_getElem?_getD, List.getElem?_eq_getElem hb]
 rw [e1, e2]
 exact List.set_set_perm ha hb
theorem upP_perm (less : Nat → Nat → Bool) : ∀ (j : Nat) (q : List Nat), j < q.length → (upP less q j).Perm q := by
 intro j
 induction j using Nat.strongRecOn with
 | _ j ih =>
  intro q hj
  by_cases h0 : j = 0
  · subst h0; rw [upP_zero]
  · rw [upP_pos _ _ _ h0]
    split
    · have hm : (j - 1) / 2 < j := by omega
      exact (ih _ hm _ (by rw [swp_len]; omega)).trans (swp_perm q _ _ (by omega) hj)
    · exact List.Perm.refl _
theorem downP_perm (less : Nat → Nat → Bool) (n : Nat) : ∀ (m k : Nat) (q : List Nat), n - k ≤ m → n ≤ q.length → k < q.length → (downP less q k n).Perm q ∧ ∀ j, n ≤ j → j ≠ k → (downP less q k n).getD j 0 = q.getD j 0 := by
 intro m
 induction m with
 | zero =>
  intro k q h1 h2 h3
  rw [downP_end _ _ _ _ (by omega)]
  exact ⟨List.Perm.refl _, fun _ _ _ => rfl⟩
 | succ m ih =>
  intro k q h1 h2 h3
  by_cases he : 2 * k + 1 < n
  · obtain ⟨j, hj⟩ : ∃ j, j = if 2 * k + 2 < n ∧ less (q.getD (2 * k + 2) 0) (q.getD (2 * k + 1) 0) = true then 2 * k + 2 else 2 * k + 1 := ⟨_, rfl⟩
    have hjn : j < n ∧ k < j := by rw [hj]; split <;> omega
    rw [downP_step less q k n j he hj]
    split
    · have := ih j (swp q k j) (by omega) (by rw [swp_len]; exact h2) (by rw [swp_len]; omega)
      refine ⟨this.1.trans (swp_perm q k j h3 (by omega)), fun i h4 h5 => ?_⟩
      rw [this.2 i h4 (by omega)]
      unfold swp
      simp only [List.getD_eq_getElem?_getD]
      rw [List.getElem?_set_ne (by omega), List.getElem?_set_ne (by omega)]
    · exact ⟨List.Perm.refl _, fun _ _ _ => rfl⟩
  · rw [downP_end _ _ _ _ he]
    exact ⟨List.Perm.refl _, fun _ _ _ => rfl⟩
theorem pushP_perm (less : Nat → Nat → Bool) (q : List Nat) (k : Nat) : (pushP less q k).Perm (q ++ [k]) := upP_perm less _ _ (by simp)
/-- What is popped is what was at the head; the rest stays. -/
theorem popP_spec (less : Nat → Nat → Bool) (q : List Nat) (h : 0 < q.length) : (popP less q).1 = q.getD 0 0 ∧ ((popP less q).1 :: (popP less q).2).Perm q := by
 obtain ⟨n, hn⟩ : ∃ n, q.length = n + 1 := ⟨q.length - 1, by omega⟩
 have hd := downP_perm less n n 0 (swp q 0 n) (by omega) (by rw [swp_len]; omega) (by rw [swp_len]; omega)
 have hl : (downP less (swp q 0 n) 0 n).length = n + 1 := by rw [hd.1.length_eq, swp_len, hn]
 have hp : popP less q = ((downP less (swp q 0 n) 0 n).getD n 0, (downP less (swp q 0 n) 0 n).take n) := by
  unfold popP
  rw [show q.length - 1 = n from by omega]
 rw [hp]
 have h0 : (downP less (swp q 0 n) 0 n).getD n 0 = q.getD 0 0 := by
  by_cases hn0 : n = 0
  · subst hn0
    rw [downP_end _ _ _ _ (by omega)]
    unfold swp
    simp only [List.getD_eq_getElem?_getD]
    rw [List.getElem?_set_self (by simp; omega)]
    rfl
  · rw [hd.2 n (Nat.le_refl _) hn0]
    unfold swp
    simp only [List.getD_eq_getElem?_getD]
    rw [List.getElem?_set_self (by simp; omega)]
    rfl
 refine ⟨h0, ?_⟩
 have h1 : (downP less (swp q 0 n) 0 n).Perm q := hd.1.trans (swp_perm q 0 n (by omega) (by omega))
 refine List.Perm.trans ?_ h1
 have h2 : (downP less (swp q 0 n) 0 n) = (downP less (swp q 0 n) 0 n).take n ++ [(downP less (swp q 0 n) 0 n).getD n 0] := by
  have hlt : n < (downP less (swp q 0 n) 0 n).length := by omega
  have e : (downP less (swp q 0 n) 0 n).getD n 0 = (downP less (swp q 0 n) 0 n)[n]'hlt := by rw [List.getD_eq_getElem?_getD, List.getElem?_eq_getElem hlt]; rfl
  rw [e, ← List.take_succ_eq_append_getElem (by omega), List.take_of_length_le (by omega)]
 conv => rhs; rw [h2]
 exact (List.perm_append_singleton _ _).symm
section
variable {w0 w w' : World} {p : BP} {xs : List Nd} {qs : Nat → List Nat}
set_option maxHeartbeats 2000000 in
set_option maxRecDepth 100000 in
theorem push_calls (h : BM w0 w p xs qs) {i : Nat} (hi : i < 2) (k : Nat) (hk : k < p.n) (hl : (qs i).length ≤ 999999) :
    Calls Try.prog 35 #[.iface 63 (.pointer (some ⟨p.bq i, 0, none⟩)), .iface 58 (.pointer (some ⟨p.nb k, 0, none⟩))] w fun e w' => e = .returned (.tuple #[]) ∧ BM w0 w' p xs (updQ qs i (pushP (lessP i xs) (qs i) k)) ∧ KT w w' := by
 have H := Aside0.mk h
 clear h
 go_enter Try.func35, Try.ntmps35
 go_wp2_with fail
 refine (qpush_calls H.out hi k hk (by omega)).mono ?_
 rintro e w1 ⟨rfl, hb1, hk1⟩
 have HB1 := Aside0.mk hb1
 have HK1 := Aside0.mk hk1
 clear hb1 hk1 H
 go_wp2_with fail
 refine (len_calls HB1.out hi).mono ?_
 rintro e w2 ⟨rfl, rfl⟩
 rw [updQ_same, List.length_append, List.length_cons, List.length_nil]
 go_wp2_with fail
 have hu := up_calls HB1.out hi (qs i).length (by rw [updQ_same]; simp) (by rw [updQ_same]; simp; omega)
 rw [updQ_same, updQ_updQ] at hu
 refine hu.mono ?_
 rintro e w3 ⟨rfl, hb3, hk3⟩
 have HB3 := Aside0.mk hb3
 have HK3 := Aside0.mk (HK1.out.trans hk3)
 clear hb3 hk3 HB1 HK1 hu; go_wp2
 go_end0
 exact ⟨rfl, HB3.out, HK3.out⟩
set_option maxHeartbeats 2000000 in
set_option maxRecDepth 100000 in
theorem pop_calls (h : BM w0 w p xs qs) {i : Nat} (hi : i < 2) (hne : 0 < (qs i).length) (hl : (qs i).length ≤ 1000000) :
    Calls Try.prog 37 #[.iface 63 (.pointer (some ⟨p.bq i, 0, none⟩))] w fun e w' => e = .returned (.iface 58 (.pointer (some ⟨p.nb (popP (lessP i xs) (qs i)).1, 0, none⟩))) ∧ BM w0 w' p xs (updQ qs i (popP (lessP i xs) (qs i)).2) ∧ KT w w' := by
 obtain ⟨n, hn⟩ : ∃ n, (qs i).length = n + 1 := ⟨(qs i).length - 1, by omega⟩
 have hdp := (downP_perm (lessP i xs) n n 0 (swp (qs i) 0 n) (by omega) (by rw [swp_len]; omega) (by rw [swp_len]; omega)).1
 have hdl : (downP (lessP i xs) (swp (qs i) 0 n) 0 n).length = n + 1 := by rw [hdp.length_eq, swp_len, hn]
 have hpp : popP (lessP i xs) (qs i) = ((downP (lessP i xs) (swp (qs i) 0 n) 0 n).getD n 0, (downP (lessP i xs) (swp (qs i) 0 n) 0 n).take n) := by
  unfold popP
  rw [show (qs i).length - 1 = n from by omega]
 rw [hpp]
 obtain ⟨q, hq⟩ : ∃ q, q = downP (lessP i xs) (swp (qs i) 0 n) 0 n := ⟨_, rfl⟩
 rw [← hq] at hdl ⊢
 have HQ := Aside0.mk hq
 have H := Aside0.mk h
 have HN := Aside0.mk hn
 have HDL := Aside0.mk hdl
 clear h hq hpp hdp hdl
 go_enter Try.func37, Try.ntmps37
 go_wp2_with fail
 refine (len_calls H.out hi).mono ?_
 rintro e w2 ⟨rfl, rfl⟩
 rw [HN.out]
 clear hn
 have hnb : n ≤ 1000000 := by have := HN.out; omega
 have hs := swap_calls H.out hi 0 n (by have := HN.out; omega) (by have := HN.out; omega)
 have HS := Aside0.mk hs
 clear hs
 go_wp2_with fail
 refine HS.out.mono ?_
 rintro e w3 ⟨rfl, hb3, hk3⟩
 have hd := down_calls hb3 hi 0 n (by rw [updQ_same, swp_len]; have := HN.out; omega) (by rw [updQ_same, swp_len]; have := HN.out; omega) (by rw [updQ_same, swp_len]; exact hl)
 rw [updQ_same, updQ_updQ, ← HQ.out] at hd
 have HD := Aside0.mk hd
 have HK3 := Aside0.mk hk3
 clear hd hb3 hk3 HS H
 go_wp2_with fail
 refine HD.out.mono ?_
 rintro e w4 ⟨⟨v, rfl⟩, hb4, hk4⟩
 have hp := qpop_calls hb4 hi (by rw [updQ_same]; have := HDL.out; omega)
 rw [updQ_same, updQ_updQ, HDL.out, show n + 1 - 1 = n from rfl] at hp
 have HP := Aside0.mk hp
 have HK4 := Aside0.mk (HK3.out.trans hk4)
 clear hp hb4 hk4 HD HK3
 go_wp2_with fail
 refine HP.out.mono ?_
 rintro e w5 ⟨rfl, hb5, hk5⟩
 have HB5 := Aside0.mk hb5
 have HK5 := Aside0.mk (HK4.out.trans hk5)
 clear hb5 hk5 HP HK4; go_wp2; go_ret
 exact ⟨rfl, HB5.out, HK5.out⟩
end
end Go.Proofs.Ytocndmielggnpaa.PAll
end
section
namespace Go.Proofs.Ytocndmielggnpaa.PAll
open Go.RowKit Go.Proofs.YtocndmielggnpaaW.PrintWords Go.Proofs.YtocndmielggnpaaW.PrintLast Go.Proofs.YtocndmielggnpaaW.PrintMore
structure St where
 xs : List Nd
 q0 : List Nat
 q1 : List Nat
 now : Int
 out : List Nat
def frmOf (xs : List Nd) (k : Nat) : Int := (xs.getD k nz).frm
def ahOf (xs : List Nd) (k : Nat) : Int := (xs.getD k nz).ahead
def setFrm (xs : List Nd) (t : Nat) (v : Int) : List Nd := xs.modify t fun x => { x with frm := v }
def setAh (xs : List Nd) (t : Nat) (v : Int) : List Nd := xs.modify t fun x => { x with ahead := v }
/-- One edge is laid off. -/
def relax (now : Int) (s : List Nd × List Nat) (e : Int × Int) : List Nd × List Nat :=
 let t := e.1.toNat
 let x1 := setFrm s.1 t (max (frmOf s.1 t) (wrap64 (now + e.2)))
 let x2 := setAh x1 t (wrap64 (ahOf x1 t - 1))
 (x2, if ahOf x2 t = 0 then pushP (lessP 1 x2) s.2 t else s.2)
/-- What may issue is moved. -/
def moveOk (s : St) : Prop := 0 < s.q1.length ∧ frmOf s.xs (s.q1.getD 0 0) ≤ s.now
instance (s : St) : Decidable (moveOk s) := by unfold moveOk; infer_instance
def move1 (s : St) : St := { s with q1 := (popP (lessP 1 s.xs) s.q1).2, q0 := pushP (lessP 0 s.xs) s.q0 (popP (lessP 1 s.xs) s.q1).1 }
def moveW : Nat → St → St
 | 0, s => s
 | f + 1, s => if moveOk s then moveW f (move1 s) else s
def wake (s : St) : St := if s.q0.length = 0 ∧ 0 < s.q1.length then { s with now := max s.now (frmOf s.xs (s.q1.getD 0 0)) } else s
def pre (s : St) : St := moveW (wake s).q1.length (wake s)
def popd (s : St) : Nat := (popP (lessP 0 s.xs) s.q0).1
def behOf (xs : List Nd) (k : Nat) : List (Int × Int) := (xs.getD k nz).beh
def relaxed (s : St) (m : Nat) : List Nd × List Nat := ((behOf s.xs (popd s)).take m).foldl (relax s.now) (s.xs, s.q1)
def stepP (s0 : St) : St :=
 let s := pre s0
 let r := relaxed s (behOf s.xs (popd s)).length
 { xs := r.1, q0 := (popP (lessP 0 s.xs) s.q0).2, q1 := r.2, now := wrap64 (s.now + 1), out := s.out ++ [popd s] }
def initQ (xs : List Nd) (k : Nat) : List Nat := (List.range k).foldl (fun q j => if ahOf xs j = 0 then pushP (lessP 0 xs) q j else q) []
def st0 (d : De) (l : List S37) : St := ⟨graphP d l, initQ (graphP d l) l.length, [], 0, []⟩
def stK (d : De) (l : List S37) (k : Nat) : St := Nat.rec (st0 d l) (fun _ s => stepP s) k
theorem stK_zero (d : De) (l : List S37) : stK d l 0 = st0 d l := rfl
theorem stK_succ (d : De) (l : List S37) (k : Nat) : stK d l (k + 1) = stepP (stK d l k) := rfl
def order (d : De) (l : List S37) : List S37 := (stK d l l.length).out.map fun j => l.getD j z37
def blockP (l : List S37) (e : En) (d : De) : List S37 := if cyP (order d l) e d ≤ cyP l e d then order d l else l
theorem initQ_succ (xs : List Nd) (k : Nat) : initQ xs (k + 1) = if ahOf xs k = 0 then pushP (lessP 0 xs) (initQ xs k) k else initQ xs k := by
 unfold initQ
 rw [List.range_succ, List.foldl_append]
 rfl
theorem pushP_len (less : Nat → Nat → Bool) (q : List Nat) (k : Nat) : (pushP less q k).length = q.length + 1 := by rw [(pushP_perm less q k).length_eq]; simp
theorem popP_len (less : Nat → Nat → Bool) (q : List Nat) (h : 0 < q.length) : (popP less q).2.length + 1 = q.length := by have := (popP_spec less q h).2.length_eq; simpa using this
theorem initQ_len (xs : List Nd) (k : Nat) : (initQ xs k).length ≤ k := by
 induction k with
 | zero => simp [initQ]
 | succ k ih =>
  rw [initQ_succ]
  split
  · rw [pushP_len]; omega
  · omega
theorem relaxed_succ (s : St) (m : Nat) (hm : m < (behOf s.xs (popd s)).length) : relaxed s (m + 1) = relax s.now (relaxed s m) ((behOf s.xs (popd s)).getD m (0, 0)) := by
 unfold relaxed
 rw [List.take_succ_eq_append_getElem hm, List.foldl_append]
 simp [List.getD_eq_getElem?_getD, List.getElem?_eq_getElem hm]
theorem moveW_ok (s : St) (h : moveOk s) : moveW s.q1.length s = moveW (move1 s).q1.length (move1 s) := by
 have h1 : (move1 s).q1.length + 1 = s.q1.length := popP_len _ _ h.1
 rw [← h1]
 unfold moveW
 rw [if_pos h]
 generalize (move1 s).q1.length = f
 cases f <;> rfl
theorem moveW_end (s : St) (h : ¬ moveOk s) : moveW s.q1.length s = s := by
 cases hq : s.q1.length with
 | zero => rfl
 | succ f => unfold moveW; rw [if_neg h]
def Same (xs ys : List Nd) : Prop := ys.length = xs.length ∧ ∀ k, (ys.getD k nz).pos = (xs.getD k nz).pos ∧ (ys.getD k nz).beh = (xs.getD k nz).beh ∧ (ys.getD k nz).far = (xs.getD k nz).far
theorem Same.refl (xs : List Nd) : Same xs xs := ⟨rfl, fun _ => ⟨rfl, rfl, rfl⟩⟩
theorem Same.trans {a b c : List Nd} (h : Same a b) (h' : Same b c) : Same a c := ⟨h'.1.trans h.1, fun k => ⟨(h'.2 k).1.trans (h.2 k).1, (h'.2 k).2.1.trans (h.2 k).2.1, (h'.2 k).2.2.trans (h.2 k).2.2⟩⟩
theorem same_modify (xs : List Nd) (t : Nat) (f : Nd → Nd) (h : ∀ x, (f x).pos = x.pos ∧ (f x).beh = x.beh ∧ (f x).far = x.far) : Same xs (xs.modify t f) := by
 refine ⟨by simp, fun k => ?_⟩
 simp only [List.getD_eq_getElem?_getD, List.getElem?_modify]
 split
 · cases xs[k]? with
   | none => exact ⟨rfl, rfl, rfl⟩
   | some x => exact h x
 · simp
theorem same_frm (xs : List Nd) (t : Nat) (v : Int) : Same xs (setFrm xs t v) := same_modify _ _ _ (fun _ => ⟨rfl, rfl, rfl⟩)
theorem same_ah (xs : List Nd) (t : Nat) (v : Int) : Same xs (setAh xs t v) := same_modify _ _ _ (fun _ => ⟨rfl, rfl, rfl⟩)
theorem same_relax (now : Int) (s : List Nd × List Nat) (e : Int × Int) : Same s.1 (relax now s e).1 := (same_frm _ _ _).trans (same_ah _ _ _)
theorem same_foldl (now : Int) (es : List (Int × Int)) : ∀ s : List Nd × List Nat, Same s.1 (es.foldl (relax now) s).1 := by
 induction es with
 | nil => intro s; exact Same.refl _
 | cons e es ih => intro s; exact (same_relax now s e).trans (ih _)
theorem moveW_xs : ∀ (f : Nat) (s : St), (moveW f s).xs = s.xs ∧ (moveW f s).now = s.now ∧ (moveW f s).out = s.out := by
 intro f
 induction f with
 | zero => intro s; exact ⟨rfl, rfl, rfl⟩
 | succ f ih =>
  intro s
  unfold moveW
  split
  · exact ih (move1 s)
  · exact ⟨rfl, rfl, rfl⟩
theorem pre_xs (s : St) : (pre s).xs = s.xs ∧ (pre s).out = s.out := by
 have h := moveW_xs (wake s).q1.length (wake s)
 have hw : (wake s).xs = s.xs ∧ (wake s).out = s.out := by unfold wake; split <;> exact ⟨rfl, rfl⟩
 exact ⟨h.1.trans hw.1, h.2.2.trans hw.2⟩
theorem same_step (s : St) : Same s.xs (stepP s).xs := by
 have := same_foldl (pre s).now ((behOf (pre s).xs (popd (pre s))).take (behOf (pre s).xs (popd (pre s))).length) ((pre s).xs, (pre s).q1)
 rw [show ((pre s).xs, (pre s).q1).1 = s.xs from (pre_xs s).1] at this
 exact this
theorem same_K (d : De) (l : List S37) (k : Nat) : Same (graphP d l) (stK d l k).xs := by
 induction k with
 | zero => exact Same.refl _
 | succ k ih => exact ih.trans (same_step _)
theorem out_len (d : De) (l : List S37) (k : Nat) : (stK d l k).out.length = k := by
 induction k with
 | zero => rfl
 | succ k ih =>
  rw [stK_succ]
  show ((pre (stK d l k)).out ++ [_]).length = _
  rw [List.length_append, (pre_xs _).2, ih]
  rfl
def Posd (xs : List Nd) : Prop := ∀ k, k < xs.length → (xs.getD k nz).pos = k
theorem posd_modify {xs : List Nd} (h : Posd xs) (t : Nat) (f : Nd → Nd) (hf : ∀ x, (f x).pos = x.pos) : Posd (xs.modify t f) := by
 intro k hk
 rw [List.length_modify] at hk
 have := h k hk
 simp only [List.getD_eq_getElem?_getD, List.getElem?_modify] at this ⊢
 split
 · rw [List.getElem?_eq_getElem hk] at this ⊢
   exact (hf _).trans this
 · simpa using this
theorem posd_afs (m : Nat) (es : List (Nat × Int)) : ∀ xs : List Nd, Posd xs → Posd (afs m xs es) := by
 induction es with
 | nil => intro xs h; exact h
 | cons e es ih =>
  intro xs h
  refine ih _ ?_
  show Posd (afterP xs m m e)
  unfold afterP
  exact posd_modify (posd_modify h e.1 (fun x => { x with beh := x.beh ++ [((m : Int), e.2)] }) (fun _ => rfl)) m (fun x => { x with ahead := x.ahead + 1 }) (fun _ => rfl)
theorem posd_gSt {d : De} {l : List S37} (h : Sh l) (k : Nat) (hk : k ≤ l.length) : Posd (gSt d l k).nd := by
 induction k with
 | zero => intro j hj; simp [gSt] at hj
 | succ k ih =>
  rw [gSt_succ d l k (by omega)]
  have hlen := (gSt_GI h k (by omega) (d := d)).len
  simp only [gStep, hlen]
  refine posd_afs _ _ _ ?_
  intro j hj
  rw [List.length_append, List.length_cons, List.length_nil, hlen] at hj
  by_cases hjk : j = k
  · subst hjk
    rw [List.getD_eq_getElem?_getD, List.getElem?_append_right (by omega), hlen]
    simp [nd0]
  · have := ih (by omega) j (by omega)
    rw [List.getD_eq_getElem?_getD] at this ⊢
    rw [List.getElem?_append_left (by omega)]
    exact this
theorem graph_beh (d : De) (l : List S37) (k : Nat) : ((graphP d l).getD k nz).beh = ((gSt d l l.length).nd.getD k nz).beh ∧ ((graphP d l).getD k nz).pos = ((gSt d l l.length).nd.getD k nz).pos ∧ ((graphP d l).getD k nz).ahead = ((gSt d l l.length).nd.getD k nz).ahead := by
 unfold graphP
 generalize (List.range l.length).reverse = js
 generalize (gSt d l l.length).nd = xs
 induction js generalizing xs with
 | nil => exact ⟨rfl, rfl, rfl⟩
 | cons j js ih =>
  rw [List.foldl_cons]
  have h1 := ih (farNode d l xs j)
  have h2 := farNode_beh d l xs j k
  exact ⟨h1.1.trans h2.1, h1.2.1.trans h2.2.1, h1.2.2.trans h2.2.2.1⟩
theorem graph_len {d : De} {l : List S37} (h : Sh l) : (graphP d l).length = l.length := by
 unfold graphP
 rw [farNodes_len]
 exact (gSt_GI h _ (Nat.le_refl _)).len
theorem graph_EB {d : De} {l : List S37} (h : Sh l) : EB (graphP d l) l.length := EB.farNodes _ (gSt_EB h _ (Nat.le_refl _))
theorem stK_pos {d : De} {l : List S37} (h : Sh l) (k j : Nat) (hj : j < l.length) : ((stK d l k).xs.getD j nz).pos = j := by
 rw [((same_K d l k).2 j).1, (graph_beh d l j).2.1]
 exact posd_gSt h _ (Nat.le_refl _) j (by rw [(gSt_GI h _ (Nat.le_refl _)).len]; exact hj)
theorem stK_beh {d : De} {l : List S37} (h : Sh l) (k j : Nat) (hj : j < l.length) : behOf (stK d l k).xs j = behOf (graphP d l) j ∧ (behOf (graphP d l) j).length ≤ 1000000000000 ∧ ∀ e ∈ behOf (graphP d l) j, 0 ≤ e.1 ∧ e.1 < l.length :=
 ⟨((same_K d l k).2 j).2.1, ((graph_EB h).at (by rw [graph_len h]; exact hj)).2⟩
/-- What the walk of Block asks of the order. -/
structure Safe (d : De) (l : List S37) : Prop where
 some_ : ∀ k, k < l.length → 0 < (pre (stK d l k)).q0.length
 few : ∀ k, k < l.length → (stK d l k).q0.length + (stK d l k).q1.length ≤ 100000
 few1 : ∀ k m, k < l.length → (relaxed (pre (stK d l k)) m).2.length ≤ 100000
end Go.Proofs.Ytocndmielggnpaa.PAll
end
section
namespace Go.Proofs.Ytocndmielggnpaa.PAll
open Go.RowKit Go.Proofs.YtocndmielggnpaaW.PrintWords Go.Proofs.YtocndmielggnpaaW.PrintLast Go.Proofs.YtocndmielggnpaaW.PrintMore
open Go.Proofs.Ytocndmielggnpaa.AMap Go.Proofs.Ytocndmielggnpaa.Env Go.Proofs.Ytocndmielggnpaa.Kind
attribute [local go_sem] max2_int min2_int max_two min_two Oper.semAt_some
set_option maxHeartbeats 4000000 in
set_option maxRecDepth 100000 in
theorem graph_calls (A0 : Option Addr) (c0 : Nat) (l : List S37) (d : De) (w : World) (hr0 : Kd.C k37 w A0 l.length l) (hc0 : l.length ≤ c0) (hsh : Sh l) :
    Calls Try.prog 30 #[.slice A0 l.length c0, .agg #[.int .i64 d.mul, .int .i64 d.dv, .int .i64 d.ld, .int .i64 d.tk]] w
     fun en w' => ∃ E nb ps rb, en = .returned (.slice (some ⟨rb, 0, none⟩) l.length l.length) ∧ FR w w' E nb (graphP d l) ∧ E (5, 0) = some (rb, .row 58 1 l.length ps l.length) ∧ ∀ k, k < l.length → ps[k]? = some (.pointer (some ⟨nb k, 0, none⟩)) := by
 have hmm := @run_makeMap Try.prog
 have hmk := print_make_of (P := Try.prog) 56 58 (.pointer none) 8 Try.underlying56 (by kernel_rfl) rfl (by decide) l.length (by have := hsh.1; omega)
 have HR0 := Aside0.mk hr0
 have HC0 := Aside0.mk hc0
 have HSH := Aside0.mk hsh
 have hl100 := hsh.1
 clear hr0 hc0 hsh
 obtain ⟨g, hg⟩ : ∃ g : GP, g = ⟨A0, c0, l, d, w.heap.size, w.heap.size + 1, w.heap.size + 1 + 1, w.heap.size + 1 + 1 + 1, w.heap.size + 1 + 1 + 1 + 1, w.heap.size + 1 + 1 + 1 + 1 + 1⟩ := ⟨_, rfl⟩
 refine (callsIn_wide (n := 3)).1 (callsIn_of_wp_marks Try.func30 rfl trivial (wpIn_wide.2 ?_) rfl)
 simp only [Try.ntmps30, List.size_toArray, List.length_cons, List.length_nil, Nat.reduceAdd, Nat.reduceSub, Array.replicate_succ, Array.replicate_zero, List.push_toArray, List.append_toArray, List.nil_append, List.cons_append]
 go_wp2_with fail
 go_loopw [44, 8, 9] (fun v44 v8 v9 wr => ∃ i : Nat, i ≤ l.length ∧ v44 = .int .i64 i ∧ v8 = .int .i64 (lastI (gSt d l i).last) ∧
     Aside0 (∃ E nb, GM w wr E nb ⟨A0, c0, l, d, w.heap.size, w.heap.size + 1, w.heap.size + 1 + 1, w.heap.size + 1 + 1 + 1, w.heap.size + 1 + 1 + 1 + 1, w.heap.size + 1 + 1 + 1 + 1 + 1⟩ i v9 (gSt d l i))) (fun v44 _ _ _ => l.length - (intOf v44).toNat)
 case atStart =>
  obtain ⟨E, hE⟩ := start_GM ⟨A0, c0, l, d, w.heap.size, w.heap.size + 1, w.heap.size + 1 + 1, w.heap.size + 1 + 1 + 1, w.heap.size + 1 + 1 + 1 + 1, w.heap.size + 1 + 1 + 1 + 1 + 1⟩ w rfl rfl rfl rfl rfl rfl hl100
  exact ⟨0, Nat.zero_le _, rfl, rfl, ⟨⟨E, _, hE⟩⟩⟩
 case round =>
  obtain ⟨i, hi, rfl, rfl, HG⟩ := hrel
  obtain ⟨wq, rfl⟩ : ∃ wq : World, wq = wr := ⟨_, rfl⟩
  by_cases hlt : i < l.length
  · obtain ⟨E, nb, hG⟩ := HG.out
    obtain ⟨ad, A7, c7, x, eA, hx, x0, x1, x2, x3, x4, x5, x6, x7, x8, hl7, hC7⟩ := at37 HR0.out i hlt
    subst eA
    have Hx := Aside0.mk hx
    clear hx
    have hB := hG.sat.below
    replace x0 := cell_b hB x0
    replace x1 := cell_b hB x1
    replace x2 := cell_b hB x2
    replace x3 := cell_b hB x3
    replace x4 := cell_b hB x4
    replace x5 := cell_b hB x5
    replace x6 := cell_b hB x6
    replace x7 := cell_b hB x7
    replace x8 := cell_b hB x8
    have HC7 := Aside0.mk hC7
    have HL7 := Aside0.mk hl7
    clear hC7 hl7
    have hI := gSt_GI HSH.out i hi (d := d)
    obtain ⟨E1, nb1, hA, hX, hnb, hnb2⟩ := hG.open hlt hI.len (xCells x A7 c7)
    have cN : wq.cell? ⟨w.heap.size + 1 + 1 + 1, 0, none⟩ = some (.slice (some ⟨w.heap.size + 1 + 1, 0, none⟩) l.length l.length) := (hG.sat.cell hG.gc.hN 0).trans rfl
    have cN4 : ∀ o1 o2 o3 o4, ((((wq.alloc o1).alloc o2).alloc o3).alloc o4).cell? ⟨w.heap.size + 1 + 1 + 1, 0, none⟩ = some (.slice (some ⟨w.heap.size + 1 + 1, 0, none⟩) l.length l.length) :=
     fun o1 o2 o3 o4 => cell_b (below_alloc (below_alloc (below_alloc (below_alloc (Below.refl _ _) _) _) _) _) cN
    have fr4 : ∀ o1 o2 o3 o4, ((((wq.alloc o1).alloc o2).alloc o3).alloc o4).frozen? ⟨w.heap.size + 1 + 1, i, none⟩ = false :=
     fun o1 o2 o3 o4 => fr4_of hG o1 o2 o3 o4 i
    obtain ⟨u0, ce4⟩ := ce4_of hG i hlt
    have HcN := Aside0.mk cN
    have HGY := Aside0.mk (GY.open hA hX)
    have HI := Aside0.mk hI
    have HB := Aside0.mk hB
    clear hA hX hI hB hG HG cN
    have hfew : Few x.f0 := by
     have := HSH.out.at i
     rw [← Hx.out] at this
     unfold Few; omega
    have Hfew := Aside0.mk hfew
    clear hfew
    go_wp2_with fail
    obtain ⟨w1, hw1⟩ : ∃ w1, w1 = ((((wq.alloc (.cells #[.int .i64 i] 3)).alloc (.cells (xCells x A7 c7) 37)).alloc (.cells (nCells i) 61)).alloc (.cells #[.pointer (some ⟨wq.heap.size + 1 + 1, 0, none⟩)] 58)).setCell ⟨w.heap.size + 1 + 1, i, none⟩ (.pointer (some ⟨wq.heap.size + 1 + 1, 0, none⟩)) := ⟨_, rfl⟩
    have HGY0 := HGY.out
    rw [← hw1] at HGY0
    refine wp_eq_world _ _ _ hw1 ?_
    clear hw1 HGY
    have HGY := Aside0.mk HGY0
    clear HGY0 cN4 ce4 fr4 x0 x1 x2 x3 x4 x5 x6 x7 x8
    replace HGY := Aside0.mk HGY.out.drew
    refine startN_ (n := 8) (S := fun w' => w'.cell? ⟨wq.heap.size + 1, 0, none⟩ = some (.int .i64 x.f0.f0) ∧ w'.cell? ⟨wq.heap.size + 1, 1, none⟩ = some (.int .i64 x.f0.f1) ∧ w'.cell? ⟨wq.heap.size + 1, 2, none⟩ = some (.int .i64 x.f0.f2) ∧ w'.cell? ⟨wq.heap.size + 1, 3, none⟩ = some (.int .i64 x.f0.f3) ∧ w'.cell? ⟨wq.heap.size + 1, 4, none⟩ = some (.int .i64 x.f0.f4) ∧ w'.cell? ⟨wq.heap.size + 1, 5, none⟩ = some (.int .i64 x.f0.f5) ∧ w'.cell? ⟨wq.heap.size + 1, 6, none⟩ = some (.int .i32 x.f0.f6) ∧ w'.cell? ⟨wq.heap.size + 1, 7, none⟩ = some (.slice A7 x.f0.f7.length c7)) (ds := []) (bm 8 0) (by kernel_rfl) rfl rfl ⟨(HGY.out.cx 0).trans rfl, (HGY.out.cx 1).trans rfl, (HGY.out.cx 2).trans rfl, (HGY.out.cx 3).trans rfl, (HGY.out.cx 4).trans rfl, (HGY.out.cx 5).trans rfl, (HGY.out.cx 6).trans rfl, (HGY.out.cx 7).trans rfl⟩ (fun hHeld => ?_)
    refine pu 0 57 (bm 8 1) rfl rfl (by kernel_rfl) (fun _ _ _ h => h) (by rfl) (v := ?_) (a' := ?_) (by intro w'; go_simp; with_reducible rfl) (by simp only [np]; rfl) ?_
    refine pu 3 60 (bm 8 9) rfl rfl (by kernel_rfl) (fun _ _ _ h => h) (by rfl) (v := ?_) (a' := ?_) (by intro w'; go_simp; with_reducible rfl) (by simp only [np]; rfl) ?_
    refine tu 1 58 (bm 8 11) rfl rfl (by kernel_rfl) (fun _ _ _ h => h) (by rfl) (v := ?_) (a' := ?_) (by rintro w' ⟨s0, s1, s2, s3, s4, s5, s6, s7⟩; go_simp; with_reducible rfl) hHeld (by simp only [np]; rfl) ?_
    refine tu 4 61 (bm 8 27) rfl rfl (by kernel_rfl) (fun _ _ _ h => h) (by rfl) (v := ?_) (a' := ?_) (by rintro w' ⟨s0, s1, s2, s3, s4, s5, s6, s7⟩; go_simp; with_reducible rfl) hHeld (by simp only [np]; rfl) ?_
    refine one_ (i := 2) (N := some 59) (bm 8 31) rfl rfl (by kernel_rfl) (by decide) (fun K hK => ?_)
    refine goes_ Try.func23 (by kernel_rfl) rfl #[.agg #[.int .i64 x.f0.f0, .int .i64 x.f0.f1, .int .i64 x.f0.f2, .int .i64 x.f0.f3, .int .i64 x.f0.f4, .int .i64 x.f0.f5, .int .i32 x.f0.f6, .slice A7 x.f0.f7.length c7]] (by rfl) rfl rfl (by simp only [List.map_toArray, List.map_cons, List.map_nil]; rfl) ?_
    with_reducible refine (phys_Takes.calls x.f0.f0 x.f0.f1 x.f0.f2 x.f0.f3 x.f0.f4 x.f0.f5 x.f0.f6 A7 c7 x.f0.f7 (tkP x.f0) _ (Kd.C_below HC7.out HGY.out.below) HL7.out (takes_eq x.f0 Hfew.out)).mono ?_
    rintro e w2 ⟨v14, rfl, hR14, hb14⟩
    refine ⟨_, rfl, ?_⟩
    have HGY2 := Aside0.mk (HGY.out.set13 hb14 (Kd.own_of_R hR14))
    obtain ⟨A14, c14, rfl⟩ := own_slice (Kd.own_of_R hR14)
    clear HGY
    have HGY := HGY2
    clear HGY2 hR14 hb14
    refine hK.out _ _ ⟨(HGY.out.cx 0).trans rfl, (HGY.out.cx 1).trans rfl, (HGY.out.cx 2).trans rfl, (HGY.out.cx 3).trans rfl, (HGY.out.cx 4).trans rfl, (HGY.out.cx 5).trans rfl, (HGY.out.cx 6).trans rfl, (HGY.out.cx 7).trans rfl⟩ (fun hHeld => ?_)
    clear hK K
    refine norm_ (a' := ?_) ?_ ?_
    rotate_left
    · show Act.put _ (some 59) _ = _; simp only [np]; rfl
    refine one_ (i := 5) (N := some 62) (bm 8 63) rfl rfl (by kernel_rfl) (by decide) (fun K hK => ?_)
    refine goes_ Try.func24 (by kernel_rfl) rfl #[.agg #[.int .i64 x.f0.f0, .int .i64 x.f0.f1, .int .i64 x.f0.f2, .int .i64 x.f0.f3, .int .i64 x.f0.f4, .int .i64 x.f0.f5, .int .i32 x.f0.f6, .slice A7 x.f0.f7.length c7]] (by rfl) rfl rfl (by simp only [List.map_toArray, List.map_cons, List.map_nil]; rfl) ?_
    with_reducible refine (sched_changes.calls x.f0.f0 x.f0.f1 x.f0.f2 x.f0.f3 x.f0.f4 x.f0.f5 x.f0.f6 A7 c7 x.f0.f7 (chP x.f0) _ (Kd.C_below HC7.out HGY.out.below) HL7.out (changes_eq x.f0 Hfew.out)).mono ?_
    rintro e w3 ⟨v15, rfl, hR15, hb15⟩
    refine ⟨_, rfl, ?_⟩
    have HGY2 := Aside0.mk (HGY.out.set14 hb15 (Kd.own_of_R hR15))
    obtain ⟨A15, c15, rfl⟩ := own_slice (Kd.own_of_R hR15)
    clear HGY
    have HGY := HGY2
    clear HGY2 hR15 hb15
    refine hK.out _ _ ⟨(HGY.out.cx 0).trans rfl, (HGY.out.cx 1).trans rfl, (HGY.out.cx 2).trans rfl, (HGY.out.cx 3).trans rfl, (HGY.out.cx 4).trans rfl, (HGY.out.cx 5).trans rfl, (HGY.out.cx 6).trans rfl, (HGY.out.cx 7).trans rfl⟩ (fun hHeld => ?_)
    clear hK K
    refine norm_ (a' := ?_) ?_ ?_
    rotate_left
    · show Act.put _ (some 62) _ = _; simp only [np]; rfl
    refine pu 6 14 (bm 8 127) rfl rfl (by kernel_rfl) (fun _ _ _ h => h) (by rfl) (v := ?_) (a' := ?_) (by intro w'; go_simp; with_reducible rfl) (by simp only [np]; rfl) ?_
    refine pu 7 15 (bm 8 255) rfl rfl (by kernel_rfl) (fun _ _ _ h => h) (by rfl) (v := ?_) (a' := ?_) (by intro w'; go_simp; with_reducible rfl) (by simp only [np]; rfl) ?_
    refine done_ (by kernel_rfl) ?_
    refine onlyN_norm ?_
    have hI := HI.out
    have hxl : ((gSt d l i).nd ++ [nd0 i]).length = i + 1 := by simp [hI.len]
    have hbd : Bd ((gSt d l i).nd ++ [nd0 i]) (i * 2000000) := by
     intro y hy
     rcases List.mem_append.1 hy with hy | hy
     · exact hI.bd y hy
     · have := List.mem_singleton.1 hy; subst this; refine ⟨by simp [nd0], by simp [nd0], ?_⟩; show (0 : Int) ≤ _; omega
    have hgl := gEdges_len (d := d) (l := l) hI (by omega) x.f0 (by rw [Hx.out]; exact HSH.out.at i)
    simp only [gEdges, List.length_append] at hgl
    obtain ⟨s, hs⟩ : ∃ s, s = gSt d l i := ⟨_, rfl⟩
    have Hs := Aside0.mk hs
    rw [← hs] at hI hxl hbd HGY hgl
    have HI2 := Aside0.mk hI
    have HXL := Aside0.mk hxl
    have HBD := Aside0.mk hbd
    have HGL := Aside0.mk hgl
    have tl14 : (tkP x.f0).length ≤ 1000 := by have h1 := tk_len x.f0; have h2 := HSH.out.at i; rw [← Hx.out] at h2; omega
    have tl15 : (chP x.f0).length ≤ 1000 := by have h1 := ch_len x.f0; have h2 := HSH.out.at i; rw [← Hx.out] at h2; omega
    have cl14 := own_le HGY.out.row14
    have cl15 := own_le HGY.out.row15
    clear hI hxl hbd hgl hs HB HcN HI
    rw [show lastI (gSt d l i).last = lastI s.last from by rw [Hs.out]]
    go_wp2_with fail
    go_loopw [65] (fun v65 wr => ∃ j : Nat, j ≤ (tkP x.f0).length ∧ v65 = .int .i64 j ∧
        Aside0 (GY w wr nb1 ⟨some ad, c0, l, d, w.heap.size, w.heap.size + 1, w.heap.size + 1 + 1, w.heap.size + 1 + 1 + 1, w.heap.size + 1 + 1 + 1 + 1, w.heap.size + 1 + 1 + 1 + 1 + 1⟩ i u9 s (xCells x A7 c7) wq.heap.size (wq.heap.size + 1) (wq.heap.size + 1 + 1 + 1) (.slice A14 (tkP x.f0).length c14) (tkP x.f0) (.slice A15 (chP x.f0).length c15) (chP x.f0) (afs i (s.nd ++ [nd0 i]) (((tkP x.f0).take j).flatMap (eT d l s))))) (fun v65 _ => (tkP x.f0).length - (intOf v65).toNat)
    case atStart => exact ⟨0, Nat.zero_le _, rfl, ⟨by simpa [afs] using HGY.out⟩⟩
    case round =>
     clear HGY
     obtain ⟨j, hj, rfl, HGY⟩ := hrel
     by_cases hjl : j < (tkP x.f0).length
     · obtain ⟨p, hp⟩ : ∃ p, p = (tkP x.f0).getD j 0 := ⟨_, rfl⟩
       obtain ⟨g14, rfl, hcell⟩ := row_at (ys := nums .i64 (tkP x.f0)) (A := A14) (c := c14) (by rw [nums_length]; exact HGY.out.row14) j (by rw [nums_length]; exact hjl)
       rw [nums_get _ _ hjl, ← hp] at hcell
       have Hp := Aside0.mk hp
       obtain ⟨f, hmf, hf⟩ := HGY.out.made
       have hz : ∀ w, (zeroValue 3).run Try.prog w = .ok (.int .i64 0) w := fun w => by kernel_rfl
       have hlook := hmf.lookup_ok Try.underlying50 Try.underlying3 (hz wr) p
       rw [hf] at hlook
       clear hp hmf hf hz
       rcases hmd : s.made p with _ | k
       · rw [hmd] at hlook
         have Hmd := Aside0.mk hmd
         clear hmd
         simp only [Option.map_none, Option.getD_none, Option.isSome_none] at hlook
         go_wp2
         go_roundw
         case rel =>
          refine ⟨j + 1, by omega, by go_num, ⟨?_⟩⟩
          rw [fm_take _ _ _ hjl, ← Hp.out]
          simpa [eT, Hmd.out] using HGY.out
         case measure => simp [intOf]; omega
       · rw [hmd] at hlook
         have Hmd := Aside0.mk hmd
         clear hmd
         simp only [Option.map_some, Option.getD_some, Option.isSome_some] at hlook
         go_wp2_with fail
         have hki := HI2.out.made p k Hmd.out
         obtain ⟨ad', B7, e7, y, eA', hy, y0, y1, y2, y3, y4, y5, y6, y7, y8, hk7, hD7⟩ := at37 HR0.out k (by omega)
         have eA2 : ad' = ad := by simpa using eA'.symm
         subst eA2
         have hfy : Few y.f0 := by
          have := HSH.out.at k
          rw [← hy] at this
          unfold Few; omega
         have Hy := Aside0.mk hy
         have Hfy := Aside0.mk hfy
         have HK7 := Aside0.mk hk7
         have HD7 := Aside0.mk hD7
         have HBw := Aside0.mk HGY.out.below
         have Y0 := Aside0.mk (cell_b HBw.out y0)
         have Y1 := Aside0.mk (cell_b HBw.out y1)
         have Y2 := Aside0.mk (cell_b HBw.out y2)
         have Y3 := Aside0.mk (cell_b HBw.out y3)
         have Y4 := Aside0.mk (cell_b HBw.out y4)
         have Y5 := Aside0.mk (cell_b HBw.out y5)
         have Y6 := Aside0.mk (cell_b HBw.out y6)
         have Y7 := Aside0.mk (cell_b HBw.out y7)
         clear y0 y1 y2 y3 y4 y5 y6 y7 y8 hy hfy hk7 hD7 hcell hlook eA'
         have hkl : k < l.length := by omega
         refine startN_ (n := 10) (S := fun w' => w'.cell? ⟨w.heap.size, 0, none⟩ = some (.slice (some ad') l.length c0) ∧ w'.cell? ⟨w.heap.size + 1, 0, none⟩ = some (.int .i64 d.mul) ∧ w'.cell? ⟨w.heap.size + 1, 1, none⟩ = some (.int .i64 d.dv) ∧ w'.cell? ⟨w.heap.size + 1, 2, none⟩ = some (.int .i64 d.ld) ∧ w'.cell? ⟨w.heap.size + 1, 3, none⟩ = some (.int .i64 d.tk) ∧ w'.cell? (ad'.add (k * 9)) = some (.int .i64 y.f0.f0) ∧ w'.cell? ⟨(ad'.add (k * 9)).block, (ad'.add (k * 9)).off + 1, none⟩ = some (.int .i64 y.f0.f1) ∧ w'.cell? ⟨(ad'.add (k * 9)).block, (ad'.add (k * 9)).off + 2, none⟩ = some (.int .i64 y.f0.f2) ∧ w'.cell? ⟨(ad'.add (k * 9)).block, (ad'.add (k * 9)).off + 3, none⟩ = some (.int .i64 y.f0.f3) ∧ w'.cell? ⟨(ad'.add (k * 9)).block, (ad'.add (k * 9)).off + 4, none⟩ = some (.int .i64 y.f0.f4) ∧ w'.cell? ⟨(ad'.add (k * 9)).block, (ad'.add (k * 9)).off + 5, none⟩ = some (.int .i64 y.f0.f5) ∧ w'.cell? ⟨(ad'.add (k * 9)).block, (ad'.add (k * 9)).off + 6, none⟩ = some (.int .i32 y.f0.f6) ∧ w'.cell? ⟨(ad'.add (k * 9)).block, (ad'.add (k * 9)).off + 7, none⟩ = some (.slice B7 y.f0.f7.length e7)) (ds := [9]) (bm 10 0) (by kernel_rfl) rfl rfl ⟨HGY.out.c2, (HGY.out.c3 0).trans rfl, (HGY.out.c3 1).trans rfl, (HGY.out.c3 2).trans rfl, (HGY.out.c3 3).trans rfl, Y0.out, Y1.out, Y2.out, Y3.out, Y4.out, Y5.out, Y6.out, Y7.out⟩ (fun hHeld => ?_)
         refine pu 0 76 (bm 10 1) rfl rfl (by kernel_rfl) (fun _ _ _ h => h) (by rfl) (v := ?_) (a' := ?_) (by intro w'; go_simp; with_reducible rfl) (by simp only [np]; rfl) ?_
         refine pu 1 77 (bm 10 3) rfl rfl (by kernel_rfl) (fun _ _ _ h => h) (by rfl) (v := ?_) (a' := ?_) (by intro w'; go_simp; with_reducible rfl) (by simp only [np]; rfl) ?_
         refine pu 3 79 (bm 10 11) rfl rfl (by kernel_rfl) (fun _ _ _ h => h) (by rfl) (v := ?_) (a' := ?_) (by intro w'; go_simp; with_reducible rfl) (by simp only [np]; rfl) ?_
         refine tu 2 78 (bm 10 15) rfl rfl (by kernel_rfl) (fun _ _ _ h => h) (by rfl) (v := ?_) (a' := ?_) (by rintro w' ⟨s0, s1, s2, s3, s4, s5, s6, s7, s8, s9, s10, s11, s12⟩; go_simp; with_reducible rfl) hHeld (by simp only [np]; rfl) ?_
         refine pu 4 80 (bm 10 31) rfl rfl (by kernel_rfl) (fun _ _ _ h => h) (by rfl) (v := ?_) (a' := ?_) (by intro w'; go_simp; with_reducible rfl) (by simp only [np]; rfl) ?_
         refine pu 5 81 (bm 10 63) rfl rfl (by kernel_rfl) (fun _ _ _ h => h) (by rfl) (v := ?_) (a' := ?_) (by intro w'; go_simp; with_reducible rfl) (by simp only [np]; rfl) ?_
         refine tu 6 82 (bm 10 127) rfl rfl (by kernel_rfl) (fun _ _ _ h => h) (by rfl) (v := ?_) (a' := ?_) (by rintro w' ⟨s0, s1, s2, s3, s4, s5, s6, s7, s8, s9, s10, s11, s12⟩; go_simp; with_reducible rfl) hHeld (by simp only [np]; rfl) ?_
         refine tu 7 83 (bm 10 255) rfl rfl (by kernel_rfl) (fun _ _ _ h => h) (by rfl) (v := ?_) (a' := ?_) (by rintro w' ⟨s0, s1, s2, s3, s4, s5, s6, s7, s8, s9, s10, s11, s12⟩; go_simp; with_reducible rfl) hHeld (by simp only [np]; rfl) ?_
         refine one_ (i := 8) (N := some 84) (bm 10 511) rfl rfl (by kernel_rfl) (by decide) (fun K hK => ?_)
         refine goes_ Try.func13 (by kernel_rfl) rfl #[.agg #[.int .i64 y.f0.f0, .int .i64 y.f0.f1, .int .i64 y.f0.f2, .int .i64 y.f0.f3, .int .i64 y.f0.f4, .int .i64 y.f0.f5, .int .i32 y.f0.f6, .slice B7 y.f0.f7.length e7], .agg #[.int .i64 d.mul, .int .i64 d.dv, .int .i64 d.ld, .int .i64 d.tk]] (by rfl) rfl rfl (by simp only [List.map_toArray, List.map_cons, List.map_nil]; rfl) ?_
         with_reducible refine (sched_Late.calls y.f0.f0 y.f0.f1 y.f0.f2 y.f0.f3 y.f0.f4 y.f0.f5 y.f0.f6 B7 e7 y.f0.f7 d.mul d.dv d.ld d.tk (ltP y.f0 d) _ (Kd.C_below HD7.out (below_drew1 HBw.out)) HK7.out (lt_eq y.f0 d)).mono ?_
         rintro e w5 ⟨rfl, hb⟩
         refine ⟨_, rfl, ?_⟩
         have HGY2 := Aside0.mk (HGY.out.drew.grow hb)
         refine hK.out _ _ ⟨cell_b hb (hHeld.1), cell_b hb (hHeld.2.1), cell_b hb (hHeld.2.2.1), cell_b hb (hHeld.2.2.2.1), cell_b hb (hHeld.2.2.2.2.1), cell_b hb (hHeld.2.2.2.2.2.1), cell_b hb (hHeld.2.2.2.2.2.2.1), cell_b hb (hHeld.2.2.2.2.2.2.2.1), cell_b hb (hHeld.2.2.2.2.2.2.2.2.1), cell_b hb (hHeld.2.2.2.2.2.2.2.2.2.1), cell_b hb (hHeld.2.2.2.2.2.2.2.2.2.2.1), cell_b hb (hHeld.2.2.2.2.2.2.2.2.2.2.2.1), cell_b hb (hHeld.2.2.2.2.2.2.2.2.2.2.2.2)⟩ (fun hHeld => ?_)
         clear hK K
         refine norm_ (a' := ?_) ?_ ?_
         rotate_left
         · show Act.put _ (some 84) _ = _; simp only [np]; rfl
         refine last_ (i := 9) (N := some 85) (bm 10 1023) rfl rfl (by kernel_rfl) (by decide) (fun K hK => ?_)
         refine goesC_ Try.func50 (by kernel_rfl) rfl #[.int .i64 k, .int .i64 (ltP y.f0 d), .pointer (some ⟨w.heap.size + 1 + 1 + 1, 0, none⟩), .pointer (some ⟨wq.heap.size, 0, none⟩), .pointer (some ⟨wq.heap.size + 1 + 1 + 1, 0, none⟩)] (by rfl) rfl rfl (by rfl) (by simp only [List.map_toArray, List.map_cons, List.map_nil, List.append_toArray, List.cons_append, List.nil_append]; rfl) ?_
         have hfl := flatMap_le (eT d l s) 1 (eT_len d l s) ((tkP x.f0).take j)
         rw [List.length_take] at hfl
         refine (HGY2.out.after k (ltP y.f0 d) hki HXL.out HBD.out (by omega)).mono ?_
         rintro e w6 ⟨rfl, hY6⟩
         refine ⟨_, rfl, ?_⟩
         have HGY6 := Aside0.mk hY6
         clear hY6 hb hfl HGY2
         refine hK.out _ _ ?_
         clear hK K
         refine norm_ (a' := ?_) ?_ ?_
         rotate_left
         · show Act.put _ (some 85) _ = _; simp only [np]; rfl
         refine done_ (by kernel_rfl) ?_
         refine onlyN_norm ?_
         clear HGY Y0 Y1 Y2 Y3 Y4 Y5 Y6 Y7 HBw HD7 HK7; go_wp2
         go_roundw
         case rel =>
          refine ⟨j + 1, by omega, by go_num, ⟨?_⟩⟩
          rw [fm_take _ _ _ hjl, ← Hp.out]
          have := HGY6.out
          rw [Hy.out] at this
          simpa [eT, Hmd.out] using this
         case measure => simp [intOf]; omega
     · have hjl2 : j = (tkP x.f0).length := by omega
       subst hjl2
       rw [List.take_length] at HGY
       obtain ⟨es2, hes2⟩ : ∃ es2, es2 = (tkP x.f0).flatMap (eT d l s) := ⟨_, rfl⟩
       have Hes2 := Aside0.mk hes2
       have hgl := HGL.out
       rw [← hes2] at HGY hgl
       clear hes2 HGL
       have HGL := Aside0.mk hgl
       clear hgl
       go_wp2_with fail
       go_loopw [89] (fun v89 wr => ∃ j : Nat, j ≤ (chP x.f0).length ∧ v89 = .int .i64 j ∧
           Aside0 (GY w wr nb1 ⟨some ad, c0, l, d, w.heap.size, w.heap.size + 1, w.heap.size + 1 + 1, w.heap.size + 1 + 1 + 1, w.heap.size + 1 + 1 + 1 + 1, w.heap.size + 1 + 1 + 1 + 1 + 1⟩ i u9 s (xCells x A7 c7) wq.heap.size (wq.heap.size + 1) (wq.heap.size + 1 + 1 + 1) (.slice A14 (tkP x.f0).length c14) (tkP x.f0) (.slice A15 (chP x.f0).length c15) (chP x.f0) (afs i (s.nd ++ [nd0 i]) (es2 ++ ((chP x.f0).take j).flatMap (eM s))))) (fun v89 _ => (chP x.f0).length - (intOf v89).toNat)
       case atStart => exact ⟨0, Nat.zero_le _, rfl, ⟨by simpa using HGY.out⟩⟩
       case round =>
        clear HGY
        obtain ⟨j, hj, rfl, HGY⟩ := hrel
        by_cases hjl : j < (chP x.f0).length
        · obtain ⟨p, hp⟩ : ∃ p, p = (chP x.f0).getD j 0 := ⟨_, rfl⟩
          obtain ⟨g15, rfl, hcell⟩ := row_at (ys := nums .i64 (chP x.f0)) (A := A15) (c := c15) (by rw [nums_length]; exact HGY.out.row15) j (by rw [nums_length]; exact hjl)
          rw [nums_get _ _ hjl, ← hp] at hcell
          have Hp := Aside0.mk hp
          obtain ⟨f, hmf, hf⟩ := HGY.out.made
          have hz : ∀ w, (zeroValue 3).run Try.prog w = .ok (.int .i64 0) w := fun w => by kernel_rfl
          have hlook := hmf.lookup_ok Try.underlying50 Try.underlying3 (hz wr) p
          rw [hf] at hlook
          have hfl := take_fm_len (eM s) (chP x.f0) j
          have HFL := Aside0.mk hfl
          clear hp hmf hf hz hfl
          have hz23 : ∀ w, (zeroValue 23).run Try.prog w = .ok (.slice none 0 0) w := fun w => by kernel_rfl
          have HZ := Aside0.mk hz23
          clear hz23
          rcases hmd : s.made p with _ | k
          · rw [hmd] at hlook
            have Hmd := Aside0.mk hmd
            clear hmd
            simp only [Option.map_none, Option.getD_none, Option.isSome_none] at hlook
            have HGY0 := HGY.out
            rw [show es2 ++ ((chP x.f0).take j).flatMap (eM s) = es2 ++ (((chP x.f0).take j).flatMap (eM s) ++ ones (s.made p).toList) from by simp [Hmd.out, ones]] at HGY0
            clear HGY
            obtain ⟨E2, hY2⟩ := HGY0.e
            clear HGY0
            obtain ⟨f2, hmf2, hrow⟩ := hY2.takenAt p
            have hlook2 := hmf2.lookup Try.underlying80 Try.underlying3 (HZ.out wr) p
            obtain ⟨A5, c5, hv5⟩ := own_slice (hY2.rowT hrow)
            rw [hv5] at hlook2 hrow
            have cl5 := own_le (hY2.rowT hrow)
            have HY2 := Aside0.mk hY2
            have HROW := Aside0.mk hrow
            clear hmf2 hrow hY2 hv5; go_wp2
            go_loopw [107] (fun v107 wr => ∃ m : Nat, m ≤ (s.tk p).length ∧ v107 = .int .i64 m ∧
                Aside0 (GYE w wr E2 nb1 ⟨some ad, c0, l, d, w.heap.size, w.heap.size + 1, w.heap.size + 1 + 1, w.heap.size + 1 + 1 + 1, w.heap.size + 1 + 1 + 1 + 1, w.heap.size + 1 + 1 + 1 + 1 + 1⟩ i u9 s (xCells x A7 c7) wq.heap.size (wq.heap.size + 1) (wq.heap.size + 1 + 1 + 1) (.slice A14 (tkP x.f0).length c14) (tkP x.f0) (.slice (some ⟨g15, 0, none⟩) (chP x.f0).length c15) (chP x.f0) (afs i (s.nd ++ [nd0 i]) (es2 ++ (((chP x.f0).take j).flatMap (eM s) ++ ones (s.made p).toList) ++ ones ((s.tk p).take m))))) (fun v107 _ => (s.tk p).length - (intOf v107).toNat)
            case atStart => exact ⟨0, Nat.zero_le _, rfl, ⟨by simpa [ones] using HY2.out⟩⟩
            case round =>
             clear HY2 hlook2
             obtain ⟨m, hm, rfl, HY2⟩ := hrel
             by_cases hml : m < (s.tk p).length
             · obtain ⟨g5, rfl, hcell5⟩ := row_at (ys := nats (s.tk p)) (A := A5) (c := c5) (by rw [nats_len]; exact HY2.out.rowT HROW.out) m (by rw [nats_len]; exact hml)
               rw [nats_get _ _ hml] at hcell5
               have hkm : (s.tk p).getD m 0 < i := HI2.out.tk p _ (by rw [List.getD_eq_getElem?_getD, List.getElem?_eq_getElem hml]; exact List.getElem_mem hml)
               have htl := HI2.out.tkl p
               obtain ⟨k5, hk5⟩ : ∃ k5, k5 = (s.tk p).getD m 0 := ⟨_, rfl⟩
               rw [← hk5] at hcell5 hkm
               have Hk5 := Aside0.mk hk5
               clear hk5
               go_wp2_with fail
               refine (HY2.out.after k5 1 hkm HXL.out HBD.out (by have h1 := HFL.out; have h2 := HGL.out; have h3 := opt_len (s.made p); simp only [List.length_append, ones_len, List.length_take]; omega)).mono ?_
               rintro e w7 ⟨rfl, hY7⟩
               have HY7 := Aside0.mk hY7
               clear hY7 HY2 hcell5; go_wp2
               go_roundw
               case rel =>
                refine ⟨m + 1, by omega, by go_num, ⟨?_⟩⟩
                rw [ones_take _ _ hml, ← Hk5.out, ← List.append_assoc]
                exact HY7.out
               case measure => simp [intOf]; omega
             · go_wp2
               go_roundw
               case rel =>
                refine ⟨j + 1, by omega, by go_num, ⟨?_⟩⟩
                have h1 := HY2.out.y
                rw [List.take_of_length_le (show (s.tk p).length ≤ m by omega)] at h1
                rw [fm_take _ _ _ hjl, ← Hp.out]
                simpa [eM, List.append_assoc] using h1
               case measure => simp [intOf]; omega
          · rw [hmd] at hlook
            have Hmd := Aside0.mk hmd
            clear hmd
            simp only [Option.map_some, Option.getD_some, Option.isSome_some] at hlook
            have hki := HI2.out.made p k Hmd.out
            go_wp2_with fail
            refine (HGY.out.after k 1 hki HXL.out HBD.out (by have h1 := HFL.out; have h2 := HGL.out; simp only [List.length_append]; omega)).mono ?_
            rintro e w6 ⟨rfl, hY6⟩
            rw [show es2 ++ ((chP x.f0).take j).flatMap (eM s) ++ [(k, 1)] = es2 ++ (((chP x.f0).take j).flatMap (eM s) ++ ones (s.made p).toList) from by simp [Hmd.out, ones]] at hY6
            clear HGY hlook hcell
            obtain ⟨E2, hY2⟩ := hY6.e
            clear hY6
            obtain ⟨f2, hmf2, hrow⟩ := hY2.takenAt p
            have hlook2 := hmf2.lookup Try.underlying80 Try.underlying3 (HZ.out w6) p
            obtain ⟨A5, c5, hv5⟩ := own_slice (hY2.rowT hrow)
            rw [hv5] at hlook2 hrow
            have cl5 := own_le (hY2.rowT hrow)
            have HY2 := Aside0.mk hY2
            have HROW := Aside0.mk hrow
            clear hmf2 hrow hY2 hv5; go_wp2
            go_loopw [107] (fun v107 wr => ∃ m : Nat, m ≤ (s.tk p).length ∧ v107 = .int .i64 m ∧
                Aside0 (GYE w wr E2 nb1 ⟨some ad, c0, l, d, w.heap.size, w.heap.size + 1, w.heap.size + 1 + 1, w.heap.size + 1 + 1 + 1, w.heap.size + 1 + 1 + 1 + 1, w.heap.size + 1 + 1 + 1 + 1 + 1⟩ i u9 s (xCells x A7 c7) wq.heap.size (wq.heap.size + 1) (wq.heap.size + 1 + 1 + 1) (.slice A14 (tkP x.f0).length c14) (tkP x.f0) (.slice (some ⟨g15, 0, none⟩) (chP x.f0).length c15) (chP x.f0) (afs i (s.nd ++ [nd0 i]) (es2 ++ (((chP x.f0).take j).flatMap (eM s) ++ ones (s.made p).toList) ++ ones ((s.tk p).take m))))) (fun v107 _ => (s.tk p).length - (intOf v107).toNat)
            case atStart => exact ⟨0, Nat.zero_le _, rfl, ⟨by simpa [ones] using HY2.out⟩⟩
            case round =>
             clear HY2 hlook2
             obtain ⟨m, hm, rfl, HY2⟩ := hrel
             by_cases hml : m < (s.tk p).length
             · obtain ⟨g5, rfl, hcell5⟩ := row_at (ys := nats (s.tk p)) (A := A5) (c := c5) (by rw [nats_len]; exact HY2.out.rowT HROW.out) m (by rw [nats_len]; exact hml)
               rw [nats_get _ _ hml] at hcell5
               have hkm : (s.tk p).getD m 0 < i := HI2.out.tk p _ (by rw [List.getD_eq_getElem?_getD, List.getElem?_eq_getElem hml]; exact List.getElem_mem hml)
               have htl := HI2.out.tkl p
               obtain ⟨k5, hk5⟩ : ∃ k5, k5 = (s.tk p).getD m 0 := ⟨_, rfl⟩
               rw [← hk5] at hcell5 hkm
               have Hk5 := Aside0.mk hk5
               clear hk5
               go_wp2_with fail
               refine (HY2.out.after k5 1 hkm HXL.out HBD.out (by have h1 := HFL.out; have h2 := HGL.out; have h3 := opt_len (s.made p); simp only [List.length_append, ones_len, List.length_take]; omega)).mono ?_
               rintro e w7 ⟨rfl, hY7⟩
               have HY7 := Aside0.mk hY7
               clear hY7 HY2 hcell5; go_wp2
               go_roundw
               case rel =>
                refine ⟨m + 1, by omega, by go_num, ⟨?_⟩⟩
                rw [ones_take _ _ hml, ← Hk5.out, ← List.append_assoc]
                exact HY7.out
               case measure => simp [intOf]; omega
             · go_wp2
               go_roundw
               case rel =>
                refine ⟨j + 1, by omega, by go_num, ⟨?_⟩⟩
                have h1 := HY2.out.y
                rw [List.take_of_length_le (show (s.tk p).length ≤ m by omega)] at h1
                rw [fm_take _ _ _ hjl, ← Hp.out]
                simpa [eM, List.append_assoc] using h1
               case measure => simp [intOf]; omega
        · have hjl2 : j = (chP x.f0).length := by omega
          subst hjl2
          rw [List.take_length] at HGY
          obtain ⟨es3, hes3⟩ : ∃ es3, es3 = es2 ++ (chP x.f0).flatMap (eM s) := ⟨_, rfl⟩
          have Hes3 := Aside0.mk hes3
          have hgl := HGL.out
          rw [← List.length_append, ← hes3] at hgl
          rw [← hes3] at HGY
          clear hes3 HGL
          have HGL := Aside0.mk hgl
          clear hgl
          have hr9 := HGY.out.row9
          obtain ⟨A9, c9, rfl⟩ := own_slice hr9
          have cl9 := own_le hr9
          clear hr9
          have hsl := HI2.out.sincel
          go_upto_block 8 with fail
          go_cut [8, 9, 27] from 116 to 150 (fun v8 v9 _ wx => v8 = .int .i64 (lastI (sSw s i x.f0).last) ∧ Aside0 (GY w wx nb1 ⟨some ad, c0, l, d, w.heap.size, w.heap.size + 1, w.heap.size + 1 + 1, w.heap.size + 1 + 1 + 1, w.heap.size + 1 + 1 + 1 + 1, w.heap.size + 1 + 1 + 1 + 1 + 1⟩ i v9 (sSw s i x.f0) (xCells x A7 c7) wq.heap.size (wq.heap.size + 1) (wq.heap.size + 1 + 1 + 1) (.slice A14 (tkP x.f0).length c14) (tkP x.f0) (.slice A15 (chP x.f0).length c15) (chP x.f0) (afs i (s.nd ++ [nd0 i]) (es3 ++ eB s x.f0))))
          case first =>
           have cx0 : wr.cell? ⟨wq.heap.size + 1, 0, none⟩ = some (.int .i64 x.f0.f0) := HGY.out.cx 0
           by_cases hld : isLd x.f0
           · have hlr := loads_eq x.f0
             rw [decide_eq_true hld] at hlr
             have Hld := Aside0.mk hld
             have Hlr := Aside0.mk hlr
             clear hld hlr
             go_wp2_with fail
             refine (sched_loads.calls x.f0.f0 true _ Hlr.out).mono ?_
             rintro e w6 ⟨rfl, hD⟩
             have HGY2 := Aside0.mk (HGY.out.grow hD.below)
             clear HGY hD cx0
             have HGY := HGY2
             clear HGY2
             have ci0 : w6.cell? ⟨wq.heap.size, 0, none⟩ = some (.int .i64 i) := HGY.out.ci
             rcases hla : s.last with _ | k
             · rw [show lastI none = -1 from rfl]
               have Hla := Aside0.mk hla
               clear hla
               go_wp2_with (at_builtin; refine print_append_of (w0 := w) (Value.int .i64) 0 rfl (.tmp 126) (.tmp 128) 23 3 (.int .i64 0) 8 rfl Try.underlying23 info3 rfl (by decide) (.slice A9 s.since.length c9) (s.since.map fun k : Nat => (k : Int)) (i : Int) rfl rfl rfl (by rw [List.length_map]; exact HGY.out.row9) (HGY.out.below.mono (Nat.zero_le _)) (Nat.zero_le _) (by rw [List.length_map]; omega) ?_; intro v1 w9 ho9 hb9 hg9 hat9; have HGYs := Aside0.mk (HGY.out.sinced (t := s.since ++ [i]) hg9 (by rw [nats, List.map_append]; exact ho9) hat9); clear HGY ho9 hb9 hg9 hat9 ci0)
               go_meet
               case rel =>
                refine ⟨?_, ⟨?_⟩⟩
                · simp only [sSw, if_pos Hld.out, Hla.out]; rfl
                · simp only [sSw, eB, if_pos Hld.out]
                  rw [Hla.out]
                  simpa [ones, Hla.out] using HGYs.out
             · rw [show lastI (some k) = (k : Int) from rfl]
               have hki := HI2.out.last k hla
               have Hla := Aside0.mk hla
               clear hla
               go_wp2_with fail
               refine (HGY.out.after k 1 hki HXL.out HBD.out (by have := HGL.out; omega)).mono ?_
               rintro e w7 ⟨rfl, hY7⟩
               clear HGY ci0
               have HGY := Aside0.mk hY7
               clear hY7
               have ci0 : w7.cell? ⟨wq.heap.size, 0, none⟩ = some (.int .i64 i) := HGY.out.ci
               go_wp2_with (at_builtin; refine print_append_of (w0 := w) (Value.int .i64) 0 rfl (.tmp 126) (.tmp 128) 23 3 (.int .i64 0) 8 rfl Try.underlying23 info3 rfl (by decide) (.slice A9 s.since.length c9) (s.since.map fun k : Nat => (k : Int)) (i : Int) rfl rfl rfl (by rw [List.length_map]; exact HGY.out.row9) (HGY.out.below.mono (Nat.zero_le _)) (Nat.zero_le _) (by rw [List.length_map]; omega) ?_; intro v1 w9 ho9 hb9 hg9 hat9; have HGYs := Aside0.mk (HGY.out.sinced (t := s.since ++ [i]) hg9 (by rw [nats, List.map_append]; exact ho9) hat9); clear HGY ho9 hb9 hg9 hat9 ci0)
               go_meet
               case rel =>
                refine ⟨?_, ⟨?_⟩⟩
                · simp only [sSw, if_pos Hld.out, Hla.out]; rfl
                · simp only [sSw, eB, if_pos Hld.out]
                  rw [Hla.out]
                  simpa [ones, Hla.out] using HGYs.out
           · have hlr := loads_eq x.f0
             rw [decide_eq_false hld] at hlr
             have Hld := Aside0.mk hld
             have Hlr := Aside0.mk hlr
             clear hld hlr
             go_wp2_with fail
             refine (sched_loads.calls x.f0.f0 false _ Hlr.out).mono ?_
             rintro e w6 ⟨rfl, hD⟩
             have HGY2 := Aside0.mk (HGY.out.grow hD.below)
             clear HGY hD cx0
             have HGY := HGY2
             clear HGY2
             have cx0 : w6.cell? ⟨wq.heap.size + 1, 0, none⟩ = some (.int .i64 x.f0.f0) := HGY.out.cx 0
             by_cases hbo : isBd x.f0
             · have hbr := bound_eq x.f0
               rw [decide_eq_true hbo] at hbr
               have Hbo := Aside0.mk hbo
               have Hbr := Aside0.mk hbr
               clear hbo hbr
               go_wp2_with fail
               refine (sched_bound.calls x.f0.f0 true _ Hbr.out).mono ?_
               rintro e w7 ⟨rfl, hD⟩
               have HGY2 := Aside0.mk (HGY.out.grow hD.below)
               clear HGY hD cx0
               have HGY := HGY2
               clear HGY2
               go_wp2_with fail
               go_loopw [137] (fun v137 wx => ∃ m : Nat, m ≤ s.since.length ∧ v137 = .int .i64 m ∧
                   Aside0 (GY w wx nb1 ⟨some ad, c0, l, d, w.heap.size, w.heap.size + 1, w.heap.size + 1 + 1, w.heap.size + 1 + 1 + 1, w.heap.size + 1 + 1 + 1 + 1, w.heap.size + 1 + 1 + 1 + 1 + 1⟩ i (.slice A9 s.since.length c9) s (xCells x A7 c7) wq.heap.size (wq.heap.size + 1) (wq.heap.size + 1 + 1 + 1) (.slice A14 (tkP x.f0).length c14) (tkP x.f0) (.slice A15 (chP x.f0).length c15) (chP x.f0) (afs i (s.nd ++ [nd0 i]) (es3 ++ ones (s.since.take m))))) (fun v137 _ => s.since.length - (intOf v137).toNat)
               case atStart => exact ⟨0, Nat.zero_le _, rfl, ⟨by simpa [ones] using HGY.out⟩⟩
               case round =>
                clear HGY
                obtain ⟨m, hm, rfl, HGY⟩ := hrel
                by_cases hml : m < s.since.length
                · obtain ⟨g9, rfl, hcell9⟩ := row_at (ys := nats s.since) (A := A9) (c := c9) (by rw [nats_len]; exact HGY.out.row9) m (by rw [nats_len]; exact hml)
                  rw [nats_get _ _ hml] at hcell9
                  have hkm : s.since.getD m 0 < i := HI2.out.since _ (by rw [List.getD_eq_getElem?_getD, List.getElem?_eq_getElem hml]; exact List.getElem_mem hml)
                  obtain ⟨k5, hk5⟩ : ∃ k5, k5 = s.since.getD m 0 := ⟨_, rfl⟩
                  rw [← hk5] at hcell9 hkm
                  have Hk5 := Aside0.mk hk5
                  clear hk5
                  go_wp2_with fail
                  refine (HGY.out.after k5 1 hkm HXL.out HBD.out (by have h2 := HGL.out; simp only [List.length_append, ones_len, List.length_take]; omega)).mono ?_
                  rintro e w8 ⟨rfl, hY8⟩
                  have HY8 := Aside0.mk hY8
                  clear hY8 HGY hcell9; go_wp2
                  go_roundw
                  case rel =>
                   refine ⟨m + 1, by omega, by go_num, ⟨?_⟩⟩
                   rw [ones_take _ _ hml, ← Hk5.out, ← List.append_assoc]
                   exact HY8.out
                  case measure => simp [intOf]; omega
                · have hml2 : m = s.since.length := by omega
                  subst hml2
                  rw [List.take_length] at HGY
                  have ci0 : ∀ wz, wz = wr → wr.cell? ⟨wq.heap.size, 0, none⟩ = some (.int .i64 i) := fun _ _ => HGY.out.ci
                  rcases hla : s.last with _ | k
                  · rw [show lastI none = -1 from rfl]
                    have Hla := Aside0.mk hla
                    clear hla
                    have ci0 := HGY.out.ci
                    go_wp2
                    go_meet
                    case rel =>
                     refine ⟨?_, ⟨?_⟩⟩
                     · simp only [sSw, if_neg Hld.out, if_pos Hbo.out]; rfl
                     · simp only [sSw, eB, if_neg Hld.out, if_pos Hbo.out]
                       have := HGY.out.unsince.setLast (some i)
                       simpa [ones, Hla.out] using this
                  · rw [show lastI (some k) = (k : Int) from rfl]
                    have hki := HI2.out.last k hla
                    have Hla := Aside0.mk hla
                    clear hla
                    go_wp2_with fail
                    refine (HGY.out.after k 1 hki HXL.out HBD.out (by have h2 := HGL.out; simp only [List.length_append, ones_len]; omega)).mono ?_
                    rintro e w8 ⟨rfl, hY8⟩
                    clear HGY
                    have HGY := Aside0.mk hY8
                    clear hY8
                    have ci0 := HGY.out.ci
                    go_wp2
                    go_meet
                    case rel =>
                     refine ⟨?_, ⟨?_⟩⟩
                     · simp only [sSw, if_neg Hld.out, if_pos Hbo.out]; rfl
                     · simp only [sSw, eB, if_neg Hld.out, if_pos Hbo.out]
                       have := HGY.out.unsince.setLast (some i)
                       rw [Hla.out]
                       simpa [ones, List.append_assoc] using this
             · have hbr := bound_eq x.f0
               rw [decide_eq_false hbo] at hbr
               have Hbo := Aside0.mk hbo
               have Hbr := Aside0.mk hbr
               clear hbo hbr
               go_wp2_with fail
               refine (sched_bound.calls x.f0.f0 false _ Hbr.out).mono ?_
               rintro e w7 ⟨rfl, hD⟩
               have HGY2 := Aside0.mk (HGY.out.grow hD.below)
               clear HGY hD cx0; go_wp2
               go_meet
               case rel =>
                refine ⟨?_, ⟨?_⟩⟩
                · simp only [sSw, if_neg Hld.out, if_neg Hbo.out]
                · simp only [sSw, eB, if_neg Hld.out, if_neg Hbo.out, List.append_nil]
                  exact HGY2.out
          case rest =>
           obtain ⟨rfl, HGY⟩ := hcut
           go_wp2_with fail
           go_loopw [153] (fun v153 wx => ∃ m : Nat, m ≤ (tkP x.f0).length ∧ v153 = .int .i64 m ∧
               Aside0 (GY w wx nb1 ⟨some ad, c0, l, d, w.heap.size, w.heap.size + 1, w.heap.size + 1 + 1, w.heap.size + 1 + 1 + 1, w.heap.size + 1 + 1 + 1 + 1, w.heap.size + 1 + 1 + 1 + 1 + 1⟩ i u9 (sTk s i x.f0 m) (xCells x A7 c7) wq.heap.size (wq.heap.size + 1) (wq.heap.size + 1 + 1 + 1) (.slice A14 (tkP x.f0).length c14) (tkP x.f0) (.slice A15 (chP x.f0).length c15) (chP x.f0) (afs i (s.nd ++ [nd0 i]) (es3 ++ eB s x.f0)))) (fun v153 _ => (tkP x.f0).length - (intOf v153).toNat)
           case atStart =>
            refine ⟨0, Nat.zero_le _, rfl, ⟨?_⟩⟩
            have : sTk s i x.f0 0 = sSw s i x.f0 := by
             have e : tkAdd s.tk i [] = s.tk := by funext q; simp [tkAdd]
             simp [sTk, e, sSw]
            rw [this]
            exact HGY.out
           case round =>
            clear HGY
            obtain ⟨m, hm, rfl, HGY⟩ := hrel
            by_cases hml : m < (tkP x.f0).length
            · obtain ⟨p, hp⟩ : ∃ p, p = (tkP x.f0).getD m 0 := ⟨_, rfl⟩
              obtain ⟨g14, rfl, hcell⟩ := row_at (ys := nums .i64 (tkP x.f0)) (A := A14) (c := c14) (by rw [nums_length]; exact HGY.out.row14) m (by rw [nums_length]; exact hml)
              rw [nums_get _ _ hml, ← hp] at hcell
              have Hp := Aside0.mk hp
              obtain ⟨f, hmf, hrow, hnext⟩ := HGY.out.takenAdd p
              have hz23 : ∀ w, (zeroValue 23).run Try.prog w = .ok (.slice none 0 0) w := fun w => by kernel_rfl
              have hlook2 := hmf.lookup Try.underlying80 Try.underlying3 (hz23 wr) p
              have ci0 := HGY.out.ci
              have htl : ((sTk s i x.f0 m).tk p).length ≤ 100000 := by
               have h1 := HI2.out.tkl p
               have h2 : ((tkP x.f0).take m).count p ≤ ((tkP x.f0).take m).length := List.count_le_length
               rw [List.length_take] at h2
               simp only [sTk, tkAdd, List.length_append, List.length_replicate]
               omega
              obtain ⟨A5, c5, hv5⟩ := own_slice hrow
              rw [hv5] at hlook2 hrow
              have Hv5 := Aside0.mk hv5
              have HROW := Aside0.mk hrow
              have HNEXT := Aside0.mk hnext
              have HB := Aside0.mk HGY.out.below
              clear hp hmf hz23 hrow hnext hv5
              go_wp2_with (first | (at_builtin; refine print_append_of (w0 := w) (Value.int .i64) 0 rfl (.tmp 161) (.tmp 163) 23 3 (.int .i64 0) 8 rfl Try.underlying23 info3 rfl (by decide) (.slice A5 ((sTk s i x.f0 m).tk p).length c5) (((sTk s i x.f0 m).tk p).map fun k : Nat => (k : Int)) (i : Int) rfl rfl rfl (by rw [List.length_map]; exact HROW.out) (HB.out.mono (Nat.zero_le _)) (Nat.zero_le _) (by rw [List.length_map]; omega) ?_; intro v1 w9 ho9 hb9 hg9 hat9; have HN := Aside0.mk (HNEXT.out w9 v1 _ ((sTk s i x.f0 m).tk p ++ [i]) (by rw [Hv5.out]; exact hg9) (by rw [nats, List.map_append]; exact ho9) (by rw [Hv5.out]; exact hat9)); clear HGY ho9 hb9 hg9 hat9 ci0) | (refine wpList_put _ rfl (.tmp 157) (.tmp 158) (.tmp 164) 80 3 23 rfl Try.underlying80 Try.underlying3 (w.heap.size + 1 + 1 + 1 + 1 + 1) f rfl HN.out.1 p v1 rfl rfl ?_; intro w10 hM10 hG10; have HGYs := Aside0.mk (HN.out.2 w10 hM10 hG10); clear HN hM10 hG10))
              go_roundw
              case rel =>
               refine ⟨m + 1, by omega, by go_num, ⟨?_⟩⟩
               have e : sTk s i x.f0 (m + 1) = { sTk s i x.f0 m with tk := fun q => if q = p then (sTk s i x.f0 m).tk p ++ [i] else (sTk s i x.f0 m).tk q } := by
                simp only [sTk, tkAdd_snoc _ _ _ _ hml, ← Hp.out]
               rw [e]
               exact HGYs.out
              case measure => simp [intOf]; omega
            · have hml2 : m = (tkP x.f0).length := by omega
              subst hml2
              go_wp2_with fail
              go_loopw [168] (fun v168 wx => ∃ m : Nat, m ≤ (chP x.f0).length ∧ v168 = .int .i64 m ∧
                  Aside0 (GY w wx nb1 ⟨some ad, c0, l, d, w.heap.size, w.heap.size + 1, w.heap.size + 1 + 1, w.heap.size + 1 + 1 + 1, w.heap.size + 1 + 1 + 1 + 1, w.heap.size + 1 + 1 + 1 + 1 + 1⟩ i u9 (sMd s i x.f0 m) (xCells x A7 c7) wq.heap.size (wq.heap.size + 1) (wq.heap.size + 1 + 1 + 1) (.slice A14 (tkP x.f0).length c14) (tkP x.f0) (.slice A15 (chP x.f0).length c15) (chP x.f0) (afs i (s.nd ++ [nd0 i]) (es3 ++ eB s x.f0)))) (fun v168 _ => (chP x.f0).length - (intOf v168).toNat)
              case atStart =>
               refine ⟨0, Nat.zero_le _, rfl, ⟨?_⟩⟩
               have : sMd s i x.f0 0 = sTk s i x.f0 (tkP x.f0).length := by simp [sTk, sMd, sSw]
               rw [this]
               exact HGY.out
              case round =>
               clear HGY
               obtain ⟨m, hm, rfl, HGY⟩ := hrel
               by_cases hml : m < (chP x.f0).length
               · obtain ⟨p, hp⟩ : ∃ p, p = (chP x.f0).getD m 0 := ⟨_, rfl⟩
                 obtain ⟨g15, rfl, hcell⟩ := row_at (ys := nums .i64 (chP x.f0)) (A := A15) (c := c15) (by rw [nums_length]; exact HGY.out.row15) m (by rw [nums_length]; exact hml)
                 rw [nums_get _ _ hml, ← hp] at hcell
                 have Hp := Aside0.mk hp
                 have ci0 := HGY.out.ci
                 have HB := Aside0.mk HGY.out.below
                 clear hp
                 go_wp2_with (first | (refine wpList_put _ rfl (.tmp 172) (.tmp 173) (.tmp 174) 50 3 3 rfl Try.underlying50 Try.underlying3 (w.heap.size + 1 + 1 + 1 + 1) (HGY.out.madeSet p).choose rfl (HGY.out.madeSet p).choose_spec.1 p (.int .i64 i) rfl rfl ?_; intro w10 hM10 hG10; have HGY10 := Aside0.mk ((HGY.out.madeSet p).choose_spec.2 w10 hM10 hG10); obtain ⟨f11, hm11, hn11⟩ := HGY10.out.takenDel p; obtain ⟨w11, hr11, hM11, hG11⟩ := hm11.del Try.underlying80 Try.underlying3 p 3 0; have HGYs := Aside0.mk (hn11 w11 hM11 hG11); clear HGY hM10 hG10 HGY10 hm11 hn11 hM11 hG11 ci0))
                 go_roundw
                 case rel =>
                  refine ⟨m + 1, by omega, by go_num, ⟨?_⟩⟩
                  have e : sMd s i x.f0 (m + 1) = { { sMd s i x.f0 m with made := fun q => if q = p then some i else (sMd s i x.f0 m).made q } with tk := fun q => if q = p then [] else (sMd s i x.f0 m).tk q } := by
                   simp only [sMd, GS.mk.injEq, true_and]
                   refine ⟨?_, ?_, trivial⟩
                   · funext q
                     simp only [mem_take_succ _ _ hml, ← Hp.out]
                     by_cases h1 : q = p <;> simp [h1]
                   · funext q
                     simp only [mem_take_succ _ _ hml, ← Hp.out]
                     by_cases h1 : q = p <;> simp [h1]
                  rw [e]
                  exact HGYs.out
                 case measure => simp [intOf]; omega
               · have hml2 : m = (chP x.f0).length := by omega
                 subst hml2; go_wp2
                 go_roundw
                 case rel =>
                  have hst := gSt_succ d l i hlt
                  rw [← Hs.out, ← Hx.out] at hst
                  have hln := HI2.out.len
                  refine ⟨i + 1, by omega, by go_num, ?_, ⟨?_⟩⟩
                  · rw [hst]; simp only [gStep, sSw, hln]
                  · obtain ⟨E', hE'⟩ := HGY.out.close
                    refine ⟨E', nb1, hE'.congr ?_ ?_ ?_ ?_⟩
                    · rw [hst]; simp only [gStep, hln, gEdges, Hes3.out, Hes2.out]
                    · intro p; rw [hst]; simp only [gStep, sMd, List.take_length, hln]
                    · intro p; rw [hst]; simp only [gStep, sMd, List.take_length, hln]
                    · rw [hst]; simp only [gStep, sMd, sSw, hln]
                 case measure => simp [intOf]; omega
  · have hin : i = l.length := by omega
    subst hin
    obtain ⟨E, nb, hG⟩ := HG.out
    have hlen := (gSt_GI HSH.out l.length (Nat.le_refl _) (d := d)).len
    have hEB0 := gSt_EB HSH.out l.length (Nat.le_refl _) (d := d)
    obtain ⟨E0, ps, hFR, e5, hps, e6, e15, e151, e16⟩ := FR.start hG hlen
    have cN : wq.cell? ⟨w.heap.size + 1 + 1 + 1, 0, none⟩ = some (.slice (some ⟨w.heap.size + 1 + 1, 0, none⟩) l.length l.length) := (hG.sat.cell hG.gc.hN 0).trans rfl
    have HFR := Aside0.mk hFR
    have HEB0 := Aside0.mk hEB0
    have HLEN := Aside0.mk hlen
    have E5 := Aside0.mk e5
    have E6 := Aside0.mk e6
    have E15 := Aside0.mk e15
    have E151 := Aside0.mk e151
    have E16 := Aside0.mk e16
    have HPS := Aside0.mk hps
    have hlR : w.heap.size + 1 + 1 < wq.heap.size := by
     obtain ⟨ps, hR, _⟩ := hG.hR
     exact hG.sat.lt hR
    clear hG HG hFR hEB0 hlen e5 e6 e15 e151 e16 hps hlt hi
    go_wp2_with fail
    refine (backward_calls _ _ _ _).mono ?_
    rintro e w1 ⟨rfl, rfl⟩
    go_wp2
    refine (wpIn_wide (n := 3)).1 (wpIn_rangeFunc_ownG_of_H rfl (by decide) (gf := 66) (lb := #[.pointer (some ⟨wq.heap.size, 0, none⟩)]) rfl trivial (fun args w => enters_ Try.func66 (by kernel_rfl) rfl args w)
     (back_stops 2 l.length wq.heap.size (w.heap.size + 1 + 1) l.length nb (by decide) (by omega) _ ((HFR.out.cell E16.out (by decide) 0).trans rfl) (by simp; omega) (fun j hj => (HFR.out.rowCell E5.out (by decide) j hj).trans (HPS.out j hj)))
     (fun h1 h2 => h1.trans h2) ?hKb (Below.refl _ _) (fun _ => rfl)
     (fun pre W => FR w W E0 nb ((pre.map Fin.val).foldl (farNode d l) (gSt d l l.length).nd)) (fun _ _ _ => False)
     (fun s W W' row hs hg hr => hs.other hg (fun r e => ⟨Nat.le_trans HFR.out.below.size (hr r e).1, (hr r e).2⟩)) (fun _ _ _ _ _ hs _ _ => hs) HFR.out ?Aa ?assign ?body ?done ?stop (KpB.refl _ _))
    case hKb =>
     intro W l0 o o' hl ho hc _
     simp at hl
     exact ⟨World.putObj_heap_other (by omega), World.putObj_heap_other (by omega)⟩
    case assign =>
     intro l0 x W K hK
     gi_wp2
     exact hK
    case body =>
     intro l0 pre x W hI hlen
     obtain ⟨j, hj⟩ := x
     dsimp only
     obtain ⟨xs, hxs⟩ : ∃ xs, xs = (pre.map Fin.val).foldl (farNode d l) (gSt d l l.length).nd := ⟨_, rfl⟩
     have hxl : xs.length = l.length := by rw [hxs, farNodes_len]; exact HLEN.out
     have hEB : EB xs l.length := by rw [hxs]; exact HEB0.out.farNodes _
     rw [← hxs] at hI
     have hnext : (((pre ++ [(⟨j, hj⟩ : Fin l.length)]).map Fin.val).foldl (farNode d l) (gSt d l l.length).nd) = farNode d l xs j := by rw [hxs]; simp [List.map_append]
     have hAt := hEB.at (k := j) (by omega)
     obtain ⟨p, hp⟩ : ∃ p : Nat, (xs.getD j nz).pos = p := ⟨_, (Int.toNat_of_nonneg hAt.1.1).symm⟩
     have hpn : p < l.length := by have := hAt.1.2; rw [hp] at this; omega
     obtain ⟨v, hrow, hblk⟩ := hI.node (j := j) (by omega)
     rw [hp] at hblk
     obtain ⟨ad, B7, e7, y, eA, hy, y0, y1, y2, y3, y4, y5, y6, y7, y8, hk7, hD7⟩ := at37 HR0.out p hpn
     subst eA
     have hfy : Few y.f0 := by
      have := HSH.out.at p
      rw [← hy] at this
      unfold Few; omega
     have hBw := hI.below
     have HNEXT := Aside0.mk hnext
     have HP := Aside0.mk hp
     have HXL := Aside0.mk hxl
     have HEB := Aside0.mk hEB
     have HROW := Aside0.mk hrow
     have HBLK := Aside0.mk hblk
     have HI := Aside0.mk hI
     have HBw := Aside0.mk hBw
     have Hy := Aside0.mk hy
     have Hfy := Aside0.mk hfy
     have HK7 := Aside0.mk hk7
     have HD7 := Aside0.mk hD7
     have HAT := Aside0.mk hAt
     have Y0 := Aside0.mk (cell_b HBw.out y0)
     have Y1 := Aside0.mk (cell_b HBw.out y1)
     have Y2 := Aside0.mk (cell_b HBw.out y2)
     have Y3 := Aside0.mk (cell_b HBw.out y3)
     have Y4 := Aside0.mk (cell_b HBw.out y4)
     have Y5 := Aside0.mk (cell_b HBw.out y5)
     have Y6 := Aside0.mk (cell_b HBw.out y6)
     have Y7 := Aside0.mk (cell_b HBw.out y7)
     clear y0 y1 y2 y3 y4 y5 y6 y7 y8 hy hfy hk7 hD7 hxs hxl hEB hI hnext hAt hp hrow hblk hBw
     gi_wp2
     refine startIn_ (n := 14) (S := fun w' => w'.cell? ⟨w.heap.size, 0, none⟩ = some (.slice (some ad) l.length c0) ∧ w'.cell? ⟨w.heap.size + 1, 0, none⟩ = some (.int .i64 d.mul) ∧ w'.cell? ⟨w.heap.size + 1, 1, none⟩ = some (.int .i64 d.dv) ∧ w'.cell? ⟨w.heap.size + 1, 2, none⟩ = some (.int .i64 d.ld) ∧ w'.cell? ⟨w.heap.size + 1, 3, none⟩ = some (.int .i64 d.tk) ∧ w'.cell? (ad.add (p * 9)) = some (.int .i64 y.f0.f0) ∧ w'.cell? ⟨(ad.add (p * 9)).block, (ad.add (p * 9)).off + 1, none⟩ = some (.int .i64 y.f0.f1) ∧ w'.cell? ⟨(ad.add (p * 9)).block, (ad.add (p * 9)).off + 2, none⟩ = some (.int .i64 y.f0.f2) ∧ w'.cell? ⟨(ad.add (p * 9)).block, (ad.add (p * 9)).off + 3, none⟩ = some (.int .i64 y.f0.f3) ∧ w'.cell? ⟨(ad.add (p * 9)).block, (ad.add (p * 9)).off + 4, none⟩ = some (.int .i64 y.f0.f4) ∧ w'.cell? ⟨(ad.add (p * 9)).block, (ad.add (p * 9)).off + 5, none⟩ = some (.int .i64 y.f0.f5) ∧ w'.cell? ⟨(ad.add (p * 9)).block, (ad.add (p * 9)).off + 6, none⟩ = some (.int .i32 y.f0.f6) ∧ w'.cell? ⟨(ad.add (p * 9)).block, (ad.add (p * 9)).off + 7, none⟩ = some (.slice B7 y.f0.f7.length e7) ∧ w'.cell? ⟨nb j, 0, none⟩ = some (.int .i64 p) ∧ w'.cell? ⟨nb j, 2, none⟩ = some (.int .i64 (farOf xs j))) (ds := [13]) (bm 14 0) (by kernel_rfl) (by kernel_rfl) rfl rfl ⟨(HI.out.cell E15.out (by decide) 0).trans rfl, (HI.out.cell E151.out (by decide) 0).trans rfl, (HI.out.cell E151.out (by decide) 1).trans rfl, (HI.out.cell E151.out (by decide) 2).trans rfl, (HI.out.cell E151.out (by decide) 3).trans rfl, Y0.out, Y1.out, Y2.out, Y3.out, Y4.out, Y5.out, Y6.out, Y7.out, (blk_cell HBLK.out 0).trans rfl, (blk_cell HBLK.out 2).trans rfl⟩ (fun hHeld => ?_)
     refine pu 0 183 (bm 14 1) rfl rfl (by kernel_rfl) (fun _ _ _ h => h) (by rfl) (v := ?_) (a' := ?_) (by intro w'; go_simp; with_reducible rfl) (by simp only [np]; rfl) ?_
     refine pu 2 185 (bm 14 5) rfl rfl (by kernel_rfl) (fun _ _ _ h => h) (by rfl) (v := ?_) (a' := ?_) (by intro w'; go_simp; with_reducible rfl) (by simp only [np]; rfl) ?_
     refine pu 3 186 (bm 14 13) rfl rfl (by kernel_rfl) (fun _ _ _ h => h) (by rfl) (v := ?_) (a' := ?_) (by intro w'; go_simp; with_reducible rfl) (by simp only [np]; rfl) ?_
     refine pu 4 187 (bm 14 29) rfl rfl (by kernel_rfl) (fun _ _ _ h => h) (by rfl) (v := ?_) (a' := ?_) (by intro w'; go_simp; with_reducible rfl) (by simp only [np]; rfl) ?_
     refine tu 1 184 (bm 14 31) rfl rfl (by kernel_rfl) (fun _ _ _ h => h) (by rfl) (v := ?_) (a' := ?_) (by rintro w' ⟨s0, s1, s2, s3, s4, s5, s6, s7, s8, s9, s10, s11, s12, s13, s14⟩; go_simp; with_reducible rfl) hHeld (by simp only [np]; rfl) ?_
     refine tu 5 188 (bm 14 63) rfl rfl (by kernel_rfl) (fun _ _ _ h => h) (by rfl) (v := ?_) (a' := ?_) (by rintro w' ⟨s0, s1, s2, s3, s4, s5, s6, s7, s8, s9, s10, s11, s12, s13, s14⟩; go_simp; with_reducible rfl) hHeld (by simp only [np]; rfl) ?_
     refine pu 6 189 (bm 14 127) rfl rfl (by kernel_rfl) (fun _ _ _ h => h) (by rfl) (v := ?_) (a' := ?_) (by intro w'; go_simp; with_reducible rfl) (by simp only [np]; rfl) ?_
     refine pu 7 190 (bm 14 255) rfl rfl (by kernel_rfl) (fun _ _ _ h => h) (by rfl) (v := ?_) (a' := ?_) (by intro w'; go_simp; with_reducible rfl) (by simp only [np]; rfl) ?_
     refine tu 8 191 (bm 14 511) rfl rfl (by kernel_rfl) (fun _ _ _ h => h) (by rfl) (v := ?_) (a' := ?_) (by rintro w' ⟨s0, s1, s2, s3, s4, s5, s6, s7, s8, s9, s10, s11, s12, s13, s14⟩; go_simp; with_reducible rfl) hHeld (by simp only [np]; rfl) ?_
     refine tu 9 192 (bm 14 1023) rfl rfl (by kernel_rfl) (fun _ _ _ h => h) (by rfl) (v := ?_) (a' := ?_) (by rintro w' ⟨s0, s1, s2, s3, s4, s5, s6, s7, s8, s9, s10, s11, s12, s13, s14⟩; go_simp; with_reducible rfl) hHeld (by simp only [np]; rfl) ?_
     refine one_ (i := 10) (N := some 193) (bm 14 2047) rfl rfl (by kernel_rfl) (by decide) (fun K hK => ?_)
     refine goes_ Try.func13 (by kernel_rfl) rfl #[.agg #[.int .i64 y.f0.f0, .int .i64 y.f0.f1, .int .i64 y.f0.f2, .int .i64 y.f0.f3, .int .i64 y.f0.f4, .int .i64 y.f0.f5, .int .i32 y.f0.f6, .slice B7 y.f0.f7.length e7], .agg #[.int .i64 d.mul, .int .i64 d.dv, .int .i64 d.ld, .int .i64 d.tk]] (by rfl) rfl rfl (by simp only [List.map_toArray, List.map_cons, List.map_nil]; rfl) ?_
     with_reducible refine (sched_Late.calls y.f0.f0 y.f0.f1 y.f0.f2 y.f0.f3 y.f0.f4 y.f0.f5 y.f0.f6 B7 e7 y.f0.f7 d.mul d.dv d.ld d.tk (ltP y.f0 d) _ (Kd.C_below HD7.out (below_drew1 HBw.out)) HK7.out (lt_eq y.f0 d)).mono ?_
     rintro e w5 ⟨rfl, hb⟩
     refine ⟨_, rfl, ?_⟩
     have HF5 := Aside0.mk (HI.out.drew.grow hb)
     have fz : w5.frozen? ⟨nb j, 2, none⟩ = false := HF5.out.free (by have := HXL.out; omega) 2
     have HG5 := Aside0.mk (grown_below (row := some (nb j)) (below_then (below_drew1 (Below.refl _ _)) (Nat.le_refl _) hb))
     refine hK.out _ _ ⟨cell_b hb (hHeld.1), cell_b hb (hHeld.2.1), cell_b hb (hHeld.2.2.1), cell_b hb (hHeld.2.2.2.1), cell_b hb (hHeld.2.2.2.2.1), cell_b hb (hHeld.2.2.2.2.2.1), cell_b hb (hHeld.2.2.2.2.2.2.1), cell_b hb (hHeld.2.2.2.2.2.2.2.1), cell_b hb (hHeld.2.2.2.2.2.2.2.2.1), cell_b hb (hHeld.2.2.2.2.2.2.2.2.2.1), cell_b hb (hHeld.2.2.2.2.2.2.2.2.2.2.1), cell_b hb (hHeld.2.2.2.2.2.2.2.2.2.2.2.1), cell_b hb (hHeld.2.2.2.2.2.2.2.2.2.2.2.2.1), cell_b hb (hHeld.2.2.2.2.2.2.2.2.2.2.2.2.2.1), cell_b hb (hHeld.2.2.2.2.2.2.2.2.2.2.2.2.2.2)⟩ (fun hHeld => ?_)
     clear hK K
     refine norm_ (a' := ?_) ?_ ?_
     rotate_left
     · show Act.put _ (some 193) _ = _; simp only [np]; rfl
     refine pu 11 194 (bm 14 4095) rfl rfl (by kernel_rfl) (fun _ _ _ h => h) (by rfl) (v := ?_) (a' := ?_) (by intro w'; go_simp; with_reducible rfl) (by simp only [np]; rfl) ?_
     refine pu 12 195 (bm 14 8191) rfl rfl (by kernel_rfl) (fun _ _ _ h => h) (by rfl) (v := ?_) (a' := ?_) (by intro w'; go_simp; with_reducible rfl) (by simp only [np]; rfl) ?_
     refine last_ (i := 13) (N := none) (bm 14 16383) rfl rfl (by kernel_rfl) (by decide) (fun K hK => ?_)
     refine skip_ (w1 := ?_) (by rfl) rfl ?_ ?_
     rotate_left
     · go_simp; rfl
     refine hK.out _ _ ?_
     clear hK K
     refine done_ (by kernel_rfl) ?_
     refine onlyN_norm ?_
     have hxl := HXL.out
     have HF6 := Aside0.mk (HF5.out.far (j := j) (by omega) (ltP y.f0 d))
     have HG6 := Aside0.mk (HG5.out.trans (grown_setCell w5 ⟨nb j, 2, none⟩ (.int .i64 (ltP y.f0 d))))
     clear hHeld HF5 HG5 fz HBLK Y0 Y1 Y2 Y3 Y4 Y5 Y6 Y7
     revert HF6 HG6
     generalize w5.setCell ⟨nb j, 2, none⟩ (.int .i64 (ltP y.f0 d)) = w6
     intro HF6 HG6
     obtain ⟨A4, c4, rfl⟩ := own_slice (HI.out.edges HROW.out)
     have cl4 := own_le (HI.out.edges HROW.out)
     have hbl := HAT.out.2.1
     obtain ⟨es, hes⟩ : ∃ es, es = (xs.getD j nz).beh := ⟨_, rfl⟩
     rw [← hes] at HROW cl4 hbl
     have c44 : w6.cell? ⟨nb j, 4, none⟩ = some (.slice A4 es.length c4) := (blk_cell (HF6.out.blk (by rw [setFar_len]; omega) HROW.out) 4).trans rfl
     have Hes := Aside0.mk hes
     have heb : ∀ e ∈ es, 0 ≤ e.1 ∧ e.1 < l.length := by rw [hes]; exact HAT.out.2.2
     have HEBS := Aside0.mk heb
     rw [show (xs.getD j nz).beh.length = es.length from by rw [hes]] at *
     clear hes heb
     gi_wp2
     gi_loopw [201] (fun v201 wr => ∃ m : Nat, m ≤ es.length ∧ v201 = .int .i64 m ∧ Aside0 (FR w wr E0 nb ((es.take m).foldl (farEdge j) (setFar xs j (ltP y.f0 d)))) ∧ Aside0 (W.grownBy wr (some (nb j)))) (fun v201 _ => es.length - (intOf v201).toNat)
     case atStart => exact ⟨0, Nat.zero_le _, rfl, HF6, HG6⟩
     case round =>
      clear c44 HF6 HG6
      obtain ⟨m, hm, rfl, HF, HG⟩ := hrel
      by_cases hml : m < es.length
      · obtain ⟨g4, rfl, c4a, c4b⟩ := HF.out.edgeAt HROW.out m hml
        obtain ⟨t, ht⟩ : ∃ t : Nat, (es.getD m (0, 0)).1 = t := ⟨_, (Int.toNat_of_nonneg (HEBS.out _ (by rw [List.getD_eq_getElem?_getD, List.getElem?_eq_getElem hml]; exact List.getElem_mem hml)).1).symm⟩
        have htn : t < l.length := by
         have := (HEBS.out _ (by rw [List.getD_eq_getElem?_getD, List.getElem?_eq_getElem hml]; exact List.getElem_mem hml : es.getD m (0, 0) ∈ es)).2
         omega
        obtain ⟨q, hq⟩ : ∃ q, q = (es.getD m (0, 0)).2 := ⟨_, rfl⟩
        rw [ht] at c4a
        rw [← hq] at c4b
        obtain ⟨ys, hys⟩ : ∃ ys, ys = (es.take m).foldl (farEdge j) (setFar xs j (ltP y.f0 d)) := ⟨_, rfl⟩
        have hyl : ys.length = l.length := by rw [hys, farEdges_len, setFar_len]; omega
        rw [← hys] at HF
        have Hys := Aside0.mk hys
        have Ht := Aside0.mk ht
        have Hq := Aside0.mk hq
        clear hys ht hq
        gi_wp2
        have fz : ((wr.alloc (.cells #[.int .i64 t, .int .i64 q] 73)).drew).frozen? ⟨nb j, 2, none⟩ = false := ((HF.out.grow (below_alloc (Below.refl _ _) _)).drew).free (by omega) 2
        refine startIn_ (n := 20) (S := fun w' => w'.cell? ⟨nb j, 2, none⟩ = some (.int .i64 (farOf ys j)) ∧ w'.cell? ⟨wr.heap.size, 1, none⟩ = some (.int .i64 q) ∧ w'.cell? ⟨w.heap.size + 1 + 1 + 1, 0, none⟩ = some (.slice (some ⟨w.heap.size + 1 + 1, 0, none⟩) l.length l.length) ∧ w'.cell? ⟨wr.heap.size, 0, none⟩ = some (.int .i64 t) ∧ w'.cell? ⟨w.heap.size + 1 + 1, t, none⟩ = some (.pointer (some ⟨nb t, 0, none⟩)) ∧ w'.cell? ⟨nb t, 2, none⟩ = some (.int .i64 (farOf ys t))) (ds := [19]) (bm 20 0) (by kernel_rfl) (by kernel_rfl) rfl rfl ⟨cell_b (below_drew1 (below_alloc (Below.refl _ _) _)) (HF.out.farCell (by omega)), (blk_cell (heap_alloc_new wr _) 1).trans rfl, cell_b (below_drew1 (below_alloc (Below.refl _ _) _)) ((HF.out.cell E6.out (by decide) 0).trans rfl), (blk_cell (heap_alloc_new wr _) 0).trans rfl, cell_b (below_drew1 (below_alloc (Below.refl _ _) _)) ((HF.out.rowCell E5.out (by decide) t htn).trans (HPS.out t htn)), cell_b (below_drew1 (below_alloc (Below.refl _ _) _)) (HF.out.farCell (by omega))⟩ (fun hHeld => ?_)
        refine pu 0 205 (bm 20 1) rfl rfl (by kernel_rfl) (fun _ _ _ h => h) (by rfl) (v := ?_) (a' := ?_) (by intro w'; go_simp; with_reducible rfl) (by simp only [np]; rfl) ?_
        refine pu 1 206 (bm 20 3) rfl rfl (by kernel_rfl) (fun _ _ _ h => h) (by rfl) (v := ?_) (a' := ?_) (by intro w'; go_simp; with_reducible rfl) (by simp only [np]; rfl) ?_
        refine pu 2 207 (bm 20 7) rfl rfl (by kernel_rfl) (fun _ _ _ h => h) (by rfl) (v := ?_) (a' := ?_) (by intro w'; go_simp; with_reducible rfl) (by simp only [np]; rfl) ?_
        refine pu 3 208 (bm 20 15) rfl rfl (by kernel_rfl) (fun _ _ _ h => h) (by rfl) (v := ?_) (a' := ?_) (by intro w'; go_simp; with_reducible rfl) (by simp only [np]; rfl) ?_
        refine pu 5 210 (bm 20 47) rfl rfl (by kernel_rfl) (fun _ _ _ h => h) (by rfl) (v := ?_) (a' := ?_) (by intro w'; go_simp; with_reducible rfl) (by simp only [np]; rfl) ?_
        refine pu 8 213 (bm 20 303) rfl rfl (by kernel_rfl) (fun _ _ _ h => h) (by rfl) (v := ?_) (a' := ?_) (by intro w'; go_simp; with_reducible rfl) (by simp only [np]; rfl) ?_
        refine tu 4 209 (bm 20 319) rfl rfl (by kernel_rfl) (fun _ _ _ h => h) (by rfl) (v := ?_) (a' := ?_) (by rintro w' ⟨s0, s1, s2, s3, s4, s5⟩; go_simp; with_reducible rfl) hHeld (by simp only [np]; rfl) ?_
        refine tu 6 211 (bm 20 383) rfl rfl (by kernel_rfl) (fun _ _ _ h => h) (by rfl) (v := ?_) (a' := ?_) (by rintro w' ⟨s0, s1, s2, s3, s4, s5⟩; go_simp; with_reducible rfl) hHeld (by simp only [np]; rfl) ?_
        refine tu 7 212 (bm 20 511) rfl rfl (by kernel_rfl) (fun _ _ _ h => h) (by rfl) (v := ?_) (a' := ?_) (by rintro w' ⟨s0, s1, s2, s3, s4, s5⟩; go_simp; with_reducible rfl) hHeld (by simp only [np]; rfl) ?_
        refine tu 9 214 (bm 20 1023) rfl rfl (by kernel_rfl) (fun _ _ _ h => h) (by rfl) (v := ?_) (a' := ?_) (by rintro w' ⟨s0, s1, s2, s3, s4, s5⟩; go_simp; with_reducible rfl) hHeld (by simp only [np]; rfl) ?_
        refine pu 10 215 (bm 20 2047) rfl rfl (by kernel_rfl) (fun _ _ _ h => h) (by rfl) (v := ?_) (a' := ?_) (by intro w'; go_simp; with_reducible rfl) (by simp only [np]; rfl) ?_
        refine tu 11 216 (bm 20 4095) rfl rfl (by kernel_rfl) (fun _ _ _ h => h) (by rfl) (v := ?_) (a' := ?_) (by rintro w' ⟨s0, s1, s2, s3, s4, s5⟩; go_simp; with_reducible rfl) hHeld (by simp only [np]; rfl) ?_
        refine pu 12 217 (bm 20 8191) rfl rfl (by kernel_rfl) (fun _ _ _ h => h) (by rfl) (v := ?_) (a' := ?_) (by intro w'; go_simp; with_reducible rfl) (by simp only [np]; rfl) ?_
        refine pu 13 218 (bm 20 16383) rfl rfl (by kernel_rfl) (fun _ _ _ h => h) (by rfl) (v := ?_) (a' := ?_) (by intro w'; go_simp; with_reducible rfl) (by simp only [np]; rfl) ?_
        refine tu 14 219 (bm 20 32767) rfl rfl (by kernel_rfl) (fun _ _ _ h => h) (by rfl) (v := ?_) (a' := ?_) (by rintro w' ⟨s0, s1, s2, s3, s4, s5⟩; go_simp; with_reducible rfl) hHeld (by simp only [np]; rfl) ?_
        refine pu 15 220 (bm 20 65535) rfl rfl (by kernel_rfl) (fun _ _ _ h => h) (by rfl) (v := ?_) (a' := ?_) (by intro w'; go_simp; with_reducible rfl) (by simp only [np]; rfl) ?_
        refine pu 16 221 (bm 20 131071) rfl rfl (by kernel_rfl) (fun _ _ _ h => h) (by rfl) (v := ?_) (a' := ?_) (by intro w'; go_simp; with_reducible rfl) (by simp only [np]; rfl) ?_
        refine pu 17 222 (bm 20 262143) rfl rfl (by kernel_rfl) (fun _ _ _ h => h) (by rfl) (v := ?_) (a' := ?_) (by intro w'; go_simp; with_reducible rfl) (by simp only [np]; rfl) ?_
        refine pu 18 223 (bm 20 524287) rfl rfl (by kernel_rfl) (fun _ _ _ h => h) (by rfl) (v := ?_) (a' := ?_) (by intro w'; go_simp; with_reducible rfl) (by simp only [np]; rfl) ?_
        refine last_ (i := 19) (N := none) (bm 20 1048575) rfl rfl (by kernel_rfl) (by decide) (fun K hK => ?_)
        refine skip_ (w1 := ?_) (by rfl) rfl ?_ ?_
        rotate_left
        · go_simp; rfl
        refine hK.out _ _ ?_
        clear hK K
        refine done_ (by kernel_rfl) ?_
        refine onlyN_norm ?_
        have hmx : (if farOf ys j < wrap64 (q + farOf ys t) then wrap64 (q + farOf ys t) else farOf ys j) = max (farOf ys j) (wrap64 (q + farOf ys t)) := by split <;> omega
        rw [hmx]
        have HF7 := Aside0.mk (((HF.out.grow (below_alloc (Below.refl _ _) (.cells #[.int .i64 t, .int .i64 q] 73))).far (j := j) (by omega) (max (farOf ys j) (wrap64 (q + farOf ys t)))).drew)
        have HG7 := Aside0.mk (((HG.out.trans (grown_below (below_alloc (Below.refl _ _) (.cells #[.int .i64 t, .int .i64 q] 73)))).trans (grown_setCell (wr.alloc (.cells #[.int .i64 t, .int .i64 q] 73)) ⟨nb j, 2, none⟩ (.int .i64 (max (farOf ys j) (wrap64 (q + farOf ys t)))))).trans (grown_below (below_drew1 (Below.refl _ _))))
        clear hHeld fz HF HG hmx c4a c4b
        revert HF7 HG7
        generalize ((wr.alloc (.cells #[.int .i64 t, .int .i64 q] 73)).setCell ⟨nb j, 2, none⟩ (.int .i64 (max (farOf ys j) (wrap64 (q + farOf ys t))))).drew = w8
        intro HF7 HG7
        gi_wp2
        go_roundw
        case rel =>
         refine ⟨m + 1, by omega, by go_num, ⟨?_⟩, HG7⟩
         have hst : (es.take (m + 1)).foldl (farEdge j) (setFar xs j (ltP y.f0 d)) = farEdge j ys (es.getD m (0, 0)) := by
          rw [List.take_succ_eq_append_getElem hml, List.foldl_append, Hys.out]
          simp [List.getD_eq_getElem?_getD, List.getElem?_eq_getElem hml]
         rw [hst]
         unfold farEdge
         rw [Ht.out, ← Hq.out, Int.toNat_natCast]
         exact HF7.out
        case measure => simp [intOf]; omega
      · have hme : m = es.length := by omega
        subst hme
        rw [List.take_length] at HF
        gi_wp2
        refine ⟨HI.out.keeps (by omega) HG.out _, HI.out.kpb (by omega) HG.out E16.out E5.out, ?_⟩
        show FR w wr E0 nb (((pre ++ [(⟨j, hj⟩ : Fin l.length)]).map Fin.val).foldl (farNode d l) (gSt d l l.length).nd)
        rw [HNEXT.out]
        unfold farNode
        rw [← Hes.out, HP.out, Int.toNat_natCast, ← Hy.out]
        exact HF.out
    case done =>
     intro D xs W hD hS hI hW
     have hI' : FR w W E0 nb (graphP d l) := by
      unfold graphP
      rw [← hS]
      exact hI
     have cN : W.cell? ⟨w.heap.size + 1 + 1 + 1, 0, none⟩ = some (.slice (some ⟨w.heap.size + 1 + 1, 0, none⟩) l.length l.length) := (hI'.cell E6.out (by decide) 0).trans rfl
     have HI := Aside0.mk hI'
     clear hI hI' hS; go_wp2
     refine ⟨by simp, .inl ⟨_, _, rfl, run_takeDeferred hW, ?_⟩⟩
     refine ⟨_, results_tmp rfl _ _ _, E0, nb, ps, _, rfl, HI.out.other (grownBy_putObj' _ _ _) ?_, E5.out, HPS.out⟩
     rintro r ⟨⟩
     exact ⟨Nat.le_trans HFR.out.below.size hD, _, hW, rfl⟩
    case stop =>
     intro D c pre W _ _ h _
     exact h.elim
end Go.Proofs.Ytocndmielggnpaa.PAll
end
section
namespace Go.Proofs.Ytocndmielggnpaa.PAll
open Go.RowKit Go.Proofs.YtocndmielggnpaaW.PrintWords Go.Proofs.YtocndmielggnpaaW.PrintLast Go.Proofs.YtocndmielggnpaaW.PrintMore
open Go.Proofs.Ytocndmielggnpaa.AMap Go.Proofs.Ytocndmielggnpaa.Env Go.Proofs.Ytocndmielggnpaa.Kind
abbrev OutR (base : Nat) (w : World) (v : Value) (os : List S37) : Prop := k37.R 37 w base (fun _ => True) v os
theorem OutR.kt {base : Nat} {w w' : World} {v : Value} {os : List S37} (h : OutR base w v os) (hk : KT w w') : OutR base w' v os := by
 have h1 := Kd.R_bound h
 refine Kd.R_mono (Kd.R_move h1 (fun k hk1 => ?_)) (fun _ _ => trivial)
 obtain ⟨_, _, _, q, hq, cells, hc⟩ := hk1
 simp only [k37, k35, Kd.iso, Kd.pair, Kd.slice, Kd.int, Kd.scalar, List.mem_cons, List.mem_append, List.not_mem_nil, or_false, false_or] at hq
 rcases hq with rfl | rfl
 · exact hk.2 k cells _ hc (by decide) (by decide)
 · exact hk.2 k cells _ hc (by decide) (by decide)
theorem OutR.kn {base : Nat} {w w' : World} {v : Value} {os : List S37} (h : OutR base w v os) (hk : KN w w') : OutR base w' v os := by
 have h1 := Kd.R_bound h
 refine Kd.R_mono (Kd.R_move h1 (fun k hk1 => ?_)) (fun _ _ => trivial)
 obtain ⟨_, _, _, q, hq, cells, hc⟩ := hk1
 simp only [k37, k35, Kd.iso, Kd.pair, Kd.slice, Kd.int, Kd.scalar, List.mem_cons, List.mem_append, List.not_mem_nil, or_false, false_or] at hq
 rcases hq with rfl | rfl
 · exact hk.2 k cells _ hc (by decide)
 · exact hk.2 k cells _ hc (by decide)
section
variable {w0 w w' : World} {p : BP} {xs : List Nd} {qs : Nat → List Nat}
theorem BM.setNode (h : BM w0 w p xs qs) {t : Nat} (ht : t < p.n) (o : Nat) (u : Value) (f : Nd → Nd) (hf : ∀ (x : Nd) (v : Value), #[.int .i64 x.pos, .int .i64 x.ahead, .int .i64 x.far, .int .i64 x.frm, v].setIfInBounds o u = #[.int .i64 (f x).pos, .int .i64 (f x).ahead, .int .i64 (f x).far, .int .i64 (f x).frm, v] ∨ x ≠ xs.getD t nz) (hb : ∀ x, (f x).beh = x.beh) :
    BM w0 (w.setCell ⟨p.nb t, o, none⟩ u) p (xs.modify t f) qs ∧ KN w (w.setCell ⟨p.nb t, o, none⟩ u) := by
 obtain ⟨E, h⟩ := h
 have hl : t < xs.length := by rw [h.len]; exact ht
 have hx : xs[t]? = some (xs.getD t nz) := by rw [List.getD_eq_getElem?_getD, List.getElem?_eq_getElem hl]; rfl
 obtain ⟨v, e1, e2⟩ := h.nodes t _ hx
 have hS := h.sat.store e1 o u
 have hh : w.heap[p.nb t]? = some (.cells #[.int .i64 (xs.getD t nz).pos, .int .i64 (xs.getD t nz).ahead, .int .i64 (xs.getD t nz).far, .int .i64 (xs.getD t nz).frm, v] 61 (0, 0)) := h.sat.holds _ _ _ e1
 rcases hf (xs.getD t nz) v with hc | hc
 · rw [hc] at hS
   refine ⟨⟨_, hS, ?_, ?_, by rw [List.length_modify]; exact h.len, ?_, ?_, ?_, ?_, h.inn⟩, KN.grown (grown_setCell w ⟨p.nb t, o, none⟩ u) hh⟩
   · intro τ b d he
     unfold Env.set at he
     split at he
     · simp only [Option.some.injEq, Prod.mk.injEq] at he
       rw [← he.2]; simp [Ds.ok]
     · exact h.ok _ _ _ he
   · intro j y hy
     rw [List.getElem?_modify] at hy
     by_cases hj : t = j
     · subst hj
       rw [hx] at hy
       simp only [if_true, Option.map_eq_map, Option.map_some, Option.some.injEq] at hy
       subst hy
       refine ⟨v, set_same _ _ _, ?_⟩
       rw [hb]
       exact e2.congr (set_tag _ _ (by simp))
     · simp only [if_neg hj, Option.map_eq_map, Option.map_id_fun', id_eq] at hy
       refine (h.nodes j y hy).congr (set_ne _ _ ?_) (set_tag _ _ (by simp))
       simp only [ne_eq, Prod.mk.injEq, true_and]
       omega
   · obtain ⟨ps, r1, r2⟩ := h.row
     exact ⟨ps, (set_tag _ _ (by simp)).trans r1, r2⟩
   · intro i hi
     obtain ⟨v, q1, q2⟩ := h.q i hi
     exact ⟨v, (set_tag _ _ (by simp)).trans q1, q2.congr (set_tag _ _ (by simp))⟩
   · intro i hi
     exact (set_tag _ _ (by simp)).trans (h.box i hi)
   · intro i hi
     exact (set_tag _ _ (by simp)).trans (h.keys i hi)
 · exact absurd rfl hc
theorem BM.setFrm (h : BM w0 w p xs qs) {t : Nat} (ht : t < p.n) (v : Int) : BM w0 (w.setCell ⟨p.nb t, 3, none⟩ (.int .i64 v)) p (PAll.setFrm xs t v) qs ∧ KN w (w.setCell ⟨p.nb t, 3, none⟩ (.int .i64 v)) :=
 h.setNode ht 3 _ (fun x => { x with frm := v }) (fun x u => .inl rfl) (fun _ => rfl)
theorem BM.setAh (h : BM w0 w p xs qs) {t : Nat} (ht : t < p.n) (v : Int) : BM w0 (w.setCell ⟨p.nb t, 1, none⟩ (.int .i64 v)) p (PAll.setAh xs t v) qs ∧ KN w (w.setCell ⟨p.nb t, 1, none⟩ (.int .i64 v)) :=
 h.setNode ht 1 _ (fun x => { x with ahead := v }) (fun x u => .inl rfl) (fun _ => rfl)
theorem BM.edgesAt (h : BM w0 w p xs qs) {j : Nat} (hj : j < p.n) : ∃ A c, w.heap[p.nb j]? = some (.cells #[.int .i64 (xs.getD j nz).pos, .int .i64 (xs.getD j nz).ahead, .int .i64 (xs.getD j nz).far, .int .i64 (xs.getD j nz).frm, .slice A (behOf xs j).length c] 61 (0, 0)) ∧
    w.ownsRow 0 73 2 (.slice A (behOf xs j).length c) (behOf xs j).length (edgeCells (behOf xs j)) := by
 obtain ⟨E, h⟩ := h
 obtain ⟨v, h1, h2⟩ := h.nodes j (xs.getD j nz) (by rw [List.getD_eq_getElem?_getD, List.getElem?_eq_getElem (by rw [h.len]; exact hj)]; rfl)
 obtain ⟨n, hn, ho, A, c, rfl, hc⟩ := h2.owns h.sat (by decide)
 rw [edgeCells_len] at hn
 have hne : n = (behOf xs j).length := by unfold behOf; omega
 subst hne
 exact ⟨A, c, h.sat.holds _ _ _ h1, ho⟩
/-- The edges of a node at any time: the row of its slice stays. -/
theorem BM.edgeAt (h : BM w0 w p xs qs) {j : Nat} (hj : j < p.n) {A : Option Addr} {c : Nat} {es : List (Int × Int)} (hes : es = behOf xs j) (hh : w.cell? ⟨p.nb j, 4, none⟩ = some (.slice A es.length c)) (m : Nat) (hm : m < es.length) :
    ∃ g, A = some ⟨g, 0, none⟩ ∧ w.cell? ⟨g, m * 2, none⟩ = some (.int .i64 (es.getD m (0, 0)).1) ∧ w.cell? ⟨g, m * 2 + 1, none⟩ = some (.int .i64 (es.getD m (0, 0)).2) := by
 obtain ⟨A', c', h1, ho⟩ := h.edgesAt hj
 have h2 := (blk_cell h1 4).trans rfl
 rw [hh] at h2
 simp only [List.getElem?_toArray, List.getElem?_cons_succ, List.getElem?_cons_zero, Option.some.injEq, Value.slice.injEq] at h2
 obtain ⟨rfl, -, rfl⟩ := h2
 rw [← hes] at ho
 rcases ho.2 with ⟨h', h2⟩ | ⟨g, cap, cur, h', _⟩
 · omega
 · simp only [Value.slice.injEq] at h'
   obtain ⟨rfl, -, rfl⟩ := h'
   have h2 := ho.cells (g := g) rfl (m * 2) _ (edgeCells_get es m hm).1
   have h3 := ho.cells (g := g) rfl (m * 2 + 1) _ (edgeCells_get es m hm).2
   rw [add_plain] at h2 h3
   exact ⟨g, rfl, h2, h3⟩
/-- The row that is made grows. -/
theorem BM.out (h : BM w0 w p xs qs) {base e n : Nat} {v : Value} {inner : List Value} (hb : Below w0.heap.size w0 w') (hg : w.grownBy w' v.ownBlock) (ho : w.ownsRow base 37 n v e inner) : BM w0 w' p xs qs := by
 refine h.frame hb (fun k cs t h1 h2 h3 => hg.block k (blk_lt h1) ?_)
 intro e
 obtain ⟨cells, hc⟩ := own_typed ho k e.symm
 rw [h1] at hc
 simp only [Option.some.injEq, Obj.cells.injEq] at hc
 exact h3 hc.2.1
end
theorem own_of (x : S37) (h : Few x.f0) : sched_own.f x.f0.f0 x.f0.f1 x.f0.f2 x.f0.f3 x.f0.f4 x.f0.f5 x.f0.f6 x.f0.f7 x.f1 = some (x.f0.f0, x.f0.f1, x.f0.f2, x.f0.f3, x.f0.f4, x.f0.f5, x.f0.f6, x.f0.f7, x.f1) := by
 unfold sched_own.f slices_Clone_int_int.f
 unfold Few at h
 rw [if_pos (by omega)]
 rfl
/-- The queues are made. -/
theorem BM.start {w1 w2 : World} {E : Env} {nb : Nat → Nat} {xs : List Nd} {n rb : Nat} {ps : List Value} (h : FR w1 w2 E nb xs) (hl : xs.length = n) (hR : E (5, 0) = some (rb, .row 58 1 n ps n)) (hps : ∀ k, k < n → ps[k]? = some (.pointer (some ⟨nb k, 0, none⟩))) :
    BM w1 ((((((w2.alloc (.cells #[.func (.func 33) #[] #[], .func (.func 31) #[] #[]] 62)).alloc (.cells #[.slice (some ⟨w2.heap.size, 0, none⟩) 2 2] 87)).alloc (.cells #[.slice none 0 0, .func (.func 54) #[] #[.pointer (some ⟨w2.heap.size + 1, 0, none⟩)]] 67)).alloc
     (.cells #[.func (.func 34) #[] #[], .func (.func 31) #[] #[]] 62)).alloc (.cells #[.slice (some ⟨w2.heap.size + 1 + 1 + 1, 0, none⟩) 2 2] 87)).alloc (.cells #[.slice none 0 0, .func (.func 54) #[] #[.pointer (some ⟨w2.heap.size + 1 + 1 + 1 + 1, 0, none⟩)]] 67))
     ⟨n, rb, nb, fun i => if i = 0 then w2.heap.size + 1 + 1 else w2.heap.size + 1 + 1 + 1 + 1 + 1, fun i => if i = 0 then w2.heap.size + 1 else w2.heap.size + 1 + 1 + 1 + 1, fun i => if i = 0 then w2.heap.size else w2.heap.size + 1 + 1 + 1⟩ xs (fun _ => []) := by
 obtain ⟨E', hS, hE, hN, hM⟩ := h
 have s0 := ((hS.drop (21, 0)).drop (21, 1))
 have s1 := s0.alloc (23, 0) #[.func (.func 33) #[] #[], .func (.func 31) #[] #[]] 62
 have s2 := s1.alloc (22, 0) #[.slice (some ⟨w2.heap.size, 0, none⟩) 2 2] 87
 have s3 := s2.alloc (20, 0) #[.slice none 0 0, .func (.func 54) #[] #[.pointer (some ⟨w2.heap.size + 1, 0, none⟩)]] 67
 have s4 := s3.alloc (23, 1) #[.func (.func 34) #[] #[], .func (.func 31) #[] #[]] 62
 have s5 := s4.alloc (22, 1) #[.slice (some ⟨w2.heap.size + 1 + 1 + 1, 0, none⟩) 2 2] 87
 have s6 := s5.alloc (20, 1) #[.slice none 0 0, .func (.func 54) #[] #[.pointer (some ⟨w2.heap.size + 1 + 1 + 1 + 1, 0, none⟩)]] 67
 simp only [World.size_alloc] at s6
 have hne : ∀ τ : Tag, τ.1 ≠ 20 → τ.1 ≠ 21 → τ.1 ≠ 22 → τ.1 ≠ 23 → ∀ (a1 a2 a3 a4 a5 a6 : Option (Nat × Ds)), Env.set (Env.set (Env.set (Env.set (Env.set (Env.set (Env.set (Env.set E' (21, 0) none) (21, 1) none) (23, 0) a1) (22, 0) a2) (20, 0) a3) (23, 1) a4) (22, 1) a5) (20, 1) a6 τ = E' τ := by
  intro τ h0 h1 h2 h3 a1 a2 a3 a4 a5 a6
  rw [set_tag _ _ h0, set_tag _ _ h2, set_tag _ _ h3, set_tag _ _ h0, set_tag _ _ h2, set_tag _ _ h3, set_tag _ _ h1, set_tag _ _ h1]
 refine ⟨_, s6, ?_, hN.congr (fun j => hne _ (by simp) (by simp) (by simp) (by simp) _ _ _ _ _ _) (fun j => hne _ (by simp) (by simp) (by simp) (by simp) _ _ _ _ _ _), hl,
  ⟨ps, (hne _ (by decide) (by decide) (by decide) (by decide) _ _ _ _ _ _).trans ((hE _ (by decide)).trans hR), hps⟩, ?_, ?_, ?_, fun i _ k hk => by simp at hk⟩
 · intro τ b d he
   simp only [Env.set] at he
   repeat' split at he
   all_goals first | (simp only [Option.some.injEq, Prod.mk.injEq] at he; rw [← he.2]; simp [Ds.ok]; done) | (simp at he; done) | exact hM _ _ _ he
 · intro i hi
   have : i = 0 ∨ i = 1 := by omega
   rcases this with rfl | rfl
   · refine ⟨.slice none 0 0, by simp [Env.set, lessV], .inl ⟨rfl, rfl, by simp [Env.set]⟩⟩
   · refine ⟨.slice none 0 0, by simp [Env.set, lessV], .inl ⟨rfl, rfl, by simp [Env.set]⟩⟩
 · intro i hi
   have : i = 0 ∨ i = 1 := by omega
   rcases this with rfl | rfl <;> simp [Env.set]
 · intro i hi
   have : i = 0 ∨ i = 1 := by omega
   rcases this with rfl | rfl <;> simp [Env.set, keyF]
end Go.Proofs.Ytocndmielggnpaa.PAll
end
section
namespace Go.Proofs.Ytocndmielggnpaa.PAll
open Go.RowKit Go.Proofs.YtocndmielggnpaaW.PrintWords Go.Proofs.YtocndmielggnpaaW.PrintLast Go.Proofs.YtocndmielggnpaaW.PrintMore
open Go.Proofs.Ytocndmielggnpaa.AMap Go.Proofs.Ytocndmielggnpaa.Env Go.Proofs.Ytocndmielggnpaa.Kind
attribute [local go_sem] max2_int min2_int max_two min_two
def Qof (s : St) : Nat → List Nat := fun i => if i = 0 then s.q0 else if i = 1 then s.q1 else []
theorem Qof0 (s : St) : Qof s 0 = s.q0 := rfl
theorem Qof1 (s : St) : Qof s 1 = s.q1 := rfl
theorem Qof_up0 (s : St) (q : List Nat) : updQ (Qof s) 0 q = Qof { s with q0 := q } := by
 funext i
 simp only [updQ, Qof]
 by_cases h0 : i = 0 <;> simp [h0]
theorem wake_eq (s : St) : (wake s).xs = s.xs ∧ Qof (wake s) = Qof s ∧ (wake s).q0 = s.q0 ∧ (wake s).q1 = s.q1 := by unfold wake; split <;> exact ⟨rfl, rfl, rfl, rfl⟩
theorem wake_now (s : St) : (wake s).now = if s.q0.length = 0 ∧ 0 < s.q1.length then max s.now (frmOf s.xs (s.q1.getD 0 0)) else s.now := by unfold wake; split <;> rfl
/-- The head of a queue, and a node's own cycle. -/
theorem BM.head {w0 w : World} {p : BP} {xs : List Nd} {qs : Nat → List Nat} (h : BM w0 w p xs qs) {i : Nat} (hi : i < 2) (h0 : 0 < (qs i).length) : ∃ g c, w.cell? ⟨p.bq i, 0, none⟩ = some (.slice (some ⟨g, 0, none⟩) (qs i).length c) ∧ w.cell? ⟨g, 0, none⟩ = some (.pointer (some ⟨p.nb ((qs i).getD 0 0), 0, none⟩)) ∧
    w.cell? ⟨p.nb ((qs i).getD 0 0), 3, none⟩ = some (.int .i64 (frmOf xs ((qs i).getD 0 0))) ∧ (qs i).getD 0 0 < p.n := by
 obtain ⟨A, c, hq, ho⟩ := h.queue hi
 obtain ⟨g, rfl, cg⟩ := row58 ho 0 h0
 have hin : (qs i).getD 0 0 < p.n := h.inn hi _ (by rw [List.getD_eq_getElem?_getD, List.getElem?_eq_getElem h0]; exact List.getElem_mem h0)
 obtain ⟨v, hn⟩ := h.node hin
 exact ⟨g, c, (blk_cell hq 0).trans rfl, cg, (blk_cell hn 3).trans rfl, hin⟩
theorem Qof_up1 (s : St) (q : List Nat) : updQ (Qof s) 1 q = Qof { s with q1 := q } := by
 funext i
 simp only [updQ, Qof]
 by_cases h0 : i = 0
 · subst h0; simp
 · by_cases h1 : i = 1
   · subst h1; simp
   · simp [h0, h1]
theorem Qof_init (s : St) (h : s.q1 = []) : updQ (fun _ => []) 0 s.q0 = Qof s := by
 funext i
 simp only [updQ, Qof]
 by_cases h0 : i = 0
 · simp [h0]
 · by_cases h1 : i = 1
   · simp [h1, h]
   · simp [h0, h1]
theorem BM.start' {w1 w2 : World} {E : Env} {nb : Nat → Nat} {xs : List Nd} {n rb : Nat} {ps : List Value} (h : FR w1 w2 E nb xs) (hl : xs.length = n) (hR : E (5, 0) = some (rb, .row 58 1 n ps n)) (hps : ∀ k, k < n → ps[k]? = some (.pointer (some ⟨nb k, 0, none⟩))) :
    ∃ p : BP, p.n = n ∧ p.rb = rb ∧ p.bq 0 = w2.heap.size + 1 + 1 ∧ p.bq 1 = w2.heap.size + 1 + 1 + 1 + 1 + 1 ∧
     BM w1 ((((((w2.alloc (.cells #[.func (.func 33) #[] #[], .func (.func 31) #[] #[]] 62)).alloc (.cells #[.slice (some ⟨w2.heap.size, 0, none⟩) 2 2] 87)).alloc (.cells #[.slice none 0 0, .func (.func 54) #[] #[.pointer (some ⟨w2.heap.size + 1, 0, none⟩)]] 67)).alloc
     (.cells #[.func (.func 34) #[] #[], .func (.func 31) #[] #[]] 62)).alloc (.cells #[.slice (some ⟨w2.heap.size + 1 + 1 + 1, 0, none⟩) 2 2] 87)).alloc (.cells #[.slice none 0 0, .func (.func 54) #[] #[.pointer (some ⟨w2.heap.size + 1 + 1 + 1 + 1, 0, none⟩)]] 67)) p xs (fun _ => []) :=
 ⟨_, rfl, rfl, rfl, rfl, BM.start h hl hR hps⟩
theorem moveW_sum : ∀ (f : Nat) (s : St), (moveW f s).q0.length + (moveW f s).q1.length = s.q0.length + s.q1.length := by
 intro f
 induction f with
 | zero => intro s; rfl
 | succ f ih =>
  intro s
  unfold moveW
  split
  · rename_i h
    rw [ih]
    have h1 := popP_len (lessP 1 s.xs) s.q1 h.1
    show (pushP _ _ _).length + (popP _ _).2.length = _
    rw [pushP_len]
    omega
  · rfl
theorem pre_sum (s : St) : (pre s).q0.length + (pre s).q1.length = s.q0.length + s.q1.length := by
 unfold pre
 rw [moveW_sum, (wake_eq s).2.2.1, (wake_eq s).2.2.2]
theorem info37 : (Try.prog.info? 37).map (fun i => (i.zero, i.size, i.bytes)) = some (some (.agg #[.int .i64 0, .int .i64 0, .int .i64 0, .int .i64 0, .int .i64 0, .int .i64 0, .int .i32 0, .slice none 0 0, .int .i64 0]), 9, 88) := by kernel_rfl
theorem ah_setAh (xs : List Nd) (t : Nat) (v : Int) (h : t < xs.length) : ahOf (setAh xs t v) t = v := by
 unfold ahOf setAh
 simp [List.getD_eq_getElem?_getD, List.getElem?_modify, List.getElem?_eq_getElem h]
theorem cell4 {w : World} {b b' : Nat} {o : Nat} {u v : Value} (h : w.cell? ⟨b, 4, none⟩ = some v) (ho : o ≠ 4) : (w.setCell ⟨b', o, none⟩ u).cell? ⟨b, 4, none⟩ = some v := by
 refine Eq.trans ?_ h
 apply World.cell?_setCell_other
 intro e
 simp only [Addr.mk.injEq] at e
 exact ho e.2.1
theorem cell_kt {w w' : World} {b i : Nat} {cs : Array Value} (h : w.heap[b]? = some (.cells cs 61 (0, 0))) (hk : KT w w') : w'.cell? ⟨b, i, none⟩ = w.cell? ⟨b, i, none⟩ := World.cell?_of_block (w := w) (hk.2 b cs 61 h (by decide) (by decide))
theorem BM.nodeFree {w0 w : World} {p : BP} {xs : List Nd} {qs : Nat → List Nat} (h : BM w0 w p xs qs) {t : Nat} (ht : t < p.n) (i : Nat) : w.frozen? ⟨p.nb t, i, none⟩ = false := by
 obtain ⟨v, hn⟩ := h.node ht
 simp [World.frozen?, hn]
theorem BM.nodeCell {w0 w : World} {p : BP} {xs : List Nd} {qs : Nat → List Nat} (h : BM w0 w p xs qs) {t : Nat} (ht : t < p.n) : w.cell? ⟨p.nb t, 1, none⟩ = some (.int .i64 (ahOf xs t)) ∧ w.cell? ⟨p.nb t, 3, none⟩ = some (.int .i64 (frmOf xs t)) := by
 obtain ⟨v, hn⟩ := h.node ht
 exact ⟨blk_cell hn 1, blk_cell hn 3⟩
def eCells (e : En) (A1 : Option Addr) (c1 : Nat) : Array Value := #[.int .i64 e.op, .int .i64 e.a, .int .i64 e.b, .slice A1 e.tos.length c1, .int .i32 e.imm]
def dCells (d : De) : Array Value := #[.int .i64 d.mul, .int .i64 d.dv, .int .i64 d.ld, .int .i64 d.tk]
theorem calls_world {P : Program} {f : FuncId} {args : Array Value} {w w' : World} {R : Ending → World → Prop} (h : w' = w) (hc : Calls P f args w' R) : Calls P f args w R := h ▸ hc
set_option maxHeartbeats 4000000 in
set_option maxRecDepth 100000 in
theorem block_calls (A0 : Option Addr) (c0 : Nat) (l : List S37) (e : En) (A1 : Option Addr) (c1 : Nat) (d : De) (w : World) (hr0 : Kd.C k37 w A0 l.length l) (hc0 : l.length ≤ c0)
    (hr1 : Kd.C (Kd.int .i64) w A1 e.tos.length e.tos) (hc1 : e.tos.length ≤ c1) (hsh : Sh l) (hsafe : Safe d l) :
    Calls Try.prog 15 #[.slice A0 l.length c0, .agg (eCells e A1 c1), .agg (dCells d)] w fun en w' => ∃ v, en = .returned v ∧ OutR w.heap.size w' v (blockP l e d) ∧ Below w.heap.size w w' := by
 obtain ⟨w1, hw1⟩ : ∃ w1, w1 = (w.alloc (.cells (eCells e A1 c1) 25)).alloc (.cells (dCells d) 27) := ⟨_, rfl⟩
 have hbx : w1.heap[w.heap.size]? = some (.cells (eCells e A1 c1) 25 (0, 0)) := by rw [hw1]; exact blk_alloc (heap_alloc_new w _) _
 have hby : w1.heap[w.heap.size + 1]? = some (.cells (dCells d) 27 (0, 0)) := by rw [hw1]; exact new_at _ _ _ (by simp)
 have hb1 : Below w.heap.size w w1 := by rw [hw1]; exact below_alloc (below_alloc (Below.refl _ _) _) _
 have hg := graph_calls A0 c0 l d w1 (Kd.C_below hr0 hb1) hc0 hsh
 have HBX := Aside0.mk hbx
 have HBY := Aside0.mk hby
 have HB1 := Aside0.mk hb1
 have HGR := Aside0.mk hg
 have HR0 := Aside0.mk hr0
 have HC0 := Aside0.mk hc0
 have HR1 := Aside0.mk hr1
 have HC1 := Aside0.mk hc1
 have HSH := Aside0.mk hsh
 have HSF := Aside0.mk hsafe
 have HW1 := Aside0.mk hw1
 have hl100 := hsh.1
 clear hr0 hc0 hr1 hc1 hsh hsafe hbx hby hb1 hg hw1
 unfold eCells dCells
 go_enter Try.func15, Try.ntmps15
 go_wp2_with fail
 refine calls_world HW1.out ?_
 refine HGR.out.mono ?_
 rintro en w2 ⟨E, nb, ps, rb, rfl, hF, hR, hps⟩
 obtain ⟨p, hpn, hprb, hp0, hp1, hBM⟩ := BM.start' hF (graph_len HSH.out) hR hps
 have HBM := Aside0.mk hBM
 have HP0 := Aside0.mk hp0
 have HP1 := Aside0.mk hp1
 have HPN := Aside0.mk hpn
 clear hF hR hps HGR hBM hp0 hp1 hpn; subst hprb
 go_wp2_with fail
 refine (by_calls _ _ _ _).mono ?_
 rintro en w3 ⟨rfl, rfl⟩
 go_wp2_with fail
 refine (by_calls _ _ _ _).mono ?_
 rintro en w4 ⟨rfl, rfl⟩
 go_wp2_with fail
 revert HBM
 rw [← HP1.out, ← HP0.out]
 intro HBM
 obtain ⟨X, hX⟩ : ∃ X, X = graphP d l := ⟨_, rfl⟩
 rw [← hX] at HBM
 have HX := Aside0.mk hX
 clear hX
 go_loopw [36] (fun v36 wr => ∃ k : Nat, k ≤ l.length ∧ v36 = .int .i64 k ∧ Aside0 (BM w1 wr p X (updQ (fun _ => []) 0 (initQ X k)))) (fun v36 _ => l.length - (intOf v36).toNat)
 case atStart => exact ⟨0, Nat.zero_le _, rfl, ⟨by rw [show initQ X 0 = (fun _ => ([] : List Nat)) 0 from rfl, updQ_self]; exact HBM.out⟩⟩
 case round =>
  clear HBM
  obtain ⟨k, hk, rfl, HB⟩ := hrel
  by_cases hlt : k < l.length
  · have hkn : k < p.n := by rw [HPN.out]; exact hlt
    have cr := HB.out.rowAt k hkn
    obtain ⟨v, hn⟩ := HB.out.node hkn
    have ca : wr.cell? ⟨p.nb k, 1, none⟩ = some (.int .i64 (ahOf X k)) := (blk_cell hn 1).trans rfl
    have hil := initQ_len X k
    clear hn
    obtain ⟨a, ha⟩ : ∃ a, a = ahOf X k := ⟨_, rfl⟩
    rw [← ha] at ca
    have Ha := Aside0.mk ha
    clear ha
    by_cases ha0 : a = 0
    · subst ha0
      have hpush := push_calls HB.out (i := 0) (by decide) k hkn (by rw [updQ_same]; omega)
      rw [updQ_same, updQ_updQ] at hpush
      have HPU := Aside0.mk hpush
      clear hpush
      go_wp2_with fail
      refine HPU.out.mono ?_
      rintro en w5 ⟨rfl, hb5, hk5⟩
      have HB5 := Aside0.mk hb5
      clear hb5 hk5 HPU HB cr ca; go_wp2
      go_roundw
      case rel =>
       refine ⟨k + 1, by omega, by go_num, ⟨?_⟩⟩
       rw [initQ_succ, if_pos Ha.out.symm]
       exact HB5.out
      case measure => simp [intOf]; omega
    · go_wp2
      go_roundw
      case rel =>
       refine ⟨k + 1, by omega, by go_num, ⟨?_⟩⟩
       rw [initQ_succ, if_neg (by rw [← Ha.out]; exact ha0)]
       exact HB.out
      case measure => simp [intOf]; omega
  · have hkl : k = l.length := by omega
    subst hkl
    have HBQ : Aside0 (BM w1 wr p (stK d l 0).xs (Qof (stK d l 0))) := ⟨by
     rw [stK_zero]
     unfold st0
     rw [← HX.out]
     have := HB.out
     rwa [Qof_init ⟨X, initQ X l.length, [], 0, []⟩ rfl] at this⟩
    clear HB hlt hk
    go_wp2_with fail
    go_loopg [13, 14] l.length (fun g v13 v14 wr => ∃ k : Nat, k ≤ l.length ∧ g = l.length - k ∧ v14 = .int .i64 (stK d l k).now ∧ (∃ A c, v13 = .slice A k c ∧ k ≤ c) ∧ Aside0 (BM w1 wr p (stK d l k).xs (Qof (stK d l k))) ∧ Aside0 (OutR w1.heap.size wr v13 ((stK d l k).out.map fun j => l.getD j z37)))
    case atStart => exact ⟨0, Nat.zero_le _, rfl, rfl, ⟨none, 0, rfl, Nat.le_refl _⟩, HBQ, ⟨Kd.R_nil _ _ _ _ _⟩⟩
    case round =>
     clear HBQ
     obtain ⟨k, hk, rfl, rfl, ⟨Ao, co, rfl, hco⟩, HB, HO⟩ := hrel
     by_cases hlt : k < l.length
     · obtain ⟨s, hs⟩ : ∃ s, s = stK d l k := ⟨_, rfl⟩
       have Hs := Aside0.mk hs
       rw [← hs] at HB HO ⊢
       clear hs
       obtain ⟨wq, rfl⟩ : ∃ wq : World, wq = wr := ⟨_, rfl⟩
       go_upto_region 15 with fail
       obtain ⟨B, hB⟩ : ∃ B, B = decide (s.q0.length = 0 ∧ 0 < s.q1.length) := ⟨_, rfl⟩
       have HBv := Aside0.mk hB
       clear hB
       go_cut [65] from 58 to 64 (fun v65 wx => v65 = .bool B ∧ wx = wq)
       case first =>
        have H15A := Aside0.mk (len_calls HB.out (i := 0) (by decide))
        have H15B := Aside0.mk (len_calls HB.out (i := 1) (by decide))
        rw [Qof0] at H15A
        rw [Qof1] at H15B
        by_cases h0 : s.q0.length = 0
        · by_cases h1 : 0 < s.q1.length
          · go_wp2_with fail
            refine H15A.out.mono ?_
            rintro en w5 ⟨rfl, rfl⟩
            rw [h0]
            go_wp2_with fail
            refine H15B.out.mono ?_
            rintro en w6 ⟨rfl, rfl⟩
            go_wp2
            go_meet
            case rel => exact ⟨by rw [HBv.out]; simp [h0, h1], rfl⟩
          · go_wp2_with fail
            refine H15A.out.mono ?_
            rintro en w5 ⟨rfl, rfl⟩
            rw [h0]
            go_wp2_with fail
            refine H15B.out.mono ?_
            rintro en w6 ⟨rfl, rfl⟩
            have h2 : s.q1.length = 0 := by omega
            rw [h2]
            go_wp2
            go_meet
            case rel => exact ⟨by rw [HBv.out]; simp [h0, h1], rfl⟩
        · go_wp2_with fail
          refine H15A.out.mono ?_
          rintro en w5 ⟨rfl, rfl⟩
          go_wp2
          go_meet
          case rel => exact ⟨by rw [HBv.out]; simp [h0], rfl⟩
       case rest =>
        obtain ⟨rfl, rfl⟩ := hcut
        go_upto_if 65 with fail
        go_cut [14] from 66 to 76 (fun v14 wx => v14 = .int .i64 (wake s).now ∧ wx = wc)
        case first =>
         cases B with
         | true =>
          have hw : s.q0.length = 0 ∧ 0 < s.q1.length := of_decide_eq_true HBv.out.symm
          obtain ⟨g, c, q0, q1, q2, _⟩ := HB.out.head (i := 1) (by decide) (by rw [Qof1]; exact hw.2)
          rw [Qof1] at q0 q1 q2
          obtain ⟨t, ht⟩ : ∃ t, t = s.q1.getD 0 0 := ⟨_, rfl⟩
          rw [← ht] at q1 q2
          have Ht := Aside0.mk ht
          obtain ⟨f, hf⟩ : ∃ f, f = frmOf s.xs t := ⟨_, rfl⟩
          rw [← hf] at q2
          have Hf := Aside0.mk hf
          clear ht hf
          have hwn := wake_now s
          rw [if_pos hw] at hwn
          have HWN := Aside0.mk hwn
          have hpos := hw.2
          clear hwn hw
          go_wp2 <;> (
           go_meet
           case rel =>
            refine ⟨?_, rfl⟩
            rw [HWN.out, ← Ht.out, ← Hf.out]
            simp only [Value.int.injEq, true_and]
            omega)
         | false =>
          have hw : ¬ (s.q0.length = 0 ∧ 0 < s.q1.length) := of_decide_eq_false HBv.out.symm
          have hwn := wake_now s
          rw [if_neg hw] at hwn
          have HWN := Aside0.mk hwn
          clear hwn hw; go_wp2
          go_meet
          case rel => exact ⟨by rw [HWN.out], rfl⟩
        case rest =>
         obtain ⟨rfl, rfl⟩ := hcut
         clear HBv
         have hfew := HSF.out.few k hlt
         rw [← Hs.out] at hfew
         have HPRE : Aside0 (moveW (wake s).q1.length (wake s) = pre s) := ⟨rfl⟩
         have HBW : Aside0 (BM w1 wc p (wake s).xs (Qof (wake s))) := ⟨by rw [(wake_eq s).1, (wake_eq s).2.1]; exact HB.out⟩
         have hfw : (wake s).q0.length + (wake s).q1.length ≤ 100000 := by rw [(wake_eq s).2.2.1, (wake_eq s).2.2.2]; exact hfew
         clear HB hfew
         obtain ⟨N, hN⟩ : ∃ N, N = (wake s).now := ⟨_, rfl⟩
         rw [← hN]
         have HN := Aside0.mk hN
         clear hN
         go_upto_block 4 with fail
         go_cut [] from 77 to 98 (fun wx => Aside0 (BM w1 wx p (pre s).xs (Qof (pre s))) ∧ Aside0 (OutR w1.heap.size wx (.slice Ao k co) (s.out.map fun j => l.getD j z37)))
         case first =>
          go_wp2_with fail
          go_loopg [] (wake s).q1.length (fun g wr => ∃ s', g = s'.q1.length ∧ s'.now = N ∧ s'.q0.length + s'.q1.length ≤ 100000 ∧ Aside0 (BM w1 wr p s'.xs (Qof s')) ∧ Aside0 (OutR w1.heap.size wr (.slice Ao k co) (s.out.map fun j => l.getD j z37)) ∧ Aside0 (moveW s'.q1.length s' = pre s))
          case atStart => exact ⟨wake s, rfl, HN.out.symm, hfw, HBW, HO, HPRE⟩
          case round =>
           clear HBW HPRE HO hfw
           obtain ⟨s', rfl, hnow, hfw, HB, HO, HPRE⟩ := hrel
           have HNOW := Aside0.mk hnow
           clear hnow
           have H1 := Aside0.mk (len_calls HB.out (i := 1) (by decide))
           rw [Qof1] at H1
           by_cases h0 : 0 < s'.q1.length
           · obtain ⟨g, c, q0, q1, q2, hin⟩ := HB.out.head (i := 1) (by decide) (by rw [Qof1]; exact h0)
             rw [Qof1] at q0 q1 q2 hin
             obtain ⟨t, ht⟩ : ∃ t, t = s'.q1.getD 0 0 := ⟨_, rfl⟩
             rw [← ht] at q1 q2 hin
             have Ht := Aside0.mk ht
             obtain ⟨f, hf⟩ : ∃ f, f = frmOf s'.xs t := ⟨_, rfl⟩
             rw [← hf] at q2
             have Hf := Aside0.mk hf
             clear ht hf
             by_cases hle : f ≤ N
             · have hmo : moveOk s' := ⟨h0, by rw [← Ht.out, ← Hf.out, HNOW.out]; exact hle⟩
               have HMO := Aside0.mk hmo
               have HMW := Aside0.mk ((moveW_ok s' hmo).symm.trans HPRE.out)
               have hpop := pop_calls HB.out (i := 1) (by decide) (by rw [Qof1]; exact h0) (by rw [Qof1]; omega)
               rw [Qof1, Qof_up1] at hpop
               have HPOP := Aside0.mk hpop
               have hpp := popP_spec (lessP 1 s'.xs) s'.q1 h0
               have hpl := popP_len (lessP 1 s'.xs) s'.q1 h0
               have HT := Aside0.mk (hpp.1.trans Ht.out.symm)
               clear hpop hpp hmo
               go_wp2_with fail
               refine H1.out.mono ?_
               rintro en w5 ⟨rfl, rfl⟩
               go_wp2_with fail
               refine HPOP.out.mono ?_
               rintro en w6 ⟨rfl, hb6, hk6⟩
               rw [HT.out]
               have hpush := push_calls hb6 (i := 0) (by decide) t hin (by rw [Qof0]; show s'.q0.length ≤ _; omega)
               rw [Qof0, Qof_up0] at hpush
               have HPUSH := Aside0.mk hpush
               have HO6 := Aside0.mk (HO.out.kt hk6)
               clear hb6 hk6 hpush HO HB HPOP H1
               go_wp2_with fail
               refine HPUSH.out.mono ?_
               rintro en w7 ⟨rfl, hb7, hk7⟩
               have HO7 := Aside0.mk (HO6.out.kt hk7)
               have HB7 := Aside0.mk hb7
               clear hb7 hk7 HO6 HPUSH q0 q1 q2; go_wp2
               go_roundg (move1 s').q1.length
               case measure => show (popP (lessP 1 s'.xs) s'.q1).2.length < _; omega
               case rel =>
                refine ⟨move1 s', rfl, HNOW.out, ?_, ⟨?_⟩, HO7, HMW⟩
                · show (pushP (lessP 0 s'.xs) s'.q0 (popP (lessP 1 s'.xs) s'.q1).1).length + (popP (lessP 1 s'.xs) s'.q1).2.length ≤ _
                  rw [pushP_len]; omega
                · unfold move1
                  rw [HT.out]
                  exact HB7.out
             · have HPR := Aside0.mk ((moveW_end s' (fun hmo => hle (by rw [Hf.out, Ht.out, ← HNOW.out]; exact hmo.2))).symm.trans HPRE.out)
               go_wp2_with fail
               refine H1.out.mono ?_
               rintro en w5 ⟨rfl, rfl⟩
               go_wp2
               go_meet
               case rel => exact ⟨⟨by rw [← HPR.out]; exact HB.out⟩, HO⟩
           · have HPR := Aside0.mk ((moveW_end s' (fun hmo => h0 hmo.1)).symm.trans HPRE.out)
             have hz : s'.q1.length = 0 := by omega
             rw [hz] at H1
             go_wp2_with fail
             refine H1.out.mono ?_
             rintro en w5 ⟨rfl, rfl⟩
             go_wp2
             go_meet
             case rel => exact ⟨⟨by rw [← HPR.out]; exact HB.out⟩, HO⟩
         case rest =>
          clear HBW HPRE HO hfw
          obtain ⟨HB, HO⟩ := hcut
          have hso := HSF.out.some_ k hlt
          have hfe := HSF.out.few k hlt
          rw [← Hs.out] at hso hfe
          rw [← pre_sum] at hfe
          obtain ⟨s2, hs2⟩ : ∃ s2, s2 = pre s := ⟨_, rfl⟩
          have HS2 := Aside0.mk hs2
          rw [← hs2] at HB hso hfe
          have hout : s.out = s2.out := by rw [hs2]; exact (pre_xs s).2.symm
          have hnow2 : N = s2.now := by rw [HN.out, hs2]; exact (moveW_xs _ _).2.1.symm
          have hxs2 : s2.xs = (stK d l k).xs := by rw [hs2, (pre_xs s).1, Hs.out]
          have HXS2 := Aside0.mk hxs2
          have HNOW := Aside0.mk hnow2
          have HOUT := Aside0.mk hout
          clear hs2 hout hnow2 hxs2
          have hpop := pop_calls HB.out (i := 0) (by decide) (by rw [Qof0]; exact hso) (by rw [Qof0]; omega)
          rw [Qof0, Qof_up0] at hpop
          obtain ⟨j, hj⟩ : ∃ j, j = popd s2 := ⟨_, rfl⟩
          have hj' : (popP (lessP 0 s2.xs) s2.q0).1 = j := by rw [hj]; rfl
          rw [hj'] at hpop
          have hjn : j < l.length := by
           rw [← HPN.out]
           refine HB.out.inn (i := 0) (by decide) j ?_
           rw [Qof0, hj]
           show (popP _ _).1 ∈ _
           rw [(popP_spec (lessP 0 s2.xs) s2.q0 hso).1, List.getD_eq_getElem?_getD, List.getElem?_eq_getElem hso]
           exact List.getElem_mem hso
          have HPOP := Aside0.mk hpop
          have HJ := Aside0.mk hj
          have hta : ∀ w, (Instr.typeAssert (.iface 58 (.pointer (some ⟨p.nb j, 0, none⟩))) 20 58 false).run Try.prog w = .ok (.pointer (some ⟨p.nb j, 0, none⟩)) w := fun w => assert58 _ w
          clear hpop hj hj'
          go_wp2_with fail
          refine HPOP.out.mono ?_
          rintro en w5 ⟨rfl, hb5, hk5⟩
          have HB5 := Aside0.mk hb5
          have HO5 := Aside0.mk (HO.out.kt hk5)
          clear hb5 hk5 HPOP HB HO
          obtain ⟨ad, A7, c7, x, eA, hx, x0, x1, x2, x3, x4, x5, x6, x7, x8, hl7, hC7⟩ := at37 HR0.out j hjn
          subst eA
          have hBB := below_then HB1.out HB1.out.size HB5.out.below
          replace x0 := cell_b hBB x0
          replace x1 := cell_b hBB x1
          replace x2 := cell_b hBB x2
          replace x3 := cell_b hBB x3
          replace x4 := cell_b hBB x4
          replace x5 := cell_b hBB x5
          replace x6 := cell_b hBB x6
          replace x7 := cell_b hBB x7
          replace x8 := cell_b hBB x8
          obtain ⟨vn, hnode⟩ := HB5.out.node (j := j) (by rw [HPN.out]; exact hjn)
          have hposj : (s2.xs.getD j nz).pos = j := by rw [HXS2.out]; exact stK_pos HSH.out k j hjn
          have cp : w5.cell? ⟨p.nb j, 0, none⟩ = some (.int .i64 j) := by
           have h0 := blk_cell hnode 0
           rw [hposj] at h0
           exact h0
          have hfx : Few x.f0 := by
           have := HSH.out.at j
           rw [← hx] at this
           unfold Few; omega
          have hown := sched_own.calls x.f0.f0 x.f0.f1 x.f0.f2 x.f0.f3 x.f0.f4 x.f0.f5 x.f0.f6 A7 c7 x.f0.f7 x.f1 _ _ _ _ _ _ _ _ _ w5 (Kd.C_below hC7 hBB) hl7 (own_of x hfx)
          have HOWN := Aside0.mk hown
          have Hxx := Aside0.mk hx
          clear hx hown hnode hposj hfx hBB hC7
          go_wp2_with fail
          refine HOWN.out.mono ?_
          rintro en w6 ⟨v7, rfl, hR7, hb6⟩
          have HB6 := Aside0.mk (HB5.out.grow hb6)
          have HO6 := Aside0.mk (Kd.R_below HO5.out hb6)
          have hlo := Kd.R_lt HO5.out
          have HM := Aside0.mk (k37_mkM w6 w1.heap.size (fun k' => True ∧ some k' ≠ (Value.slice Ao k co).ownBlock) x (Kd.R_lower (Kd.R_new' hR7 hlo) HB5.out.below.size))
          obtain ⟨inner, hino⟩ := Kd.R_own HO6.out
          have HIN := Aside0.mk hino
          have hol : (s.out.map fun j => l.getD j z37).length = k := by rw [List.length_map, Hs.out]; exact out_len d l k
          have HOL := Aside0.mk hol
          clear hR7 hb6 hlo hino hol HOWN HO5 HB5 cp x0 x1 x2 x3 x4 x5 x6 x7 x8
          go_wp2_with (at_builtin; refine Kd.R_append k37 (w0 := w1) w1.heap.size rfl (.tmp 103) (.tmp 112) 22 37 _ 88 rfl Try.underlying22 info37 rfl (by decide) (by decide) (.slice Ao k co) (s.out.map fun j => l.getD j z37) x _ (fun _ => True) (fun k' => True ∧ some k' ≠ (Value.slice Ao k co).ownBlock) rfl rfl HM.out (fun k' hk' => hk') (fun _ _ => trivial) HO6.out HB6.out.below HB6.out.below.size (by rw [HOL.out]; omega) ?_; intro v1 w9 ho9 hb9 hg9 hat9; have HB9 := Aside0.mk (HB6.out.out hb9 hg9 HIN.out); have HO9 := Aside0.mk ho9; clear ho9 hb9 hg9 hat9 HB6 HO6 HM HIN; obtain ⟨A4, c4, hn4, hr4⟩ := HB9.out.edgesAt (j := j) (by rw [HPN.out]; exact hjn); have c44 : w9.cell? ⟨p.nb j, 4, none⟩ = some (.slice A4 (behOf s2.xs j).length c4) := blk_cell hn4 4; clear hn4 hr4)
          have hbb := stK_beh (d := d) HSH.out k j hjn
          rw [← HXS2.out] at hbb
          obtain ⟨es, hes⟩ : ∃ es, es = behOf s2.xs j := ⟨_, rfl⟩
          rw [← hes] at c44 hbb
          have Hes := Aside0.mk hes
          have HEB := Aside0.mk (show ∀ e ∈ es, 0 ≤ e.1 ∧ e.1 < l.length from by rw [hbb.1]; exact hbb.2.2)
          have hesl : es.length ≤ 1000000000000 := by rw [hbb.1]; exact hbb.2.1
          have C44 := Aside0.mk c44
          rw [show (behOf s2.xs j).length = es.length from by rw [hes]]
          clear hes hbb c44 hta
          go_loopw [119] (fun v119 wr => ∃ m : Nat, m ≤ es.length ∧ v119 = .int .i64 m ∧ Aside0 (BM w1 wr p (relaxed s2 m).1 (Qof { s2 with q0 := (popP (lessP 0 s2.xs) s2.q0).2, q1 := (relaxed s2 m).2 })) ∧
              Aside0 (OutR w1.heap.size wr v1 ((s.out.map fun j => l.getD j z37) ++ [x])) ∧ Aside0 (wr.cell? ⟨p.nb j, 4, none⟩ = some (.slice A4 es.length c4))) (fun v119 _ => es.length - (intOf v119).toNat)
          case atStart => exact ⟨0, Nat.zero_le _, rfl, HB9, HO9, C44⟩
          case round =>
           clear HB9 HO9 C44
           obtain ⟨m, hm, rfl, HB, HO, C44⟩ := hrel
           by_cases hml : m < es.length
           · have hbm : behOf (relaxed s2 m).1 j = es := by
              rw [Hes.out]
              exact ((same_foldl s2.now ((behOf s2.xs (popd s2)).take m) (s2.xs, s2.q1)).2 j).2.1
             obtain ⟨g4, rfl, c4a, c4b⟩ := HB.out.edgeAt (j := j) (by rw [HPN.out]; exact hjn) hbm.symm C44.out m hml
             have hein : es.getD m (0, 0) ∈ es := by rw [List.getD_eq_getElem?_getD, List.getElem?_eq_getElem hml]; exact List.getElem_mem hml
             obtain ⟨t, ht⟩ : ∃ t : Nat, (es.getD m (0, 0)).1 = t := ⟨_, (Int.toNat_of_nonneg (HEB.out _ hein).1).symm⟩
             have htn : t < l.length := by have := (HEB.out _ hein).2; omega
             obtain ⟨q, hq⟩ : ∃ q, q = (es.getD m (0, 0)).2 := ⟨_, rfl⟩
             rw [ht] at c4a
             rw [← hq] at c4b
             have htp : t < p.n := by rw [HPN.out]; exact htn
             have cr := HB.out.rowAt t htp
             have cr1 : ∀ o, (wr.alloc o).cell? ⟨p.rb, t, none⟩ = some (.pointer (some ⟨p.nb t, 0, none⟩)) := fun o => cell_b (below_alloc (Below.refl _ _) _) cr
             have hrs := relaxed_succ s2 m (by rw [← HJ.out, ← Hes.out]; exact hml)
             rw [← HJ.out, ← Hes.out] at hrs
             obtain ⟨ys, hys⟩ : ∃ ys, ys = (relaxed s2 m).1 := ⟨_, rfl⟩
             obtain ⟨qq, hqq⟩ : ∃ qq, qq = (relaxed s2 m).2 := ⟨_, rfl⟩
             have hrel : relaxed s2 (m + 1) = relax N (ys, qq) (es.getD m (0, 0)) := by rw [hrs, HNOW.out, hys, hqq]
             unfold relax at hrel
             simp only [ht, ← hq, Int.toNat_natCast] at hrel
             have HREL := Aside0.mk hrel
             have hyl : ys.length = p.n := by rw [hys]; exact HB.out.len
             have hqf := HSF.out.few1 k m hlt
             rw [← Hs.out, ← HS2.out, ← hqq] at hqf
             rw [← hys, ← hqq] at HB
             have Ht := Aside0.mk ht
             clear hys hqq hrs hein ht hq hrel hbm
             go_wp2_with fail
             have fz : (wr.alloc (.cells #[.int .i64 t, .int .i64 q] 73)).frozen? ⟨p.nb t, 3, none⟩ = false := (HB.out.grow (below_alloc (Below.refl _ _) _)).nodeFree htp 3
             refine start_ (n := 13) (S := fun w' => w'.cell? ⟨p.nb t, 3, none⟩ = some (.int .i64 (frmOf ys t)) ∧ w'.cell? ⟨wr.heap.size, 1, none⟩ = some (.int .i64 q)) (ds := [12]) (bm 13 0) (by kernel_rfl) rfl rfl ⟨cell_b (below_drew1 (below_alloc (Below.refl _ _) _)) (HB.out.nodeCell htp).2, (blk_cell (heap_alloc_new wr (.cells #[.int .i64 t, .int .i64 q] 73)) 1).trans rfl⟩ (fun hHeld => ?_)
             refine pu 0 128 (bm 13 1) rfl rfl (by kernel_rfl) (fun _ _ _ h => h) (by rfl) (v := ?_) (a' := ?_) (by intro w'; go_simp; with_reducible rfl) (by simp only [np]; rfl) ?_
             refine pu 1 129 (bm 13 3) rfl rfl (by kernel_rfl) (fun _ _ _ h => h) (by rfl) (v := ?_) (a' := ?_) (by intro w'; go_simp; with_reducible rfl) (by simp only [np]; rfl) ?_
             refine pu 2 130 (bm 13 7) rfl rfl (by kernel_rfl) (fun _ _ _ h => h) (by rfl) (v := ?_) (a' := ?_) (by intro w'; go_simp; with_reducible rfl) (by simp only [np]; rfl) ?_
             refine pu 3 131 (bm 13 15) rfl rfl (by kernel_rfl) (fun _ _ _ h => h) (by rfl) (v := ?_) (a' := ?_) (by intro w'; go_simp; with_reducible rfl) (by simp only [np]; rfl) ?_
             refine pu 5 133 (bm 13 47) rfl rfl (by kernel_rfl) (fun _ _ _ h => h) (by rfl) (v := ?_) (a' := ?_) (by intro w'; go_simp; with_reducible rfl) (by simp only [np]; rfl) ?_
             refine pu 6 134 (bm 13 111) rfl rfl (by kernel_rfl) (fun _ _ _ h => h) (by rfl) (v := ?_) (a' := ?_) (by intro w'; go_simp; with_reducible rfl) (by simp only [np]; rfl) ?_
             refine tu 4 132 (bm 13 127) rfl rfl (by kernel_rfl) (fun _ _ _ h => h) (by rfl) (v := ?_) (a' := ?_) (by rintro w' ⟨s0, s1⟩; go_simp; with_reducible rfl) hHeld (by simp only [np]; rfl) ?_
             refine tu 7 135 (bm 13 255) rfl rfl (by kernel_rfl) (fun _ _ _ h => h) (by rfl) (v := ?_) (a' := ?_) (by rintro w' ⟨s0, s1⟩; go_simp; with_reducible rfl) hHeld (by simp only [np]; rfl) ?_
             refine pu 8 136 (bm 13 511) rfl rfl (by kernel_rfl) (fun _ _ _ h => h) (by rfl) (v := ?_) (a' := ?_) (by intro w'; go_simp; with_reducible rfl) (by simp only [np]; rfl) ?_
             refine pu 9 137 (bm 13 1023) rfl rfl (by kernel_rfl) (fun _ _ _ h => h) (by rfl) (v := ?_) (a' := ?_) (by intro w'; go_simp; with_reducible rfl) (by simp only [np]; rfl) ?_
             refine pu 10 138 (bm 13 2047) rfl rfl (by kernel_rfl) (fun _ _ _ h => h) (by rfl) (v := ?_) (a' := ?_) (by intro w'; go_simp; with_reducible rfl) (by simp only [np]; rfl) ?_
             refine pu 11 139 (bm 13 4095) rfl rfl (by kernel_rfl) (fun _ _ _ h => h) (by rfl) (v := ?_) (a' := ?_) (by intro w'; go_simp; with_reducible rfl) (by simp only [np]; rfl) ?_
             refine last_ (i := 12) (N := none) (bm 13 8191) rfl rfl (by kernel_rfl) (by decide) (fun K hK => ?_)
             refine skip_ (w1 := ?_) (by rfl) rfl ?_ ?_
             rotate_left
             · go_simp; rfl
             refine hK.out _ _ ?_
             clear hK K
             refine done_ (by kernel_rfl) ?_
             have hmx : (if frmOf ys t < wrap64 (N + q) then wrap64 (N + q) else frmOf ys t) = max (frmOf ys t) (wrap64 (N + q)) := by split <;> omega
             rw [hmx]
             have hbd : Below wr.heap.size wr (wr.alloc (.cells #[.int .i64 t, .int .i64 q] 73)) := below_alloc (Below.refl _ _) _
             have h10 := (HB.out.grow hbd).setFrm htp (max (frmOf ys t) (wrap64 (N + q)))
             have HB10 := Aside0.mk h10.1.drew
             have HO10 : Aside0 (OutR w1.heap.size (((wr.alloc (.cells #[.int .i64 t, .int .i64 q] 73)).setCell ⟨p.nb t, 3, none⟩ (.int .i64 (max (frmOf ys t) (wrap64 (N + q))))).drew) v1 ((s.out.map fun j => l.getD j z37) ++ [x])) :=
              ⟨Kd.R_below (OutR.kn (Kd.R_below HO.out hbd) h10.2) (below_drew1 (Below.refl _ _))⟩
             have C10 : Aside0 ((((wr.alloc (.cells #[.int .i64 t, .int .i64 q] 73)).setCell ⟨p.nb t, 3, none⟩ (.int .i64 (max (frmOf ys t) (wrap64 (N + q))))).drew).cell? ⟨p.nb j, 4, none⟩ = some (.slice (some ⟨g4, 0, none⟩) es.length c4)) :=
              ⟨cell4 (w := wr.alloc (.cells #[.int .i64 t, .int .i64 q] 73)) (cell_b hbd C44.out) (by decide)⟩
             clear h10 hmx hHeld fz HB HO C44 cr cr1 c4a c4b hbd
             revert HB10 HO10 C10
             generalize ((wr.alloc (.cells #[.int .i64 t, .int .i64 q] 73)).setCell ⟨p.nb t, 3, none⟩ (.int .i64 (max (frmOf ys t) (wrap64 (N + q))))).drew = w10
             intro HB10 HO10 C10
             obtain ⟨y1, hy1⟩ : ∃ y1, y1 = setFrm ys t (max (frmOf ys t) (wrap64 (N + q))) := ⟨_, rfl⟩
             rw [← hy1] at HREL HB10
             have hy1l : t < y1.length := by rw [HB10.out.len]; exact htp
             obtain ⟨a, ha⟩ : ∃ a, a = ahOf y1 t := ⟨_, rfl⟩
             have ca := (HB10.out.nodeCell htp).1
             have fa := HB10.out.nodeFree htp 1
             rw [← ha] at ca HREL
             obtain ⟨b, hbv⟩ : ∃ b, wrap64 (a - 1) = b := ⟨_, rfl⟩
             rw [hbv, ah_setAh _ _ _ hy1l] at HREL
             have h26 := HB10.out.setAh htp b
             have HB26 := Aside0.mk h26.1
             have HO26 := Aside0.mk (OutR.kn HO10.out h26.2)
             have C26 := Aside0.mk (cell4 (b' := p.nb t) (o := 1) (u := .int .i64 b) C10.out (by decide))
             clear h26 hy1 ha HB10 HO10 C10
             by_cases hb0 : b = 0
             · have hpush := push_calls HB26.out (i := 1) (by decide) t htp (by rw [Qof1]; show qq.length ≤ _; omega)
               rw [Qof1, Qof_up1] at hpush
               obtain ⟨vn, hnb⟩ := HB26.out.node (j := j) (by rw [HPN.out]; exact hjn)
               have HNB := Aside0.mk hnb
               have HPUSH := Aside0.mk hpush
               rw [if_pos hb0] at HREL
               subst hb0; clear hpush hnb
               go_wp2_with fail
               refine HPUSH.out.mono ?_
               rintro en w11 ⟨rfl, hb11, hk11⟩
               have HB11 := Aside0.mk hb11
               have HO11 := Aside0.mk (HO26.out.kt hk11)
               have C11 := Aside0.mk ((cell_kt HNB.out hk11).trans C26.out)
               clear hb11 hk11 HPUSH HNB HO26 C26 HB26 ca fa; go_wp2
               go_roundw
               case rel =>
                refine ⟨m + 1, by omega, by go_num, ⟨?_⟩, HO11, C11⟩
                rw [HREL.out]
                exact HB11.out
               case measure => simp [intOf]; omega
             · rw [if_neg hb0] at HREL
               go_wp2
               go_roundw
               case rel =>
                refine ⟨m + 1, by omega, by go_num, ⟨?_⟩, HO26, C26⟩
                rw [HREL.out]
                exact HB26.out
               case measure => simp [intOf]; omega
           · have hme : m = es.length := by omega
             subst hme
             have hst : stK d l (k + 1) = stepP s := by rw [stK_succ, ← Hs.out]
             have hst2 : stK d l (k + 1) = ⟨(relaxed s2 es.length).1, (popP (lessP 0 s2.xs) s2.q0).2, (relaxed s2 es.length).2, wrap64 (N + 1), s.out ++ [j]⟩ := by
              rw [hst]
              unfold stepP
              simp only
              rw [← HS2.out, ← HJ.out, ← Hes.out, HNOW.out, HOUT.out]
             have HST := Aside0.mk hst2
             obtain ⟨Av, cv, hv1, hcv, _⟩ := Kd.R_reads HO.out
             have hvl : ((s.out.map fun j => l.getD j z37) ++ [x]).length = k + 1 := by rw [List.length_append, HOL.out]; rfl
             rw [hvl] at hv1 hcv
             clear hst hst2 hvl; go_wp2
             go_roundg (l.length - (k + 1))
             case measure => omega
             case rel =>
              refine ⟨k + 1, by omega, rfl, ?_, ⟨Av, cv, hv1, hcv⟩, ⟨?_⟩, ⟨?_⟩⟩
              · rw [HST.out]
              · rw [HST.out]; exact HB.out
              · rw [HST.out]
                show OutR _ _ _ ((s.out ++ [j]).map fun j => l.getD j z37)
                rw [List.map_append, List.map_cons, List.map_nil, ← Hxx.out]
                exact HO.out
     · have hkl : k = l.length := by omega
       subst hkl
       obtain ⟨os, hos⟩ : ∃ os, os = order d l := ⟨_, rfl⟩
       have hosl : os.length = l.length := by rw [hos]; unfold order; rw [List.length_map]; exact out_len d l _
       rw [show ((stK d l l.length).out.map fun j => l.getD j z37) = os from hos.symm] at HO
       have hosf : ∀ x ∈ os, Few x.f0 := by
        intro x hx
        rw [hos] at hx
        obtain ⟨j, _, rfl⟩ := List.mem_map.1 hx
        have := HSH.out.at j
        unfold Few; omega
       have hlf : ∀ x ∈ l, Few x.f0 := by
        intro x hx
        have := HSH.out.2 x hx
        unfold Few; omega
       have hbw := below_then HB1.out HB1.out.size HB.out.below
       have hrd := Kd.R_reads' HO.out
       have HCO : Aside0 (∀ w', Below wr.heap.size wr w' → Calls Try.prog 10 #[.slice Ao l.length co, .agg #[.int .i64 e.op, .int .i64 e.a, .int .i64 e.b, .slice A1 e.tos.length c1, .int .i32 e.imm], .agg #[.int .i64 d.mul, .int .i64 d.dv, .int .i64 d.ld, .int .i64 d.tk]] w'
           fun en w'' => en = .returned (.int .i64 (cyP os e d)) ∧ Below w'.heap.size w' w'') := ⟨by
        intro w' hb
        have := cycles_calls Ao co os e A1 c1 d w' (Kd.C_below hrd.2.2 hb) (by omega) (Kd.C_below HR1.out (below_then hbw hbw.size hb)) HC1.out (by omega) hosf
        rwa [hosl] at this⟩
       have HCL : Aside0 (∀ w', Below wr.heap.size wr w' → Calls Try.prog 10 #[.slice A0 l.length c0, .agg #[.int .i64 e.op, .int .i64 e.a, .int .i64 e.b, .slice A1 e.tos.length c1, .int .i32 e.imm], .agg #[.int .i64 d.mul, .int .i64 d.dv, .int .i64 d.ld, .int .i64 d.tk]] w'
           fun en w'' => en = .returned (.int .i64 (cyP l e d)) ∧ Below w'.heap.size w' w'') := ⟨by
        intro w' hb
        exact cycles_calls A0 c0 l e A1 c1 d w' (Kd.C_below HR0.out (below_then hbw hbw.size hb)) HC0.out (Kd.C_below HR1.out (below_then hbw hbw.size hb)) HC1.out (by omega) hlf⟩
       have HBE := Aside0.mk (blk_b HB.out.below HBX.out)
       have HBD := Aside0.mk (blk_b HB.out.below HBY.out)
       have HBb := Aside0.mk HB.out.below
       have HOS := Aside0.mk hos
       have HLF := Aside0.mk hlf
       obtain ⟨ca, hca⟩ : ∃ c, c = cyP os e d := ⟨_, rfl⟩
       obtain ⟨cb, hcb⟩ : ∃ c, c = cyP l e d := ⟨_, rfl⟩
       rw [← hca] at HCO
       rw [← hcb] at HCL
       have HBP : Aside0 (blockP l e d = if ca ≤ cb then os else l) := ⟨by unfold blockP; rw [hca, hcb, hos]⟩
       clear hos hosf hlf hrd hbw HB hca hcb hlt hk
       go_wp2_with fail
       refine start_ (n := 9) (S := fun w' => w'.cell? ⟨w.heap.size, 0, none⟩ = some (.int .i64 e.op) ∧ w'.cell? ⟨w.heap.size, 1, none⟩ = some (.int .i64 e.a) ∧ w'.cell? ⟨w.heap.size, 2, none⟩ = some (.int .i64 e.b) ∧ w'.cell? ⟨w.heap.size, 3, none⟩ = some (.slice A1 e.tos.length c1) ∧ w'.cell? ⟨w.heap.size, 4, none⟩ = some (.int .i32 e.imm) ∧ w'.cell? ⟨w.heap.size + 1, 0, none⟩ = some (.int .i64 d.mul) ∧ w'.cell? ⟨w.heap.size + 1, 1, none⟩ = some (.int .i64 d.dv) ∧ w'.cell? ⟨w.heap.size + 1, 2, none⟩ = some (.int .i64 d.ld) ∧ w'.cell? ⟨w.heap.size + 1, 3, none⟩ = some (.int .i64 d.tk)) (ds := []) (bm 9 0) (by kernel_rfl) rfl rfl ⟨(blk_cell HBE.out 0).trans rfl, (blk_cell HBE.out 1).trans rfl, (blk_cell HBE.out 2).trans rfl, (blk_cell HBE.out 3).trans rfl, (blk_cell HBE.out 4).trans rfl, (blk_cell HBD.out 0).trans rfl, (blk_cell HBD.out 1).trans rfl, (blk_cell HBD.out 2).trans rfl, (blk_cell HBD.out 3).trans rfl⟩ (fun hHeld => ?_)
       refine pu 0 158 (bm 9 1) rfl rfl (by kernel_rfl) (fun _ _ _ h => h) (by rfl) (v := ?_) (a' := ?_) (by intro w'; go_simp; with_reducible rfl) (by simp only [np]; rfl) ?_
       refine pu 4 162 (bm 9 17) rfl rfl (by kernel_rfl) (fun _ _ _ h => h) (by rfl) (v := ?_) (a' := ?_) (by intro w'; go_simp; with_reducible rfl) (by simp only [np]; rfl) ?_
       refine tu 1 159 (bm 9 19) rfl rfl (by kernel_rfl) (fun _ _ _ h => h) (by rfl) (v := ?_) (a' := ?_) (by rintro w' ⟨s0, s1, s2, s3, s4, s5, s6, s7, s8⟩; go_simp; with_reducible rfl) hHeld (by simp only [np]; rfl) ?_
       refine tu 2 160 (bm 9 23) rfl rfl (by kernel_rfl) (fun _ _ _ h => h) (by rfl) (v := ?_) (a' := ?_) (by rintro w' ⟨s0, s1, s2, s3, s4, s5, s6, s7, s8⟩; go_simp; with_reducible rfl) hHeld (by simp only [np]; rfl) ?_
       refine tu 5 163 (bm 9 55) rfl rfl (by kernel_rfl) (fun _ _ _ h => h) (by rfl) (v := ?_) (a' := ?_) (by rintro w' ⟨s0, s1, s2, s3, s4, s5, s6, s7, s8⟩; go_simp; with_reducible rfl) hHeld (by simp only [np]; rfl) ?_
       refine tu 6 164 (bm 9 119) rfl rfl (by kernel_rfl) (fun _ _ _ h => h) (by rfl) (v := ?_) (a' := ?_) (by rintro w' ⟨s0, s1, s2, s3, s4, s5, s6, s7, s8⟩; go_simp; with_reducible rfl) hHeld (by simp only [np]; rfl) ?_
       refine one_ (i := 3) (N := some 161) (bm 9 127) rfl rfl (by kernel_rfl) (by decide) (fun K hK => ?_)
       refine goes_ Try.func10 (by kernel_rfl) rfl #[.slice Ao l.length co, .agg #[.int .i64 e.op, .int .i64 e.a, .int .i64 e.b, .slice A1 e.tos.length c1, .int .i32 e.imm], .agg #[.int .i64 d.mul, .int .i64 d.dv, .int .i64 d.ld, .int .i64 d.tk]] (by rfl) rfl rfl (by simp only [List.map_toArray, List.map_cons, List.map_nil]; rfl) ?_
       with_reducible refine (HCO.out _ (below_drew1 (Below.refl _ _))).mono ?_
       rintro en w5 ⟨rfl, hb⟩
       refine ⟨_, rfl, ?_⟩
       have HBn := Aside0.mk (below_then (below_drew1 (Below.refl wr.heap.size wr)) (Nat.le_refl _) hb)
       refine hK.out _ _ ⟨cell_b hb (hHeld.1), cell_b hb (hHeld.2.1), cell_b hb (hHeld.2.2.1), cell_b hb (hHeld.2.2.2.1), cell_b hb (hHeld.2.2.2.2.1), cell_b hb (hHeld.2.2.2.2.2.1), cell_b hb (hHeld.2.2.2.2.2.2.1), cell_b hb (hHeld.2.2.2.2.2.2.2.1), cell_b hb (hHeld.2.2.2.2.2.2.2.2)⟩ (fun hHeld => ?_)
       clear hK K
       refine norm_ (a' := ?_) ?_ ?_
       rotate_left
       · show Act.put _ (some 161) _ = _; simp only [np]; rfl
       refine one_ (i := 7) (N := some 165) (bm 9 255) rfl rfl (by kernel_rfl) (by decide) (fun K hK => ?_)
       refine goes_ Try.func10 (by kernel_rfl) rfl #[.slice A0 l.length c0, .agg #[.int .i64 e.op, .int .i64 e.a, .int .i64 e.b, .slice A1 e.tos.length c1, .int .i32 e.imm], .agg #[.int .i64 d.mul, .int .i64 d.dv, .int .i64 d.ld, .int .i64 d.tk]] (by rfl) rfl rfl (by simp only [List.map_toArray, List.map_cons, List.map_nil]; rfl) ?_
       with_reducible refine (HCL.out _ HBn.out).mono ?_
       rintro en w6 ⟨rfl, hb⟩
       refine ⟨_, rfl, ?_⟩
       have HBn6 := Aside0.mk (below_then HBn.out HBn.out.size hb)
       clear HBn; have HBn := HBn6; clear HBn6
       refine hK.out _ _ ⟨cell_b hb (hHeld.1), cell_b hb (hHeld.2.1), cell_b hb (hHeld.2.2.1), cell_b hb (hHeld.2.2.2.1), cell_b hb (hHeld.2.2.2.2.1), cell_b hb (hHeld.2.2.2.2.2.1), cell_b hb (hHeld.2.2.2.2.2.2.1), cell_b hb (hHeld.2.2.2.2.2.2.2.1), cell_b hb (hHeld.2.2.2.2.2.2.2.2)⟩ (fun hHeld => ?_)
       clear hK K
       refine norm_ (a' := ?_) ?_ ?_
       rotate_left
       · show Act.put _ (some 165) _ = _; simp only [np]; rfl
       refine pu 8 166 (bm 9 511) rfl rfl (by kernel_rfl) (fun _ _ _ h => h) (by rfl) (v := ?_) (a' := ?_) (by intro w'; go_simp; with_reducible rfl) (by simp only [np]; rfl) ?_
       refine done_ (by kernel_rfl) ?_
       clear hHeld
       by_cases hle : ca ≤ cb
       · have hb := HBP.out
         rw [if_pos hle] at hb
         have HBP2 := Aside0.mk hb
         have hB : (decide (ca ≤ cb)) = true := decide_eq_true hle
         clear hb HBP; go_wp2; go_ret
         refine ⟨_, rfl, ?_, below_then HB1.out HB1.out.size (below_then HBb.out HBb.out.size HBn.out)⟩
         rw [HBP2.out]
         exact Kd.R_lower (Kd.R_below HO.out HBn.out) HB1.out.size
       · have hb := HBP.out
         rw [if_neg hle] at hb
         have HBP2 := Aside0.mk hb
         have hB : (decide (ca ≤ cb)) = false := decide_eq_false hle
         clear hb HBP HCO HCL HBE HBD HO
         have HBn2 := Aside0.mk (below_then HBb.out HBb.out.size HBn.out)
         clear HBb HBn; clear hHeld hb
         go_wp2_with fail
         go_loopw [13, 170] (fun v13 v170 wx => ∃ m : Nat, m ≤ l.length ∧ v170 = .int .i64 m ∧ Aside0 (Below w1.heap.size w1 wx) ∧ Aside0 (OutR w1.heap.size wx v13 (l.take m))) (fun _ v170 _ => l.length - (intOf v170).toNat)
         case atStart => exact ⟨0, Nat.zero_le _, rfl, HBn2, ⟨Kd.R_nil _ _ _ _ _⟩⟩
         case round =>
          clear HBn2
          obtain ⟨m, hm, rfl, HBx, HO⟩ := hrel
          obtain ⟨Av, cv, hv, hcv, _⟩ := Kd.R_reads HO.out
          have htl : (l.take m).length = m := by rw [List.length_take]; omega
          rw [htl] at hv hcv
          subst hv
          have HTL := Aside0.mk htl
          clear htl
          obtain ⟨wx, rfl⟩ : ∃ wx : World, wx = wr := ⟨_, rfl⟩
          by_cases hml : m < l.length
          · obtain ⟨ad, A7, c7, x, eA, hx, x0, x1, x2, x3, x4, x5, x6, x7, x8, hl7, hC7⟩ := at37 HR0.out m hml
            subst eA
            have hBB := below_then HB1.out HB1.out.size HBx.out
            replace x0 := cell_b hBB x0
            replace x1 := cell_b hBB x1
            replace x2 := cell_b hBB x2
            replace x3 := cell_b hBB x3
            replace x4 := cell_b hBB x4
            replace x5 := cell_b hBB x5
            replace x6 := cell_b hBB x6
            replace x7 := cell_b hBB x7
            replace x8 := cell_b hBB x8
            have hfx : Few x.f0 := by
             have := HSH.out.at m
             rw [← hx] at this
             unfold Few; omega
            have Hxx := Aside0.mk hx
            have HOWN : Aside0 (∀ o, Calls Try.prog 38 #[.agg #[.int .i64 x.f0.f0, .int .i64 x.f0.f1, .int .i64 x.f0.f2, .int .i64 x.f0.f3, .int .i64 x.f0.f4, .int .i64 x.f0.f5, .int .i32 x.f0.f6, .slice A7 x.f0.f7.length c7, .int .i64 x.f1]] (wx.alloc o) fun e w' => ∃ v7_ : Value, e = .returned (.agg #[.int .i64 x.f0.f0, .int .i64 x.f0.f1, .int .i64 x.f0.f2, .int .i64 x.f0.f3, .int .i64 x.f0.f4, .int .i64 x.f0.f5, .int .i32 x.f0.f6, v7_, .int .i64 x.f1]) ∧ Kd.R (Kd.int .i64) 3 w' (wx.alloc o).heap.size (fun _ => True) v7_ x.f0.f7 ∧ Below (wx.alloc o).heap.size (wx.alloc o) w') :=
             ⟨fun o => sched_own.calls x.f0.f0 x.f0.f1 x.f0.f2 x.f0.f3 x.f0.f4 x.f0.f5 x.f0.f6 A7 c7 x.f0.f7 x.f1 _ _ _ _ _ _ _ _ _ (wx.alloc o) (Kd.C_alloc (Kd.C_below hC7 hBB) _) hl7 (own_of x hfx)⟩
            clear hx hfx hBB hC7
            go_wp2_with fail
            refine (HOWN.out _).mono ?_
            rintro en w7 ⟨v7, rfl, hR7, hb7⟩
            have hBa := below_alloc HBx.out (.cells (xCells x A7 c7) 37)
            have HB7 := Aside0.mk (below_then hBa hBa.size hb7)
            have HOa := Kd.R_alloc HO.out (.cells (xCells x A7 c7) 37)
            have hlo := Kd.R_lt HOa
            have HO7 := Aside0.mk (Kd.R_below HOa hb7)
            have HM := Aside0.mk (k37_mkM w7 w1.heap.size (fun k' => True ∧ some k' ≠ (Value.slice Av m cv).ownBlock) x (Kd.R_lower (Kd.R_new' hR7 hlo) hBa.size))
            clear hR7 hb7 hlo HOa hBa HOWN HO HBx x0 x1 x2 x3 x4 x5 x6 x7 x8
            go_wp2_with (at_builtin; refine Kd.R_append k37 (w0 := w1) w1.heap.size rfl (.tmp 174) (.tmp 177) 22 37 _ 88 rfl Try.underlying22 info37 rfl (by decide) (by decide) (.slice Av m cv) (l.take m) x _ (fun _ => True) (fun k' => True ∧ some k' ≠ (Value.slice Av m cv).ownBlock) rfl rfl HM.out (fun k' hk' => hk') (fun _ _ => trivial) HO7.out HB7.out HB7.out.size (by rw [HTL.out]; omega) ?_; intro v1 w9 ho9 hb9 hg9 hat9; have HB9 := Aside0.mk hb9; have HO9 := Aside0.mk ho9; clear ho9 hb9 hg9 hat9 HB7 HO7 HM)
            go_roundw
            case rel =>
             refine ⟨m + 1, by omega, by go_num, HB9, ⟨?_⟩⟩
             have e1 : l.take (m + 1) = l.take m ++ [x] := by
              rw [List.take_succ_eq_append_getElem hml, Hxx.out, List.getD_eq_getElem?_getD, List.getElem?_eq_getElem hml]
              rfl
             rw [e1]
             exact HO9.out
            case measure => simp [intOf]; omega
          · have hme : m = l.length := by omega
            subst hme; go_wp2; go_ret
            refine ⟨_, rfl, ?_, below_then HB1.out HB1.out.size HBx.out⟩
            rw [HBP2.out]
            have := HO.out
            rw [List.take_length] at this
            exact Kd.R_lower this HB1.out.size
end Go.Proofs.Ytocndmielggnpaa.PAll
end
section
namespace Go.Proofs.Ytocndmielggnpaa.PAll
theorem sum_zero : ∀ (l : List Nat), (∀ n ∈ l, n = 0) → l.sum = 0
 | [], _ => rfl
 | a :: l, h => by rw [List.sum_cons, h a (by simp), sum_zero l (fun n hn => h n (by simp [hn]))]
def cnt (es : List (Int × Int)) (t : Nat) : Nat := es.countP fun e => decide (e.1 = (t : Int))
def tot (xs : List Nd) (t : Nat) : Nat := (xs.map fun x => cnt x.beh t).sum
theorem cnt_snoc (es : List (Int × Int)) (e : Int × Int) (t : Nat) : cnt (es ++ [e]) t = cnt es t + if e.1 = (t : Int) then 1 else 0 := by
 unfold cnt
 rw [List.countP_append]
 simp [List.countP_cons]
theorem sum_modify (g : Nd → Nat) (f : Nd → Nd) (c : Nat) (h : ∀ x, g (f x) = g x + c) : ∀ (xs : List Nd) (k : Nat), k < xs.length → ((xs.modify k f).map g).sum = (xs.map g).sum + c
 | [], _, hk => by simp at hk
 | x :: xs, 0, _ => by simp [h]; omega
 | x :: xs, k + 1, hk => by
  have := sum_modify g f c h xs k (by simpa using hk)
  simp only [List.modify_succ_cons, List.map_cons, List.sum_cons]
  omega
theorem sum_modify0 (g : Nd → Nat) (f : Nd → Nd) (h : ∀ x, g (f x) = g x) (xs : List Nd) (k : Nat) : ((xs.modify k f).map g) = xs.map g := by
 apply List.ext_getElem?
 intro j
 rw [List.getElem?_map, List.getElem?_map, List.getElem?_modify]
 split
 · cases xs[j]? <;> simp [h]
 · simp
def GA (xs : List Nd) : Prop := ∀ (j : Nat) (x : Nd), xs[j]? = some x → x.ahead = (tot xs j : Int) ∧ ∀ e ∈ x.beh, (j : Int) < e.1
theorem tot_after (xs : List Nd) (m : Nat) (p : Nat × Int) (t : Nat) (hp : p.1 < xs.length) : tot (afterP xs m (m : Int) p) t = tot xs t + if m = t then 1 else 0 := by
 unfold tot afterP
 rw [sum_modify0 (fun x => cnt x.beh t) (fun x => { x with ahead := x.ahead + 1 }) (fun _ => rfl)]
 rw [sum_modify (fun x => cnt x.beh t) (fun x => { x with beh := x.beh ++ [((m : Int), p.2)] }) (if m = t then 1 else 0) (fun x => by
  show cnt (x.beh ++ [((m : Int), p.2)]) t = _
  rw [cnt_snoc]
  congr 1
  by_cases h : m = t
  · subst h; simp
  · rw [if_neg h, if_neg (by simp only; omega)]) xs p.1 hp]
theorem GA.after {xs : List Nd} (h : GA xs) {m : Nat} {p : Nat × Int} (hp : p.1 < m) (hm : m < xs.length) : GA (afterP xs m (m : Int) p) := by
 intro j x hx
 rw [tot_after xs m p j (by omega)]
 unfold afterP at hx
 rw [List.getElem?_modify, List.getElem?_modify] at hx
 rcases hq : xs[j]? with _ | y
 · rw [hq] at hx; simp at hx
 · rw [hq] at hx
   have hy := h j y hq
   by_cases hj : p.1 = j
   · have hmj : ¬ m = j := by omega
     simp only [hj, if_true, hmj, if_false, Option.map_eq_map, Option.map_some, id_eq, Option.some.injEq] at hx
     subst hx
     refine ⟨?_, ?_⟩
     · rw [if_neg hmj]; simpa using hy.1
     · intro e he
       rcases List.mem_append.1 he with he | he
       · exact hy.2 e he
       · rw [List.mem_singleton.1 he]; simp only; omega
   · by_cases hmj : m = j
     · simp only [hj, if_false, hmj, if_true, Option.map_eq_map, Option.map_some, id_eq, Option.some.injEq] at hx
       subst hx
       refine ⟨?_, hy.2⟩
       rw [if_pos hmj]
       simp only
       rw [hy.1]
       push_cast
       rfl
     · simp only [hj, if_false, hmj, Option.map_eq_map, Option.map_some, id_eq, Option.some.injEq] at hx
       subst hx
       refine ⟨?_, hy.2⟩
       rw [if_neg hmj]; simpa using hy.1
theorem GA.afs {m : Nat} (es : List (Nat × Int)) (hes : ∀ p ∈ es, p.1 < m) : ∀ {xs : List Nd}, m < xs.length → GA xs → GA (PAll.afs m xs es) := by
 induction es with
 | nil => intro xs _ h; exact h
 | cons e es ih =>
  intro xs hm h
  have h1 := h.after (hes e (by simp)) hm
  exact ih (fun p hp => hes p (by simp [hp])) (by simp [afterP]; exact hm) h1
theorem GA.snoc {xs : List Nd} (h : GA xs) (hb : ∀ x ∈ xs, ∀ e ∈ x.beh, e.1 < (xs.length : Int)) : GA (xs ++ [nd0 xs.length]) := by
 have ht : ∀ t, tot (xs ++ [nd0 xs.length]) t = tot xs t := by
  intro t
  unfold tot
  simp [nd0, cnt]
 intro j x hx
 rw [ht]
 by_cases hj : j < xs.length
 · rw [List.getElem?_append_left hj] at hx
   exact h j x hx
 · rw [List.getElem?_append_right (by omega)] at hx
   have hj2 : j = xs.length := by
    have := (List.getElem?_eq_some_iff.1 hx).1
    simp at this; omega
   subst hj2
   simp only [Nat.sub_self, List.getElem?_cons_zero, Option.some.injEq] at hx
   subst hx
   refine ⟨?_, by simp [nd0]⟩
   have : tot xs xs.length = 0 := by
    unfold tot
    refine sum_zero _ ?_
    intro n hn
    obtain ⟨x, hx, rfl⟩ := List.mem_map.1 hn
    unfold cnt
    rw [List.countP_eq_zero]
    intro e he
    have := hb x hx e he
    simp only [decide_eq_true_eq]
    omega
   rw [this]
   rfl
theorem edges_lt {d : De} {l : List S37} {s : GS} {i : Nat} (h : GI s i) (x : S35) : ∀ p ∈ gEdges d l s x, p.1 < i := by
 intro p hp
 unfold gEdges at hp
 rcases List.mem_append.1 hp with hp | hp
 · rcases List.mem_append.1 hp with hp | hp
   · obtain ⟨q, _, hq⟩ := List.mem_flatMap.1 hp
     unfold eT at hq
     obtain ⟨k, hk, rfl⟩ := List.mem_map.1 hq
     exact h.made q k (by simpa using hk)
   · obtain ⟨q, _, hq⟩ := List.mem_flatMap.1 hp
     unfold eM ones at hq
     rcases List.mem_append.1 hq with hq | hq
     · obtain ⟨k, hk, rfl⟩ := List.mem_map.1 hq
       exact h.made q k (by simpa using hk)
     · obtain ⟨k, hk, rfl⟩ := List.mem_map.1 hq
       exact h.tk q k hk
 · unfold eB ones at hp
   split at hp
   · obtain ⟨k, hk, rfl⟩ := List.mem_map.1 hp
     exact h.last k (by simpa using hk)
   · split at hp
     · rcases List.mem_append.1 hp with hp | hp
       · obtain ⟨k, hk, rfl⟩ := List.mem_map.1 hp
         exact h.since k hk
       · obtain ⟨k, hk, rfl⟩ := List.mem_map.1 hp
         exact h.last k (by simpa using hk)
     · simp at hp
theorem gSt_GA {d : De} {l : List S37} (h : Sh l) (k : Nat) (hk : k ≤ l.length) : GA (gSt d l k).nd := by
 induction k with
 | zero => intro j x hx; simp [gSt] at hx
 | succ k ih =>
  rw [gSt_succ d l k (by omega)]
  have hI := gSt_GI (d := d) h k (by omega)
  have hE := gSt_EB (d := d) h k (by omega)
  have hlen := hI.len
  simp only [gStep, hlen]
  refine GA.afs _ (edges_lt hI _) (by simp [hlen]) ?_
  have := (ih (by omega)).snoc (fun x hx e he => by rw [hlen]; exact ((hE x hx).2.2 e he).2)
  rwa [hlen] at this
end Go.Proofs.Ytocndmielggnpaa.PAll
end
section
namespace Go.Proofs.Ytocndmielggnpaa.PAll
open Go.RowKit Go.Proofs.YtocndmielggnpaaW.PrintWords Go.Proofs.YtocndmielggnpaaW.PrintLast Go.Proofs.YtocndmielggnpaaW.PrintMore
def rs (g : Nat → List (Int × Int)) (rest : List Nat) (t : Nat) : Nat := (rest.map fun j => cnt (g j) t).sum
theorem sum_perm : ∀ {l l' : List Nat}, l.Perm l' → l.sum = l'.sum := by
 intro l l' h
 induction h with
 | nil => rfl
 | cons a _ ih => simp [ih]
 | swap a b l => simp only [List.sum_cons]; omega
 | trans _ _ h1 h2 => exact h1.trans h2
theorem rs_perm (g : Nat → List (Int × Int)) {a b : List Nat} (h : a.Perm b) (t : Nat) : rs g a t = rs g b t := sum_perm (h.map _)
theorem rs_cons (g : Nat → List (Int × Int)) (a : Nat) (r : List Nat) (t : Nat) : rs g (a :: r) t = cnt (g a) t + rs g r t := by simp [rs]
theorem filter_add (p p' : Nat → Bool) (t0 : Nat) (h0 : p t0 = false) (h1 : p' t0 = true) (h2 : ∀ t, t ≠ t0 → p' t = p t) : ∀ (rest : List Nat), rest.Nodup → t0 ∈ rest → (rest.filter p').Perm (t0 :: rest.filter p)
 | [], _, h => by simp at h
 | a :: r, hn, hm => by
  rw [List.nodup_cons] at hn
  by_cases ha : a = t0
  · subst ha
    have e : r.filter p' = r.filter p := List.filter_congr (fun t ht => h2 t (fun e => hn.1 (e ▸ ht)))
    rw [List.filter_cons_of_pos h1, List.filter_cons_of_neg (by simp [h0]), e]
  · have ih := filter_add p p' t0 h0 h1 h2 r hn.2 (by rcases List.mem_cons.1 hm with h | h; exact absurd h.symm ha; exact h)
    by_cases hp : p a = true
    · rw [List.filter_cons_of_pos (by rw [h2 a ha]; exact hp), List.filter_cons_of_pos hp]
      exact (ih.cons a).trans (List.Perm.swap _ _ _)
    · rw [List.filter_cons_of_neg (by rw [h2 a ha]; exact hp), List.filter_cons_of_neg hp]
      exact ih
structure IV (g : Nat → List (Int × Int)) (n : Nat) (xs : List Nd) (q out rest : List Nat) (ex : Nat → Nat) : Prop where
 perm : (out ++ rest).Perm (List.range n)
 len : xs.length = n
 ah : ∀ t, t < n → ahOf xs t = ((rs g rest t + ex t : Nat) : Int)
 zero : ∀ t ∈ out, rs g rest t + ex t = 0
 q : q.Perm (rest.filter fun t => decide (rs g rest t + ex t = 0))
section
variable {g : Nat → List (Int × Int)} {n : Nat} {xs : List Nd} {q out rest : List Nat} {ex : Nat → Nat}
theorem IV.nodup (h : IV g n xs q out rest ex) : rest.Nodup := by
 have := h.perm.nodup_iff.2 List.nodup_range
 exact (List.nodup_append.1 this).2.1
theorem IV.mem (h : IV g n xs q out rest ex) (t : Nat) : (t ∈ out ∨ t ∈ rest) ↔ t < n := by
 rw [← List.mem_append, h.perm.mem_iff, List.mem_range]
theorem IV.pop {n0 : Nat} {q' : List Nat} (h : IV g n xs q out rest (fun _ => 0)) (hq : (n0 :: q').Perm q) : IV g n xs q' (out ++ [n0]) (rest.erase n0) (cnt (g n0)) := by
 have hm : n0 ∈ rest.filter fun t => decide (rs g rest t + 0 = 0) := (h.q.mem_iff).1 (hq.mem_iff.1 (by simp))
 have hr : n0 ∈ rest := (List.mem_filter.1 hm).1
 have hz : rs g rest n0 = 0 := by simpa using (List.mem_filter.1 hm).2
 have hpe : rest.Perm (n0 :: rest.erase n0) := List.perm_cons_erase hr
 have hrs : ∀ t, rs g (rest.erase n0) t + cnt (g n0) t = rs g rest t := by
  intro t
  rw [rs_perm g hpe t, rs_cons]; omega
 refine ⟨?_, h.len, ?_, ?_, ?_⟩
 · refine List.Perm.trans ?_ h.perm
   rw [List.append_assoc]
   exact (List.Perm.append_left out hpe.symm)
 · intro t ht
   rw [hrs]
   simpa using h.ah t ht
 · intro t ht
   rw [hrs]
   rcases List.mem_append.1 ht with ht | ht
   · simpa using h.zero t ht
   · rw [List.mem_singleton.1 ht]; exact hz
 · have e : (fun t => decide (rs g (rest.erase n0) t + cnt (g n0) t = 0)) = fun t => decide (rs g rest t + 0 = 0) := by
    funext t
    rw [hrs, Nat.add_zero]
   rw [e]
   have h1 : (rest.filter fun t => decide (rs g rest t + 0 = 0)).Perm (n0 :: (rest.erase n0).filter fun t => decide (rs g rest t + 0 = 0)) := by
    have := hpe.filter (fun t => decide (rs g rest t + 0 = 0))
    rwa [List.filter_cons_of_pos (by simp [hz])] at this
   exact (List.Perm.cons_inv ((hq.trans h.q).trans h1))
theorem ah_other (xs : List Nd) (t0 t : Nat) (v : Int) (h : t ≠ t0) : ahOf (setAh xs t0 v) t = ahOf xs t := by
 unfold ahOf setAh
 simp [List.getD_eq_getElem?_getD, List.getElem?_modify, Ne.symm h]
theorem ah_frm (xs : List Nd) (t0 t : Nat) (v : Int) : ahOf (setFrm xs t0 v) t = ahOf xs t := by
 unfold ahOf setFrm
 simp only [List.getD_eq_getElem?_getD, List.getElem?_modify]
 split
 · cases xs[t]? <;> rfl
 · simp
theorem ah_self (xs : List Nd) (t : Nat) (v : Int) (h : t < xs.length) : ahOf (setAh xs t v) t = v := by
 unfold ahOf setAh
 simp [List.getD_eq_getElem?_getD, List.getElem?_modify, List.getElem?_eq_getElem h]
/-- One edge. -/
theorem IV.relax {now : Int} {e : Int × Int} {R : List (Int × Int)} {q0 q1 : List Nat} (h : IV g n xs (q0 ++ q1) out rest (cnt (e :: R))) (h0 : 0 ≤ e.1) (h1 : e.1 < n) (hbd : ∀ t, rs g rest t + cnt (e :: R) t ≤ 1000000000000) :
    IV g n (PAll.relax now (xs, q1) e).1 (q0 ++ (PAll.relax now (xs, q1) e).2) out rest (cnt R) := by
 obtain ⟨t0, ht0⟩ : ∃ t0 : Nat, e.1 = t0 := ⟨e.1.toNat, by omega⟩
 have htn : t0 < n := by omega
 have hc : ∀ t, cnt (e :: R) t = cnt R t + if t = t0 then 1 else 0 := by
  intro t
  unfold cnt
  rw [List.countP_cons, ht0]
  congr 1
  by_cases h : t = t0
  · subst h; simp
  · rw [if_neg (by simp only [decide_eq_true_eq]; omega), if_neg h]
 have ha0 := h.ah t0 htn
 rw [hc t0, if_pos rfl] at ha0
 have hw : wrap64 (ahOf xs t0 - 1) = ((rs g rest t0 + cnt R t0 : Nat) : Int) := by
  have := hbd t0
  rw [hc t0, if_pos rfl] at this
  rw [ha0]
  unfold wrap64
  omega
 have hl1 : t0 < (setFrm xs t0 (max (frmOf xs t0) (wrap64 (now + e.2)))).length := by simp [setFrm, h.len]; exact htn
 have hx : (PAll.relax now (xs, q1) e).1 = setAh (setFrm xs t0 (max (frmOf xs t0) (wrap64 (now + e.2)))) t0 ((rs g rest t0 + cnt R t0 : Nat) : Int) := by
  unfold PAll.relax
  simp only [ht0, Int.toNat_natCast]
  rw [ah_frm, hw]
 have hq : (PAll.relax now (xs, q1) e).2 = if rs g rest t0 + cnt R t0 = 0 then pushP (lessP 1 (PAll.relax now (xs, q1) e).1) q1 t0 else q1 := by
  have e1 : ahOf (PAll.relax now (xs, q1) e).1 t0 = ((rs g rest t0 + cnt R t0 : Nat) : Int) := by rw [hx, ah_self _ _ _ hl1]
  have e2 : (PAll.relax now (xs, q1) e).2 = if ahOf (PAll.relax now (xs, q1) e).1 t0 = 0 then pushP (lessP 1 (PAll.relax now (xs, q1) e).1) q1 t0 else q1 := by
   unfold PAll.relax
   simp only [ht0, Int.toNat_natCast]
  rw [e2, e1]
  by_cases hz : rs g rest t0 + cnt R t0 = 0
  · rw [if_pos hz, if_pos (by omega)]
  · rw [if_neg hz, if_neg (by omega)]
 have hout : t0 ∉ out := by
  intro ho
  have := h.zero t0 ho
  rw [hc t0, if_pos rfl] at this
  omega
 have hrest : t0 ∈ rest := ((h.mem t0).2 htn).resolve_left hout
 refine ⟨h.perm, ?_, ?_, ?_, ?_⟩
 · rw [hx]; simp [setAh, setFrm, h.len]
 · intro t ht
   rw [hx]
   by_cases he : t = t0
   · rw [he, ah_self _ _ _ hl1]
   · rw [ah_other _ _ _ _ he, ah_frm, h.ah t ht, hc t, if_neg he]
     simp
 · intro t ht
   have := h.zero t ht
   rw [hc t] at this
   omega
 · rw [hq]
   by_cases hz : rs g rest t0 + cnt R t0 = 0
   · rw [if_pos hz]
     refine List.Perm.trans ?_ (filter_add (fun t => decide (rs g rest t + cnt (e :: R) t = 0)) _ t0 ?_ ?_ ?_ rest h.nodup hrest).symm
     · refine ((pushP_perm _ q1 t0).append_left q0).trans ?_
       rw [← List.append_assoc]
       exact (List.perm_append_singleton _ _).trans (h.q.cons t0)
     · simp only [decide_eq_false_iff_not]; rw [hc t0, if_pos rfl]; omega
     · simpa using hz
     · intro t he
       show decide (rs g rest t + cnt R t = 0) = decide (rs g rest t + cnt (e :: R) t = 0)
       rw [hc t, if_neg he, Nat.add_zero]
   · rw [if_neg hz]
     refine h.q.trans (List.Perm.of_eq (List.filter_congr ?_))
     intro t ht
     rw [hc t]
     by_cases he : t = t0
     · subst he
       rw [if_pos rfl]
       rw [decide_eq_decide]
       omega
     · rw [if_neg he, Nat.add_zero]
end
end Go.Proofs.Ytocndmielggnpaa.PAll
end
section
namespace Go.Proofs.Ytocndmielggnpaa.PAll
theorem exists_min : ∀ (l : List Nat), l ≠ [] → ∃ m ∈ l, ∀ j ∈ l, m ≤ j
 | [], h => absurd rfl h
 | [a], _ => ⟨a, by simp, by simp⟩
 | a :: b :: r, _ => by
  obtain ⟨m, hm, hall⟩ := exists_min (b :: r) (by simp)
  by_cases h : a ≤ m
  · exact ⟨a, by simp, fun j hj => by rcases List.mem_cons.1 hj with rfl | hj; exact Nat.le_refl _; have := hall j hj; omega⟩
  · exact ⟨m, by simp [hm], fun j hj => by rcases List.mem_cons.1 hj with rfl | hj; omega; exact hall j hj⟩
theorem move1_perm (s : St) (h : moveOk s) : ((move1 s).q0 ++ (move1 s).q1).Perm (s.q0 ++ s.q1) ∧ (move1 s).q0.length = s.q0.length + 1 := by
 have hp := (popP_spec (lessP 1 s.xs) s.q1 h.1).2
 refine ⟨?_, pushP_len _ _ _⟩
 show (pushP (lessP 0 s.xs) s.q0 (popP (lessP 1 s.xs) s.q1).1 ++ (popP (lessP 1 s.xs) s.q1).2).Perm _
 refine ((pushP_perm _ s.q0 _).append_right _).trans ?_
 rw [List.append_assoc]
 exact hp.append_left s.q0
theorem moveW_perm : ∀ (f : Nat) (s : St), ((moveW f s).q0 ++ (moveW f s).q1).Perm (s.q0 ++ s.q1) ∧ s.q0.length ≤ (moveW f s).q0.length ∧ (moveOk s → 0 < f → 0 < (moveW f s).q0.length) := by
 intro f
 induction f with
 | zero => intro s; exact ⟨List.Perm.refl _, Nat.le_refl _, fun _ h => absurd h (by omega)⟩
 | succ f ih =>
  intro s
  unfold moveW
  by_cases h : moveOk s
  · rw [if_pos h]
    have h1 := move1_perm s h
    have h2 := ih (move1 s)
    exact ⟨h2.1.trans h1.1, by omega, fun _ _ => by omega⟩
  · rw [if_neg h]
    exact ⟨List.Perm.refl _, Nat.le_refl _, fun h' => absurd h' h⟩
theorem wake_qs (s : St) : (wake s).q0 = s.q0 ∧ (wake s).q1 = s.q1 ∧ (wake s).xs = s.xs ∧ (wake s).out = s.out := by unfold wake; split <;> exact ⟨rfl, rfl, rfl, rfl⟩
theorem pre_perm (s : St) : ((pre s).q0 ++ (pre s).q1).Perm (s.q0 ++ s.q1) := by
 have := (moveW_perm (wake s).q1.length (wake s)).1
 rw [(wake_qs s).1, (wake_qs s).2.1] at this
 unfold pre
 rw [(wake_qs s).2.1]
 exact this
theorem pre_some (s : St) (h : s.q0 ++ s.q1 ≠ []) : 0 < (pre s).q0.length := by
 have hm := moveW_perm (wake s).q1.length (wake s)
 by_cases h0 : s.q0.length = 0
 · have h1 : 0 < s.q1.length := by
    rcases Nat.eq_zero_or_pos s.q1.length with h1 | h1
    · exact absurd (List.eq_nil_of_length_eq_zero (by rw [List.length_append]; omega)) h
    · exact h1
   refine hm.2.2 ?_ (by rw [(wake_qs s).2.1]; exact h1)
   refine ⟨by rw [(wake_qs s).2.1]; exact h1, ?_⟩
   rw [(wake_qs s).2.2.1, (wake_qs s).2.1]
   unfold wake
   rw [if_pos ⟨h0, h1⟩]
   simp only
   omega
 · have := hm.2.1
   rw [(wake_qs s).1] at this
   show 0 < (moveW _ _).q0.length
   omega
section
variable {g : Nat → List (Int × Int)} {n : Nat}
theorem rs_append (a b : List Nat) (t : Nat) : rs g (a ++ b) t = rs g a t + rs g b t := by simp [rs]
theorem IV.le {xs : List Nd} {q out rest : List Nat} {ex : Nat → Nat} (h : IV g n xs q out rest ex) (t : Nat) : rs g rest t ≤ rs g (List.range n) t := by
 rw [← rs_perm g h.perm t, rs_append]; omega
theorem IV.some {xs : List Nd} {q out rest : List Nat} (h : IV g n xs q out rest (fun _ => 0)) (hf : ∀ j, j < n → ∀ e ∈ g j, (j : Int) < e.1) (hr : rest ≠ []) : q ≠ [] := by
 obtain ⟨m, hm, hall⟩ := exists_min rest hr
 have hz : rs g rest m = 0 := by
  refine sum_zero _ ?_
  intro c hc
  obtain ⟨j, hj, rfl⟩ := List.mem_map.1 hc
  have hjn := (h.mem j).1 (.inr hj)
  have hmj := hall j hj
  unfold cnt
  rw [List.countP_eq_zero]
  intro e he
  have := hf j hjn e he
  simp only [decide_eq_true_eq]
  omega
 intro hq
 have : m ∈ q := h.q.mem_iff.2 (List.mem_filter.2 ⟨hm, by simp [hz]⟩)
 rw [hq] at this
 simp at this
/-- All edges of a node. -/
theorem IV.relaxes {now : Int} {out rest q0 : List Nat} : ∀ (R : List (Int × Int)) (xs : List Nd) (q1 : List Nat), IV g n xs (q0 ++ q1) out rest (cnt R) → (∀ e ∈ R, 0 ≤ e.1 ∧ e.1 < n) → (∀ t, rs g rest t + cnt R t ≤ 1000000000000) →
    ∀ m, IV g n ((R.take m).foldl (PAll.relax now) (xs, q1)).1 (q0 ++ ((R.take m).foldl (PAll.relax now) (xs, q1)).2) out rest (cnt (R.drop m))
 | [], xs, q1, h, _, _, m => by simpa using h
 | e :: R, xs, q1, h, hr, hb, 0 => by simpa using h
 | e :: R, xs, q1, h, hr, hb, m + 1 => by
  have h1 := h.relax (now := now) (hr e (by simp)).1 (hr e (by simp)).2 hb
  have hc : ∀ t, cnt R t ≤ cnt (e :: R) t := by
   intro t
   unfold cnt
   rw [List.countP_cons]
   omega
  have := IV.relaxes (now := now) R (PAll.relax now (xs, q1) e).1 (PAll.relax now (xs, q1) e).2 h1 (fun e' he' => hr e' (by simp [he'])) (fun t => by have := hb t; have := hc t; omega) m
  simpa using this
/-- A step. -/
theorem IV.step {s : St} {rest : List Nat} (h : IV g n s.xs (s.q0 ++ s.q1) s.out rest (fun _ => 0)) (hg : ∀ j, j < n → behOf s.xs j = g j) (hf : ∀ j, j < n → ∀ e ∈ g j, (j : Int) < e.1 ∧ e.1 < n) (hb : ∀ t, rs g (List.range n) t ≤ 1000000000000) (hr : rest ≠ []) :
    0 < (pre s).q0.length ∧ popd (pre s) ∈ rest ∧ (∀ m, IV g n (relaxed (pre s) m).1 ((popP (lessP 0 (pre s).xs) (pre s).q0).2 ++ (relaxed (pre s) m).2) (s.out ++ [popd (pre s)]) (rest.erase (popd (pre s))) (cnt ((g (popd (pre s))).drop m))) ∧
     IV g n (stepP s).xs ((stepP s).q0 ++ (stepP s).q1) (stepP s).out (rest.erase (popd (pre s))) (fun _ => 0) := by
 have hs := pre_some s (h.some (fun j hj e he => (hf j hj e he).1) hr)
 have hp := popP_spec (lessP 0 (pre s).xs) (pre s).q0 hs
 have hq : (popd (pre s) :: ((popP (lessP 0 (pre s).xs) (pre s).q0).2 ++ (pre s).q1)).Perm (s.q0 ++ s.q1) := by
  refine List.Perm.trans ?_ (pre_perm s)
  exact hp.2.append_right (pre s).q1
 have hm : popd (pre s) ∈ rest := (List.mem_filter.1 ((h.q.mem_iff).1 (hq.mem_iff.1 (by simp)))).1
 have hn : popd (pre s) < n := (h.mem _).1 (.inr hm)
 have h1 := h.pop hq
 have hbj : behOf (pre s).xs (popd (pre s)) = g (popd (pre s)) := by rw [(pre_xs s).1]; exact hg _ hn
 have h2 : ∀ m, IV g n (relaxed (pre s) m).1 ((popP (lessP 0 (pre s).xs) (pre s).q0).2 ++ (relaxed (pre s) m).2) (s.out ++ [popd (pre s)]) (rest.erase (popd (pre s))) (cnt ((g (popd (pre s))).drop m)) := by
  intro m
  unfold relaxed
  rw [hbj, (pre_xs s).1]
  have h1' := h1
  rw [(pre_xs s).1] at h1'
  refine IV.relaxes (now := (pre s).now) (g (popd (pre s))) s.xs (pre s).q1 h1' (fun e he => by have := hf _ hn e he; omega) (fun t => ?_) m
  have e1 := h.le t
  have e2 : rs g rest t = cnt (g (popd (pre s))) t + rs g (rest.erase (popd (pre s))) t := by
   rw [rs_perm g (List.perm_cons_erase hm) t, rs_cons]
  have := hb t
  omega
 refine ⟨hs, hm, h2, ?_⟩
 have h3 := h2 (behOf (pre s).xs (popd (pre s))).length
 rw [hbj, List.drop_length] at h3
 have e0 : cnt [] = fun _ => 0 := by funext t; simp [cnt]
 rw [e0] at h3
 unfold stepP
 simp only
 rw [hbj, (pre_xs s).2]
 exact h3
end
end Go.Proofs.Ytocndmielggnpaa.PAll
end
section
namespace Go.Proofs.Ytocndmielggnpaa.PAll
theorem initQ_perm (xs : List Nd) (k : Nat) : (initQ xs k).Perm ((List.range k).filter fun t => decide (ahOf xs t = 0)) := by
 induction k with
 | zero => simp [initQ]
 | succ k ih =>
  rw [initQ_succ, List.range_succ, List.filter_append]
  by_cases h : ahOf xs k = 0
  · rw [if_pos h]
    refine (pushP_perm _ _ _).trans ?_
    simp only [List.filter_cons, h, decide_true, if_true, List.filter_nil]
    exact ih.append_right [k]
  · rw [if_neg h]
    simp only [List.filter_cons, h, decide_false, Bool.false_eq_true, if_false, List.filter_nil, List.append_nil]
    exact ih
theorem tot_rs (xs : List Nd) (t : Nat) : tot xs t = rs (behOf xs) (List.range xs.length) t := by
 unfold tot rs
 congr 1
 apply List.ext_getElem
 · simp
 · intro i h1 h2
   simp only [List.length_map] at h1
   simp [behOf, List.getD_eq_getElem?_getD, List.getElem?_eq_getElem h1]
theorem graph_ah {d : De} {l : List S37} (h : Sh l) (t : Nat) (ht : t < l.length) : ahOf (graphP d l) t = (rs (behOf (graphP d l)) (List.range l.length) t : Int) ∧ rs (behOf (graphP d l)) (List.range l.length) t ≤ 1000000000 := by
 have hI := gSt_GI (d := d) h l.length (Nat.le_refl _)
 have hx : (gSt d l l.length).nd[t]? = some ((gSt d l l.length).nd.getD t nz) := by
  rw [List.getD_eq_getElem?_getD, List.getElem?_eq_getElem (by rw [hI.len]; exact ht)]; rfl
 have hA := (gSt_GA (d := d) h l.length (Nat.le_refl _) t _ hx).1
 have hb := (hI.bd _ (List.mem_of_getElem? hx)).2.2
 have hg : behOf (graphP d l) = behOf (gSt d l l.length).nd := by
  funext j
  exact (graph_beh d l j).1
 have ht' : tot (gSt d l l.length).nd t = rs (behOf (graphP d l)) (List.range l.length) t := by
  rw [tot_rs, hI.len, hg]
 have hl := h.1
 have e : ahOf (graphP d l) t = ((gSt d l l.length).nd.getD t nz).ahead := (graph_beh d l t).2.2
 rw [ht'] at hA
 refine ⟨by rw [e]; exact hA, ?_⟩
 have : l.length * 2000000 ≤ 100 * 2000000 := Nat.mul_le_mul_right _ hl
 omega
theorem graph_fwd {d : De} {l : List S37} (h : Sh l) (j : Nat) (hj : j < l.length) : ∀ e ∈ behOf (graphP d l) j, (j : Int) < e.1 ∧ e.1 < l.length := by
 intro e he
 have hI := gSt_GI (d := d) h l.length (Nat.le_refl _)
 have hx : (gSt d l l.length).nd[j]? = some ((gSt d l l.length).nd.getD j nz) := by
  rw [List.getD_eq_getElem?_getD, List.getElem?_eq_getElem (by rw [hI.len]; exact hj)]; rfl
 have hA := (gSt_GA (d := d) h l.length (Nat.le_refl _) j _ hx).2
 have hg : behOf (graphP d l) j = ((gSt d l l.length).nd.getD j nz).beh := (graph_beh d l j).1
 exact ⟨hA e (by rw [← hg]; exact he), ((stK_beh (d := d) h 0 j hj).2.2 e he).2⟩
theorem graph_rs {d : De} {l : List S37} (h : Sh l) (t : Nat) : rs (behOf (graphP d l)) (List.range l.length) t ≤ 1000000000000 := by
 by_cases ht : t < l.length
 · have := (graph_ah (d := d) h t ht).2; omega
 · have : rs (behOf (graphP d l)) (List.range l.length) t = 0 := by
    refine sum_zero _ ?_
    intro c hc
    obtain ⟨j, hj, rfl⟩ := List.mem_map.1 hc
    unfold cnt
    rw [List.countP_eq_zero]
    intro e he
    have := (graph_fwd (d := d) h j (List.mem_range.1 hj) e he).2
    simp only [decide_eq_true_eq]
    omega
   omega
theorem st0_IV {d : De} {l : List S37} (h : Sh l) : IV (behOf (graphP d l)) l.length (st0 d l).xs ((st0 d l).q0 ++ (st0 d l).q1) (st0 d l).out (List.range l.length) (fun _ => 0) := by
 refine ⟨List.Perm.refl _, graph_len h, ?_, fun t ht => by simp [st0] at ht, ?_⟩
 · intro t ht
   show ahOf (graphP d l) t = _
   simpa using (graph_ah (d := d) h t ht).1
 · show (initQ (graphP d l) l.length ++ []).Perm _
   rw [List.append_nil]
   refine (initQ_perm _ _).trans (List.Perm.of_eq (List.filter_congr ?_))
   intro t ht
   have := (graph_ah (d := d) h t (List.mem_range.1 ht)).1
   rw [this, decide_eq_decide]
   omega
theorem stK_IV {d : De} {l : List S37} (h : Sh l) (k : Nat) (hk : k ≤ l.length) : ∃ rest, IV (behOf (graphP d l)) l.length (stK d l k).xs ((stK d l k).q0 ++ (stK d l k).q1) (stK d l k).out rest (fun _ => 0) ∧ rest.length + k = l.length := by
 induction k with
 | zero => exact ⟨_, st0_IV h, by simp⟩
 | succ k ih =>
  obtain ⟨rest, hI, hl⟩ := ih (by omega)
  have hr : rest ≠ [] := by intro e; rw [e] at hl; simp at hl; omega
  have hs := hI.step (fun j hj => (stK_beh (d := d) h k j hj).1) (graph_fwd h) (graph_rs h) hr
  refine ⟨_, hs.2.2.2, ?_⟩
  rw [List.length_erase_of_mem hs.2.1]
  have : 0 < rest.length := List.length_pos_of_mem hs.2.1
  omega
theorem IV.qlen {g : Nat → List (Int × Int)} {n : Nat} {xs : List Nd} {q out rest : List Nat} {ex : Nat → Nat} (h : IV g n xs q out rest ex) : q.length ≤ rest.length := by
 rw [h.q.length_eq]
 exact List.length_filter_le _ _
theorem safe_of {d : De} {l : List S37} (h : Sh l) : Safe d l := by
 have hl := h.1
 have key : ∀ k, k < l.length → 0 < (pre (stK d l k)).q0.length ∧ (stK d l k).q0.length + (stK d l k).q1.length ≤ 100000 ∧ ∀ m, (relaxed (pre (stK d l k)) m).2.length ≤ 100000 := by
  intro k hk
  obtain ⟨rest, hI, hlen⟩ := stK_IV (d := d) h k (by omega)
  have hr : rest ≠ [] := by intro e; rw [e] at hlen; simp at hlen; omega
  have hs := hI.step (fun j hj => (stK_beh (d := d) h k j hj).1) (graph_fwd h) (graph_rs h) hr
  refine ⟨hs.1, ?_, fun m => ?_⟩
  · have := hI.qlen
    rw [List.length_append] at this
    omega
  · have := (hs.2.2.1 m).qlen
    rw [List.length_append, List.length_erase_of_mem hs.2.1] at this
    omega
 exact ⟨fun k hk => (key k hk).1, fun k hk => (key k hk).2.1, fun k m hk => (key k hk).2.2 m⟩
end Go.Proofs.Ytocndmielggnpaa.PAll
end
section
namespace Go.Proofs.Ytocndmielggnpaa.PAll
theorem stK_out_take (d : De) (l : List S37) (k m : Nat) (h : k ≤ m) : (stK d l m).out.take k = (stK d l k).out := by
 induction m with
 | zero =>
  obtain rfl : k = 0 := by omega
  rfl
 | succ m ih =>
  by_cases hk : k = m + 1
  · subst hk
    rw [List.take_of_length_le (by rw [out_len]; exact Nat.le_refl _)]
  · have e : (stK d l (m + 1)).out = (stK d l m).out ++ [popd (pre (stK d l m))] := by
     rw [stK_succ]
     show (pre (stK d l m)).out ++ _ = _
     rw [(pre_xs _).2]
    rw [e, List.take_append_of_le_length (by rw [out_len]; omega)]
    exact ih (by omega)
def ordO (d : De) (l : List S37) : List Nat := (stK d l l.length).out
section
variable {d : De} {l : List S37}
theorem ordO_perm (h : Sh l) : (ordO d l).Perm (List.range l.length) := by
 obtain ⟨rest, hI, hr⟩ := stK_IV (d := d) h l.length (Nat.le_refl _)
 have : rest = [] := List.eq_nil_of_length_eq_zero (by omega)
 subst this
 have := hI.perm
 rw [List.append_nil] at this
 exact this
theorem ordO_edge (h : Sh l) (u t : Nat) (ht : t < l.length) (hu : u < l.length) (c : Int) (he : ((t : Int), c) ∈ behOf (graphP d l) u) : (ordO d l).idxOf u < (ordO d l).idxOf t := by
 have hp := ordO_perm (d := d) h
 have hto : t ∈ ordO d l := hp.mem_iff.2 (List.mem_range.2 ht)
 have hlen : (ordO d l).length = l.length := out_len d l _
 have hk : (ordO d l).idxOf t < l.length := by rw [← hlen]; exact List.idxOf_lt_length_of_mem hto
 obtain ⟨k, hkk⟩ : ∃ k, k = (ordO d l).idxOf t := ⟨_, rfl⟩
 rw [← hkk] at hk ⊢
 have hget : (ordO d l)[k]'(by omega) = t := by subst hkk; exact List.getElem_idxOf _
 obtain ⟨rest, hI, hr⟩ := stK_IV (d := d) h (k + 1) (by omega)
 have htake : (ordO d l).take (k + 1) = (stK d l (k + 1)).out := stK_out_take d l (k + 1) l.length (by omega)
 rw [← htake] at hI
 have htt : t ∈ (ordO d l).take (k + 1) := by
  rw [List.take_succ_eq_append_getElem (by omega), hget]; simp
 have hz := hI.zero t htt
 have hnr : u ∉ rest := by
  intro hur
  have h0 : rs (behOf (graphP d l)) rest t = 0 := by omega
  have hc : cnt (behOf (graphP d l) u) t ≤ rs (behOf (graphP d l)) rest t := by
   rw [rs_perm _ (List.perm_cons_erase hur) t, rs_cons]; omega
  have hpos : 0 < cnt (behOf (graphP d l) u) t := by
   unfold cnt
   rw [List.countP_pos_iff]
   exact ⟨_, he, by simp⟩
  omega
 have hut : u ∈ (ordO d l).take (k + 1) := ((hI.mem u).2 hu).resolve_right hnr
 have hne : u ≠ t := by
  rintro rfl
  have := (graph_fwd (d := d) h u hu _ he).1
  simp at this
 rw [List.take_succ_eq_append_getElem (by omega), hget, List.mem_append] at hut
 have hut : u ∈ (ordO d l).take k := by
  rcases hut with h1 | h1
  · exact h1
  · simp only [List.mem_singleton] at h1; exact absurd h1 hne
 obtain ⟨i, hi, hiu⟩ := List.mem_iff_getElem.1 hut
 rw [List.length_take] at hi
 rw [List.getElem_take] at hiu
 have hnd : (ordO d l).Nodup := hp.nodup_iff.2 List.nodup_range
 have : (ordO d l).idxOf u = i := by
  rw [← hiu]
  exact hnd.idxOf_getElem i (by omega)
 omega
theorem afterP_beh (xs : List Nd) (m : Nat) (i : Int) (p : Nat × Int) (u : Nat) : ((afterP xs m i p).getD u nz).beh = if p.1 = u ∧ u < xs.length then (xs.getD u nz).beh ++ [(i, p.2)] else (xs.getD u nz).beh := by
 unfold afterP
 simp only [List.getD_eq_getElem?_getD, List.getElem?_modify]
 by_cases hu : u < xs.length
 · rw [List.getElem?_eq_getElem hu]
   by_cases h1 : p.1 = u <;> by_cases h2 : m = u <;> simp [h1, h2, hu]
 · rw [List.getElem?_eq_none (by omega)]
   simp [hu]
theorem afs_beh (m : Nat) (es : List (Nat × Int)) : ∀ (xs : List Nd) (u : Nat) (e : Int × Int), (e ∈ (xs.getD u nz).beh → e ∈ ((afs m xs es).getD u nz).beh) ∧ (u < xs.length → ∀ c, (u, c) ∈ es → ((m : Int), c) ∈ ((afs m xs es).getD u nz).beh) := by
 induction es with
 | nil => intro xs u e; exact ⟨fun h => h, fun _ c h => by simp at h⟩
 | cons p es ih =>
  intro xs u e
  have hl : (afterP xs m m p).length = xs.length := by simp [afterP]
  show (_ → e ∈ ((afs m (afterP xs m m p) es).getD u nz).beh) ∧ (_ → ∀ c, _ → ((m : Int), c) ∈ ((afs m (afterP xs m m p) es).getD u nz).beh)
  refine ⟨fun h => (ih _ u e).1 ?_, fun hu c hc => ?_⟩
  · rw [afterP_beh]
    split
    · exact List.mem_append_left _ h
    · exact h
  · rcases List.mem_cons.1 hc with h1 | h1
    · refine (ih _ u _).1 ?_
      rw [afterP_beh, ← h1, if_pos ⟨rfl, hu⟩]
      simp
    · exact (ih _ u e).2 (by rw [hl]; exact hu) c h1
theorem gSt_mono (h : Sh l) (u : Nat) (e : Int × Int) (k m : Nat) (hkm : k ≤ m) (hm : m ≤ l.length) (he : e ∈ ((gSt d l k).nd.getD u nz).beh) : e ∈ ((gSt d l m).nd.getD u nz).beh := by
 induction m with
 | zero => obtain rfl : k = 0 := by omega
           exact he
 | succ m ih =>
  by_cases hk : k = m + 1
  · subst hk; exact he
  · have h1 := ih (by omega) (by omega)
    rw [gSt_succ d l m (by omega)]
    simp only [gStep]
    refine (afs_beh _ _ _ u e).1 ?_
    have hu : u < (gSt d l m).nd.length := by
     by_cases hu : u < (gSt d l m).nd.length
     · exact hu
     · rw [List.getD_eq_getElem?_getD, List.getElem?_eq_none (by omega)] at h1
       simp [nz] at h1
    rw [List.getD_eq_getElem?_getD, List.getElem?_append_left hu, ← List.getD_eq_getElem?_getD]
    exact h1
theorem edge_final (h : Sh l) (k : Nat) (hk : k < l.length) (u : Nat) (c : Int) (he : (u, c) ∈ gEdges d l (gSt d l k) (l.getD k z37).f0) : ((k : Int), c) ∈ behOf (graphP d l) u := by
 have hG := gSt_GI (d := d) h k (by omega)
 have hu := edges_lt hG (l.getD k z37).f0 _ he
 unfold behOf
 rw [(graph_beh d l u).1]
 refine gSt_mono h u _ (k + 1) l.length (by omega) (Nat.le_refl _) ?_
 rw [gSt_succ d l k hk]
 simp only [gStep, hG.len]
 have := (afs_beh k (gEdges d l (gSt d l k) (l.getD k z37).f0) ((gSt d l k).nd ++ [nd0 k]) u (0, 0)).2 (by rw [List.length_append, hG.len]; simp at hu ⊢; omega) c he
 exact this
/-- b must stay behind a. -/
def BehP (a b : S35) : Prop := (∃ p, p ∈ chP a ∧ p ∈ tkP b) ∨ (∃ p, p ∈ chP a ∧ p ∈ chP b) ∨ (∃ p, p ∈ tkP a ∧ p ∈ chP b) ∨ (isBd a ∧ isBd b ∧ ¬ (isLd a ∧ isLd b))
/-- What the graph's state knows of the instructions ahead, by any places that the edges respect. -/
structure Kn (d : De) (l : List S37) (ps : Nat → Nat) (k : Nat) : Prop where
 ch : ∀ a, a < k → ∀ p ∈ chP (l.getD a z37).f0, ∃ m, (gSt d l k).made p = some m ∧ (a = m ∨ ps a < ps m)
 tk : ∀ a, a < k → ∀ p ∈ tkP (l.getD a z37).f0, a ∈ (gSt d l k).tk p ∨ ∃ m, (gSt d l k).made p = some m ∧ (a = m ∨ ps a < ps m)
 ld : ∀ a, a < k → isLd (l.getD a z37).f0 → a ∈ (gSt d l k).since ∨ ∃ m, (gSt d l k).last = some m ∧ ps a < ps m
 bd : ∀ a, a < k → isBd (l.getD a z37).f0 → ¬ isLd (l.getD a z37).f0 → ∃ m, (gSt d l k).last = some m ∧ (a = m ∨ ps a < ps m)
theorem kn_at (h : Sh l) (ps : Nat → Nat) (hps : ∀ u t c, t < l.length → u < l.length → ((t : Int), c) ∈ behOf (graphP d l) u → ps u < ps t) (k : Nat) (hk : k ≤ l.length) :
    Kn d l ps k ∧ ∀ a b, a < b → b < k → BehP (l.getD a z37).f0 (l.getD b z37).f0 → ps a < ps b := by
 induction k with
 | zero => exact ⟨⟨fun a ha => by omega, fun a ha => by omega, fun a ha => by omega, fun a ha => by omega⟩, fun a b h1 h2 => by omega⟩
 | succ k ih =>
  obtain ⟨hK, hB⟩ := ih (by omega)
  have hG := gSt_GI (d := d) h k (by omega)
  have hE : ∀ u c, (u, c) ∈ gEdges d l (gSt d l k) (l.getD k z37).f0 → ps u < ps k := by
   intro u c he
   have hu := edges_lt hG (l.getD k z37).f0 _ he
   exact hps u k c (by omega) (by simp at hu; omega) (edge_final h k (by omega) u c he)
  obtain ⟨x, hx⟩ : ∃ x, x = (l.getD k z37).f0 := ⟨_, rfl⟩
  rw [← hx] at hE
  obtain ⟨s, hs⟩ : ∃ s, s = gSt d l k := ⟨_, rfl⟩
  rw [← hs] at hE hG
  have hmT : ∀ p ∈ tkP x, ∀ m, s.made p = some m → ps m < ps k := by
   intro p hp m hm
   refine hE m (ltP (l.getD m z37).f0 d) ?_
   unfold gEdges
   refine List.mem_append_left _ (List.mem_append_left _ (List.mem_flatMap.2 ⟨p, hp, ?_⟩))
   unfold eT
   rw [hm]; simp
  have hmM : ∀ p ∈ chP x, ∀ m, s.made p = some m → ps m < ps k := by
   intro p hp m hm
   refine hE m 1 ?_
   unfold gEdges
   refine List.mem_append_left _ (List.mem_append_right _ (List.mem_flatMap.2 ⟨p, hp, ?_⟩))
   unfold eM ones
   rw [hm]; simp
  have hmK : ∀ p ∈ chP x, ∀ m ∈ s.tk p, ps m < ps k := by
   intro p hp m hm
   refine hE m 1 ?_
   unfold gEdges
   refine List.mem_append_left _ (List.mem_append_right _ (List.mem_flatMap.2 ⟨p, hp, ?_⟩))
   unfold eM ones
   exact List.mem_append_right _ (List.mem_map.2 ⟨m, hm, rfl⟩)
  have hbL : isBd x → ∀ m, s.last = some m → ps m < ps k := by
   intro hb m hm
   refine hE m 1 ?_
   unfold gEdges eB ones
   refine List.mem_append_right _ ?_
   rw [hm]
   by_cases hl : isLd x
   · rw [if_pos hl]; simp
   · rw [if_neg hl, if_pos hb]; simp
  have hbS : isBd x → ¬ isLd x → ∀ m ∈ s.since, ps m < ps k := by
   intro hb hl m hm
   refine hE m 1 ?_
   unfold gEdges eB ones
   refine List.mem_append_right _ ?_
   rw [if_neg hl, if_pos hb]
   exact List.mem_append_left _ (List.mem_map.2 ⟨m, hm, rfl⟩)
  have hnew : gSt d l (k + 1) = gStep d l s (l.getD k z37) := by rw [gSt_succ d l k (by omega), hs]
  have e1 : (gSt d l (k + 1)).made = fun p => if p ∈ chP x then some k else s.made p := by rw [hnew]; simp only [gStep, hG.len, ← hx]
  have e2 : (gSt d l (k + 1)).tk = fun p => if p ∈ chP x then [] else tkAdd s.tk k (tkP x) p := by rw [hnew]; simp only [gStep, hG.len, ← hx]
  have e3 : (gSt d l (k + 1)).last = if isLd x then s.last else if isBd x then some k else s.last := by rw [hnew]; simp only [gStep, hG.len, ← hx]
  have e4 : (gSt d l (k + 1)).since = if isLd x then s.since ++ [k] else if isBd x then [] else s.since := by rw [hnew]; simp only [gStep, hG.len, ← hx]
  have kch := hK.ch; have ktk := hK.tk; have kld := hK.ld; have kbd := hK.bd
  rw [← hs] at kch ktk kld kbd
  refine ⟨⟨?_, ?_, ?_, ?_⟩, ?_⟩
  · intro a ha p hp
    rw [e1]
    by_cases hak : a = k
    · subst hak
      rw [← hx] at hp
      exact ⟨a, by simp [hp], .inl rfl⟩
    · obtain ⟨m, hm, hor⟩ := kch a (by omega) p hp
      by_cases hpx : p ∈ chP x
      · refine ⟨k, by simp [hpx], .inr ?_⟩
        have := hmM p hpx m hm
        rcases hor with rfl | h1
        · exact this
        · omega
      · exact ⟨m, by simp [hpx, hm], hor⟩
  · intro a ha p hp
    rw [e1, e2]
    by_cases hpx : p ∈ chP x
    · simp only [hpx, if_true]
      right
      refine ⟨k, rfl, ?_⟩
      by_cases hak : a = k
      · exact .inl hak
      · rcases ktk a (by omega) p hp with h1 | ⟨m, hm, hor⟩
        · exact .inr (hmK p hpx a h1)
        · have := hmM p hpx m hm
          rcases hor with rfl | h1
          · exact .inr this
          · right; omega
    · simp only [hpx, if_false]
      by_cases hak : a = k
      · subst hak
        rw [← hx] at hp
        left
        unfold tkAdd
        refine List.mem_append_right _ (List.mem_replicate.2 ⟨?_, rfl⟩)
        have := List.count_pos_iff.2 hp
        omega
      · rcases ktk a (by omega) p hp with h1 | h1
        · left; unfold tkAdd; exact List.mem_append_left _ h1
        · exact .inr h1
  · intro a ha hl
    rw [e3, e4]
    by_cases hxl : isLd x
    · simp only [if_pos hxl]
      by_cases hak : a = k
      · left; simp [hak]
      · rcases kld a (by omega) hl with h1 | h1
        · left; simp [h1]
        · exact .inr h1
    · have hak : a ≠ k := by rintro rfl; rw [← hx] at hl; exact hxl hl
      simp only [if_neg hxl]
      by_cases hxb : isBd x
      · simp only [if_pos hxb]
        right
        refine ⟨k, rfl, ?_⟩
        rcases kld a (by omega) hl with h1 | ⟨m, hm, h1⟩
        · exact hbS hxb hxl a h1
        · have := hbL hxb m hm; omega
      · simp only [if_neg hxb]
        exact kld a (by omega) hl
  · intro a ha hb hl
    rw [e3]
    by_cases hxl : isLd x
    · simp only [if_pos hxl]
      have hak : a ≠ k := by rintro rfl; rw [← hx] at hl; exact hl hxl
      exact kbd a (by omega) hb hl
    · simp only [if_neg hxl]
      by_cases hxb : isBd x
      · simp only [if_pos hxb]
        refine ⟨k, rfl, ?_⟩
        by_cases hak : a = k
        · exact .inl hak
        · obtain ⟨m, hm, hor⟩ := kbd a (by omega) hb hl
          have := hbL hxb m hm
          rcases hor with rfl | h1
          · exact .inr this
          · right; omega
      · simp only [if_neg hxb]
        have hak : a ≠ k := by rintro rfl; rw [← hx] at hb; exact hxb hb
        exact kbd a (by omega) hb hl
  · intro a b hab hb hBeh
    by_cases hbk : b = k
    · subst hbk
      rw [← hx] at hBeh
      rcases hBeh with ⟨p, h1, h2⟩ | ⟨p, h1, h2⟩ | ⟨p, h1, h2⟩ | ⟨h1, h2, h3⟩
      · obtain ⟨m, hm, hor⟩ := kch a hab p h1
        have := hmT p h2 m hm
        rcases hor with rfl | h1
        · exact this
        · omega
      · obtain ⟨m, hm, hor⟩ := kch a hab p h1
        have := hmM p h2 m hm
        rcases hor with rfl | h1
        · exact this
        · omega
      · rcases ktk a hab p h1 with h4 | ⟨m, hm, hor⟩
        · exact hmK p h2 a h4
        · have := hmM p h2 m hm
          rcases hor with rfl | h1
          · exact this
          · omega
      · by_cases hla : isLd (l.getD a z37).f0
        · have hlx : ¬ isLd x := fun h4 => h3 ⟨hla, h4⟩
          rcases kld a hab hla with h4 | ⟨m, hm, h4⟩
          · exact hbS h2 hlx a h4
          · have := hbL h2 m hm; omega
        · obtain ⟨m, hm, hor⟩ := kbd a hab h1 hla
          have := hbL h2 m hm
          rcases hor with rfl | h4
          · exact this
          · omega
    · exact hB a b hab (by omega) hBeh
theorem ordO_keeps (h : Sh l) (a b : Nat) (hab : a < b) (hb : b < l.length) (hBeh : BehP (l.getD a z37).f0 (l.getD b z37).f0) : (ordO d l).idxOf a < (ordO d l).idxOf b :=
 (kn_at h (fun j => (ordO d l).idxOf j) (fun u t c ht hu he => ordO_edge h u t ht hu c he) l.length (Nat.le_refl _)).2 a b hab hb hBeh
end
end Go.Proofs.Ytocndmielggnpaa.PAll
end
section
namespace Go.Proofs.Ytocndmielggnpaa.PAll
open Go.RowKit Go.Proofs.YtocndmielggnpaaW.PrintWords Go.Proofs.YtocndmielggnpaaW.PrintLast Go.Proofs.YtocndmielggnpaaW.PrintMore
attribute [local go_sem] max2_int min2_int max_two min_two max_three min_three max_four min_four   -- for this text's walks alone
def jacquardref16_has.l0 : Nat → List Int → Int → Int → Option (Bool)
 | 0, _, _, _ => none
 | k + 1, x0, x1, x5 => if x5 < (x0.length : Int) then (if 0 ≤ x5 then (if (rd x0 x5) = x1 then (some true) else (jacquardref16_has.l0 k x0 x1 (wrap64 (x5 + 1)))) else (none)) else (some false)
def jacquardref16_has.f (k : Nat) (l0 : List Int) (a1 : Int) : Option (Bool) := jacquardref16_has.l0 k l0 a1 0
set_option maxHeartbeats 8000000 in
set_option maxRecDepth 100000 in
theorem jacquardref16_has.calls (k : Nat) (A0 : Option Addr) (c0 : Nat) (l0 : List Int) (a1 : Int) (r : Bool) (w : World) (hr0 : Kd.C (Kd.int .i64) w A0 l0.length l0) (hc0 : l0.length ≤ c0) (h : jacquardref16_has.f k l0 a1 = some r) :
    Calls Try.prog 47 #[.slice A0 l0.length c0, .int .i64 a1] w fun e w' => e = .returned (.bool r) ∧ Drawn0 w w' := by
 have HR0 := Aside0.mk hr0
 have HC0 := Aside0.mk hc0
 clear hr0 hc0
 have H : (jacquardref16_has.l0 k l0 a1 0) = some r := h
 clear h
 have H' := Aside0.mk H
 clear H
 go_enter Try.func47, Try.ntmps47
 go_wp2
 go_loopg [5] k (fun kq v5 w' => ∃ (x5_1 : Int), v5 = .int .i64 x5_1 ∧ Aside0 (jacquardref16_has.l0 kq l0 a1 x5_1 = some r) ∧ Aside0 (kq ≤ k) ∧ Drawn0 w w')
 case atStart => exact ⟨(0), (by first | rfl | (simp; done) | (simp [*]; done)), H', ⟨Nat.le_refl _⟩, by repeat (first | exact Drawn0.refl _ | apply Drawn0.step)⟩
 case round =>
  clear H'
  (try clear p2)
  obtain ⟨x5_1, rfl, HA, HK1, ⟨m1, rfl⟩⟩ := hrel
  cases gk with
  | zero => exact absurd HA.out (by simp [jacquardref16_has.l0])
  | succ k1 =>
   have H := HA.out
   clear HA
   simp only [jacquardref16_has.l0] at H
   by_cases c3 : x5_1 < (l0.length : Int)
   · rw [if_pos c3] at H
     have c3b0 : decide (x5_1 < (l0.length : Int)) = true := decide_eq_true c3
     clear c3
     by_cases c4 : 0 ≤ x5_1
     · rw [if_pos c4] at H
       have c4b0 : decide (0 ≤ x5_1) = true := decide_eq_true c4
       clear c4
       by_cases c5 : (rd l0 x5_1) = a1
       · rw [if_pos c5] at H
         have c5b0 : ((rd l0 x5_1) == a1) = true := beq_iff_eq.mpr c5
         have c5b1 : ((rd l0 x5_1) != a1) = false := bne_eq_false_iff_eq.mpr c5
         clear c5
         obtain rfl := Option.some.inj H
         have p101 : 0 ≤ (x5_1 : Int) := of_decide_eq_true (by first | (with_reducible assumption) | assumption)
         have q101 : x5_1 < (l0.length : Int) := of_decide_eq_true (by first | (with_reducible assumption) | assumption)
         obtain ⟨ad101, e101, hx101_0⟩ := Kd.at_int HR0.out x5_1 p101 q101
         cases e101
         replace p101 := eq_true p101
         replace q101 := eq_true q101
         go_wp2; go_ret
         exact ⟨by first | rfl | (simp; done) | (simp [*]; done), by repeat (first | exact Drawn0.refl _ | apply Drawn0.step)⟩
       · rw [if_neg c5] at H
         have c5b0 : ((rd l0 x5_1) == a1) = false := beq_eq_false_iff_ne.mpr c5
         have c5b1 : ((rd l0 x5_1) != a1) = true := bne_iff_ne.mpr c5
         have H' := Aside0.mk H
         clear H
         have p101 : 0 ≤ (x5_1 : Int) := of_decide_eq_true (by first | (with_reducible assumption) | assumption)
         have q101 : x5_1 < (l0.length : Int) := of_decide_eq_true (by first | (with_reducible assumption) | assumption)
         obtain ⟨ad101, e101, hx101_0⟩ := Kd.at_int HR0.out x5_1 p101 q101
         cases e101
         replace p101 := eq_true p101
         replace q101 := eq_true q101
         go_wp2
         go_roundg k1
         case measure => have := HK1.out; omega
         case rel => exact ⟨(wrap64 (x5_1 + 1)), (by first | rfl | (simp; done) | (simp [*]; done)), H', ⟨by have := HK1.out; omega⟩, by repeat (first | exact Drawn0.refl _ | apply Drawn0.step)⟩
     · rw [if_neg c4] at H
       exact absurd H (by simp)
   · rw [if_neg c3] at H
     have c3b0 : decide (x5_1 < (l0.length : Int)) = false := decide_eq_false c3
     clear c3
     obtain rfl := Option.some.inj H
     go_wp2; go_ret
     exact ⟨by first | rfl | (simp; done) | (simp [*]; done), by repeat (first | exact Drawn0.refl _ | apply Drawn0.step)⟩
def jacquardref16_changes.f (a0_0 : Int) (a0_1 : Int) (a0_2 : Int) (a0_3 : Int) (a0_4 : Int) (a0_5 : Int) (a0_6 : Int) (l0_7 : List Int) : Option (List Int) := (some (([] : List Int) : List Int)).bind fun y103 => ((jacquardref12_Makes.f a0_0 a0_1 a0_2 a0_3 a0_4 a0_5 a0_6 l0_7).bind fun t106 => (if y103.length + t106.length < 17592186044416 then ((some (y103 ++ t106 : List Int)).bind fun y109 => ((jacquardref12_Spoils.f a0_0 a0_1 a0_2 a0_3 a0_4 a0_5 a0_6 l0_7).bind fun t112 => (if y109.length + t112.length < 17592186044416 then (some (y109 ++ t112)) else (none)))) else (none)))
def jacquardref16_changes.T1 : Bool × List (List Nat × List Nat) := (true, [([], []), ([], []), ([1], [1]), ([0, 2, 2], [0, 2]), ([], []), ([4, 3], [4]), ([3, 5, 5], [3, 5]), ([6, 6, 0, 1, 2, 3, 4, 5, 6], [6])])
def jacquardref16_changes.B1 : List Nat := [0, 0, 2, 7, 0, 31, 63, 127]
theorem jacquardref16_changes.tab1 : rtab .any (opsOf Try.f48 1) = jacquardref16_changes.T1 := by kernel_rfl
theorem jacquardref16_changes.bits1 : waitsOk jacquardref16_changes.T1.2 jacquardref16_changes.B1 = true := by kernel_rfl
set_option maxHeartbeats 8000000 in
set_option maxRecDepth 100000 in
theorem jacquardref16_changes.calls (a0_0 : Int) (a0_1 : Int) (a0_2 : Int) (a0_3 : Int) (a0_4 : Int) (a0_5 : Int) (a0_6 : Int) (A0_7 : Option Addr) (c0_7 : Nat) (l0_7 : List Int) (r : List Int) (w : World) (hr0_7 : Kd.C (Kd.int .i64) w A0_7 l0_7.length l0_7) (hc0_7 : l0_7.length ≤ c0_7) (h : jacquardref16_changes.f a0_0 a0_1 a0_2 a0_3 a0_4 a0_5 a0_6 l0_7 = some r) :
    Calls Try.prog 48 #[.agg #[.int .i64 a0_0, .int .i64 a0_1, .int .i64 a0_2, .int .i64 a0_3, .int .i64 a0_4, .int .i64 a0_5, .int .i32 a0_6, .slice A0_7 l0_7.length c0_7]] w fun e w' => ∃ v0_ : Value, e = .returned (v0_) ∧ Kd.R (Kd.int .i64) 3 w' w.heap.size (fun _ => True) v0_ r ∧ Below w.heap.size w w' := by
 have hu35 := Try.underlying35
 have HR0_7 := Aside0.mk hr0_7
 have HC0_7 := Aside0.mk hc0_7
 clear hr0_7 hc0_7
 have HB := Aside0.mk (Below.refl w.heap.size w)
 have H : ((some (([] : List Int) : List Int)).bind fun y103 => ((jacquardref12_Makes.f a0_0 a0_1 a0_2 a0_3 a0_4 a0_5 a0_6 l0_7).bind fun t106 => (if y103.length + t106.length < 17592186044416 then ((some (y103 ++ t106 : List Int)).bind fun y109 => ((jacquardref12_Spoils.f a0_0 a0_1 a0_2 a0_3 a0_4 a0_5 a0_6 l0_7).bind fun t112 => (if y109.length + t112.length < 17592186044416 then (some (y109 ++ t112)) else (none)))) else (none)))) = some r := h
 clear h
 obtain ⟨y103, hy103⟩ : ∃ y_ : List Int, y_ = (([] : List Int)) := ⟨_, rfl⟩
 replace H : ((jacquardref12_Makes.f a0_0 a0_1 a0_2 a0_3 a0_4 a0_5 a0_6 l0_7).bind fun t106 => (if y103.length + t106.length < 17592186044416 then ((some (y103 ++ t106 : List Int)).bind fun y109 => ((jacquardref12_Spoils.f a0_0 a0_1 a0_2 a0_3 a0_4 a0_5 a0_6 l0_7).bind fun t112 => (if y109.length + t112.length < 17592186044416 then (some (y109 ++ t112)) else (none)))) else (none))) = some r := by first | (rw [hy103]; with_reducible exact H) | (have H2_ := (Option.bind_some _ _).symm.trans H; rw [hy103]; with_reducible exact H2_) | (have H2_ := (Option.bind_some _ _).symm.trans H; with_reducible exact H2_) | with_reducible exact H | (rw [hy103]; exact H) | exact H
 have Ny103 := Aside0.mk hy103
 clear hy103
 replace H := Option.bind_eq_some_iff.mp H
 obtain ⟨t106, A20, H⟩ := H
 replace H : (if y103.length + t106.length < 17592186044416 then ((some (y103 ++ t106 : List Int)).bind fun y109 => ((jacquardref12_Spoils.f a0_0 a0_1 a0_2 a0_3 a0_4 a0_5 a0_6 l0_7).bind fun t112 => (if y109.length + t112.length < 17592186044416 then (some (y109 ++ t112)) else (none)))) else (none)) = some r := H
 have A2 := Aside0.mk A20
 clear A20
 by_cases c3 : y103.length + t106.length < 17592186044416
 · rw [if_pos c3] at H
   have LMc3 := Aside0.mk c3
   clear c3
   obtain ⟨y109, hy109⟩ : ∃ y_ : List Int, y_ = (y103 ++ t106) := ⟨_, rfl⟩
   replace H : ((jacquardref12_Spoils.f a0_0 a0_1 a0_2 a0_3 a0_4 a0_5 a0_6 l0_7).bind fun t112 => (if y109.length + t112.length < 17592186044416 then (some (y109 ++ t112)) else (none))) = some r := by first | (rw [hy109]; with_reducible exact H) | (have H2_ := (Option.bind_some _ _).symm.trans H; rw [hy109]; with_reducible exact H2_) | (have H2_ := (Option.bind_some _ _).symm.trans H; with_reducible exact H2_) | with_reducible exact H | (rw [hy109]; exact H) | exact H
   have Ny109 := Aside0.mk hy109
   clear hy109
   replace H := Option.bind_eq_some_iff.mp H
   obtain ⟨t112, A40, H⟩ := H
   replace H : (if y109.length + t112.length < 17592186044416 then (some (y109 ++ t112)) else (none)) = some r := H
   have A4 := Aside0.mk A40
   clear A40
   by_cases c5 : y109.length + t112.length < 17592186044416
   · rw [if_pos c5] at H
     have LMc5 := Aside0.mk c5
     clear c5
     obtain ⟨y115, hy115⟩ : ∃ y_ : List Int, y_ = (y109 ++ t112) := ⟨_, rfl⟩
     replace H : (some y115) = some r := by first | (rw [hy115]; with_reducible exact H) | (have H2_ := (Option.bind_some _ _).symm.trans H; rw [hy115]; with_reducible exact H2_) | (have H2_ := (Option.bind_some _ _).symm.trans H; with_reducible exact H2_) | with_reducible exact H | (rw [hy115]; exact H) | exact H
     have Ny115 := Aside0.mk hy115
     clear hy115
     obtain rfl := Option.some.inj H
     go_enter Try.func48, Try.ntmps48
     try go_wp2_with (first | ((with_reducible refine gate_dst (N := 1) rfl ?_); refine box_event ?hg (N := 1) ?hd (cs := #[.int .i64 a0_0, .int .i64 a0_1, .int .i64 a0_2, .int .i64 a0_3, .int .i64 a0_4, .int .i64 a0_5, .int .i32 a0_6, .slice A0_7 l0_7.length c0_7]) (t := 35) ?hr ?_; (case hd => rfl); (case hg => rfl); (case hr => first | (go_simp; done) | (go_simp; rfl)); intro gb102 hg w6 hbox hb; have n0_ := Aside0.mk (below_step (by repeat (first | (with_reducible first | exact HB.out | apply below_alloc | apply pw_below_drewN | apply below_drew1) | exact HB.out)) hb); have n1_ := Aside0.mk (hbox); have n2_ := Aside0.mk ((by rw [hg]; exact (below_size (by repeat (first | (with_reducible first | exact HB.out | apply below_alloc | apply pw_below_drewN | apply below_drew1) | exact HB.out))) : w.heap.size ≤ gb102)); have n3_ := Aside0.mk ((by rw [hg]; exact (below_size (by repeat (first | (with_reducible first | exact HB.out | apply below_alloc | apply pw_below_drewN | apply below_drew1) | exact HB.out))) : w.heap.size ≤ gb102)); clear HB; have HB := n0_; have BK102 := n1_; have GW102 := n2_; have GE102 := n3_; clear n0_ n1_ n2_ n3_; clear hb hbox hg))
     have n0_ := Aside0.mk (blk_drew BK102.out)
     have n1_ := Aside0.mk (below_drew1 HB.out)
     clear BK102; clear HB
     have BK102 := n0_
     have HB := n1_
     clear n0_ n1_
     refine start_ (n := 8) (S := fun w' => w'.cell? ⟨gb102, 0, none⟩ = some (.int .i64 a0_0) ∧ w'.cell? ⟨gb102, 1, none⟩ = some (.int .i64 a0_1) ∧ w'.cell? ⟨gb102, 2, none⟩ = some (.int .i64 a0_2) ∧ w'.cell? ⟨gb102, 3, none⟩ = some (.int .i64 a0_3) ∧ w'.cell? ⟨gb102, 4, none⟩ = some (.int .i64 a0_4) ∧ w'.cell? ⟨gb102, 5, none⟩ = some (.int .i64 a0_5) ∧ w'.cell? ⟨gb102, 6, none⟩ = some (.int .i32 a0_6) ∧ w'.cell? ⟨gb102, 7, none⟩ = some (.slice A0_7 l0_7.length c0_7)) (ds := []) (bm 8 0) (by kernel_rfl) rfl rfl ⟨(blk_cell BK102.out 0).trans rfl, (blk_cell BK102.out 1).trans rfl, (blk_cell BK102.out 2).trans rfl, (blk_cell BK102.out 3).trans rfl, (blk_cell BK102.out 4).trans rfl, (blk_cell BK102.out 5).trans rfl, (blk_cell BK102.out 6).trans rfl, (blk_cell BK102.out 7).trans rfl⟩ (fun hHeld => ?_); refine with_tabW jacquardref16_changes.tab1 jacquardref16_changes.bits1 (fun HT_ HW_ => ?_)
     generalize w6.drew = w7 at BK102 HB hHeld ⊢
     refine take_ (i := 1) (N := some 4) (v := ?_) (a' := ?_) (bm 8 2) rfl rfl (take_ofW HT_.out HW_.out (by kernel_rfl)) (fun _ _ _ h => h) (Or.inl ⟨by rfl, ?_⟩) hHeld ?_ ?_
     rotate_left
     · rintro w' ⟨s0, s1, s2, s3, s4, s5, s6, s7⟩; go_simp; with_reducible rfl
     rotate_left
     · simp only [np]; rfl
     refine take_ (i := 4) (N := some 7) (v := ?_) (a' := ?_) (bm 8 18) rfl rfl (take_ofW HT_.out HW_.out (by kernel_rfl)) (fun _ _ _ h => h) (Or.inl ⟨by rfl, ?_⟩) hHeld ?_ ?_
     rotate_left
     · rintro w' ⟨s0, s1, s2, s3, s4, s5, s6, s7⟩; go_simp; with_reducible rfl
     rotate_left
     · simp only [np]; rfl
     refine join_ (σ := Value × Value) 4 (bm 8 23) (fun s_ => [(3, s_.1), (5, s_.2)]) (fun s_ w' => (w'.cell? ⟨gb102, 0, none⟩ = some (.int .i64 a0_0) ∧ w'.cell? ⟨gb102, 1, none⟩ = some (.int .i64 a0_1) ∧ w'.cell? ⟨gb102, 2, none⟩ = some (.int .i64 a0_2) ∧ w'.cell? ⟨gb102, 3, none⟩ = some (.int .i64 a0_3) ∧ w'.cell? ⟨gb102, 4, none⟩ = some (.int .i64 a0_4) ∧ w'.cell? ⟨gb102, 5, none⟩ = some (.int .i64 a0_5) ∧ w'.cell? ⟨gb102, 6, none⟩ = some (.int .i32 a0_6) ∧ w'.cell? ⟨gb102, 7, none⟩ = some (.slice A0_7 l0_7.length c0_7)) ∧ (Kd.R (Kd.int .i64) 3 w' w.heap.size (fun k_ => some k_ ≠ (s_.2 : Value).ownBlock) s_.1 y103) ∧ (Kd.R (Kd.int .i64) 3 w' w.heap.size (fun k_ => some k_ ≠ (s_.1 : Value).ownBlock) s_.2 t106) ∧ (w'.heap[gb102]? = some (.cells #[.int .i64 a0_0, .int .i64 a0_1, .int .i64 a0_2, .int .i64 a0_3, .int .i64 a0_4, .int .i64 a0_5, .int .i32 a0_6, .slice A0_7 l0_7.length c0_7] 35 (0, 0))) ∧ (Below w.heap.size w w')) ?_ ?_
     rotate_left
     · intro hCont
       refine two_ (i := 0) (j := 2) (Ni := some 3) (Nj := some 5) (bm 8 19) (bm 8 22) rfl rfl rfl rfl (two_of HT_.out (by kernel_rfl)) (by decide) (by decide) (fun K hK => ?_) (fun K hK => ?_)
       · skip
         refine Kd.R_lit_step (Kd.int .i64) _ 3 ?hg (N := 3) ?hd (xs := ([] : List Int)) (inner := []) (ok := fun _ => True) (okp := fun _ => True) ?hr ?hp (fun _ hk => hk) trivial (Below.refl _ _) (Nat.le_refl _) (by simp) ?_; (case hd => rfl); (case hg => rfl); (case hr => first | (go_simp; done) | (go_simp; rfl)); (case hp => exact (Reps.none _ _))
         intro v104 w8 ho9 hb hg_ hnew_; clear hg_ hnew_
         (first | rw [← Ny103.out] at ho9 | (simp only [Int.reduceToNat] at ho9; rw [← Ny103.out] at ho9))
         have n0_ := Aside0.mk (Kd.R_lower ho9 (below_size (by repeat (first | (with_reducible first | exact HB.out | apply below_alloc | apply pw_below_drewN | apply below_drew1 | refine below_set ?_ GE102.out) | exact HB.out))))
         have n1_ := Aside0.mk (blk_below (g := gb102) (o := .cells #[.int .i64 a0_0, .int .i64 a0_1, .int .i64 a0_2, .int .i64 a0_3, .int .i64 a0_4, .int .i64 a0_5, .int .i32 a0_6, .slice A0_7 l0_7.length c0_7] 35 (0, 0)) (by (with_reducible repeat (first | refine blk_drewN ?_ _ | refine blk_drew ?_ | refine blk_alloc ?_ _)); exact BK102.out) hb)
         have n2_ := Aside0.mk (below_step (by repeat (first | (with_reducible first | exact HB.out | apply below_alloc | apply pw_below_drewN | apply below_drew1 | refine below_set ?_ GE102.out) | exact HB.out)) hb)
         clear BK102; clear HB
         have HO105 := n0_
         have BK102 := n1_
         have HB := n2_
         clear n0_ n1_ n2_; clear hb ho9
         refine hK.out _ _ ⟨(blk_cell BK102.out 0).trans rfl, (blk_cell BK102.out 1).trans rfl, (blk_cell BK102.out 2).trans rfl, (blk_cell BK102.out 3).trans rfl, (blk_cell BK102.out 4).trans rfl, (blk_cell BK102.out 5).trans rfl, (blk_cell BK102.out 6).trans rfl, (blk_cell BK102.out 7).trans rfl⟩ (fun hHeld => ?_)
         clear hK K
         refine norm_ (a' := ?_) ?_ ?_
         rotate_left
         · show Act.put _ (some 3) _ = _; simp only [np]; rfl
         refine one_ (i := 2) (N := some 5) (bm 8 23) rfl rfl (one_of HT_.out (by kernel_rfl)) (by decide) (fun K hK => ?_)
         refine goes_ Try.func64 (by kernel_rfl) rfl #[.agg #[.int .i64 a0_0, .int .i64 a0_1, .int .i64 a0_2, .int .i64 a0_3, .int .i64 a0_4, .int .i64 a0_5, .int .i32 a0_6, .slice A0_7 l0_7.length c0_7]] (by rfl) rfl rfl (by (try simp only [List.map_toArray, List.map_cons, List.map_nil]); first | done | rfl | (simp only [List.length_drop, List.length_take]; rfl)) ?_
         with_reducible refine (jacquardref12_Makes.calls a0_0 a0_1 a0_2 a0_3 a0_4 a0_5 a0_6 _ _ l0_7 t106 _ ?side1 ?side2 A2.out).mono ?_
         (case side1 => repeat (first | exact (Kd.C_below HR0_7.out HB.out) | (with_reducible refine Kd.C_alloc ?_ _) | (with_reducible refine Kd.C_drewN ?_ _) | (with_reducible refine Kd.C_drew ?_)))
         (case side2 => exact HC0_7.out)
         rintro e w10 ⟨v107, rfl, ho0, hb⟩
         refine ⟨_, rfl, ?_⟩
         have n0_ := Aside0.mk (Kd.R_elder' (by (with_reducible repeat (first | apply Kd.R_alloc | apply Kd.R_drewN | apply Kd.R_drew)); exact HO105.out) (Kd.R_base ho0) hb)
         have n1_ := Aside0.mk (Kd.R_lower (Kd.R_new' ho0 (Kd.R_lt (by (with_reducible repeat (first | apply Kd.R_alloc | apply Kd.R_drewN | apply Kd.R_drew)); exact HO105.out))) (below_size (by repeat (first | (with_reducible first | exact HB.out | apply below_alloc | apply pw_below_drewN | apply below_drew1 | refine below_set ?_ GE102.out) | exact HB.out))))
         have n2_ := Aside0.mk (blk_below (g := gb102) (o := .cells #[.int .i64 a0_0, .int .i64 a0_1, .int .i64 a0_2, .int .i64 a0_3, .int .i64 a0_4, .int .i64 a0_5, .int .i32 a0_6, .slice A0_7 l0_7.length c0_7] 35 (0, 0)) (by (with_reducible repeat (first | refine blk_drewN ?_ _ | refine blk_drew ?_ | refine blk_alloc ?_ _)); exact BK102.out) hb)
         have n3_ := Aside0.mk (below_step (by repeat (first | (with_reducible first | exact HB.out | apply below_alloc | apply pw_below_drewN | apply below_drew1 | refine below_set ?_ GE102.out) | exact HB.out)) hb)
         clear HO105; clear BK102; clear HB
         have HO105 := n0_
         have HO108 := n1_
         have BK102 := n2_
         have HB := n3_
         clear n0_ n1_ n2_ n3_
         (try clear hb)
         (try clear hb2)
         (try clear hk)
         (try clear hi)
         (try clear ho0)
         refine hK.out _ _ ⟨(blk_cell BK102.out 0).trans rfl, (blk_cell BK102.out 1).trans rfl, (blk_cell BK102.out 2).trans rfl, (blk_cell BK102.out 3).trans rfl, (blk_cell BK102.out 4).trans rfl, (blk_cell BK102.out 5).trans rfl, (blk_cell BK102.out 6).trans rfl, (blk_cell BK102.out 7).trans rfl⟩ (fun hHeld => ?_)
         clear hK K
         refine norm_ (a' := ?_) ?_ ?_
         rotate_left
         · show Act.put _ (some 5) _ = _; simp only [np]; rfl
         exact norm_ (by simp only [putAll, Act.put, List.setIfInBounds_toArray, List.set_cons_zero, List.set_cons_succ]) (hCont (v104, v107) _ ⟨hHeld, (by (with_reducible repeat (first | apply Kd.R_alloc | apply Kd.R_drewN | apply Kd.R_drew)); exact Kd.R_mono HO105.out (fun _ hk => hk.2)), (by (with_reducible repeat (first | apply Kd.R_alloc | apply Kd.R_drewN | apply Kd.R_drew)); exact Kd.R_mono HO108.out (fun _ hk => hk.2)), (by (with_reducible repeat (first | refine blk_drewN ?_ _ | refine blk_drew ?_ | refine blk_alloc ?_ _)); exact BK102.out), (by repeat (first | (with_reducible first | exact HB.out | apply below_alloc | apply pw_below_drewN | apply below_drew1 | refine below_set ?_ GE102.out) | exact HB.out))⟩)
       · skip
         refine goes_ Try.func64 (by kernel_rfl) rfl #[.agg #[.int .i64 a0_0, .int .i64 a0_1, .int .i64 a0_2, .int .i64 a0_3, .int .i64 a0_4, .int .i64 a0_5, .int .i32 a0_6, .slice A0_7 l0_7.length c0_7]] (by rfl) rfl rfl (by (try simp only [List.map_toArray, List.map_cons, List.map_nil]); first | done | rfl | (simp only [List.length_drop, List.length_take]; rfl)) ?_
         with_reducible refine (jacquardref12_Makes.calls a0_0 a0_1 a0_2 a0_3 a0_4 a0_5 a0_6 _ _ l0_7 t106 _ ?side1 ?side2 A2.out).mono ?_
         (case side1 => repeat (first | exact (Kd.C_below HR0_7.out HB.out) | (with_reducible refine Kd.C_alloc ?_ _) | (with_reducible refine Kd.C_drewN ?_ _) | (with_reducible refine Kd.C_drew ?_)))
         (case side2 => exact HC0_7.out)
         rintro e w8 ⟨v107, rfl, ho0, hb⟩
         refine ⟨_, rfl, ?_⟩
         have n0_ := Aside0.mk (Kd.R_lower ho0 (below_size (by repeat (first | (with_reducible first | exact HB.out | apply below_alloc | apply pw_below_drewN | apply below_drew1 | refine below_set ?_ GE102.out) | exact HB.out))))
         have n1_ := Aside0.mk (blk_below (g := gb102) (o := .cells #[.int .i64 a0_0, .int .i64 a0_1, .int .i64 a0_2, .int .i64 a0_3, .int .i64 a0_4, .int .i64 a0_5, .int .i32 a0_6, .slice A0_7 l0_7.length c0_7] 35 (0, 0)) (by (with_reducible repeat (first | refine blk_drewN ?_ _ | refine blk_drew ?_ | refine blk_alloc ?_ _)); exact BK102.out) hb)
         have n2_ := Aside0.mk (below_step (by repeat (first | (with_reducible first | exact HB.out | apply below_alloc | apply pw_below_drewN | apply below_drew1 | refine below_set ?_ GE102.out) | exact HB.out)) hb)
         clear BK102; clear HB
         have HO108 := n0_
         have BK102 := n1_
         have HB := n2_
         clear n0_ n1_ n2_
         (try clear hb)
         (try clear hb2)
         (try clear hk)
         (try clear hi)
         (try clear ho0)
         refine hK.out _ _ ⟨(blk_cell BK102.out 0).trans rfl, (blk_cell BK102.out 1).trans rfl, (blk_cell BK102.out 2).trans rfl, (blk_cell BK102.out 3).trans rfl, (blk_cell BK102.out 4).trans rfl, (blk_cell BK102.out 5).trans rfl, (blk_cell BK102.out 6).trans rfl, (blk_cell BK102.out 7).trans rfl⟩ (fun hHeld => ?_)
         clear hK K
         refine norm_ (a' := ?_) ?_ ?_
         rotate_left
         · show Act.put _ (some 5) _ = _; simp only [np]; rfl
         refine one_ (i := 0) (N := some 3) (bm 8 23) rfl rfl (one_of HT_.out (by kernel_rfl)) (by decide) (fun K hK => ?_)
         refine Kd.R_lit_step (Kd.int .i64) _ 3 ?hg (N := 3) ?hd (xs := ([] : List Int)) (inner := []) (ok := fun _ => True) (okp := fun _ => True) ?hr ?hp (fun _ hk => hk) trivial (Below.refl _ _) (Nat.le_refl _) (by simp) ?_; (case hd => rfl); (case hg => rfl); (case hr => first | (go_simp; done) | (go_simp; rfl)); (case hp => exact (Reps.none _ _))
         intro v104 w9 ho10 hb hg_ hnew_; clear hg_ hnew_
         (first | rw [← Ny103.out] at ho10 | (simp only [Int.reduceToNat] at ho10; rw [← Ny103.out] at ho10))
         have n0_ := Aside0.mk (Kd.R_elder' (by (with_reducible repeat (first | apply Kd.R_alloc | apply Kd.R_drewN | apply Kd.R_drew)); exact HO108.out) (Kd.R_base ho10) hb)
         have n1_ := Aside0.mk (Kd.R_lower (Kd.R_new' ho10 (Kd.R_lt (by (with_reducible repeat (first | apply Kd.R_alloc | apply Kd.R_drewN | apply Kd.R_drew)); exact HO108.out))) (below_size (by repeat (first | (with_reducible first | exact HB.out | apply below_alloc | apply pw_below_drewN | apply below_drew1 | refine below_set ?_ GE102.out) | exact HB.out))))
         have n2_ := Aside0.mk (blk_below (g := gb102) (o := .cells #[.int .i64 a0_0, .int .i64 a0_1, .int .i64 a0_2, .int .i64 a0_3, .int .i64 a0_4, .int .i64 a0_5, .int .i32 a0_6, .slice A0_7 l0_7.length c0_7] 35 (0, 0)) (by (with_reducible repeat (first | refine blk_drewN ?_ _ | refine blk_drew ?_ | refine blk_alloc ?_ _)); exact BK102.out) hb)
         have n3_ := Aside0.mk (below_step (by repeat (first | (with_reducible first | exact HB.out | apply below_alloc | apply pw_below_drewN | apply below_drew1 | refine below_set ?_ GE102.out) | exact HB.out)) hb)
         clear HO108; clear BK102; clear HB
         have HO108 := n0_
         have HO105 := n1_
         have BK102 := n2_
         have HB := n3_
         clear n0_ n1_ n2_ n3_; clear hb ho10
         refine hK.out _ _ ⟨(blk_cell BK102.out 0).trans rfl, (blk_cell BK102.out 1).trans rfl, (blk_cell BK102.out 2).trans rfl, (blk_cell BK102.out 3).trans rfl, (blk_cell BK102.out 4).trans rfl, (blk_cell BK102.out 5).trans rfl, (blk_cell BK102.out 6).trans rfl, (blk_cell BK102.out 7).trans rfl⟩ (fun hHeld => ?_)
         clear hK K
         refine norm_ (a' := ?_) ?_ ?_
         rotate_left
         · show Act.put _ (some 3) _ = _; simp only [np]; rfl
         exact norm_ (by simp only [putAll, Act.put, List.setIfInBounds_toArray, List.set_cons_zero, List.set_cons_succ]) (hCont (v104, v107) _ ⟨hHeld, (by (with_reducible repeat (first | apply Kd.R_alloc | apply Kd.R_drewN | apply Kd.R_drew)); exact Kd.R_mono HO105.out (fun _ hk => hk.2)), (by (with_reducible repeat (first | apply Kd.R_alloc | apply Kd.R_drewN | apply Kd.R_drew)); exact Kd.R_mono HO108.out (fun _ hk => hk.2)), (by (with_reducible repeat (first | refine blk_drewN ?_ _ | refine blk_drew ?_ | refine blk_alloc ?_ _)); exact BK102.out), (by repeat (first | (with_reducible first | exact HB.out | apply below_alloc | apply pw_below_drewN | apply below_drew1 | refine below_set ?_ GE102.out) | exact HB.out))⟩)
     rintro ⟨v104, v107⟩ w11 ⟨hS_, h0_, h1_, h2_, h3_⟩
     have n0_ : Aside0 (Kd.R (Kd.int .i64) 3 w11 w.heap.size (fun k_ => some k_ ≠ (v107 : Value).ownBlock) v104 y103) := ⟨h0_⟩
     have n1_ : Aside0 (Kd.R (Kd.int .i64) 3 w11 w.heap.size (fun k_ => some k_ ≠ (v104 : Value).ownBlock) v107 t106) := ⟨h1_⟩
     have n2_ : Aside0 (w11.heap[gb102]? = some (.cells #[.int .i64 a0_0, .int .i64 a0_1, .int .i64 a0_2, .int .i64 a0_3, .int .i64 a0_4, .int .i64 a0_5, .int .i32 a0_6, .slice A0_7 l0_7.length c0_7] 35 (0, 0))) := ⟨h2_⟩
     have n3_ : Aside0 (Below w.heap.size w w11) := ⟨h3_⟩
     clear BK102; clear HB; clear h0_ h1_ h2_ h3_
     have HO105 := n0_
     have HO108 := n1_
     have BK102 := n2_
     have HB := n3_
     clear n0_ n1_ n2_ n3_
     have hHeld : w11.cell? ⟨gb102, 0, none⟩ = some (.int .i64 a0_0) ∧ w11.cell? ⟨gb102, 1, none⟩ = some (.int .i64 a0_1) ∧ w11.cell? ⟨gb102, 2, none⟩ = some (.int .i64 a0_2) ∧ w11.cell? ⟨gb102, 3, none⟩ = some (.int .i64 a0_3) ∧ w11.cell? ⟨gb102, 4, none⟩ = some (.int .i64 a0_4) ∧ w11.cell? ⟨gb102, 5, none⟩ = some (.int .i64 a0_5) ∧ w11.cell? ⟨gb102, 6, none⟩ = some (.int .i32 a0_6) ∧ w11.cell? ⟨gb102, 7, none⟩ = some (.slice A0_7 l0_7.length c0_7) := hS_
     obtain ⟨Ao13, co13, eo13⟩ := Kd.R_slice HO108.out
     (first | subst eo13 | (injection eo13 with f1_ f2_ f3_; have f4_ := f1_.symm; have f5_ := f3_.symm; clear f1_ f2_ f3_; subst f4_; subst f5_))
     refine norm_ (a' := ?_) ?_ ?_
     rotate_left
     · simp only [putAll, Act.put, List.setIfInBounds_toArray, List.set_cons_zero, List.set_cons_succ]; rfl
     refine one_ (i := 3) (N := some 6) (bm 8 31) rfl rfl (one_of HT_.out (by kernel_rfl)) (by decide) (fun K hK => ?_)
     refine Kd.R_append_rows_step (Kd.int .i64) (w0 := w) w.heap.size (by rfl) (.tmp 3) (.tmp 5) 23 3 (.int .i64 0) 8 rfl Try.underlying23 info3 rfl (by decide) (by omega) v104 y103 t106 _ _ _ (fun k_ => some k_ ≠ (.slice Ao13 t106.length co13 : Value).ownBlock) (fun _ => False) rfl rfl ?aO ?aR (fun _ _ h => h) (fun _ h => h.elim) ?aF ?aB ?aS ?aL ?_
     (case aR => repeat (first | exact (Kd.R_reads' HO108.out).2.2 | (with_reducible refine Kd.C_alloc ?_ _) | (with_reducible refine Kd.C_drewN ?_ _) | (with_reducible refine Kd.C_drew ?_)))
     (case aB => exact (by repeat (first | (with_reducible first | exact HB.out | apply below_alloc | apply pw_below_drewN | apply below_drew1 | refine below_set ?_ GE102.out) | exact HB.out)))
     (case aF => exact (fun k_ hk => Kd.fresh' (Kd.R_lt (by (with_reducible repeat (first | apply Kd.R_alloc | apply Kd.R_drewN | apply Kd.R_drew)); exact HO108.out)) k_ hk))
     (case aO => exact (by (with_reducible repeat (first | apply Kd.R_alloc | apply Kd.R_drewN | apply Kd.R_drew)); exact HO105.out))
     (case aS => exact (below_size (by repeat (first | (with_reducible first | exact HB.out | apply below_alloc | apply pw_below_drewN | apply below_drew1 | refine below_set ?_ GE102.out) | exact HB.out))))
     (case aL => have := LMc3.out; omega)
     intro v110 w12 ho hb hg hat
     rw [← Ny109.out] at ho
     have n0_ := Aside0.mk (blk_grown (g := gb102) (o := .cells #[.int .i64 a0_0, .int .i64 a0_1, .int .i64 a0_2, .int .i64 a0_3, .int .i64 a0_4, .int .i64 a0_5, .int .i32 a0_6, .slice A0_7 l0_7.length c0_7] 35 (0, 0)) (by (with_reducible repeat (first | refine blk_drewN ?_ _ | refine blk_drew ?_ | refine blk_alloc ?_ _)); exact BK102.out) hg (Kd.R_ne HO105.out BK102.out (by decide)))
     have n1_ := Aside0.mk (Kd.R_after (ok := (fun _ => True)) (by (with_reducible repeat (first | apply Kd.R_alloc | apply Kd.R_drewN | apply Kd.R_drew)); exact Kd.R_mono HO108.out (fun _ hk => ⟨trivial, hk⟩)) hg hat)
     have n2_ := Aside0.mk (hb)
     have n3_ := Aside0.mk (ho)
     clear BK102; clear HO108; clear HB; clear HO105
     have BK102 := n0_
     have HO108 := n1_
     have HB := n2_
     have HO111 := n3_
     clear n0_ n1_ n2_ n3_; clear ho hb hg hat
     refine hK.out _ _ ⟨(blk_cell BK102.out 0).trans rfl, (blk_cell BK102.out 1).trans rfl, (blk_cell BK102.out 2).trans rfl, (blk_cell BK102.out 3).trans rfl, (blk_cell BK102.out 4).trans rfl, (blk_cell BK102.out 5).trans rfl, (blk_cell BK102.out 6).trans rfl, (blk_cell BK102.out 7).trans rfl⟩ (fun hHeld => ?_)
     clear hK K
     refine norm_ (a' := ?_) ?_ ?_
     rotate_left
     · show Act.put _ (some 6) _ = _; simp only [np]; rfl
     refine one_ (i := 5) (N := some 8) (bm 8 63) rfl rfl (one_of HT_.out (by kernel_rfl)) (by decide) (fun K hK => ?_)
     refine goes_ Try.func65 (by kernel_rfl) rfl #[.agg #[.int .i64 a0_0, .int .i64 a0_1, .int .i64 a0_2, .int .i64 a0_3, .int .i64 a0_4, .int .i64 a0_5, .int .i32 a0_6, .slice A0_7 l0_7.length c0_7]] (by rfl) rfl rfl (by (try simp only [List.map_toArray, List.map_cons, List.map_nil]); first | done | rfl | (simp only [List.length_drop, List.length_take]; rfl)) ?_
     with_reducible refine (jacquardref12_Spoils.calls a0_0 a0_1 a0_2 a0_3 a0_4 a0_5 a0_6 _ _ l0_7 t112 _ ?side1 ?side2 A4.out).mono ?_
     (case side1 => repeat (first | exact (Kd.C_below HR0_7.out HB.out) | (with_reducible refine Kd.C_alloc ?_ _) | (with_reducible refine Kd.C_drewN ?_ _) | (with_reducible refine Kd.C_drew ?_)))
     (case side2 => exact HC0_7.out)
     rintro e w14 ⟨v113, rfl, ho0, hb⟩
     refine ⟨_, rfl, ?_⟩
     have n0_ := Aside0.mk (Kd.R_elder' (by (with_reducible repeat (first | apply Kd.R_alloc | apply Kd.R_drewN | apply Kd.R_drew)); exact HO108.out) (Kd.R_base ho0) hb)
     have n1_ := Aside0.mk (Kd.R_elder' (by (with_reducible repeat (first | apply Kd.R_alloc | apply Kd.R_drewN | apply Kd.R_drew)); exact HO111.out) (Kd.R_base ho0) hb)
     have n2_ := Aside0.mk (Kd.R_lower (Kd.R_new' (Kd.R_new' ho0 (Kd.R_lt (by (with_reducible repeat (first | apply Kd.R_alloc | apply Kd.R_drewN | apply Kd.R_drew)); exact HO108.out))) (Kd.R_lt (by (with_reducible repeat (first | apply Kd.R_alloc | apply Kd.R_drewN | apply Kd.R_drew)); exact HO111.out))) (below_size (by repeat (first | (with_reducible first | exact HB.out | apply below_alloc | apply pw_below_drewN | apply below_drew1 | refine below_set ?_ GE102.out) | exact HB.out))))
     have n3_ := Aside0.mk (blk_below (g := gb102) (o := .cells #[.int .i64 a0_0, .int .i64 a0_1, .int .i64 a0_2, .int .i64 a0_3, .int .i64 a0_4, .int .i64 a0_5, .int .i32 a0_6, .slice A0_7 l0_7.length c0_7] 35 (0, 0)) (by (with_reducible repeat (first | refine blk_drewN ?_ _ | refine blk_drew ?_ | refine blk_alloc ?_ _)); exact BK102.out) hb)
     have n4_ := Aside0.mk (below_step (by repeat (first | (with_reducible first | exact HB.out | apply below_alloc | apply pw_below_drewN | apply below_drew1 | refine below_set ?_ GE102.out) | exact HB.out)) hb)
     clear HO108; clear HO111; clear BK102; clear HB
     have HO108 := n0_
     have HO111 := n1_
     have HO114 := n2_
     have BK102 := n3_
     have HB := n4_
     clear n0_ n1_ n2_ n3_ n4_
     (try clear hb)
     (try clear hb2)
     (try clear hk)
     (try clear hi)
     (try clear ho0)
     obtain ⟨Ao16, co16, eo16⟩ := Kd.R_slice HO114.out
     (first | subst eo16 | (injection eo16 with f1_ f2_ f3_; have f4_ := f1_.symm; have f5_ := f3_.symm; clear f1_ f2_ f3_; subst f4_; subst f5_))
     refine hK.out _ _ ⟨(blk_cell BK102.out 0).trans rfl, (blk_cell BK102.out 1).trans rfl, (blk_cell BK102.out 2).trans rfl, (blk_cell BK102.out 3).trans rfl, (blk_cell BK102.out 4).trans rfl, (blk_cell BK102.out 5).trans rfl, (blk_cell BK102.out 6).trans rfl, (blk_cell BK102.out 7).trans rfl⟩ (fun hHeld => ?_)
     clear hK K
     refine norm_ (a' := ?_) ?_ ?_
     rotate_left
     · show Act.put _ (some 8) _ = _; simp only [np]; rfl
     refine one_ (i := 6) (N := some 9) (bm 8 127) rfl rfl (one_of HT_.out (by kernel_rfl)) (by decide) (fun K hK => ?_)
     refine Kd.R_append_rows_step (Kd.int .i64) (w0 := w) w.heap.size (by rfl) (.tmp 6) (.tmp 8) 23 3 (.int .i64 0) 8 rfl Try.underlying23 info3 rfl (by decide) (by omega) v110 y109 t112 _ _ _ (fun k_ => some k_ ≠ (.slice Ao13 t106.length co13 : Value).ownBlock ∧ some k_ ≠ (.slice Ao16 t112.length co16 : Value).ownBlock) (fun _ => False) rfl rfl ?aO ?aR (fun _ _ h => h) (fun _ h => h.elim) ?aF ?aB ?aS ?aL ?_
     (case aR => repeat (first | exact (Kd.R_reads' HO114.out).2.2 | (with_reducible refine Kd.C_alloc ?_ _) | (with_reducible refine Kd.C_drewN ?_ _) | (with_reducible refine Kd.C_drew ?_)))
     (case aB => exact (by repeat (first | (with_reducible first | exact HB.out | apply below_alloc | apply pw_below_drewN | apply below_drew1 | refine below_set ?_ GE102.out) | exact HB.out)))
     (case aF => exact (fun k_ hk => ⟨Kd.fresh' (Kd.R_lt (by (with_reducible repeat (first | apply Kd.R_alloc | apply Kd.R_drewN | apply Kd.R_drew)); exact HO108.out)) k_ hk, Kd.fresh' (Kd.R_lt (by (with_reducible repeat (first | apply Kd.R_alloc | apply Kd.R_drewN | apply Kd.R_drew)); exact HO114.out)) k_ hk⟩))
     (case aO => exact (by (with_reducible repeat (first | apply Kd.R_alloc | apply Kd.R_drewN | apply Kd.R_drew)); exact HO111.out))
     (case aS => exact (below_size (by repeat (first | (with_reducible first | exact HB.out | apply below_alloc | apply pw_below_drewN | apply below_drew1 | refine below_set ?_ GE102.out) | exact HB.out))))
     (case aL => have := LMc5.out; omega)
     intro v116 w15 ho hb hg hat
     rw [← Ny115.out] at ho
     have n0_ := Aside0.mk (blk_grown (g := gb102) (o := .cells #[.int .i64 a0_0, .int .i64 a0_1, .int .i64 a0_2, .int .i64 a0_3, .int .i64 a0_4, .int .i64 a0_5, .int .i32 a0_6, .slice A0_7 l0_7.length c0_7] 35 (0, 0)) (by (with_reducible repeat (first | refine blk_drewN ?_ _ | refine blk_drew ?_ | refine blk_alloc ?_ _)); exact BK102.out) hg (Kd.R_ne HO111.out BK102.out (by decide)))
     have n1_ := Aside0.mk (Kd.R_after (ok := (fun k_ => some k_ ≠ (.slice Ao16 t112.length co16 : Value).ownBlock)) (by (with_reducible repeat (first | apply Kd.R_alloc | apply Kd.R_drewN | apply Kd.R_drew)); exact Kd.R_mono HO108.out (fun _ hk => ⟨hk.2, hk.1.2⟩)) hg hat)
     have n2_ := Aside0.mk (Kd.R_after (ok := (fun k_ => some k_ ≠ (.slice Ao13 t106.length co13 : Value).ownBlock)) (by (with_reducible repeat (first | apply Kd.R_alloc | apply Kd.R_drewN | apply Kd.R_drew)); exact Kd.R_mono HO114.out (fun _ hk => ⟨hk.1.2, hk.2⟩)) hg hat)
     have n3_ := Aside0.mk (hb)
     have n4_ := Aside0.mk (ho)
     clear BK102; clear HO108; clear HO114; clear HB; clear HO111
     have BK102 := n0_
     have HO108 := n1_
     have HO114 := n2_
     have HB := n3_
     have HO117 := n4_
     clear n0_ n1_ n2_ n3_ n4_; clear ho hb hg hat
     refine hK.out _ _ ⟨(blk_cell BK102.out 0).trans rfl, (blk_cell BK102.out 1).trans rfl, (blk_cell BK102.out 2).trans rfl, (blk_cell BK102.out 3).trans rfl, (blk_cell BK102.out 4).trans rfl, (blk_cell BK102.out 5).trans rfl, (blk_cell BK102.out 6).trans rfl, (blk_cell BK102.out 7).trans rfl⟩ (fun hHeld => ?_)
     clear hK K
     refine norm_ (a' := ?_) ?_ ?_
     rotate_left
     · show Act.put _ (some 9) _ = _; simp only [np]; rfl
     refine pu 7 2 (bm 8 255) rfl rfl (any_of HT_.out (by kernel_rfl)) (fun _ _ _ h => h) (by rfl) (v := ?_) (a' := ?_) (by intro w'; go_simp; with_reducible rfl) (by simp only [np]; rfl) ?_
     refine done_ (done_of HT_.out (by kernel_rfl)) ?_
     try go_wp2
     go_ret
     exact ⟨_, by first | rfl | (simp [errW_none, errW_some] <;> rfl) | (simp [*, errW_none, errW_some] <;> rfl), by (with_reducible repeat (first | apply Kd.R_alloc | apply Kd.R_drewN | apply Kd.R_drew)); exact Kd.R_mono HO117.out (fun _ hk => trivial), by repeat (first | (with_reducible first | exact HB.out | apply below_alloc | apply pw_below_drewN | apply below_drew1 | refine below_set ?_ GE102.out) | exact HB.out)⟩
   · rw [if_neg c5] at H
     exact absurd H (by simp)
 · rw [if_neg c3] at H
   exact absurd H (by simp)
end Go.Proofs.Ytocndmielggnpaa.PAll
end
section
namespace Go.Proofs.Ytocndmielggnpaa.PAll
open Go.RowKit Go.Proofs.YtocndmielggnpaaW.PrintWords Go.Proofs.YtocndmielggnpaaW.PrintLast Go.Proofs.YtocndmielggnpaaW.PrintMore
open Go.Proofs.Ytocndmielggnpaa.Kind Go.Proofs.Ytocndmielggnpaa.AMap
theorem Ev.s {α : Type} {g : Nat → Option α} {r : α} (h : Ev (fun k => g (k + 1)) r) : Ev g r := Ev.step (fun _ => rfl) h
theorem wr1 (i : Nat) (h : i ≤ 1000000000000) : wrap64 ((i : Int) + 1) = ((i + 1 : Nat) : Int) := by unfold wrap64; omega
theorem rd_nat (l : List Int) (i : Nat) : rd l (i : Int) = l.getD i 0 := by simp [rd]
theorem rdT_nat (l : List S37) (i : Nat) : rd_T37 l (i : Int) = l.getD i z37 := by simp [rd_T37]
theorem has_l0 (l : List Int) (p : Int) (hl : l.length ≤ 1000000000) : ∀ d i : Nat, i + d = l.length → Ev (fun k => jacquardref16_has.l0 k l p i) (decide (p ∈ l.drop i)) := by
 intro d
 induction d with
 | zero =>
  intro i hi
  refine Ev.s ?_
  simp only [jacquardref16_has.l0]; simp only [if_neg (show ¬ ((i : Int) < (l.length : Int)) by omega)]
  rw [show l.drop i = [] from List.drop_eq_nil_of_le (by omega)]
  simpa using Ev.now false
 | succ d ih =>
  intro i hi
  have hlt : i < l.length := by omega
  have hd : l.drop i = l.getD i 0 :: l.drop (i + 1) := by
   rw [List.drop_eq_getElem_cons hlt, List.getD_eq_getElem?_getD, List.getElem?_eq_getElem hlt]; rfl
  refine Ev.s ?_
  simp only [jacquardref16_has.l0]; simp only [if_pos (show ((i : Int) < (l.length : Int)) by omega), if_pos (show (0 : Int) ≤ (i : Int) by omega), rd_nat, wr1 i (by omega)]
  by_cases h : l.getD i 0 = p
  · simp only [if_pos h]
    rw [hd, h]
    simpa using Ev.now true
  · simp only [if_neg h]
    rw [hd]
    rw [show decide (p ∈ l.getD i 0 :: l.drop (i + 1)) = decide (p ∈ l.drop (i + 1)) from by rw [decide_eq_decide, List.mem_cons]; exact ⟨fun hh => hh.resolve_left (fun e => h e.symm), .inr⟩]
    exact ih (i + 1) (by omega)
theorem has_ev (l : List Int) (p : Int) (hl : l.length ≤ 1000000000) : Ev (fun k => jacquardref16_has.f k l p) (decide (p ∈ l)) := by
 have := has_l0 l p hl l.length 0 (by omega)
 simpa [jacquardref16_has.f] using this
theorem op_cases (n : Int) (h1 : 1 ≤ n) (h2 : n ≤ 31) : n = 1 ∨ n = 2 ∨ n = 3 ∨ n = 4 ∨ n = 5 ∨ n = 6 ∨ n = 7 ∨ n = 8 ∨ n = 9 ∨ n = 10 ∨ n = 11 ∨ n = 12 ∨ n = 13 ∨ n = 14 ∨ n = 15 ∨ n = 16 ∨ n = 17 ∨ n = 18 ∨ n = 19 ∨ n = 20 ∨ n = 21 ∨ n = 22 ∨ n = 23 ∨ n = 24 ∨ n = 25 ∨ n = 26 ∨ n = 27 ∨ n = 28 ∨ n = 29 ∨ n = 30 ∨ n = 31 := by omega
theorem kt_out (n : Int) (h : ¬ (1 ≤ n ∧ n ≤ 31)) : kt n = (68, 68) := by
 have hk : ∀ j : Int, 1 ≤ j → j ≤ 31 → ¬ n = j := fun j h1 h2 e => h (by omega)
 have ht : tbl n = none := by unfold tbl upd; simp [hk]
 unfold kt
 rw [ht, Option.getD_none, if_neg (by omega), if_neg (by omega)]
theorem takes12_eq (x : S35) (hf : Few x) : jacquardref12_Takes.f x.f0 x.f1 x.f2 x.f3 x.f4 x.f5 x.f6 x.f7 = some (tkP x) := by
 unfold Few at hf
 have h2 : x.f7.length < 17592186044416 := by omega
 obtain ⟨op, hop⟩ : ∃ op, x.f0 = op := ⟨_, rfl⟩
 simp only [jacquardref12_Takes.f, jacquardref07_Takes.f, tkP]
 rw [hop]
 by_cases h : 1 ≤ op ∧ op ≤ 31
 · rcases op_cases op h.1 h.2 with rfl | rfl | rfl | rfl | rfl | rfl | rfl | rfl | rfl | rfl | rfl | rfl | rfl | rfl | rfl | rfl | rfl | rfl | rfl | rfl | rfl | rfl | rfl | rfl | rfl | rfl | rfl | rfl | rfl | rfl | rfl <;>
    simp [tk07, rowOf, kt, tbl, upd, h2]
 · rw [kt_out op h]
   have hk : ∀ j : Int, 1 ≤ j → j ≤ 31 → ¬ op = j := fun j h1 h2 e => h (by omega)
   have e1 : ¬ (18 ≤ op ∧ op ≤ 22) := by omega
   have e2 : ¬ (5 ≤ op ∧ op ≤ 17) := by omega
   simp [tk07, rowOf, hk, e1, e2, h2]
theorem takes12_ev (x : S35) (hf : Few x) : Ev (fun _ => jacquardref12_Takes.f x.f0 x.f1 x.f2 x.f3 x.f4 x.f5 x.f6 x.f7) (tkP x) := ⟨0, fun _ _ => takes12_eq x hf⟩
theorem changes16_eq (x : S35) (hf : Few x) : jacquardref16_changes.f x.f0 x.f1 x.f2 x.f3 x.f4 x.f5 x.f6 x.f7 = some (chP x) := by
 unfold Few at hf
 have h2 : x.f7.length < 17592186044416 := by omega
 obtain ⟨op, hop⟩ : ∃ op, x.f0 = op := ⟨_, rfl⟩
 unfold jacquardref16_changes.f jacquardref12_Makes.f jacquardref07_Makes.f jacquardref12_Spoils.f chP mkP spP
 rw [hop]
 by_cases h : 1 ≤ op ∧ op ≤ 31
 · rcases op_cases op h.1 h.2 with rfl | rfl | rfl | rfl | rfl | rfl | rfl | rfl | rfl | rfl | rfl | rfl | rfl | rfl | rfl | rfl | rfl | rfl | rfl | rfl | rfl | rfl | rfl | rfl | rfl | rfl | rfl | rfl | rfl | rfl | rfl <;>
    simp [rowOf, kt, tbl, upd]
 · rw [kt_out op h]
   have hk : ∀ j : Int, 1 ≤ j → j ≤ 31 → ¬ op = j := fun j h1 h2 e => h (by omega)
   by_cases h1 : op < 1
   · simp [rowOf, hk, h1]
   · have h3 : op > 31 := by omega
     simp [rowOf, hk, h1, h3]
theorem ch_len' (x : S35) : (chP x).length ≤ x.f7.length + 6 := by have := mk_len x; have := sp_len x; simp [chP]; omega
section
variable {d : De} {l : List S37}
end
end Go.Proofs.Ytocndmielggnpaa.PAll
end
