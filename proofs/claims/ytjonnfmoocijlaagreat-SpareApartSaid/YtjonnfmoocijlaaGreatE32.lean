/- Texts of a claim, packed. -/
import Derived.Test.YtjonnfmoocijlaaGreatE31
set_option linter.all false
namespace Go.Proofs.YtjonnfmoocijlaaGreat.P
open Go.RowKit Go.Proofs.YtjonnfmoocijlaaGreatKW.PrintWords
theorem Md (p q : Ih) : Es p q = Es q p := by
 unfold Es
 rw [Bool.eq_iff_iff]
 simp only [Bool.and_eq_true,beq_iff_eq]
 omega
theorem M5 (D : List Int) : D.Nodup ↔ ∀ a,a < D.length → 0 ≤ a → ∀ b,b < a → D.getD a 0 ≠ D.getD b 0 := by
  rw [List.nodup_iff_pairwise_ne,List.pairwise_iff_getElem]
  constructor
  · intro h a ha _ b hb e
    rw [getD_at _ _ _ ha,getD_at _ _ _ (by omega)] at e
    exact h b a (by omega) ha hb e.symm
  · intro h i j hi hj hij e
    have := h j hj (by omega) i hij
    rw [getD_at _ _ _ hj,getD_at _ _ _ hi] at this
    exact this e.symm
theorem OA (L : List (List Int)) (w n r : Nat) (ms : List Mv) (g : Int) (i : Nat) (hi : i < w) : (Av L w n r ms g).getD i 0 = (BN L w n r ms g (i : Int)).1 := by
 rw [getD_at _ _ _ (by simp [Av];exact hi)]
 simp [Av]
section
variable {d : Int} {L : List (List Int)} {w n r : Nat} {T S : Int} (H : Lo d L w n r T S)
include H
theorem Lo.a2X (ms : List Mv) (hl : ms.length ≤ 1000) : Ev (fun k => yl.f k d L T S ms) (decide (VM d L w n r T S ms)) := by
  have hr := H.tr
  have hs1 := H.s1
  have Yn := H.ok.w1
  have hl4 : ∀ (j : Nat) (g : Int) (h0 : 0 ≤ g) (h1 : g < T * n) (a : Nat) (ha : a < w) (rc : Bool),Ev (fun k => yl.l3 k ms (j : Int) g ((a + 1 : Nat) : Int) d L T S) rc →
      ∀ t b : Nat,a - b = t → b ≤ a → Ev (fun k => yl.l4 k ms (j : Int) g (a : Int) (b : Int) d L T S) (if ∀ q,q < a → b ≤ q → (Av L w n r ms g).getD a 0 ≠ (Av L w n r ms g).getD q 0 then rc else false) := by
    intro j g h0 h1 a ha rc hrc t
    induction t with
    | zero =>
      intro b ht hb
      refine evs (fun k => by rw [yl.l4]) (BF (by omega) ?_)
      rw [if_pos (fun q h1 h2 => by omega),ww (by omega) (by omega),show (a : Int) + 1 = ((a + 1 : Nat) : Int) by omega]
      exact hrc
    | succ t ih =>
      intro b ht hb
      refine evs (fun k => by rw [yl.l4]) (AA (by omega) (Ep (H.Q0 ms hl g (a : Int) h0 h1 (by omega) (by omega)) (Ep (H.Q0 ms hl g (b : Int) h0 h1 (by omega) (by omega)) ?_)))
      rw [← OA L w n r ms g a ha,← OA L w n r ms g b (by omega)]
      by_cases c : (Av L w n r ms g).getD a 0 = (Av L w n r ms g).getD b 0
      · refine AA c (Hw ?_)
        rw [if_neg (fun h => h b (by omega) (Nat.le_refl _) c)]
      · refine BF c ?_
        rw [ww (by omega) (by omega),show (b : Int) + 1 = ((b + 1 : Nat) : Int) by omega]
        have := ih (b + 1) (by omega) (by omega)
        by_cases c1 : ∀ q,q < a → b + 1 ≤ q → (Av L w n r ms g).getD a 0 ≠ (Av L w n r ms g).getD q 0
        · rw [if_pos c1] at this
          rw [if_pos (fun q h1 h2 => (Nat.eq_or_lt_of_le h2).elim (fun e => e ▸ c) (fun h3 => c1 q h1 h3))]
          exact this
        · rw [if_neg c1] at this
          rw [if_neg (fun h => c1 fun q h1 h2 => h q h1 (by omega))]
          exact this
  have hl3 : ∀ (j : Nat) (g : Int) (h0 : 0 ≤ g) (h1 : g < T * n) (rc : Bool),Ev (fun k => yl.l2 k ms (wrap64 ((j : Int) + 1)) d L T S) rc →
      ∀ t a : Nat,w - a = t → a ≤ w → Ev (fun k => yl.l3 k ms (j : Int) g (a : Int) d L T S) (if ∀ p,p < (Av L w n r ms g).length → a ≤ p → ∀ q,q < p → (Av L w n r ms g).getD p 0 ≠ (Av L w n r ms g).getD q 0 then rc else false) := by
    intro j g h0 h1 rc hrc t
    have hlen : (Av L w n r ms g).length = w := by simp [Av]
    rw [hlen]
    induction t with
    | zero =>
      intro a ht ha
      refine evs (fun k => by rw [yl.l3]) (GZ H.Gg (BF (show ¬ (a : Int) < (w : Int) by omega) ?_))
      rw [if_pos (fun p h1 h2 => by omega)]
      exact hrc
    | succ t ih =>
      intro a ht ha
      refine evs (fun k => by rw [yl.l3]) (GZ H.Gg (AA (show (a : Int) < (w : Int) by omega) ?_))
      have := hl4 j g h0 h1 a (by omega) _ (ih (a + 1) (by omega) (by omega)) _ 0 rfl (Nat.zero_le _)
      rw [show (if ∀ p,p < w → a ≤ p → ∀ q,q < p → (Av L w n r ms g).getD p 0 ≠ (Av L w n r ms g).getD q 0 then rc else false) = (if ∀ q,q < a → 0 ≤ q → (Av L w n r ms g).getD a 0 ≠ (Av L w n r ms g).getD q 0 then (if ∀ p,p < w → a + 1 ≤ p → ∀ q,q < p → (Av L w n r ms g).getD p 0 ≠ (Av L w n r ms g).getD q 0 then rc else false) else false) from ?_]
      · exact this
      · by_cases c1 : ∀ q,q < a → 0 ≤ q → (Av L w n r ms g).getD a 0 ≠ (Av L w n r ms g).getD q 0
        · rw [if_pos c1]
          by_cases c2 : ∀ p,p < w → a + 1 ≤ p → ∀ q,q < p → (Av L w n r ms g).getD p 0 ≠ (Av L w n r ms g).getD q 0
          · rw [if_pos c2,if_pos]
            intro p h3 h2 q h4
            rcases Nat.eq_or_lt_of_le h2 with rfl | h5
            · exact c1 q h4 (Nat.zero_le _)
            · exact c2 p h3 h5 q h4
          · rw [if_neg c2,if_neg (fun h => c2 fun p h2 h3 => h p h2 (by omega))]
        · rw [if_neg c1,if_neg (fun h => c1 fun q h2 _ => h a (by omega) (Nat.le_refl _) q h2)]
  have hl2 : ∀ t j : Nat,ms.length - j = t → j ≤ ms.length → Q7 w (T * n) ms → Ev (fun k => yl.l2 k ms (j : Int) d L T S) (decide (∀ m ∈ ms.drop j,(Av L w n r ms m.f0).Nodup)) := by
    intro t
    induction t with
    | zero =>
      intro j ht hj hin
      refine evs (fun k => by rw [yl.l2]) (BF (by omega) (Hw ?_))
      rw [List.drop_of_length_le (by omega)]
      simp
    | succ t ih =>
      intro j ht hj hin
      have hlt : j < ms.length := by omega
      have hm := hin _ (List.getElem_mem hlt)
      refine evs (fun k => by rw [yl.l2]) (AA (by omega) (AA (by omega) ?_))
      rw [G5 ms j hlt]
      have h1 := ih (j + 1) (by omega) (by omega) hin
      have := hl3 j ms[j].f0 hm.1 hm.2.1 _ (by rw [ww (by omega) (by omega),show (j : Int) + 1 = ((j + 1 : Nat) : Int) by omega];exact h1) _ 0 rfl (Nat.zero_le _)
      rw [List.drop_eq_getElem_cons hlt]
      split at this
      · rename_i hc
        refine Eq.subst (motive := fun x => Ev _ x) (decide_eq_decide.2 ?_) this
        exact ⟨fun h m hm => (List.mem_cons.1 hm).elim (fun e => e ▸ (M5 _).2 hc) (h m),fun h m hm => h m (List.mem_cons_of_mem _ hm)⟩
      · rename_i hc
        rw [decide_eq_false (fun h => hc ((M5 _).1 (h _ (List.mem_cons_self ..))))]
        exact this
  have hl0 : ∀ t j : Nat,ms.length - j = t → j ≤ ms.length → (∀ i,i < j → Hf d w (T * n) (T * r) (T * r + S) ms i) → Ev (fun k => yl.l0 k ms (j : Int) d L T S) (decide (VM d L w n r T S ms)) := by
    intro t
    induction t with
    | zero =>
      intro j ht hj ha
      refine evs (fun k => by rw [yl.l0]) (BF (by omega) ?_)
      have ha' : DY d w (T * n) (T * r) (T * r + S) ms 0 := fun i h1 _ => ha i (by omega)
      have := hl2 _ 0 rfl (Nat.zero_le _) ha'.OM
      rw [List.drop_zero] at this
      rw [show decide (VM d L w n r T S ms) = decide (∀ m : Mv,m ∈ ms → (Av L w n r ms m.f0).Nodup) from ?_]
      · exact this
      · rw [decide_eq_decide]
        exact ⟨fun h => h.2,fun h => ⟨ha',h⟩⟩
    | succ t ih =>
      intro j ht hj ha
      have hlt : j < ms.length := by omega
      have hgd := getD_at ms z60 j hlt
      have hbad : ¬ Hf d w (T * n) (T * r) (T * r + S) ms j → decide (VM d L w n r T S ms) = false := fun hb => decide_eq_false fun h => hb (h.1 j hlt (Nat.zero_le _))
      have hl1 : (Hf d w (T * n) (T * r) (T * r + S) ms j ↔ ∀ x ∈ ms.take j,Es ms[j].f2 x.f2 = false) → ∀ t q : Nat,j - q = t → q ≤ j → (∀ x ∈ ms.take q,Es ms[j].f2 x.f2 = false) → Ev (fun k => yl.l1 k ms (j : Int) (q : Int) d L T S ms[j].f0 ms[j].f1 ms[j].f2.f0 ms[j].f2.f1) (decide (VM d L w n r T S ms)) := by
        intro hiff t
        induction t with
        | zero =>
          intro q ht hq hall
          obtain rfl : q = j := by omega
          refine evs (fun k => by rw [yl.l1]) (BF (by omega) ?_)
          rw [ww (by omega) (by omega),show (q : Int) + 1 = ((q + 1 : Nat) : Int) by omega]
          refine ih (q + 1) (by omega) (by omega) fun i hi => ?_
          rcases Nat.lt_or_ge i q with h3 | h3
          · exact ha i h3
          · obtain rfl : i = q := by omega
            exact hiff.2 hall
        | succ t ih2 =>
          intro q ht hq hall
          have hq' : q < ms.length := by omega
          refine evs (fun k => by rw [yl.l1]) (AA (by omega) (AA (by omega) (AA (by omega) ?_)))
          rw [G5 ms q hq']
          by_cases c : Es ms[j].f2 ms[q].f2 = true
          · refine AA (by rw [Md] at c;exact c) (Hw (hbad fun h => ?_).symm)
            have := hiff.1 h ms[q] (by rw [List.mem_take_iff_getElem];exact ⟨q,by omega,rfl⟩)
            rw [c] at this
            cases this
          · refine BF (by rw [Md] at c;exact c) ?_
            rw [ww (by omega) (by omega),show (q : Int) + 1 = ((q + 1 : Nat) : Int) by omega]
            refine ih2 (q + 1) (by omega) (by omega) fun x hx => ?_
            rw [List.take_succ_eq_append_getElem hq',List.mem_append,List.mem_singleton] at hx
            rcases hx with hx | rfl
            · exact hall x hx
            · exact Bool.eq_false_iff.2 c
      have hj2 : ∀ bb : Bool,(bb = true → ¬ Hf d w (T * n) (T * r) (T * r + S) ms j) → (bb = false → (Hf d w (T * n) (T * r) (T * r + S) ms j ↔ ∀ x ∈ ms.take j,Es ms[j].f2 x.f2 = false)) → Ev (fun k => yl.j2 k ms (j : Int) bb d L T S ms[j].f0 ms[j].f1 ms[j].f2.f0 ms[j].f2.f1) (decide (VM d L w n r T S ms)) := by
        intro bb h1 h2
        refine evs (fun k => by rw [yl.j2]) ?_
        cases bb with
        | true => exact AA rfl (Hw (hbad (h1 rfl)).symm)
        | false => exact BF (by decide) (hl1 (h2 rfl) _ 0 rfl (Nat.zero_le _) (by simp))
      have hj1 : ∀ bb : Bool,(bb = true → ¬ Hf d w (T * n) (T * r) (T * r + S) ms j) → (bb = false → (0 ≤ ms[j].f0 ∧ ms[j].f0 < T * n ∧ 0 ≤ ms[j].f1 ∧ ms[j].f1 < (w : Int)) ∧ (0 ≤ ms[j].f2.f0 ∧ ms[j].f2.f0 < d ∧ T * r ≤ ms[j].f2.f1 ∧ ms[j].f2.f1 < T * r + S)) →
          Ev (fun k => yl.j1 k ms (j : Int) bb d L T S ms[j].f0 ms[j].f1 ms[j].f2.f0 ms[j].f2.f1) (decide (VM d L w n r T S ms)) := by
        intro bb h1 h2
        refine evs (fun k => by rw [yl.j1]) ?_
        cases bb with
        | true => exact AA rfl (Hw (hbad (h1 rfl)).symm)
        | false =>
          obtain ⟨k1,k2⟩ := h2 rfl
          refine BF (by decide) ?_
          rcases Nat.eq_zero_or_pos j with hz | hz
          · refine BF (by omega) (hj2 false (by simp) fun _ => ?_)
            unfold Hf
            simp only [hgd]
            exact ⟨fun h => h.2.2.2,fun h => ⟨k1,fun h => by omega,k2,h⟩⟩
          · refine AA (by omega) ?_
            rw [ww (x := (j : Int) - 1) (by omega) (by omega),show (j : Int) - 1 = ((j - 1 : Nat) : Int) by omega]
            refine AA (by omega) (AA (by omega) ?_)
            rw [G5 ms (j - 1) (by omega)]
            have hgd' := getD_at ms z60 (j - 1) (by omega)
            have hno : ¬ Ahead ms[j - 1] ms[j].f0 ms[j].f1 → ¬ Hf d w (T * n) (T * r) (T * r + S) ms j := fun h1 h2 => by
              have := h2.2.1 hz
              rw [hgd,hgd'] at this
              exact h1 this
            have hyes : Ahead ms[j - 1] ms[j].f0 ms[j].f1 → (Hf d w (T * n) (T * r) (T * r + S) ms j ↔ ∀ x ∈ ms.take j,Es ms[j].f2 x.f2 = false) := fun h1 => by
              unfold Hf
              simp only [hgd,hgd']
              exact ⟨fun h => h.2.2.2,fun h => ⟨k1,fun _ => h1,k2,h⟩⟩
            by_cases c1 : ms[j - 1].f0 > ms[j].f0
            · exact AA c1 (hj2 true (fun _ => hno (by unfold Ahead;omega)) (by simp))
            refine BF c1 ?_
            by_cases c2 : ms[j - 1].f0 = ms[j].f0
            · refine AA c2 (hj2 _ (fun hb => hno ?_) fun hb => hyes ?_)
              · have := of_decide_eq_true hb
                unfold Ahead
                omega
              · have := of_decide_eq_false hb
                unfold Ahead
                omega
            · exact BF c2 (hj2 false (by simp) fun _ => hyes (by unfold Ahead;omega))
      refine evs (fun k => by rw [yl.l0]) (AA (by omega) (AA (by omega) (GZ (H.is _ _) ?_)))
      rw [G5 ms j hlt]
      by_cases c : 0 ≤ ms[j].f0 ∧ ms[j].f0 < T * n ∧ 0 ≤ ms[j].f1 ∧ ms[j].f1 < (w : Int)
      · rw [decide_eq_true c]
        refine AA rfl ?_
        have hno : ¬ (0 ≤ ms[j].f2.f0 ∧ ms[j].f2.f0 < d ∧ T * r ≤ ms[j].f2.f1 ∧ ms[j].f2.f1 < T * r + S) → ¬ Hf d w (T * n) (T * r) (T * r + S) ms j := fun h1 h2 => by
          have := h2.2.2.1
          rw [hgd] at this
          exact h1 this
        by_cases c1 : ms[j].f2.f0 < 0
        · exact AA c1 (hj1 true (fun _ => hno (by omega)) (by simp))
        refine BF c1 ?_
        by_cases c2 : ms[j].f2.f0 ≥ d
        · exact AA c2 (hj1 true (fun _ => hno (by omega)) (by simp))
        refine BF c2 (GZ H.homes ?_)
        by_cases c3 : ms[j].f2.f1 < T * r
        · exact AA c3 (hj1 true (fun _ => hno (by omega)) (by simp))
        refine BF c3 (GZ H.blocks ?_)
        refine hj1 _ (fun hb => hno ?_) fun hb => ⟨c,?_⟩
        · have := of_decide_eq_true hb
          omega
        · have := of_decide_eq_false hb
          omega
      · rw [decide_eq_false c]
        refine BF (by decide) (hj1 true (fun _ h => c ?_) (by simp))
        have := h.1
        rwa [hgd] at this
  unfold yl.f
  refine Ep H.valid (AA rfl ?_)
  have := hl0 _ 0 rfl (Nat.zero_le _) (fun i hi => by omega)
  exact this
end
end Go.Proofs.YtjonnfmoocijlaaGreat.P
