/- Texts of a claim, packed. -/
import Derived.Test.YtjonnfmoocijlaaD29
import Derived.Test.YtjonnfmoocijlaaD30
set_option linter.all false
namespace Go.Proofs.Ytjonnfmoocijlaa.P
open Go.RowKit Go.Proofs.YtjonnfmoocijlaaKW.PrintWords
theorem Kt (p q : KR) : DW p q = DW q p := by
 unfold DW
 rw [Bool.eq_iff_iff]
 simp only [Bool.and_eq_true, beq_iff_eq]
 omega
theorem Ku (D : List Int) : D.Nodup ↔ ∀ a, a < D.length → 0 ≤ a → ∀ b, b < a → D.getD a 0 ≠ D.getD b 0 := by
  rw [List.nodup_iff_pairwise_ne, List.pairwise_iff_getElem]
  constructor
  · intro h a ha _ b hb e
    rw [getD_at _ _ _ ha, getD_at _ _ _ (by omega)] at e
    exact h b a (by omega) ha hb e.symm
  · intro h i j hi hj hij e
    have := h j hj (by omega) i hij
    rw [getD_at _ _ _ hj, getD_at _ _ _ hi] at this
    exact this e.symm
theorem Nn (L : List (List Int)) (w n r : Nat) (ms : List Mv) (g : Int) (i : Nat) (hi : i < w) : (Aw L w n r ms g).getD i 0 = (Ed L w n r ms g (i : Int)).1 := by
 rw [getD_at _ _ _ (by simp [Aw]; exact hi)]
 simp [Aw]
section
variable {d : Int} {L : List (List Int)} {w n r : Nat} {T S : Int} (H : Lo d L w n r T S)
include H
theorem Lo.a09 (ms : List Mv) (hl : ms.length ≤ 1000) : Ev (fun k => yj.f k d L T S ms) (decide (VM d L w n r T S ms)) := by
  have hr := H.tr
  have hs1 := H.s1
  have hw5 := H.ok.w1
  have hl4 : ∀ (j : Nat) (g : Int) (h0 : 0 ≤ g) (h1 : g < T * n) (a : Nat) (ha : a < w) (rc : Bool), Ev (fun k => yj.l3 k ms (j : Int) g ((a + 1 : Nat) : Int) d L T S) rc →
      ∀ t b : Nat, a - b = t → b ≤ a → Ev (fun k => yj.l4 k ms (j : Int) g (a : Int) (b : Int) d L T S) (if ∀ q, q < a → b ≤ q → (Aw L w n r ms g).getD a 0 ≠ (Aw L w n r ms g).getD q 0 then rc else false) := by
    intro j g h0 h1 a ha rc hrc t
    induction t with
    | zero =>
      intro b ht hb
      refine evs (fun k => by rw [yj.l4]) (C8 (by omega) ?_)
      rw [if_pos (fun q h1 h2 => by omega), ww (by omega) (by omega), show (a : Int) + 1 = ((a + 1 : Nat) : Int) by omega]
      exact hrc
    | succ t ih =>
      intro b ht hb
      refine evs (fun k => by rw [yj.l4]) (AP (by omega) (DL (H.Vo ms hl g (a : Int) h0 h1 (by omega) (by omega)) (DL (H.Vo ms hl g (b : Int) h0 h1 (by omega) (by omega)) ?_)))
      rw [← Nn L w n r ms g a ha, ← Nn L w n r ms g b (by omega)]
      by_cases c : (Aw L w n r ms g).getD a 0 = (Aw L w n r ms g).getD b 0
      · refine AP c (GX ?_)
        rw [if_neg (fun h => h b (by omega) (Nat.le_refl _) c)]
      · refine C8 c ?_
        rw [ww (by omega) (by omega), show (b : Int) + 1 = ((b + 1 : Nat) : Int) by omega]
        have := ih (b + 1) (by omega) (by omega)
        by_cases c1 : ∀ q, q < a → b + 1 ≤ q → (Aw L w n r ms g).getD a 0 ≠ (Aw L w n r ms g).getD q 0
        · rw [if_pos c1] at this
          rw [if_pos (fun q h1 h2 => (Nat.eq_or_lt_of_le h2).elim (fun e => e ▸ c) (fun h3 => c1 q h1 h3))]
          exact this
        · rw [if_neg c1] at this
          rw [if_neg (fun h => c1 fun q h1 h2 => h q h1 (by omega))]
          exact this
  have hl3 : ∀ (j : Nat) (g : Int) (h0 : 0 ≤ g) (h1 : g < T * n) (rc : Bool), Ev (fun k => yj.l2 k ms (wrap64 ((j : Int) + 1)) d L T S) rc →
      ∀ t a : Nat, w - a = t → a ≤ w → Ev (fun k => yj.l3 k ms (j : Int) g (a : Int) d L T S) (if ∀ p, p < (Aw L w n r ms g).length → a ≤ p → ∀ q, q < p → (Aw L w n r ms g).getD p 0 ≠ (Aw L w n r ms g).getD q 0 then rc else false) := by
    intro j g h0 h1 rc hrc t
    have hlen : (Aw L w n r ms g).length = w := by simp [Aw]
    rw [hlen]
    induction t with
    | zero =>
      intro a ht ha
      refine evs (fun k => by rw [yj.l3]) (Kv H.QD (C8 (show ¬ (a : Int) < (w : Int) by omega) ?_))
      rw [if_pos (fun p h1 h2 => by omega)]
      exact hrc
    | succ t ih =>
      intro a ht ha
      refine evs (fun k => by rw [yj.l3]) (Kv H.QD (AP (show (a : Int) < (w : Int) by omega) ?_))
      have := hl4 j g h0 h1 a (by omega) _ (ih (a + 1) (by omega) (by omega)) _ 0 rfl (Nat.zero_le _)
      rw [show (if ∀ p, p < w → a ≤ p → ∀ q, q < p → (Aw L w n r ms g).getD p 0 ≠ (Aw L w n r ms g).getD q 0 then rc else false) = (if ∀ q, q < a → 0 ≤ q → (Aw L w n r ms g).getD a 0 ≠ (Aw L w n r ms g).getD q 0 then (if ∀ p, p < w → a + 1 ≤ p → ∀ q, q < p → (Aw L w n r ms g).getD p 0 ≠ (Aw L w n r ms g).getD q 0 then rc else false) else false) from ?_]
      · exact this
      · by_cases c1 : ∀ q, q < a → 0 ≤ q → (Aw L w n r ms g).getD a 0 ≠ (Aw L w n r ms g).getD q 0
        · rw [if_pos c1]
          by_cases c2 : ∀ p, p < w → a + 1 ≤ p → ∀ q, q < p → (Aw L w n r ms g).getD p 0 ≠ (Aw L w n r ms g).getD q 0
          · rw [if_pos c2, if_pos]
            intro p h3 h2 q h4
            rcases Nat.eq_or_lt_of_le h2 with rfl | h5
            · exact c1 q h4 (Nat.zero_le _)
            · exact c2 p h3 h5 q h4
          · rw [if_neg c2, if_neg (fun h => c2 fun p h2 h3 => h p h2 (by omega))]
        · rw [if_neg c1, if_neg (fun h => c1 fun q h2 _ => h a (by omega) (Nat.le_refl _) q h2)]
  have hl2 : ∀ t j : Nat, ms.length - j = t → j ≤ ms.length → Ph w (T * n) ms → Ev (fun k => yj.l2 k ms (j : Int) d L T S) (decide (∀ m ∈ ms.drop j, (Aw L w n r ms m.f0).Nodup)) := by
    intro t
    induction t with
    | zero =>
      intro j ht hj hin
      refine evs (fun k => by rw [yj.l2]) (C8 (by omega) (GX ?_))
      rw [List.drop_of_length_le (by omega)]
      simp
    | succ t ih =>
      intro j ht hj hin
      have hlt : j < ms.length := by omega
      have hm := hin _ (List.getElem_mem hlt)
      refine evs (fun k => by rw [yj.l2]) (AP (by omega) (AP (by omega) ?_))
      rw [FO ms j hlt]
      have h1 := ih (j + 1) (by omega) (by omega) hin
      have := hl3 j ms[j].f0 hm.1 hm.2.1 _ (by rw [ww (by omega) (by omega), show (j : Int) + 1 = ((j + 1 : Nat) : Int) by omega]; exact h1) _ 0 rfl (Nat.zero_le _)
      rw [List.drop_eq_getElem_cons hlt]
      split at this
      · rename_i hc
        refine Eq.subst (motive := fun x => Ev _ x) (decide_eq_decide.2 ?_) this
        exact ⟨fun h m hm => (List.mem_cons.1 hm).elim (fun e => e ▸ (Ku _).2 hc) (h m), fun h m hm => h m (List.mem_cons_of_mem _ hm)⟩
      · rename_i hc
        rw [decide_eq_false (fun h => hc ((Ku _).1 (h _ (List.mem_cons_self ..))))]
        exact this
  have hl0 : ∀ t j : Nat, ms.length - j = t → j ≤ ms.length → (∀ i, i < j → Gp d w (T * n) (T * r) (T * r + S) ms i) → Ev (fun k => yj.l0 k ms (j : Int) d L T S) (decide (VM d L w n r T S ms)) := by
    intro t
    induction t with
    | zero =>
      intro j ht hj ha
      refine evs (fun k => by rw [yj.l0]) (C8 (by omega) ?_)
      have ha' : Dm d w (T * n) (T * r) (T * r + S) ms 0 := fun i h1 _ => ha i (by omega)
      have := hl2 _ 0 rfl (Nat.zero_le _) ha'.Pn
      rw [List.drop_zero] at this
      rw [show decide (VM d L w n r T S ms) = decide (∀ m : Mv, m ∈ ms → (Aw L w n r ms m.f0).Nodup) from ?_]
      · exact this
      · rw [decide_eq_decide]
        exact ⟨fun h => h.2, fun h => ⟨ha', h⟩⟩
    | succ t ih =>
      intro j ht hj ha
      have hlt : j < ms.length := by omega
      have hgd := getD_at ms z47 j hlt
      have hbad : ¬ Gp d w (T * n) (T * r) (T * r + S) ms j → decide (VM d L w n r T S ms) = false := fun hb => decide_eq_false fun h => hb (h.1 j hlt (Nat.zero_le _))
      have hl1 : (Gp d w (T * n) (T * r) (T * r + S) ms j ↔ ∀ x ∈ ms.take j, DW ms[j].f2 x.f2 = false) → ∀ t q : Nat, j - q = t → q ≤ j → (∀ x ∈ ms.take q, DW ms[j].f2 x.f2 = false) → Ev (fun k => yj.l1 k ms (j : Int) (q : Int) d L T S ms[j].f0 ms[j].f1 ms[j].f2.f0 ms[j].f2.f1) (decide (VM d L w n r T S ms)) := by
        intro hiff t
        induction t with
        | zero =>
          intro q ht hq hall
          obtain rfl : q = j := by omega
          refine evs (fun k => by rw [yj.l1]) (C8 (by omega) ?_)
          rw [ww (by omega) (by omega), show (q : Int) + 1 = ((q + 1 : Nat) : Int) by omega]
          refine ih (q + 1) (by omega) (by omega) fun i hi => ?_
          rcases Nat.lt_or_ge i q with h3 | h3
          · exact ha i h3
          · obtain rfl : i = q := by omega
            exact hiff.2 hall
        | succ t ih2 =>
          intro q ht hq hall
          have hq' : q < ms.length := by omega
          refine evs (fun k => by rw [yj.l1]) (AP (by omega) (AP (by omega) (AP (by omega) ?_)))
          rw [FO ms q hq']
          by_cases c : DW ms[j].f2 ms[q].f2 = true
          · refine AP (by rw [Kt] at c; exact c) (GX (hbad fun h => ?_).symm)
            have := hiff.1 h ms[q] (by rw [List.mem_take_iff_getElem]; exact ⟨q, by omega, rfl⟩)
            rw [c] at this
            cases this
          · refine C8 (by rw [Kt] at c; exact c) ?_
            rw [ww (by omega) (by omega), show (q : Int) + 1 = ((q + 1 : Nat) : Int) by omega]
            refine ih2 (q + 1) (by omega) (by omega) fun x hx => ?_
            rw [List.take_succ_eq_append_getElem hq', List.mem_append, List.mem_singleton] at hx
            rcases hx with hx | rfl
            · exact hall x hx
            · exact Bool.eq_false_iff.2 c
      have hj2 : ∀ bb : Bool, (bb = true → ¬ Gp d w (T * n) (T * r) (T * r + S) ms j) → (bb = false → (Gp d w (T * n) (T * r) (T * r + S) ms j ↔ ∀ x ∈ ms.take j, DW ms[j].f2 x.f2 = false)) → Ev (fun k => yj.j2 k ms (j : Int) bb d L T S ms[j].f0 ms[j].f1 ms[j].f2.f0 ms[j].f2.f1) (decide (VM d L w n r T S ms)) := by
        intro bb h1 h2
        refine evs (fun k => by rw [yj.j2]) ?_
        cases bb with
        | true => exact AP rfl (GX (hbad (h1 rfl)).symm)
        | false => exact C8 (by decide) (hl1 (h2 rfl) _ 0 rfl (Nat.zero_le _) (by simp))
      have hj1 : ∀ bb : Bool, (bb = true → ¬ Gp d w (T * n) (T * r) (T * r + S) ms j) → (bb = false → (0 ≤ ms[j].f0 ∧ ms[j].f0 < T * n ∧ 0 ≤ ms[j].f1 ∧ ms[j].f1 < (w : Int)) ∧ (0 ≤ ms[j].f2.f0 ∧ ms[j].f2.f0 < d ∧ T * r ≤ ms[j].f2.f1 ∧ ms[j].f2.f1 < T * r + S)) →
          Ev (fun k => yj.j1 k ms (j : Int) bb d L T S ms[j].f0 ms[j].f1 ms[j].f2.f0 ms[j].f2.f1) (decide (VM d L w n r T S ms)) := by
        intro bb h1 h2
        refine evs (fun k => by rw [yj.j1]) ?_
        cases bb with
        | true => exact AP rfl (GX (hbad (h1 rfl)).symm)
        | false =>
          obtain ⟨k1, k2⟩ := h2 rfl
          refine C8 (by decide) ?_
          rcases Nat.eq_zero_or_pos j with hz | hz
          · refine C8 (by omega) (hj2 false (by simp) fun _ => ?_)
            unfold Gp
            simp only [hgd]
            exact ⟨fun h => h.2.2.2, fun h => ⟨k1, fun h => by omega, k2, h⟩⟩
          · refine AP (by omega) ?_
            rw [ww (x := (j : Int) - 1) (by omega) (by omega), show (j : Int) - 1 = ((j - 1 : Nat) : Int) by omega]
            refine AP (by omega) (AP (by omega) ?_)
            rw [FO ms (j - 1) (by omega)]
            have hgd' := getD_at ms z47 (j - 1) (by omega)
            have hno : ¬ Ahead ms[j - 1] ms[j].f0 ms[j].f1 → ¬ Gp d w (T * n) (T * r) (T * r + S) ms j := fun h1 h2 => by
              have := h2.2.1 hz
              rw [hgd, hgd'] at this
              exact h1 this
            have hyes : Ahead ms[j - 1] ms[j].f0 ms[j].f1 → (Gp d w (T * n) (T * r) (T * r + S) ms j ↔ ∀ x ∈ ms.take j, DW ms[j].f2 x.f2 = false) := fun h1 => by
              unfold Gp
              simp only [hgd, hgd']
              exact ⟨fun h => h.2.2.2, fun h => ⟨k1, fun _ => h1, k2, h⟩⟩
            by_cases c1 : ms[j - 1].f0 > ms[j].f0
            · exact AP c1 (hj2 true (fun _ => hno (by unfold Ahead; omega)) (by simp))
            refine C8 c1 ?_
            by_cases c2 : ms[j - 1].f0 = ms[j].f0
            · refine AP c2 (hj2 _ (fun hb => hno ?_) fun hb => hyes ?_)
              · have := of_decide_eq_true hb
                unfold Ahead
                omega
              · have := of_decide_eq_false hb
                unfold Ahead
                omega
            · exact C8 c2 (hj2 false (by simp) fun _ => hyes (by unfold Ahead; omega))
      refine evs (fun k => by rw [yj.l0]) (AP (by omega) (AP (by omega) (Kv (H.is _ _) ?_)))
      rw [FO ms j hlt]
      by_cases c : 0 ≤ ms[j].f0 ∧ ms[j].f0 < T * n ∧ 0 ≤ ms[j].f1 ∧ ms[j].f1 < (w : Int)
      · rw [decide_eq_true c]
        refine AP rfl ?_
        have hno : ¬ (0 ≤ ms[j].f2.f0 ∧ ms[j].f2.f0 < d ∧ T * r ≤ ms[j].f2.f1 ∧ ms[j].f2.f1 < T * r + S) → ¬ Gp d w (T * n) (T * r) (T * r + S) ms j := fun h1 h2 => by
          have := h2.2.2.1
          rw [hgd] at this
          exact h1 this
        by_cases c1 : ms[j].f2.f0 < 0
        · exact AP c1 (hj1 true (fun _ => hno (by omega)) (by simp))
        refine C8 c1 ?_
        by_cases c2 : ms[j].f2.f0 ≥ d
        · exact AP c2 (hj1 true (fun _ => hno (by omega)) (by simp))
        refine C8 c2 (Kv H.homes ?_)
        by_cases c3 : ms[j].f2.f1 < T * r
        · exact AP c3 (hj1 true (fun _ => hno (by omega)) (by simp))
        refine C8 c3 (Kv H.blocks ?_)
        refine hj1 _ (fun hb => hno ?_) fun hb => ⟨c, ?_⟩
        · have := of_decide_eq_true hb
          omega
        · have := of_decide_eq_false hb
          omega
      · rw [decide_eq_false c]
        refine C8 (by decide) (hj1 true (fun _ h => c ?_) (by simp))
        have := h.1
        rwa [hgd] at this
  unfold yj.f
  refine DL H.valid (AP rfl ?_)
  have := hl0 _ 0 rfl (Nat.zero_le _) (fun i hi => by omega)
  exact this
end
def Behind (x m : Mv) : Bool := decide (x.f0 > m.f0) || (x.f0 == m.f0 && decide (x.f1 > m.f1))
def Dv (m : Mv) : List Mv → Bool → List Mv
 | [], put => if put then [] else [m]
 | x :: xs, put => if Gm m.f0 m.f1 x then Dv m xs put else if !put && Behind x m then m :: x :: Dv m xs true else x :: Dv m xs put
def FP (ms : List Mv) (m : Mv) : List Mv := Dv m ms (m.f2.f0 == -1)
theorem IW (m : Mv) : ∀ (ms : List Mv) (put : Bool), (Dv m ms put).length ≤ ms.length + (if put then 0 else 1)
  | [], put => by cases put <;> simp [Dv]
  | x :: xs, put => by
    unfold Dv
    have h1 := IW m xs put
    have h2 := IW m xs true
    split
    · simp only [List.length_cons]; omega
    · split
      · rename_i hc
        simp only [Bool.and_eq_true, Bool.not_eq_true'] at hc
        simp only [List.length_cons, hc.1, if_true] at h2 ⊢
        simp
        exact h2
      · simp only [List.length_cons]; omega
theorem Ty (ms : List Mv) (m : Mv) : (FP ms m).length ≤ ms.length + 1 := by
 have := IW m ms (m.f2.f0 == -1)
 unfold FP
 split at this <;> omega
section
variable {d : Int} {L : List (List Int)} {w n r : Nat} {T S : Int} (H : Lo d L w n r T S)
include H
def JP (d : Int) (L : List (List Int)) (w n r : Nat) (T S : Int) (ms : List Mv) (m : Mv) : List Mv × Int :=
 if 0 ≤ m.f0 ∧ m.f0 < T * n ∧ 0 ≤ m.f1 ∧ m.f1 < (w : Int) then
  if m.f2.f0 = -1 ∧ (FP ms m).length = ms.length then ([], 9) else if VM d L w n r T S (FP ms m) then (FP ms m, 0) else ([], 1)
 else ([], 2)
theorem Lo.QK : VM d L w n r T S [] := ⟨fun i h _ => by simp at h, fun m hm => by simp at hm⟩
end
theorem GR {x m : Mv} : Behind x m = true ↔ (x.f0 > m.f0 ∨ x.f0 = m.f0 ∧ x.f1 > m.f1) := by simp [Behind]
theorem LZ {x m : Mv} (h : Behind x m = true) : Gm m.f0 m.f1 x = false := by
 rw [GR] at h
 rw [Bool.eq_false_iff]
 intro h2
 rw [De] at h2
 omega
theorem FI {x m : Mv} (h : Ahead x m.f0 m.f1) : Gm m.f0 m.f1 x = false ∧ Behind x m = false := by
  unfold Ahead at h
  constructor
  · rw [Bool.eq_false_iff]
    intro h2
    rw [De] at h2
    omega
  · rw [Bool.eq_false_iff]
    intro h2
    rw [GR] at h2
    omega
theorem Tz {x m : Mv} (h : ¬ Ahead x m.f0 m.f1) (h2 : Gm m.f0 m.f1 x = false) : Behind x m = true := by
 have h3 : ¬ (x.f0 = m.f0 ∧ x.f1 = m.f1) := fun h4 => by rw [De.2 h4] at h2; cases h2
 unfold Ahead at h
 rw [GR]
 omega
theorem Gf {x m : Mv} {xs : List Mv} (hs : Sorted (x :: xs)) (h : ¬ Ahead x m.f0 m.f1) : ∀ y ∈ xs, Behind y m = true := by
 intro y hy
 have := (List.pairwise_cons.1 hs).1 y hy
 unfold Ahead at this h
 rw [GR]
 omega
theorem F5 (m : Mv) (ms : List Mv) (hb : ∀ x ∈ ms, Behind x m = true) : Dv m ms true = ms ∧ Dv m ms false = m :: ms := by
  induction ms with
  | nil => exact ⟨rfl, rfl⟩
  | cons x xs ih =>
    have h1 := hb x (List.mem_cons_self ..)
    have h2 := ih fun y hy => hb y (List.mem_cons_of_mem _ hy)
    constructor
    · unfold Dv
      rw [if_neg (by rw [LZ h1]; decide), if_neg (by simp), h2.1]
    · unfold Dv
      rw [if_neg (by rw [LZ h1]; decide), if_pos (by rw [h1]; rfl), h2.1]
theorem Et {x : Mv} {xs : List Mv} {g i : Int} (h : Ahead x g i) : DI (x :: xs) g i = DI xs g i + 1 := by
 unfold DI
 rw [List.takeWhile_cons_of_pos (by simpa using h), List.length_cons]
theorem F6 {x : Mv} {xs : List Mv} {g i : Int} (h : ¬ Ahead x g i) : DI (x :: xs) g i = 0 := by
 unfold DI
 rw [List.takeWhile_cons_of_neg (by simpa using h), List.length_nil]
def DX (ms : List Mv) (g i : Int) : Bool := (ms.drop (DI ms g i)).head?.any (Gm g i)
theorem FD {x : Mv} {xs : List Mv} {g i : Int} (h : Ahead x g i) : DX (x :: xs) g i = DX xs g i := by
 unfold DX
 rw [Et h]
 rfl
theorem GU {x : Mv} {xs : List Mv} {g i : Int} (h : ¬ Ahead x g i) : DX (x :: xs) g i = Gm g i x := by
 unfold DX
 rw [F6 h]
 rfl
theorem Np {ms : List Mv} {g i : Int} (h : DX ms g i = true) : DI ms g i < ms.length := by
  unfold DX at h
  rcases Nat.lt_or_ge (DI ms g i) ms.length with h1 | h1
  · exact h1
  · rw [List.drop_of_length_le h1] at h
    cases h
theorem VO (m : Mv) (ms : List Mv) (hs : Sorted ms) (h : DX ms m.f0 m.f1 = true) : Dv m ms false = ms.set (DI ms m.f0 m.f1) m := by
  induction ms with
  | nil => cases h
  | cons x xs ih =>
    unfold Dv
    by_cases c : Ahead x m.f0 m.f1
    · rw [FD c] at h
      rw [Et c, if_neg (by rw [(FI c).1]; decide), if_neg (by rw [(FI c).2]; decide), ih (List.pairwise_cons.1 hs).2 h, List.set_cons_succ]
    · rw [GU c] at h
      rw [F6 c, if_pos h, (F5 m xs (Gf hs c)).2, List.set_cons_zero]
theorem QL (m : Mv) (ms : List Mv) (hs : Sorted ms) (h : DX ms m.f0 m.f1 = true) : Dv m ms true = ms.eraseIdx (DI ms m.f0 m.f1) := by
  induction ms with
  | nil => cases h
  | cons x xs ih =>
    unfold Dv
    by_cases c : Ahead x m.f0 m.f1
    · rw [FD c] at h
      rw [Et c, if_neg (by rw [(FI c).1]; decide), if_neg (by simp), ih (List.pairwise_cons.1 hs).2 h, List.eraseIdx_cons_succ]
    · rw [GU c] at h
      rw [F6 c, if_pos h, (F5 m xs (Gf hs c)).1, List.eraseIdx_cons_zero]
theorem Pp (m : Mv) (ms : List Mv) (hs : Sorted ms) (h : DX ms m.f0 m.f1 = false) : Dv m ms false = ms.take (DI ms m.f0 m.f1) ++ m :: ms.drop (DI ms m.f0 m.f1) := by
  induction ms with
  | nil => rfl
  | cons x xs ih =>
    unfold Dv
    by_cases c : Ahead x m.f0 m.f1
    · rw [FD c] at h
      rw [Et c, if_neg (by rw [(FI c).1]; decide), if_neg (by rw [(FI c).2]; decide), ih (List.pairwise_cons.1 hs).2 h, List.take_succ_cons, List.drop_succ_cons]
      rfl
    · rw [GU c] at h
      rw [F6 c, if_neg (by rw [h]; decide), if_pos (by rw [Tz c h]; rfl), (F5 m xs (Gf hs c)).1]
      rfl
theorem TA (m : Mv) (ms : List Mv) (hs : Sorted ms) (h : DX ms m.f0 m.f1 = false) : Dv m ms true = ms := by
  induction ms with
  | nil => rfl
  | cons x xs ih =>
    unfold Dv
    by_cases c : Ahead x m.f0 m.f1
    · rw [FD c] at h
      rw [if_neg (by rw [(FI c).1]; decide), if_neg (by simp), ih (List.pairwise_cons.1 hs).2 h]
    · rw [GU c] at h
      rw [if_neg (by rw [h]; decide), if_neg (by simp), (F5 m xs (Gf hs c)).1]
section
variable {d : Int} {L : List (List Int)} {w n r : Nat} {T S : Int} (H : Lo d L w n r T S)
include H
theorem Lo.Pq (g : Int) (h0 : 0 ≤ g) (h1 : g < T * n) : ((List.range w).map fun i => (ER L w n r g.toNat i).1).Nodup := by
 obtain ⟨_, hl, hg⟩ := H.RO g h0 h1
 have hw5 := H.ok.w1
 have hnd : (L.getD (g.toNat % n) []).Nodup := by
  rw [getD_at _ _ _ hg]
  exact H.ok.nodup _ (List.getElem_mem hg)
 rw [List.nodup_iff_pairwise_ne, List.pairwise_iff_getElem] at hnd ⊢
 intro i j hi hj hij he
 simp only [List.length_map, List.length_range] at hi hj
 simp only [List.getElem_map, List.getElem_range] at he
 unfold ER at he
 simp only at he
 generalize g.toNat / n = t at he
 generalize L.getD (g.toNat % n) [] = row at he hl hnd
 have hi' : (i + t) % w < row.length := by rw [hl]; exact Nat.mod_lt _ (by omega)
 have hj' : (j + t) % w < row.length := by rw [hl]; exact Nat.mod_lt _ (by omega)
 have hne : (i + t) % w ≠ (j + t) % w := by
  rcases (show w = 4 ∨ w = 5 by omega) with e | e <;> subst e <;> omega
 rw [getD_at _ _ _ hi', getD_at _ _ _ hj'] at he
 rcases Nat.lt_or_ge ((i + t) % w) ((j + t) % w) with h2 | h2
 · exact hnd _ _ hi' hj' h2 he
 · exact hnd _ _ hj' hi' (by omega) he.symm
theorem Lo.QM (ms : List Mv) (g : Int) (h0 : 0 ≤ g) (hn : ∀ m ∈ ms, m.f0 ≠ g) : Aw L w n r ms g = (List.range w).map fun i => (ER L w n r g.toNat i).1 := by
  unfold Aw
  refine List.map_congr_left fun i hi => ?_
  unfold Ed
  rw [show ms.find? (Gm g (i : Int)) = none from ?_]
  · simp
  · rw [List.find?_eq_none]
    intro m hm h
    rw [De] at h
    exact hn m hm h.1
theorem Lo.Ps (ms : List Mv) (hv : VM d L w n r T S ms) (g : Int) (h0 : 0 ≤ g) (h1 : g < T * n) : (Aw L w n r ms g).Nodup := by
  by_cases c : ∃ m ∈ ms, m.f0 = g
  · obtain ⟨m, hm, rfl⟩ := c
    exact hv.2 m hm
  · rw [H.QM ms g h0 fun m hm he => c ⟨m, hm, he⟩]
    exact H.Pq g h0 h1
end
end Go.Proofs.Ytjonnfmoocijlaa.P
namespace Go.Proofs.Ytjonnfmoocijlaa.P
open Go.RowKit Go.Proofs.YtjonnfmoocijlaaKW.PrintWords Go.Proofs.YtjonnfmoocijlaaKW.PrintLast Go.Proofs.YtjonnfmoocijlaaKW.PrintMore
attribute [local go_sem] zz zA zS zT zn zo zB zC
def Ai.f (k : Nat) (yn : Int) (yg : List (List Int)) (yo : Int) (yt : Int) (l1 : List (AY)) : Option (Bool) := (yL.f k yn yg yo yt l1).bind fun VP => (some VP.2.2.2.2.2.2.2)
theorem Ai.mono : ∀ a0 a1 a2 a3 a4 k, zZ (Ai.f k a0 a1 a2 a3 a4) (Ai.f (k + 1) a0 a1 a2 a3 a4) := by
 intro a0 a1 a2 a3 a4 k
 unfold Ai.f
 repeat' first
  | exact yL.mono _ _ _ _ _ _
  | exact zZ.refl _
  | exact zZ.none _
  | refine zZ.ite ?_ ?_
  | refine zZ.bind ?_ (fun _ => ?_)
set_option maxHeartbeats 8000000 in
set_option maxRecDepth 100000 in
theorem Ai.calls (k : Nat) (yn : Int) (yP : Option Addr) (yI : Nat) (yg : List (List Int)) (yo : Int) (yt : Int) (A1 : Option Addr) (c1 : Nat) (l1 : List (AY)) (r : Bool) (w : World) (zR : Kd.C (Kd.slice 3 (Kd.int .i64)) w yP yg.length yg) (zU : yg.length ≤ yI) (hr1 : Kd.C Dy w A1 l1.length l1) (hc1 : l1.length ≤ c1) (h : Ai.f k yn yg yo yt l1 = some r) :
  Calls Try.prog 25 #[.agg #[.int .i64 yn, .slice yP yg.length yI, .int .i64 yo, .int .i64 yt], .slice A1 l1.length c1] w fun e w' => e = .returned (.bool r) ∧ Below w.heap.size w w' := by
 have FB := Try.underlying31;have KF := Try.underlying71;have zq := yf.mk zR;have zG := yf.mk zU;clear zR zU;have HR1 := yf.mk hr1;have Gd := yf.mk hc1;clear hr1 hc1;have HB := yf.mk (Below.refl w.heap.size w)
 have H : ((yL.f k yn yg yo yt l1).bind fun VP => (some VP.2.2.2.2.2.2.2)) = some r := h
 clear h;obtain ⟨⟨ax, az, ay, aC, aD, aA, ak, aG⟩, A3, H⟩ := bE H
 try dsimp only at H
 obtain rfl := Option.some.inj H
 go_enter Try.func25, Try.ntmps25
 go_wp2_with (first | ((with_reducible refine yK (N := 2) rfl ?_); refine yE rfl (N := 2) rfl (cs := #[.int .i64 yn, .slice yP yg.length yI, .int .i64 yo, .int .i64 yt]) (t := 31) (by go_simp) ?_; intro ae hg w4 yG hb; have aa := yf.mk (yG); have af := bG (w := w) hg; have aH := bG (w := w) hg; replace HB := bS HB hb; clear hb yG hg; have WV := AR aa; have WW := bf aa) | ((with_reducible refine yB (f := 33) rfl ?_); refine gL (some 10) Try.func33 #[.agg #[.int .i64 yn, .slice yP yg.length yI, .int .i64 yo, .int .i64 yt], .slice A1 l1.length c1] ?_; (with_reducible refine (yL.calls k yn (fun k_ => k_ < w.heap.size) _ _ yg yo yt (fun k_ => k_ < w.heap.size) _ _ l1 ax az ay aC aD aA ak aG _ ?yF ?yM A3.out).mono ?_); (case yF => exact Kd.E8 zG.out (Kd.AX (Kd.Ho (Kd.Bc 3 (Kd.Br .i64)) zq.out) (bO HB))); (case yM => exact Kd.E8 Gd.out (Kd.AX (Kd.Ho DC HR1.out) (bO HB))); rintro e w6 ⟨v266, v271, rfl, ho0, ho1, hb⟩; refine ⟨_, rfl, ?_⟩; have ag := yf.mk (Kd.Ao (Kd.yH (ok' := fun k_ => k_ ≠ ae) ho0 (fun k_ BG => Or.elim BG (fun hs_ => Or.elim hs_ (fun hs_ => fun e_ => Nat.not_le.2 hs_ (by rw [e_]; exact af.out)) (fun hs_ => fun e_ => Nat.not_le.2 hs_ (by rw [e_]; exact af.out))) (fun BO => (Kd.Ae (g := ae) (o := .cells #[.int .i64 yn, .slice yP yg.length yI, .int .i64 yo, .int .i64 yt] 31 (0, 0)) (kk aa) k_ BO)))) (yJ (bO HB))); have ah := yf.mk (Kd.Ao (Kd.yH (ok' := fun k_ => k_ ≠ ae) ho1 (fun k_ BG => Or.elim BG (fun hs_ => Or.elim hs_ (fun hs_ => fun e_ => Nat.not_le.2 hs_ (by rw [e_]; exact af.out)) (fun hs_ => fun e_ => Nat.not_le.2 hs_ (by rw [e_]; exact af.out))) (fun BO => (Kd.Ae (g := ae) (o := .cells #[.int .i64 yn, .slice yP yg.length yI, .int .i64 yo, .int .i64 yt] 31 (0, 0)) (kk aa) k_ BO)))) (yJ (bO HB))); replace aa := bB aa hb; replace HB := bS HB hb; clear hb; clear ho0; clear ho1) | ((with_reducible refine yK (N := 5) rfl ?_); refine yE rfl (N := 5) rfl (cs := #[.int .i64 0, .slice none 0 0, .int .i64 0, .int .i64 0, .slice none 0 0, .int .i64 0, .int .i64 0]) (t := 71) (by go_simp) ?_; intro ai hg w7 yG hb; have aj := yf.mk (yG); have aJ := bG (w := w) hg; have aI := bG (w := w) hg; have av := BL aa hg; have au := Ag aa hg; replace ag := yf.mk (Kd.zg (Kd.zu (kV ag) ai (Nat.le_of_eq hg.symm)) hb); replace ah := yf.mk (Kd.zg (Kd.zu (kV ah) ai (Nat.le_of_eq hg.symm)) hb); replace aa := bB aa hb; replace HB := bS HB hb; clear hb yG hg; have a1c := au.out; have a1d := av.out; have NW := EP aj; have NY := bf aj; obtain ⟨LV, KE, QA⟩ := Kd.Am ag.out; subst QA; obtain ⟨Tf, QB, QC⟩ := Kd.Am ah.out; subst QC))
 go_ret
 exact ⟨by rfl, bO HB⟩
end Go.Proofs.Ytjonnfmoocijlaa.P
