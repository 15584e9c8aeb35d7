/- Texts of a claim, packed. -/
import Derived.Test.YtjonnfmoocijlaaD25
set_option linter.all false
namespace Go.Proofs.Ytjonnfmoocijlaa.P
open Go.RowKit Go.Proofs.YtjonnfmoocijlaaKW.PrintWords
theorem MF (l : List Int) : (Lib.compact (sorted l)).length = l.length ↔ l.Nodup := by
  have hp := sorted_perm l
  have hs := Ip l
  rw [← hp.length_eq, ← hp.nodup_iff]
  generalize sorted l = s at hs
  have hat : ∀ j (h : j < s.length), s.toArray[j]! = s[j] := fun j h => by simp [h]
  constructor
  · intro h
    have h1 : ∀ j, j < s.length → Lib.keeps s.toArray j = true := by
      have h2 : ((List.range s.length).filter (Lib.keeps s.toArray)).length = (List.range s.length).length := by
        simp only [Lib.compact, Lib.compactUpTo, List.length_map] at h
        rw [h, List.length_range]
      intro j hj
      exact List.length_filter_eq_length_iff.1 h2 j (List.mem_range.2 hj)
    rw [List.nodup_iff_pairwise_ne, List.pairwise_iff_getElem]
    intro i j hi hj hij he
    have h3 := h1 j hj
    have h4 : s[j - 1]'(by omega) ≤ s[j] := by
      rcases Nat.lt_or_ge (j - 1) j with h5 | h5
      · exact (List.pairwise_iff_getElem.1 hs) (j - 1) j (by omega) hj h5
      · omega
    have h6 : s[i] ≤ s[j - 1]'(by omega) := by
      rcases Nat.lt_or_ge i (j - 1) with h5 | h5
      · exact (List.pairwise_iff_getElem.1 hs) i (j - 1) hi (by omega) h5
      · have : i = j - 1 := by omega
        subst this
        exact Int.le_refl _
    have h7 : s[j] = s[j - 1]'(by omega) := by omega
    rw [Lib.keeps_neg (by omega) (by rw [hat j hj, hat (j - 1) (by omega)]; exact h7)] at h3
    cases h3
  · intro h
    rw [Lib.compact_all s fun j hj => ?_]
    rcases Nat.eq_zero_or_pos j with rfl | h0
    · exact Lib.keeps_lt_one _ 0 (by omega)
    · refine Lib.keeps_pos ?_
      rw [hat j hj, hat (j - 1) (by omega)]
      rw [List.nodup_iff_pairwise_ne, List.pairwise_iff_getElem] at h
      exact fun e => h (j - 1) j (by omega) hj (by omega) e.symm
def Gp (d : Int) (w : Nat) (tn h b : Int) (ms : List Mv) (i : Nat) : Prop :=
 let m := ms.getD i z47
 (0 ≤ m.f0 ∧ m.f0 < tn ∧ 0 ≤ m.f1 ∧ m.f1 < (w : Int)) ∧ (0 < i → Ahead (ms.getD (i - 1) z47) m.f0 m.f1) ∧ (0 ≤ m.f2.f0 ∧ m.f2.f0 < d ∧ h ≤ m.f2.f1 ∧ m.f2.f1 < b) ∧ ∀ x ∈ ms.take i, DW m.f2 x.f2 = false
instance (d : Int) (w : Nat) (tn h b : Int) (ms : List Mv) (i : Nat) : Decidable (Gp d w tn h b ms i) := by unfold Gp; infer_instance
def Dm (d : Int) (w : Nat) (tn h b : Int) (ms : List Mv) (j : Nat) : Prop := ∀ i, i < ms.length → j ≤ i → Gp d w tn h b ms i
instance (d : Int) (w : Nat) (tn h b : Int) (ms : List Mv) (j : Nat) : Decidable (Dm d w tn h b ms j) := by unfold Dm; infer_instance
theorem Dm.step {d : Int} {w : Nat} {tn h b : Int} {ms : List Mv} {j : Nat} (hk : Gp d w tn h b ms j) : Dm d w tn h b ms j ↔ Dm d w tn h b ms (j + 1) := by
  refine ⟨fun f i h1 h2 => f i h1 (by omega), fun f i h1 h2 => ?_⟩
  rcases Nat.lt_or_ge j i with h3 | h3
  · exact f i h1 h3
  · obtain rfl : i = j := by omega
    exact hk
theorem Dm.sorted {d : Int} {w : Nat} {tn h b : Int} {ms : List Mv} (hk : Dm d w tn h b ms 0) : Sorted ms := by
  unfold Sorted
  rw [List.pairwise_iff_getElem]
  intro i j hi hj hij
  induction j with
  | zero => omega
  | succ j ih =>
    have h1 := (hk (j + 1) hj (by omega)).2.1 (by omega)
    simp only [Nat.add_sub_cancel] at h1
    rw [getD_at _ _ _ hj, getD_at _ _ _ (by omega)] at h1
    rcases Nat.lt_or_ge i j with h6 | h6
    · have h7 := ih (by omega) h6
      unfold Ahead at h1 h7 ⊢
      omega
    · obtain rfl : i = j := by omega
      exact h1
theorem Dm.Pn {d : Int} {w : Nat} {tn h b : Int} {ms : List Mv} (hk : Dm d w tn h b ms 0) : Ph w tn ms := by
 intro m hm
 obtain ⟨i, hi, rfl⟩ := List.getElem_of_mem hm
 have := (hk i hi (by omega)).1
 rwa [getD_at _ _ _ hi] at this
def VM (d : Int) (L : List (List Int)) (w n r : Nat) (T S : Int) (ms : List Mv) : Prop := Dm d w (T * n) (T * r) (T * r + S) ms 0 ∧ ∀ m ∈ ms, (Aw L w n r ms m.f0).Nodup
instance (d : Int) (L : List (List Int)) (w n r : Nat) (T S : Int) (ms : List Mv) : Decidable (VM d L w n r T S ms) := by unfold VM; infer_instance
section
variable {d : Int} {L : List (List Int)} {w n r : Nat} {T S : Int} (H : Lo d L w n r T S)
include H
theorem Lo.apart (ms : List Mv) (hs : Sorted ms) (hl : ms.length ≤ 1000) (hin : Ph w (T * n) ms) (a b g : Int) (h0 : 0 ≤ g) (h1 : g < T * n) : Ev (fun k => Ac.f k d L T S ms a b g) (decide (Aw L w n r ms g).Nodup) := by
 have h5 := H.ok.w1
 have hw : (Aw L w n r ms g).length = w := by simp [Aw]
 unfold Ac.f
 refine DL (H.Yl ms hs hl hin a b g h0 h1) ?_
 refine Kv (a := sorted (Aw L w n r ms g)) (by unfold slices_Sort_int.f; rw [if_pos (by omega)]) ?_
 refine Kv (a := Lib.compact (sorted (Aw L w n r ms g))) (by unfold slices_Compact_int.f; rw [if_pos (by rw [Gn]; omega)]) ?_
 refine Kv (H.O7 ms a b) (GX ?_)
 have hc := MF (Aw L w n r ms g)
 rw [hw] at hc
 rw [Bool.eq_iff_iff, beq_iff_eq, decide_eq_true_eq, ← hc]
 omega
theorem Lo.has (ms : List Mv) (a b g i : Int) : D6.f d L T S ms a b g i = some (decide (0 ≤ g ∧ g < T * n ∧ 0 ≤ i ∧ i < (w : Int))) := by
  have := H.tn
  unfold D6.f
  rw [H.O7, H.ok.len, ww (by omega) (by omega)]
  simp only [Option.bind_some]
  by_cases h1 : g ≥ 0
  · rw [if_pos h1]
    by_cases h2 : g < T * n
    · rw [if_pos h2]
      by_cases h3 : i ≥ 0
      · rw [if_pos h3]
        congr 1
        rw [decide_eq_decide]
        omega
      · rw [if_neg h3, decide_eq_false (by omega)]
    · rw [if_neg h2, decide_eq_false (by omega)]
  · rw [if_neg h1, decide_eq_false (by omega)]
theorem Po (ms : List Mv) (j : Nat) (hj : j < ms.length) : I4 ms (j : Int) = false ↔ ∀ x ∈ ms.take j, DW (ms.getD j z47).f2 x.f2 = false := by
 unfold I4
 rw [Int.toNat_natCast, FO ms j hj, getD_at _ _ _ hj, List.any_eq_false]
 simp
theorem Lo.check (ms : List Mv) (hl : ms.length ≤ 1000) : Ev (fun k => yL.f k d L T S ms) (if VM d L w n r T S ms then (d, L, T, S, ms, T * r, T * r + S, true) else (0, [], 0, 0, [], 0, 0, false)) := by
  have hr := H.tr
  have hs1 := H.s1
  have hS : wrap64 (T * r + S - S) = T * r := by rw [ww (by omega) (by omega)]; omega
  have hl1 : ∀ t j : Nat, ms.length - j = t → j ≤ ms.length → Dm d w (T * n) (T * r) (T * r + S) ms 0 → Ev (fun k => yL.l1 k ms (ms.length : Int) (j : Int) d L T S ms (T * r) (T * r + S)) (if ∀ m ∈ ms.drop j, (Aw L w n r ms m.f0).Nodup then (d, L, T, S, ms, T * r, T * r + S, true) else (0, [], 0, 0, [], 0, 0, false)) := by
    intro t
    induction t with
    | zero =>
      intro j ht hj ha
      refine evs (fun k => by rw [yL.l1]) (C8 (by omega) (GX ?_))
      rw [List.drop_of_length_le (by omega), if_pos (by simp)]
    | succ t ih =>
      intro j ht hj ha
      have hlt : j < ms.length := by omega
      have hm := ha.Pn _ (List.getElem_mem hlt)
      refine evs (fun k => by rw [yL.l1]) (AP (by omega) (AP (by omega) (AP (by omega) ?_)))
      rw [FO ms j hlt]
      refine DL (H.apart ms ha.sorted hl ha.Pn _ _ _ hm.1 hm.2.1) ?_
      rw [List.drop_eq_getElem_cons hlt]
      by_cases c : (Aw L w n r ms ms[j].f0).Nodup
      · rw [decide_eq_true c]
        refine AP rfl ?_
        rw [ww (by omega) (by omega), show (j : Int) + 1 = ((j + 1 : Nat) : Int) by omega]
        have := ih (j + 1) (by omega) (by omega) ha
        simp only [List.mem_cons, forall_eq_or_imp, c, true_and]
        exact this
      · rw [decide_eq_false c]
        refine C8 (by decide) (GX ?_)
        rw [if_neg (fun h => c (h _ (List.mem_cons_self ..)))]
  have hl0 : ∀ t j : Nat, ms.length - j = t → j ≤ ms.length → (∀ i, i < j → Gp d w (T * n) (T * r) (T * r + S) ms i) → Ev (fun k => yL.l0 k ms ms (ms.length : Int) (j : Int) d L T S d L T S ms (T * r) (T * r + S)) (if VM d L w n r T S ms then (d, L, T, S, ms, T * r, T * r + S, true) else (0, [], 0, 0, [], 0, 0, false)) := by
    intro t
    induction t with
    | zero =>
      intro j ht hj ha
      refine evs (fun k => by rw [yL.l0]) (C8 (by omega) ?_)
      have ha' : Dm d w (T * n) (T * r) (T * r + S) ms 0 := fun i h1 _ => ha i (by omega)
      have := hl1 _ 0 rfl (Nat.zero_le _) ha'
      rw [List.drop_zero] at this
      unfold VM
      simp only [ha', true_and]
      exact this
    | succ t ih =>
      intro j ht hj ha
      have hlt : j < ms.length := by omega
      have hgd := getD_at ms z47 j hlt
      have hbad : ¬ Gp d w (T * n) (T * r) (T * r + S) ms j → ¬ VM d L w n r T S ms := fun hb h => hb (h.1 j hlt (Nat.zero_le _))
      have hj2 : ∀ bb : Bool, (bb = true → ¬ Gp d w (T * n) (T * r) (T * r + S) ms j) → (bb = false → Gp d w (T * n) (T * r) (T * r + S) ms j) → Ev (fun k => yL.j2 k ms ms (ms.length : Int) (j : Int) bb d L T S d L T S ms (T * r) (T * r + S)) (if VM d L w n r T S ms then (d, L, T, S, ms, T * r, T * r + S, true) else (0, [], 0, 0, [], 0, 0, false)) := by
        intro bb h1 h2
        refine evs (fun k => by rw [yL.j2]) ?_
        cases bb with
        | true => exact AP rfl (GX (by rw [if_neg (hbad (h1 rfl))]))
        | false =>
          refine C8 (by decide) ?_
          rw [ww (by omega) (by omega), show (j : Int) + 1 = ((j + 1 : Nat) : Int) by omega]
          refine ih (j + 1) (by omega) (by omega) fun i hi => ?_
          rcases Nat.lt_or_ge i j with h3 | h3
          · exact ha i h3
          · obtain rfl : i = j := by omega
            exact h2 rfl
      have hj1 : ∀ bb : Bool, (0 ≤ ms[j].f0 ∧ ms[j].f0 < T * n ∧ 0 ≤ ms[j].f1 ∧ ms[j].f1 < (w : Int)) → (bb = true → ¬ Gp d w (T * n) (T * r) (T * r + S) ms j) → (bb = false → (0 < j → Ahead (ms.getD (j - 1) z47) ms[j].f0 ms[j].f1)) →
          Ev (fun k => yL.j1 k ms ms (ms.length : Int) (j : Int) bb d L T S d L T S ms (T * r) (T * r + S) ms[j].f0 ms[j].f1 ms[j].f2.f0 ms[j].f2.f1) (if VM d L w n r T S ms then (d, L, T, S, ms, T * r, T * r + S, true) else (0, [], 0, 0, [], 0, 0, false)) := by
        intro bb h0 h1 h2
        refine evs (fun k => by rw [yL.j1]) ?_
        cases bb with
        | true => exact AP rfl (GX (by rw [if_neg (hbad (h1 rfl))]))
        | false =>
          refine C8 (by decide) ?_
          have hno : ¬ (0 ≤ ms[j].f2.f0 ∧ ms[j].f2.f0 < d ∧ T * r ≤ ms[j].f2.f1 ∧ ms[j].f2.f1 < T * r + S) → ¬ Gp d w (T * n) (T * r) (T * r + S) ms j := fun h1 h2 => by
            have := h2.2.2.1
            rw [hgd] at this
            exact h1 this
          by_cases c1 : ms[j].f2.f0 < 0
          · exact AP c1 (hj2 true (fun _ => hno (by omega)) (by simp))
          refine C8 c1 ?_
          by_cases c2 : ms[j].f2.f0 ≥ d
          · exact AP c2 (hj2 true (fun _ => hno (by omega)) (by simp))
          refine C8 c2 ?_
          by_cases c3 : ms[j].f2.f1 < T * r
          · exact AP c3 (hj2 true (fun _ => hno (by omega)) (by simp))
          refine C8 c3 ?_
          by_cases c4 : ms[j].f2.f1 ≥ T * r + S
          · exact AP c4 (hj2 true (fun _ => hno (by omega)) (by simp))
          refine C8 c4 (hj2 _ (fun hb hm => ?_) fun hb => ?_)
          · have := (Po H ms j hlt).2 hm.2.2.2
            rw [hb] at this
            cases this
          · have h4 := (Po H ms j hlt).1 hb
            refine ⟨?_, ?_, ?_, h4⟩
            · rw [hgd]; exact h0
            · rw [hgd]; exact h2 rfl
            · rw [hgd]; omega
      refine evs (fun k => by rw [yL.l0]) (AP (by omega) (AP (by omega) (AP (by omega) (Kv (H.has ms _ _ _ _) ?_))))
      rw [FO ms j hlt]
      by_cases c : 0 ≤ ms[j].f0 ∧ ms[j].f0 < T * n ∧ 0 ≤ ms[j].f1 ∧ ms[j].f1 < (w : Int)
      · rw [decide_eq_true c]
        refine AP rfl ?_
        rcases Nat.eq_zero_or_pos j with hz | hz
        · refine C8 (by omega) (hj1 false c (by simp) (fun _ h => by omega))
        · refine AP (by omega) ?_
          rw [ww (x := (j : Int) - 1) (by omega) (by omega), show (j : Int) - 1 = ((j - 1 : Nat) : Int) by omega]
          refine AP (by omega) (AP (by omega) (DL (LW _ _ _ _ _ _) ?_))
          rw [FO ms (j - 1) (by omega)]
          have hgd' := getD_at ms z47 (j - 1) (by omega)
          refine hj1 _ c (fun hb hm => ?_) fun hb _ => ?_
          · have h3 := hm.2.1 hz
            rw [hgd, hgd'] at h3
            have := (Jp _ _ _).2 h3
            have := of_decide_eq_true hb
            omega
          · rw [hgd']
            refine (Jp _ _ _).1 ?_
            have := of_decide_eq_false hb
            omega
      · rw [decide_eq_false c]
        refine C8 (by decide) (GX ?_)
        rw [if_neg (hbad fun h => c (by have := h.1; rwa [hgd] at this))]
  unfold yL.f
  refine DL H.O1 (C8 (by omega) ?_)
  rw [hS]
  have := hl0 _ 0 rfl (Nat.zero_le _) (fun i hi => by omega)
  exact this
end
end Go.Proofs.Ytjonnfmoocijlaa.P
namespace Go.Proofs.Ytjonnfmoocijlaa.P
open Go.RowKit Go.Proofs.YtjonnfmoocijlaaKW.PrintWords Go.Proofs.YtjonnfmoocijlaaKW.PrintLast Go.Proofs.YtjonnfmoocijlaaKW.PrintMore
attribute [local go_sem] zz zA zS zT zn zo zB zC
def zH.l0 : Nat → Int → List Int → List (AY) → Int → Int → Option (List Int)
 | 0, _, _, _, _, _ => none
 | k + 1, x1, x5, x9, Fj, EO => if EO < Fj then (if 0 ≤ EO then (if EO < (x9.length : Int) then (if ((yh x9 EO).f2.f0) = x1 then (if x5.length < 17592186044416 then (zH.l0 k x1 (x5 ++ [(yh x9 EO).f2.f1]) x9 Fj (wrap64 (EO + 1))) else (none)) else (zH.l0 k x1 x5 x9 Fj (wrap64 (EO + 1)))) else (none)) else (none)) else ((slices_Sort_int.f x5).bind fun t232 => (some t232))
def zH.f (k : Nat) (yn : Int) (yg : List (List Int)) (yo : Int) (yt : Int) (Ab : List (AY)) (Al : Int) (zY : Int) (a1 : Int) : Option (List Int) := zH.l0 k a1 ([] : List Int) Ab (Ab.length : Int) 0
set_option maxHeartbeats 8000000 in
set_option maxRecDepth 100000 in
theorem zH.calls (k : Nat) (yn : Int) (yP : Option Addr) (yI : Nat) (yg : List (List Int)) (yo : Int) (yt : Int) (DF : Option Addr) (Du : Nat) (Ab : List (AY)) (Al : Int) (zY : Int) (a1 : Int) (r : List Int) (w : World) (zR : Kd.C (Kd.slice 3 (Kd.int .i64)) w yP yg.length yg) (zU : yg.length ≤ yI) (F9 : Kd.C Dy w DF Ab.length Ab) (Fa : Ab.length ≤ Du) (h : zH.f k yn yg yo yt Ab Al zY a1 = some r) :
  Calls Try.prog 36 #[.agg #[.int .i64 yn, .slice yP yg.length yI, .int .i64 yo, .int .i64 yt, .slice DF Ab.length Du, .int .i64 Al, .int .i64 zY], .int .i64 a1] w fun e w' => ∃ Gw : Value, e = .returned (Gw) ∧ Kd.R (Kd.int .i64) 3 w' w.heap.size (fun _ => True) Gw r ∧ Below w.heap.size w w' := by
 have KF := Try.underlying71;have Pf := Try.underlying47;have zq := yf.mk zR;have zG := yf.mk zU;clear zR zU;have ED := yf.mk F9;have GA := yf.mk Fa;clear F9 Fa;have HB := yf.mk (Below.refl w.heap.size w)
 have H : (zH.l0 k a1 ([] : List Int) Ab (Ab.length : Int) 0) = some r := h
 clear h;have H' := yf.mk H;clear H
 go_enter Try.func36, Try.ntmps36
 go_wp2_with (((with_reducible refine yK (N := 2) rfl ?_); refine yE rfl (N := 2) rfl (cs := #[.int .i64 yn, .slice yP yg.length yI, .int .i64 yo, .int .i64 yt, .slice DF Ab.length Du, .int .i64 Al, .int .i64 zY]) (t := 71) (by go_simp) ?_; intro ay hg w3 yG hb; have aa := yf.mk (yG); have aI := bG (w := w) hg; have aH := bG (w := w) hg; replace HB := bS HB hb; clear hb yG hg; have UL := EP aa; have UM := bf aa))
 go_loopg [5, 11] k (fun kq v5 v11 w' => ∃ (yQ : List Int) (Ay : Int), v11 = .int .i64 Ay ∧ yf (zH.l0 kq a1 yQ Ab (Ab.length : Int) Ay = some r) ∧ yf (kq ≤ k) ∧ yf (Kd.R (Kd.int .i64) 3 w' w.heap.size (fun _ => True) v5 yQ) ∧ yf (w'.heap[ay]? = some (.cells #[.int .i64 yn, (.slice yP yg.length yI), .int .i64 yo, .int .i64 yt, (.slice DF Ab.length Du), .int .i64 Al, .int .i64 zY] 71 (0, 0))) ∧ yf (Below w.heap.size w w'))
 case atStart => exact ⟨(([] : List Int)), (0), (by rfl), H', ⟨Nat.le_refl _⟩, ⟨by exact Kd.Dh _ _ _ _ _⟩, ⟨kk aa⟩, ⟨bO HB⟩⟩
 case round =>
 clear H' UL UM;obtain ⟨yQ, Ay, rfl, HA, BZ, ae, aa, HB⟩ := hrel
 cases gk with
 | zero => exact absurd HA.out (by simp [zH.l0])
 | succ k1 =>
 have H := HA.out;clear HA;simp only [zH.l0] at H
 by_cases c5 : Ay < (Ab.length : Int)
 rotate_left
 ·
  rw [if_neg c5] at H;have Ez := decide_eq_false c5;clear c5;obtain ⟨t232, Xy, H⟩ := bE H
  try dsimp only at H
  obtain rfl := Option.some.inj H;obtain ⟨HZ, GN, Vj⟩ := Kd.zX ae.out;subst Vj
  go_wp2_with (((with_reducible refine yB (f := 64) rfl ?_); refine gL (some 28) Try.func64 #[.slice HZ yQ.length GN] ?_; (with_reducible refine (slices_Sort_int.calls (fun k_ => some k_ = (.slice HZ yQ.length GN : Value).ownBlock) (.slice HZ yQ.length GN) yQ t232 w _ ?yF ?yM Xy.out).mono ?_); (case yF => repeat ((with_reducible exact HB.out))); (case yM => exact Kd.Fx rfl ae.out); rintro e w19 ⟨rfl, hy0, hb, hkp⟩; refine ⟨_, rfl, ?_⟩; have Bt := yf.mk (Kd.Q8 rfl hy0 (fun k_ e_ => ae.out.1 k_ e_)); have Bu := yf.mk (Eb (kk aa) hkp (fun hs_ => (fun e_ => (Kd.Dx ae.out aa.out (by decide)) e_) hs_)); have BJ := yf.mk (hb); clear ae; clear aa; clear HB; have ae := Bt; have aa := Bu; have HB := BJ; clear Bt Bu BJ; clear hb; clear hkp; clear hy0))
  go_ret
  exact ⟨_, by rfl, by (with_reducible repeat (apply Kd.zl)); exact ae.out, bO HB⟩
 rw [if_pos c5] at H;have Ez := decide_eq_true c5;clear c5
 by_cases c6 : 0 ≤ Ay
 rotate_left
 ·
  rw [if_neg c6] at H;exact absurd H (by simp)
 rw [if_pos c6] at H;have EU := decide_eq_true c6;clear c6
 by_cases c7 : Ay < (Ab.length : Int)
 rotate_left
 ·
  rw [if_neg c7] at H;exact absurd H (by simp)
 rw [if_pos c7] at H;have FR := decide_eq_true c7;clear c7
 by_cases c8 : ((yh Ab Ay).f2.f0) = a1
 rotate_left
 ·
  rw [if_neg c8] at H;have Gl := beq_eq_false_iff_ne.mpr c8;have Mq := bne_iff_ne.mpr c8;have H' := yf.mk H;clear H
  have af : 0 ≤ (Ay : Int) := of_decide_eq_true ‹_›
  have ag : Ay < (Ab.length : Int) := of_decide_eq_true ‹_›
  obtain ⟨az, e227, ak, ai, aj, ah⟩ := Cb ED.out Ay af ag;cases e227;replace ak := cB HB ak;replace ai := cB HB ai;replace aj := cB HB aj;replace ah := cB HB ah;replace af := eq_true af;replace ag := eq_true ag
  go_wp2_with (((with_reducible refine yK (N := 7) rfl ?_); refine yE rfl (N := 7) rfl (cs := #[.int .i64 0, .int .i64 0, .int .i64 0, .int .i64 0]) (t := 47) (by go_simp) ?_; intro Eo hg w14 yG hb; have Ba := yf.mk (yG); have Vu := bG (w := w) hg; have Yp := bG (w := w) hg; have ax := BL aa hg; have au := Ag aa hg; replace ae := BN ae hb; replace aa := bB aa hb; replace HB := bS HB hb; clear hb yG hg; have XU := au.out; have XV := ax.out; have JZ := AR Ba; have K3 := bf Ba))
  go_roundg k1
  case measure => have := BZ.out; omega
  case rel => exact ⟨(yQ), (wrap64 (Ay + 1)), (by rfl), H', ⟨by have := BZ.out; omega⟩, ⟨by (with_reducible repeat (apply Kd.zl)); exact Kd.zb (GG (g := Eo) (Kd.AU ae.out Ba.out (by decide)) (fun _ hk => hk.2)) (fun _ hk => trivial)⟩, bK aa rfl, ⟨bO HB⟩⟩
 rw [if_pos c8] at H;have Gl := beq_iff_eq.mpr c8
 have Mq : (((yh Ab Ay).f2.f0) != a1) = false := bne_eq_false_iff_eq.mpr c8
 clear c8
 by_cases c9 : yQ.length < 17592186044416
 rotate_left
 ·
  rw [if_neg c9] at H;exact absurd H (by simp)
 rw [if_pos c9] at H;have aG := yf.mk c9;clear c9;obtain ⟨aA, av⟩ : ∃ y_ : List Int, y_ = (yQ ++ [(yh Ab Ay).f2.f1]) := ⟨_, rfl⟩
 replace H : (zH.l0 k1 a1 aA Ab (Ab.length : Int) (wrap64 (Ay + 1))) = some r := by (rw [av]; with_reducible exact H)
 have aD := yf.mk av;clear av;have H' := yf.mk H;clear H
 have af : 0 ≤ (Ay : Int) := of_decide_eq_true ‹_›
 have ag : Ay < (Ab.length : Int) := of_decide_eq_true ‹_›
 obtain ⟨az, e227, ak, ai, aj, ah⟩ := Cb ED.out Ay af ag;cases e227;replace ak := cB HB ak;replace ai := cB HB ai;replace aj := cB HB aj;replace ah := cB HB ah;replace af := eq_true af;replace ag := eq_true ag
 go_wp2_with (first | ((with_reducible refine yK (N := 7) rfl ?_); refine yE rfl (N := 7) rfl (cs := #[.int .i64 0, .int .i64 0, .int .i64 0, .int .i64 0]) (t := 47) (by go_simp) ?_; intro Eo hg w10 yG hb; have Ba := yf.mk (yG); have Vu := bG (w := w) hg; have Yp := bG (w := w) hg; have ax := BL aa hg; have au := Ag aa hg; replace ae := BN ae hb; replace aa := bB aa hb; replace HB := bS HB hb; clear hb yG hg; have RJ := au.out; have RL := ax.out; have Nc := AR Ba; have Nf := bf Ba) | ((with_reducible refine Bz (b := .append) (xs := #[.tmp 20, .tmp 24]) rfl ?_); at_builtin; refine Kd.El (Kd.int .i64) (w0 := w) w.heap.size rfl (.tmp 20) (.tmp 24) 63 3 (.int .i64 0) 8 rfl Try.underlying63 info3 rfl (by decide) (by omega) u5 yQ ((yh Ab Ay).f2.f1) [.int .i64 ((yh Ab Ay).f2.f1)] (fun _ => True) (fun _ => False) rfl (by go_simp) ?aP (fun _ hk => hk.elim) ?aF ?aO ?aB ?aS ?aL ?_; (case aP => exact rfl); (case aB => exact (bO HB)); (case aF => exact (fun _ _ => trivial)); (case aO => exact (by (with_reducible repeat (apply Kd.zl)); exact Kd.zb (GG (g := Eo) (Kd.AU ae.out Ba.out (by decide)) (fun _ hk => hk.2)) (fun _ hk => trivial))); (case aS => exact (yJ (bO HB))); (case aL => have := aG.out; omega); intro v230 w13 ho hb hg hat; rw [← aD.out] at ho; have Bt := yf.mk (Aa (g := ay) (o := .cells #[.int .i64 yn, .slice yP yg.length yI, .int .i64 yo, .int .i64 yt, .slice (some az) Ab.length Du, .int .i64 Al, .int .i64 zY] 71 (0, 0)) (CF aa rfl) hg (Kd.Dx ae.out aa.out (by decide))); have Bu := yf.mk (Aa (g := Eo) (o := .cells #[.int .i64 ((yh Ab Ay).f0), .int .i64 ((yh Ab Ay).f1), .int .i64 ((yh Ab Ay).f2.f0), .int .i64 ((yh Ab Ay).f2.f1)] 47 (0, 0)) (CF Ba rfl) hg (Kd.Dx ae.out Ba.out (by decide))); have BJ := yf.mk (hb); have Cs := yf.mk (ho); clear aa; clear Ba; clear HB; clear ae; have aa := Bt; have Ba := Bu; have HB := BJ; have aC := Cs; clear Bt Bu BJ Cs; clear ho hb hg hat))
 go_roundg k1
 case measure => have := BZ.out; omega
 case rel => exact ⟨(aA), (wrap64 (Ay + 1)), (by rfl), H', ⟨by have := BZ.out; omega⟩, ⟨kR aC⟩, ⟨kk aa⟩, ⟨bO HB⟩⟩
theorem RU (d : Nat) (w : World) (x0 y0 : Int) (x1 y1 : Int) :
  (Op.equalIn (d + 2) 38 (.agg #[.int .i64 x0, .int .i64 x1]) (.agg #[.int .i64 y0, .int .i64 y1])).run Try.prog w = .ok (x0 == y0 && (x1 == y1)) w := by
 refine Q6 Try.underlying38 (by kernel_rfl) ?_
 refine Je (by rfl) (by go_simp; rfl) (by go_simp; rfl) (by go_simp) ?_
 exact Lb (by rfl) (by go_simp; rfl) (by go_simp; rfl) (by go_simp)
end Go.Proofs.Ytjonnfmoocijlaa.P
namespace Go.Proofs.Ytjonnfmoocijlaa.P
open Go.RowKit Go.Proofs.YtjonnfmoocijlaaKW.PrintWords
def Vw (x : Int) (ms : List Mv) : List Int := (ms.filter fun m => m.f2.f0 == x).map fun m => m.f2.f1
def EE (ms : List Mv) (x : Int) : List Int := sorted (Vw x ms)
theorem O8 (x : Int) (ms : List Mv) : (Vw x ms).length ≤ ms.length := by
 unfold Vw
 rw [List.length_map]
 exact List.length_filter_le _ _
theorem Nk (x : Int) (ms : List Mv) : (EE ms x).length ≤ ms.length := by
 unfold EE
 rw [Gn]
 exact O8 x ms
theorem Jt (ms : List Mv) (hl : ms.length ≤ 1000) (d T S a b : Int) (L : List (List Int)) (x : Int) : Ev (fun k => zH.f k d L T S ms a b x) (EE ms x) := by
  have h0 : ∀ t j : Nat, ms.length - j = t → j ≤ ms.length → Ev (fun k => zH.l0 k x (Vw x (ms.take j)) ms (ms.length : Int) (j : Int)) (EE ms x) := by
    intro t
    induction t with
    | zero =>
      intro j ht hj
      have := O8 x ms
      refine evs (fun k => by rw [zH.l0]) (C8 (by omega) ?_)
      rw [List.take_of_length_le (by omega)]
      exact Kv (a := EE ms x) (by unfold slices_Sort_int.f EE; rw [if_pos (by omega)]) (Ev.now _)
    | succ t ih =>
      intro j ht hj
      have hlt : j < ms.length := by omega
      have hln := O8 x (ms.take j)
      rw [List.length_take] at hln
      have := ih (j + 1) (by omega) (by omega)
      refine evs (fun k => by rw [zH.l0]) (AP (by omega) (AP (by omega) (AP (by omega) ?_)))
      rw [FO ms j hlt, ww (by omega) (by omega), show (j : Int) + 1 = ((j + 1 : Nat) : Int) by omega]
      rw [List.take_succ_eq_append_getElem hlt] at this
      unfold Vw at this hln ⊢
      rw [List.filter_append, List.map_append] at this
      by_cases c : ms[j].f2.f0 = x
      · refine AP c (AP (by omega) ?_)
        rw [List.filter_cons_of_pos (by simpa using c)] at this
        exact this
      · refine C8 c ?_
        rw [List.filter_cons_of_neg (by simpa using c), List.filter_nil, List.map_nil, List.append_nil] at this
        exact this
  exact h0 _ 0 rfl (Nat.zero_le _)
section
variable {d : Int} {L : List (List Int)} {w n r : Nat} {T S : Int} (H : Lo d L w n r T S)
include H
end
end Go.Proofs.Ytjonnfmoocijlaa.P
namespace Go.Proofs.Ytjonnfmoocijlaa.P
open Go.RowKit Go.Proofs.YtjonnfmoocijlaaKW.PrintWords Go.Proofs.YtjonnfmoocijlaaKW.PrintLast Go.Proofs.YtjonnfmoocijlaaKW.PrintMore
attribute [local go_sem] zz zA zS zT zn zo zB zC
def slices_Index_int.l0 : Nat → List Int → Int → Int → Int → Option (Int)
 | 0, _, _, _, _ => none
 | k + 1, x0, x1, x7, x8 => if x8 < x7 then (if 0 ≤ x8 then (if x8 < (x0.length : Int) then (if x1 = (rd x0 x8) then (some x8) else (slices_Index_int.l0 k x0 x1 x7 (wrap64 (x8 + 1)))) else (none)) else (none)) else (some (-1))
def slices_Index_int.f (k : Nat) (l0 : List Int) (a1 : Int) : Option (Int) := slices_Index_int.l0 k l0 a1 (l0.length : Int) 0
theorem slices_Index_int.mono_l : ∀ k, (∀ y0 y1 y2 y3, zZ (slices_Index_int.l0 k y0 y1 y2 y3) (slices_Index_int.l0 (k + 1) y0 y1 y2 y3))
 | 0 => fun _ _ _ _ r h => by simp [slices_Index_int.l0] at h
 | k + 1 => by
  have DN := slices_Index_int.mono_l k
  ·
   intro y0 y1 y2 y3
   unfold slices_Index_int.l0
   repeat' first
   | exact DN _ _ _ _
   | exact zZ.refl _
   | exact zZ.none _
   | refine zZ.ite ?_ ?_
   | refine zZ.bind ?_ (fun _ => ?_)
theorem slices_Index_int.mono : ∀ a0 a1 k, zZ (slices_Index_int.f k a0 a1) (slices_Index_int.f (k + 1) a0 a1) := by
 intro a0 a1 k
 have DN := slices_Index_int.mono_l k
 unfold slices_Index_int.f
 repeat' first
  | exact DN _ _ _ _
  | exact zZ.refl _
  | exact zZ.none _
  | refine zZ.ite ?_ ?_
  | refine zZ.bind ?_ (fun _ => ?_)
set_option maxHeartbeats 8000000 in
set_option maxRecDepth 100000 in
theorem slices_Index_int.calls (k : Nat) (A0 : Option Addr) (c0 : Nat) (l0 : List Int) (a1 : Int) (r : Int) (w : World) (hr0 : Kd.C (Kd.int .i64) w A0 l0.length l0) (hc0 : l0.length ≤ c0) (h : slices_Index_int.f k l0 a1 = some r) :
  Calls Try.prog 65 #[.slice A0 l0.length c0, .int .i64 a1] w fun e w' => e = .returned (.int .i64 r) ∧ zN w w' := by
 have Lm := yf.mk hr0;have WM := yf.mk hc0;clear hr0 hc0
 have H : (slices_Index_int.l0 k l0 a1 (l0.length : Int) 0) = some r := h
 clear h;have H' := yf.mk H;clear H
 go_enter Try.func65, Try.ntmps65
 go_wp2
 go_loopg [8] k (fun kq v8 w' => ∃ (Di : Int), v8 = .int .i64 Di ∧ yf (slices_Index_int.l0 kq l0 a1 (l0.length : Int) Di = some r) ∧ yf (kq ≤ k) ∧ zN w w')
 case atStart => exact ⟨(0), (by rfl), H', ⟨Nat.le_refl _⟩, by repeat (exact zN.refl _)⟩
 case round =>
 clear H';obtain ⟨Di, rfl, HA, BZ, ⟨m1, rfl⟩⟩ := hrel
 cases gk with
 | zero => exact absurd HA.out (by simp [slices_Index_int.l0])
 | succ k1 =>
 have H := HA.out;clear HA;simp only [slices_Index_int.l0] at H
 by_cases c3 : Di < (l0.length : Int)
 rotate_left
 ·
  rw [if_neg c3] at H;have FM := decide_eq_false c3;clear c3;obtain rfl := Option.some.inj H
  go_wp2
  go_ret
  exact ⟨by rfl, by repeat (first | exact zN.refl _ | apply zN.step)⟩
 rw [if_pos c3] at H;have FM := decide_eq_true c3;clear c3
 by_cases c4 : 0 ≤ Di
 rotate_left
 ·
  rw [if_neg c4] at H;exact absurd H (by simp)
 rw [if_pos c4] at H;have Ex := decide_eq_true c4;clear c4
 by_cases c5 : Di < (l0.length : Int)
 rotate_left
 ·
  rw [if_neg c5] at H;exact absurd H (by simp)
 rw [if_pos c5] at H;have Ez := decide_eq_true c5;clear c5
 by_cases c6 : a1 = (rd l0 Di)
 ·
  rw [if_pos c6] at H;have EU := beq_iff_eq.mpr c6
  have SN : (a1 != (rd l0 Di)) = false := bne_eq_false_iff_eq.mpr c6
  clear c6;obtain rfl := Option.some.inj H
  have aa : 0 ≤ (Di : Int) := of_decide_eq_true ‹_›
  have ae : Di < (l0.length : Int) := of_decide_eq_true ‹_›
  obtain ⟨ag, e233, af⟩ := Kd.Bv Lm.out Di aa ae;cases e233;replace aa := eq_true aa;replace ae := eq_true ae
  go_wp2
  go_ret
  exact ⟨by rfl, by repeat (first | exact zN.refl _ | apply zN.step)⟩
 rw [if_neg c6] at H;have EU := beq_eq_false_iff_ne.mpr c6;have SN := bne_iff_ne.mpr c6;have H' := yf.mk H;clear H
 have aa : 0 ≤ (Di : Int) := of_decide_eq_true ‹_›
 have ae : Di < (l0.length : Int) := of_decide_eq_true ‹_›
 obtain ⟨ag, e233, af⟩ := Kd.Bv Lm.out Di aa ae;cases e233;replace aa := eq_true aa;replace ae := eq_true ae
 go_wp2
 go_roundg k1
 case measure => have := BZ.out; omega
 case rel => exact ⟨(wrap64 (Di + 1)), (by rfl), H', ⟨by have := BZ.out; omega⟩, by repeat (first | exact zN.refl _ | apply zN.step)⟩
end Go.Proofs.Ytjonnfmoocijlaa.P
