/- Texts of a claim, packed. -/
import Derived.Test.YtjonnfmoocijlaaC43
import Derived.Test.YtjonnfmoocijlaaC54
set_option linter.all false
namespace Go.Proofs.Ytjonnfmoocijlaa.P
open Go.RowKit Go.Proofs.YtjonnfmoocijlaaKW.PrintWords
theorem GR (m : Mv) : ∀ (ms : List Mv) (put : Bool), ((Bg m ms put).filter fun x => !D8 m.f0 m.f1 x) = ms.filter fun x => !D8 m.f0 m.f1 x
  | [], put => by
    have : D8 m.f0 m.f1 m = true := Cz.2 ⟨rfl, rfl⟩
    cases put with
    | true => rfl
    | false => exact List.filter_cons_of_neg (by simp [this])
  | x :: xs, put => by
    have hm : D8 m.f0 m.f1 m = true := Cz.2 ⟨rfl, rfl⟩
    unfold Bg
    by_cases c : D8 m.f0 m.f1 x = true
    · rw [if_pos c, GR m xs put, List.filter_cons_of_neg (by simp [c])]
    · rw [if_neg c]
      split
      · rw [List.filter_cons_of_neg (by simp [hm]), List.filter_cons_of_pos (by simp [c]), List.filter_cons_of_pos (by simp [c]), GR m xs true]
      · rw [List.filter_cons_of_pos (by simp [c]), List.filter_cons_of_pos (by simp [c]), GR m xs put]
theorem ZO (i : Nat) (P : Nat → Prop) : (∃ k, k < i + 1 ∧ P k) ↔ (∃ k, k < i ∧ P k) ∨ P i := by
  constructor
  · rintro ⟨k, h1, h2⟩
    rcases Nat.lt_or_ge k i with h4 | h4
    · exact .inl ⟨k, h4, h2⟩
    · obtain rfl : k = i := by omega
      exact .inr h2
  · rintro (⟨k, h1, h2⟩ | h2)
    · exact ⟨k, by omega, h2⟩
    · exact ⟨i, by omega, h2⟩
section
variable {d : Int} {L : List (List Int)} {w n r : Nat} {T S : Int} (H : Lo d L w n r T S)
include H
theorem Lo.returned (ms : List Mv) (hl : ms.length ≤ 800) (a b c e : Int) (hg : 0 ≤ a ∧ a < T * n) (hi : 0 ≤ b ∧ b < (w : Int)) (out : List Mv) (ho : out = ms.filter fun x => !D8 a b x) (hv : VM d L w n r T S out) :
    Ev (fun k => yt.j1 k ms out 0 a b c e d L T S a b (-1) e) true := by
  have hol : out.length ≤ ms.length := by rw [ho]; exact List.length_filter_le _ _
  have hfind : out.find? (D8 a b) = none := by
    rw [List.find?_eq_none, ho]
    intro x hx
    have := (List.mem_filter.1 hx).2
    simpa using this
  have hsw := H.TU out (by omega) hv a b
  rw [if_pos ⟨hg.1, hg.2, hi.1, hi.2⟩] at hsw
  have hwh : Ca L w n r out a b = Fb L w n r a.toNat b.toNat := by
    unfold Ca
    rw [hfind]
  have hno : EZ out a b = false := by rw [Mw hv.1.sorted, hfind]; rfl
  have hwp : DD out ⟨a, b, ⟨-1, e⟩⟩ = out := PH ⟨a, b, ⟨-1, e⟩⟩ out hv.1.sorted hno
  have hap : CV d L w n r T S out ⟨a, b, ⟨-1, e⟩⟩ = ([], 9) := by
    unfold CV
    rw [if_pos ⟨hg.1, hg.2, hi.1, hi.2⟩, if_pos ⟨rfl, by rw [hwp]⟩]
  have has : Ev (fun k => zl.f k d L T S out a b (-1) e) ([], 9) := Sc (H.LU out (by omega) hv ⟨a, b, ⟨-1, e⟩⟩) hap
  have hl1 : ∀ t j : Nat, ms.length - j = t → j ≤ ms.length → Ev (fun k => yt.l1 k ms out ((ms.take j).filter fun x => !D8 a b x) (j : Int) a b c e d L T S a b (-1) e) true := by
    intro t
    induction t with
    | zero =>
      intro j ht hj
      have hje : ms.length ≤ j := by omega
      rw [List.take_of_length_le hje, ← ho]
      refine evs (fun k => by rw [yt.l1]) (BQ (show ¬ (j : Int) < (ms.length : Int) by omega) ?_)
      refine DN hsw (DN has (DN (Qr out (by omega)) (AJ rfl (AJ rfl (DN (H.Xo a b hg.1 hg.2 hi.1 hi.2) ?_)))))
      rw [hwh]
      exact AJ (by simp) (AJ rfl (Ev.now _))
    | succ t ih =>
      intro j ht hj
      have hlt : j < ms.length := by omega
      have hstep := ih (j + 1) (by omega) hlt
      rw [← vv j (by omega), List.take_succ_eq_append_getElem hlt, List.filter_append] at hstep
      have hfl : ((ms.take j).filter fun x => !D8 a b x).length < 4398046511104 := by
        have h1 := List.length_filter_le (fun x => !D8 a b x) (ms.take j)
        rw [List.length_take] at h1
        omega
      have hyes : D8 a b ms[j] = false → Ev (fun k => yt.l1 k ms out (((ms.take j).filter fun x => !D8 a b x) ++ [ms[j]]) (wrap64 ((j : Int) + 1)) a b c e d L T S a b (-1) e) true := by
        intro h
        rw [List.filter_cons_of_pos (by simp [h]), List.filter_nil] at hstep
        exact hstep
      refine evs (fun k => by rw [yt.l1]) (AJ (Int.ofNat_lt.2 hlt) (AJ (Int.natCast_nonneg j) ?_))
      rw [Gm ms j hlt]
      by_cases c1 : ms[j].f0 = a
      · refine AJ c1 ?_
        by_cases c2 : ms[j].f1 = b
        · have h : D8 a b ms[j] = true := Cz.2 ⟨c1, c2⟩
          rw [List.filter_cons_of_neg (by simp [h]), List.filter_nil, List.append_nil] at hstep
          exact AJ c2 hstep
        · exact BQ c2 (AJ hfl (hyes (Bool.eq_false_iff.2 fun h => c2 (Cz.1 h).2)))
      · exact BQ c1 (AJ hfl (hyes (Bool.eq_false_iff.2 fun h => c1 (Cz.1 h).1)))
  refine evs (fun k => by rw [yt.j1]) (AJ rfl ?_)
  exact hl1 _ 0 rfl (Nat.zero_le _)
theorem Lo.returns (ms : List Mv) (hl : ms.length ≤ 800) (hv : VM d L w n r T S ms) (a b c e : Int) (hg : 0 ≤ a ∧ a < T * n) (hi : 0 ≤ b ∧ b < (w : Int)) (out : List Mv) (ho : out = Bg ⟨a, b, ⟨c, e⟩⟩ ms false) (hvo : VM d L w n r T S out) :
    Ev (fun k => yt.l0 k ms out false 0 a b c e d L T S a b (-1) e) true := by
  have Zy := H.ok.w1
  have hol : out.length ≤ ms.length + 1 := by rw [ho]; exact IL _ ms false
  have hos : out.length ≤ 1000 := by omega
  have hfind : out.find? (D8 a b) = some ⟨a, b, ⟨c, e⟩⟩ := by rw [ho, JK, if_pos ⟨rfl, rfl⟩]; rfl
  have hmv : EZ out a b = true := by rw [Mw hvo.1.sorted, hfind]; rfl
  have hlt := LM hmv
  have her : Bg ⟨a, b, ⟨-1, e⟩⟩ out true = out.eraseIdx (Ep out a b) := O1 ⟨a, b, ⟨-1, e⟩⟩ out hvo.1.sorted hmv
  have hle : (out.eraseIdx (Ep out a b)).length = out.length - 1 := by rw [List.length_eraseIdx, if_pos hlt]
  have hwp : DD out ⟨a, b, ⟨-1, e⟩⟩ = Bg ⟨a, b, ⟨-1, e⟩⟩ out true := rfl
  have hfl : Bg ⟨a, b, ⟨-1, e⟩⟩ out true = ms.filter fun x => !D8 a b x := by
    rw [FD, ho]
    exact GR ⟨a, b, ⟨c, e⟩⟩ ms false
  have hvb := H.ZJ out hvo ⟨a, b, ⟨-1, e⟩⟩ hg hi
  have has := H.LU out (by omega) hvo ⟨a, b, ⟨-1, e⟩⟩
  have hap : CV d L w n r T S out ⟨a, b, ⟨-1, e⟩⟩ = if VM d L w n r T S (Bg ⟨a, b, ⟨-1, e⟩⟩ out true) then (Bg ⟨a, b, ⟨-1, e⟩⟩ out true, 0) else ([], 1) := by
    unfold CV
    rw [if_pos ⟨hg.1, hg.2, hi.1, hi.2⟩, if_neg (fun h => by have := h.2; rw [hwp, her, hle] at this; omega), hwp]
  rw [hap] at has
  replace has : Ev (fun k => zl.f k d L T S out a b (-1) e) (if VM d L w n r T S (Bg ⟨a, b, ⟨-1, e⟩⟩ out true) then (Bg ⟨a, b, ⟨-1, e⟩⟩ out true, 0) else ([], 1)) := has
  have hl0 : ∀ t i : Nat, w - i = t → i ≤ w → ∀ occ : Bool, (occ = true ↔ ∃ k : Nat, k < i ∧ (k : Int) ≠ b ∧ (Ca L w n r out a (k : Int)).1 = (Fb L w n r a.toNat b.toNat).1) → Ev (fun k => yt.l0 k ms out occ (i : Int) a b c e d L T S a b (-1) e) true := by
    intro t
    induction t with
    | zero =>
      intro i ht hi2
      obtain rfl : i = w := by omega
      intro occ hocc
      refine evs (fun k => by rw [yt.l0]) (GJ H.FR (BQ (show ¬ (i : Int) < (i : Int) by omega) ?_))
      refine DN has ?_
      cases occ with
      | true =>
        obtain ⟨k, h1, h2, h3⟩ := hocc.1 rfl
        rw [if_neg (fun hv2 => hvb.1 hv2 k h1 h2 h3)]
        exact AJ rfl (AJ rfl (AJ rfl (Ev.now _)))
      | false =>
        have hyes : VM d L i n r T S (Bg ⟨a, b, ⟨-1, e⟩⟩ out true) := hvb.2 fun k h1 h2 h3 => by
          have := hocc.2 ⟨k, h1, h2, h3⟩
          cases this
        rw [if_pos hyes]
        refine BQ (by decide) ?_
        exact H.returned ms hl a b c e hg hi _ hfl hyes
    | succ t ih =>
      intro i ht hi2
      have hiw : i < w := by omega
      have hi0 : (0 : Int) ≤ (i : Int) := Int.natCast_nonneg i
      have hi1 : (i : Int) < (w : Int) := Int.ofNat_lt.2 hiw
      have hnext := ih (i + 1) (by omega) hiw
      rw [← vv i (by omega)] at hnext
      intro occ hocc
      have hex := ZO i (fun k : Nat => (k : Int) ≠ b ∧ (Ca L w n r out a (k : Int)).1 = (Fb L w n r a.toNat b.toNat).1)
      refine evs (fun k => by rw [yt.l0]) (GJ H.FR (AJ hi1 ?_))
      cases occ with
      | true => exact AJ rfl (hnext true ⟨fun _ => hex.2 (.inl (hocc.1 rfl)), fun _ => rfl⟩)
      | false =>
        have hnone : ¬ ∃ k : Nat, k < i ∧ (k : Int) ≠ b ∧ (Ca L w n r out a (k : Int)).1 = (Fb L w n r a.toNat b.toNat).1 := fun h => by
          have := hocc.2 h
          cases this
        refine BQ (by decide) ?_
        by_cases ci : (i : Int) = b
        · refine AJ ci (hnext false ⟨fun h => (by cases h), fun h => ?_⟩)
          rcases hex.1 h with h | h
          · exact absurd h hnone
          · exact absurd ci h.1
        · refine BQ ci (DN (H.K9 out hos a (i : Int) hg.1 hg.2 hi0 hi1) (DN (H.Xo a b hg.1 hg.2 hi.1 hi.2) (hnext _ ?_)))
          rw [beq_iff_eq, hex]
          exact ⟨fun h => .inr ⟨ci, h⟩, fun h => h.elim (fun h => absurd h hnone) (fun h => h.2)⟩
  exact hl0 _ 0 rfl (Nat.zero_le _) false ⟨fun h => (by cases h), fun ⟨k, h1, _⟩ => absurd h1 (Nat.not_lt_zero k)⟩
end
theorem MK (x : Int) (raw : List Int) (a b c e : Int) (h0 : 0 ≤ x) (h1 : x < 65536) (hraw : ∀ b ∈ raw, 0 ≤ b ∧ b < 256) : Ev (fun k => yt.f k x raw a b c e) true := by
  unfold yt.f
  refine DN Jy (AJ rfl ?_)
  by_cases hl : (raw.length : Int) > 20
  · exact AJ hl (Ev.now _)
  refine BQ hl ?_
  obtain ⟨d, L, w, n, r, T, S, hs, H⟩ := Jo x h0 h1
  refine DN hs ?_
  obtain ⟨ms, hm, hv, hml⟩ := H.NZ raw hraw (by omega)
  refine DN hm ?_
  have hms : ms.length ≤ 800 := by omega
  have has : Ev (fun k => zl.f k d L T S ms a b c e) (CV d L w n r T S ms ⟨a, b, ⟨c, e⟩⟩) := H.LU ms (by omega) hv ⟨a, b, ⟨c, e⟩⟩
  by_cases hr : 0 ≤ a ∧ a < T * n ∧ 0 ≤ b ∧ b < (w : Int)
  · by_cases hc : c = -1
    · have hwp : DD ms ⟨a, b, ⟨c, e⟩⟩ = Bg ⟨a, b, ⟨c, e⟩⟩ ms true := by unfold DD; rw [show (c == (-1 : Int)) = true from beq_iff_eq.2 hc]
      by_cases hk : (DD ms ⟨a, b, ⟨c, e⟩⟩).length = ms.length
      · have hap : CV d L w n r T S ms ⟨a, b, ⟨c, e⟩⟩ = ([], 9) := by
          unfold CV
          rw [if_pos hr, if_pos ⟨hc, hk⟩]
        rw [hap] at has
        refine DN has (BQ (show ¬ (9 : Int) = 0 by decide) (AJ rfl (Ev.now _)))
      · by_cases hvo : VM d L w n r T S (DD ms ⟨a, b, ⟨c, e⟩⟩)
        · have hap : CV d L w n r T S ms ⟨a, b, ⟨c, e⟩⟩ = (DD ms ⟨a, b, ⟨c, e⟩⟩, 0) := by
            unfold CV
            rw [if_pos hr, if_neg (fun h => hk h.2), if_pos hvo]
          rw [hap] at has
          refine DN has (AJ rfl (AJ hc ?_))
          rw [hwp] at hvo ⊢
          exact H.returned ms hms a b c e ⟨hr.1, hr.2.1⟩ ⟨hr.2.2.1, hr.2.2.2⟩ _ (FD ⟨a, b, ⟨c, e⟩⟩ ms) hvo
        · have hap : CV d L w n r T S ms ⟨a, b, ⟨c, e⟩⟩ = ([], 1) := by
            unfold CV
            rw [if_pos hr, if_neg (fun h => hk h.2), if_neg hvo]
          rw [hap] at has
          refine DN has (BQ (show ¬ (1 : Int) = 0 by decide) (AJ rfl (Ev.now _)))
    · have hwp : DD ms ⟨a, b, ⟨c, e⟩⟩ = Bg ⟨a, b, ⟨c, e⟩⟩ ms false := by unfold DD; rw [show (c == (-1 : Int)) = false from beq_eq_false_iff_ne.2 hc]
      by_cases hvo : VM d L w n r T S (DD ms ⟨a, b, ⟨c, e⟩⟩)
      · have hap : CV d L w n r T S ms ⟨a, b, ⟨c, e⟩⟩ = (DD ms ⟨a, b, ⟨c, e⟩⟩, 0) := by
          unfold CV
          rw [if_pos hr, if_neg (fun h => hc h.1), if_pos hvo]
        rw [hap] at has
        refine DN has (AJ rfl (BQ hc ?_))
        exact H.returns ms hms hv a b c e ⟨hr.1, hr.2.1⟩ ⟨hr.2.2.1, hr.2.2.2⟩ _ hwp hvo
      · have hap : CV d L w n r T S ms ⟨a, b, ⟨c, e⟩⟩ = ([], 1) := by
          unfold CV
          rw [if_pos hr, if_neg (fun h => hc h.1), if_neg hvo]
        rw [hap] at has
        refine DN has (BQ (show ¬ (1 : Int) = 0 by decide) (AJ rfl (Ev.now _)))
  · have hap : CV d L w n r T S ms ⟨a, b, ⟨c, e⟩⟩ = ([], 2) := by
      unfold CV
      rw [if_neg hr]
    rw [hap] at has
    refine DN has (BQ (show ¬ (2 : Int) = 0 by decide) (AJ rfl (Ev.now _)))
end Go.Proofs.Ytjonnfmoocijlaa.P
