/- Texts of a claim, packed. -/
import Derived.Test.YtjonnfmoocijlaaC31
import Derived.Test.YtjonnfmoocijlaaC33
import Derived.Test.YtjonnfmoocijlaaC36
set_option linter.all false
namespace Go.Proofs.Ytjonnfmoocijlaa.P
open Go.RowKit Go.Proofs.YtjonnfmoocijlaaKW.PrintWords
def Behind (x m : Mv) : Bool := decide (x.f0 > m.f0) || (x.f0 == m.f0 && decide (x.f1 > m.f1))
def Bg (m : Mv) : List Mv → Bool → List Mv
 | [], put => if put then [] else [m]
 | x :: xs, put => if D8 m.f0 m.f1 x then Bg m xs put else if !put && Behind x m then m :: x :: Bg m xs true else x :: Bg m xs put
def DD (ms : List Mv) (m : Mv) : List Mv := Bg m ms (m.f2.f0 == -1)
theorem IL (m : Mv) : ∀ (ms : List Mv) (put : Bool), (Bg m ms put).length ≤ ms.length + (if put then 0 else 1)
  | [], put => by cases put <;> simp [Bg]
  | x :: xs, put => by
    unfold Bg
    have h1 := IL m xs put
    have h2 := IL m xs true
    split
    · simp only [List.length_cons]; omega
    · split
      · rename_i hc
        simp only [Bool.and_eq_true, Bool.not_eq_true'] at hc
        simp only [List.length_cons, hc.1, if_true] at h2 ⊢
        simp
        exact h2
      · simp only [List.length_cons]; omega
theorem Iq (ms : List Mv) (m : Mv) : (DD ms m).length ≤ ms.length + 1 := by
 have := IL m ms (m.f2.f0 == -1)
 unfold DD
 split at this <;> omega
theorem ZI (ms : List Mv) (hl : ms.length ≤ 1000) (m : Mv) : Ev (fun k => zq.f k ms m.f0 m.f1 m.f2.f0 m.f2.f1) (DD ms m) := by
 have h0 : ∀ t j : Nat, ms.length - j = t → j ≤ ms.length → ∀ (out : List Mv) (put : Bool), out.length ≤ 2 * j → Ev (fun k => zq.l0 k ms out put (j : Int) m.f0 m.f1 m.f2.f0 m.f2.f1) (out ++ Bg m (ms.drop j) put) := by
  intro t
  induction t with
  | zero =>
   intro j ht hj out put ho
   refine evs (fun k => by rw [zq.l0]) (BQ (by omega) ?_)
   rw [List.drop_of_length_le (by omega)]
   unfold Bg
   cases put with
   | true => exact AJ rfl (I8 (by simp))
   | false => exact BQ (by decide) (AJ (by omega) (Ev.now _))
  | succ t ih =>
   intro j ht hj out put ho
   have hlt : j < ms.length := by omega
   have ht' : ms.length - (j + 1) = t := by omega
   have hww := vv j (by omega)
   have hb1 : out.length < 4398046511104 := by omega
   have hb2 : (out ++ [m]).length < 4398046511104 := by rw [List.length_append, List.length_singleton]; omega
   have hb3 : out.length ≤ 2 * (j + 1) := by omega
   have hb4 : (out ++ [ms[j]]).length ≤ 2 * (j + 1) := by rw [List.length_append, List.length_singleton]; omega
   have hb5 : (out ++ [m] ++ [ms[j]]).length ≤ 2 * (j + 1) := by simp only [List.length_append, List.length_singleton]; omega
   have hdrop := List.drop_eq_getElem_cons hlt
   generalize hx : ms[j] = x at hb4 hb5 hdrop
   have hj2 : ∀ bb : Bool, D8 m.f0 m.f1 x = false → bb = (!put && Behind x m) → Ev (fun k => zq.j2 k ms out put (j : Int) bb m.f0 m.f1 m.f2.f0 m.f2.f1 x.f0 x.f1 x.f2.f0 x.f2.f1) (out ++ Bg m (ms.drop j) put) := by
    intro bb hi hbb
    refine evs (fun k => by rw [zq.j2]) ?_
    rw [hdrop]
    unfold Bg
    rw [if_neg (by rw [hi]; decide), ← hbb, hww]
    cases bb with
    | true =>
     refine AJ rfl (AJ hb1 (GJ (a := out ++ [m]) rfl (AJ hb2 ?_)))
     have := ih (j + 1) ht' hlt (out ++ [m] ++ [x]) true hb5
     rw [if_pos rfl]
     simpa using this
    | false =>
     refine BQ (by decide) (AJ hb1 ?_)
     have := ih (j + 1) ht' hlt (out ++ [x]) put hb4
     rw [if_neg (by decide)]
     simpa using this
   have hj1 : ∀ bb : Bool, bb = D8 m.f0 m.f1 x → Ev (fun k => zq.j1 k ms out put (j : Int) bb m.f0 m.f1 m.f2.f0 m.f2.f1 x.f0 x.f1 x.f2.f0 x.f2.f1) (out ++ Bg m (ms.drop j) put) := by
    intro bb hbb
    refine evs (fun k => by rw [zq.j1]) ?_
    cases bb with
    | true =>
     refine AJ rfl ?_
     rw [hdrop, hww]
     unfold Bg
     rw [if_pos hbb.symm]
     exact ih (j + 1) ht' hlt out put hb3
    | false =>
     refine BQ (by decide) ?_
     cases put with
     | true => exact AJ rfl (hj2 false hbb.symm rfl)
     | false =>
      refine BQ (by decide) ?_
      by_cases c1 : x.f0 > m.f0
      · exact AJ c1 (hj2 true hbb.symm (by simp [Behind, c1]))
      refine BQ c1 ?_
      by_cases c2 : x.f0 = m.f0
      · exact AJ c2 (hj2 _ hbb.symm (by simp [Behind, c2]))
      · exact BQ c2 (hj2 false hbb.symm (by simp [Behind, c1, c2]))
   refine evs (fun k => by rw [zq.l0]) (AJ (Int.ofNat_lt.2 hlt) (AJ (Int.natCast_nonneg j) ?_))
   rw [Gm ms j hlt, hx]
   by_cases c1 : x.f0 = m.f0
   · exact AJ c1 (hj1 _ (by simp [D8, c1]))
   · exact BQ c1 (hj1 false (by simp [D8, c1]))
 have := h0 _ 0 rfl (Nat.zero_le _) [] (m.f2.f0 == -1) (Nat.zero_le _)
 exact this
section
variable {d : Int} {L : List (List Int)} {w n r : Nat} {T S : Int} (H : Lo d L w n r T S)
include H
def CV (d : Int) (L : List (List Int)) (w n r : Nat) (T S : Int) (ms : List Mv) (m : Mv) : List Mv × Int :=
 if 0 ≤ m.f0 ∧ m.f0 < T * n ∧ 0 ≤ m.f1 ∧ m.f1 < (w : Int) then
  if m.f2.f0 = -1 ∧ (DD ms m).length = ms.length then ([], 9) else if VM d L w n r T S (DD ms m) then (DD ms m, 0) else ([], 1)
 else ([], 2)
theorem Lo.Yp (ms : List Mv) (hl : ms.length ≤ 900) (m : Mv) : Ev (fun k => Aq.f k d L T S ms m.f0 m.f1 m.f2.f0 m.f2.f1) (CV d L w n r T S ms m) := by
  have hwl := Iq ms m
  unfold CV Aq.f
  refine GJ (H.is _ _) ?_
  by_cases c : 0 ≤ m.f0 ∧ m.f0 < T * n ∧ 0 ≤ m.f1 ∧ m.f1 < (w : Int)
  · rw [decide_eq_true c, if_pos c]
    refine AJ rfl (DN (ZI ms (by omega) m) ?_)
    have hj : ∀ bb : Bool, bb = decide (m.f2.f0 = -1 ∧ (DD ms m).length = ms.length) → Ev (fun k => Aq.j0 k (DD ms m) bb d L T S) (if m.f2.f0 = -1 ∧ (DD ms m).length = ms.length then ([], 9) else if VM d L w n r T S (DD ms m) then (DD ms m, 0) else ([], 1)) := by
      intro bb hbb
      refine evs (fun k => by rw [Aq.j0]) ?_
      cases bb with
      | true => exact AJ rfl (I8 (by rw [if_pos (of_decide_eq_true hbb.symm)]))
      | false =>
        rw [if_neg (of_decide_eq_false hbb.symm)]
        refine BQ (by decide) (DN (H.a3x _ (by omega)) ?_)
        by_cases c2 : VM d L w n r T S (DD ms m)
        · rw [decide_eq_true c2, if_pos c2]
          exact AJ rfl (Ev.now _)
        · rw [decide_eq_false c2, if_neg c2]
          exact BQ (by decide) (Ev.now _)
    by_cases c1 : m.f2.f0 = -1
    · refine AJ c1 (hj _ ?_)
      rw [Bool.eq_iff_iff, beq_iff_eq, decide_eq_true_iff]
      exact ⟨fun h => ⟨c1, by omega⟩, fun h => by omega⟩
    · refine BQ c1 (hj false ?_)
      rw [eq_comm, decide_eq_false_iff_not]
      exact fun h => c1 h.1
  · rw [decide_eq_false c, if_neg c]
    exact BQ (by decide) (Ev.now _)
theorem Lo.Qn : VM d L w n r T S [] := ⟨fun i h _ => by simp at h, fun m hm => by simp at hm⟩
theorem Lo.NZ (raw : List Int) (hraw : ∀ b ∈ raw, 0 ≤ b ∧ b < 256) (hlr : raw.length ≤ 100) : ∃ ms, Ev (fun k => yK.f k d L T S raw) ms ∧ VM d L w n r T S ms ∧ ms.length ≤ raw.length := by
  have htn := H.tn
  have Zy := H.ok.w1
  have hd1 := H.ok.d1
  have hn1 := H.ok.n1
  have a3A : 1 ≤ T * (n : Int) := by
    calc (1 : Int) ≤ 1 * n := by omega
      _ ≤ T * n := Int.mul_le_mul_of_nonneg_right H.t1.1 (by omega)
  have hl0 : ∀ t j : Nat, raw.length - j = t → j ≤ raw.length → ∀ out, VM d L w n r T S out → out.length ≤ j → ∃ ms, Ev (fun k => yK.l0 k raw out (j : Int) d L T S) ms ∧ VM d L w n r T S ms ∧ ms.length ≤ raw.length := by
    intro t
    induction t with
    | zero =>
      intro j ht hj out hv ho
      exact ⟨out, evs (fun k => by rw [yK.l0]) (BQ (by omega) (Ev.now _)), hv, by omega⟩
    | succ t ih =>
      intro j ht hj out hv ho
      have hlt : j < raw.length := by omega
      have ht' : raw.length - (j + 1) = t := by omega
      have hol : out.length ≤ 900 := by omega
      have hww := vv j (by omega)
      obtain ⟨hb0, hb1⟩ := hraw _ (List.getElem_mem hlt)
      have hrd : rd raw (j : Int) = raw[j] := IQ raw j hlt
      generalize raw[j] = b at hb0 hb1 hrd
      obtain ⟨N, hN⟩ : ∃ N : Int, N = T * n * w := ⟨_, rfl⟩
      have hN1 : 1 ≤ N ∧ N ≤ 525 := by
        rw [hN]
        refine ⟨?_, ?_⟩
        · calc (1 : Int) ≤ 1 * w := by omega
            _ ≤ T * n * w := Int.mul_le_mul_of_nonneg_right a3A (by omega)
        · calc T * n * w ≤ 105 * w := Int.mul_le_mul_of_nonneg_right htn.2 (by omega)
            _ ≤ 525 := by omega
      have e1 : wrap64 (T * (n : Int) * (w : Int)) = N := by rw [← hN]; exact ww (by omega) (by omega)
      have e2 : wrap64 (wrap64 b * 7) = b * 7 := by rw [ww (x := b) (by omega) (by omega)]; exact ww (by omega) (by omega)
      have e3 : Int.tmod (b * 7) N = b * 7 % N := Int.tmod_eq_emod_of_nonneg (by omega)
      have aa : 0 ≤ b * 7 % N := Int.emod_nonneg _ (by omega)
      have hK1 : b * 7 % N < N := Int.emod_lt_of_pos _ (by omega)
      generalize b * 7 % N = K at e3 aa hK1
      have e4 : Int.tdiv K (w : Int) = K / (w : Int) := Int.tdiv_eq_ediv_of_nonneg aa
      have hG0 : 0 ≤ K / (w : Int) := Int.ediv_nonneg aa (by omega)
      have hG1 : K / (w : Int) < T * n := Int.ediv_lt_of_lt_mul (by omega) (by rw [← hN]; exact hK1)
      generalize K / (w : Int) = G at e4 hG0 hG1
      have e5 : wrap64 G = G := ww (by omega) (by omega)
      generalize hP : Int.tmod K (w : Int) = P
      have hst : ∀ p0 p1 : Int, ∃ ms, Ev (fun k => yK.j1 k raw out (j : Int) d L T S G P 0 0 p0 p1) ms ∧ VM d L w n r T S ms ∧ ms.length ≤ raw.length := by
        intro p0 p1
        have ha := H.Yp out hol ⟨G, P, ⟨p0, p1⟩⟩
        have hwl := Iq out ⟨G, P, ⟨p0, p1⟩⟩
        by_cases c : (CV d L w n r T S out ⟨G, P, ⟨p0, p1⟩⟩).2 = 0
        · have hvm : VM d L w n r T S (CV d L w n r T S out ⟨G, P, ⟨p0, p1⟩⟩).1 ∧ (CV d L w n r T S out ⟨G, P, ⟨p0, p1⟩⟩).1.length ≤ out.length + 1 := by
            unfold CV at c ⊢
            split
            · rename_i c1
              rw [if_pos c1] at c
              split
              · rename_i c2
                rw [if_pos c2] at c
                cases c
              · rename_i c2
                rw [if_neg c2] at c
                split
                · rename_i c3
                  exact ⟨c3, hwl⟩
                · rename_i c3
                  rw [if_neg c3] at c
                  cases c
            · rename_i c1
              rw [if_neg c1] at c
              cases c
          obtain ⟨ms, h1, h2, h3⟩ := ih (j + 1) ht' hlt _ hvm.1 (Nat.le_trans hvm.2 (Nat.succ_le_succ ho))
          refine ⟨ms, evs (fun k => by rw [yK.j1]) (DN ha (AJ c ?_)), h2, h3⟩
          rw [hww]
          exact h1
        · obtain ⟨ms, h1, h2, h3⟩ := ih (j + 1) ht' hlt out hv (Nat.le_succ_of_le ho)
          refine ⟨ms, evs (fun k => by rw [yK.j1]) (DN ha (BQ c ?_)), h2, h3⟩
          rw [hww]
          exact h1
      obtain ⟨ii, hii⟩ : ∃ ii : Int, ii = Int.tdiv b 2 % 256 % ((List.replicate d.toNat false).length : Int) := ⟨_, rfl⟩
      have hrl : ((List.replicate d.toNat false).length : Int) = d := by rw [List.length_replicate]; omega
      have hi0 : 0 ≤ ii := by rw [hii]; exact Int.emod_nonneg _ (by omega)
      have hi1 : ii < ((List.replicate d.toNat false).length : Int) := by rw [hii]; exact Int.emod_lt_of_pos _ (by omega)
      obtain ⟨v, hch⟩ : ∃ v, Ev (fun k => yH.f k d L T S out G ((List.replicate d.toNat false).set ii.toNat true)) v := ⟨_, H.UL out (Nat.le_trans hol (by decide)) hv G _ (by rw [List.length_set]; exact hrl) ⟨hG0, hG1⟩⟩
      have hd0 : 0 ≤ d := by omega
      have hdn : d.toNat ≤ 281474976710656 := by omega
      have ae : ¬ ((List.replicate d.toNat false).length : Int) = 0 := by omega
      have hw0 : ¬ (w : Int) = 0 := by omega
      have hN0 : ¬ N = 0 := by omega
      have hgo : ∀ R, (∀ p0 p1 : Int, p0 = (if v.2.2 = true then v.1 else -1) → p1 = (if v.2.2 = true then v.2.1 else 0) → Ev (fun k => yK.j1 k raw out (j : Int) d L T S G P 0 0 p0 p1) R) → Ev (fun k => yK.l0 k raw out (j : Int) d L T S) R := by
        intro R hR
        refine evs (fun k => by rw [yK.l0]) ?_
        refine AJ (Int.ofNat_lt.2 hlt) (AJ (Int.natCast_nonneg j) ?_)
        refine GJ H.groups ?_
        refine GJ H.FR ?_
        rw [hrd]
        simp only [e1, e2, e3]
        refine BQ hN0 ?_
        refine GJ H.FR ?_
        refine BQ hw0 ?_
        refine GJ H.FR ?_
        refine BQ hw0 ?_
        refine AJ hd0 (AJ hdn ?_)
        refine GJ (a := List.replicate d.toNat false) rfl ?_
        rw [← hii]
        refine BQ ae (AJ hi0 (AJ hi1 ?_))
        simp only [e4, e5, hP]
        refine DN hch ?_
        by_cases c : v.2.2 = true
        · exact AJ c (hR _ _ (by rw [if_pos c]) (by rw [if_pos c]))
        · exact BQ c (hR _ _ (by rw [if_neg c]) (by rw [if_neg c]))
      obtain ⟨ms, h1, h2, h3⟩ := hst (if v.2.2 = true then v.1 else -1) (if v.2.2 = true then v.2.1 else 0)
      exact ⟨ms, hgo ms (fun p0 p1 q0 q1 => by rw [q0, q1]; exact h1), h2, h3⟩
  obtain ⟨ms, h1, h2, h3⟩ := hl0 _ 0 rfl (Nat.zero_le _) [] H.Qn (Nat.zero_le _)
  exact ⟨ms, h1, h2, h3⟩
end
theorem H6 {x m : Mv} : Behind x m = true ↔ (x.f0 > m.f0 ∨ x.f0 = m.f0 ∧ x.f1 > m.f1) := by simp [Behind]
theorem O0 {x m : Mv} (h : Behind x m = true) : D8 m.f0 m.f1 x = false := by
 rw [H6] at h
 rw [Bool.eq_false_iff]
 intro h2
 rw [Cz] at h2
 omega
theorem FC {x m : Mv} (h : Ahead x m.f0 m.f1) : D8 m.f0 m.f1 x = false ∧ Behind x m = false := by
  unfold Ahead at h
  constructor
  · rw [Bool.eq_false_iff]
    intro h2
    rw [Cz] at h2
    omega
  · rw [Bool.eq_false_iff]
    intro h2
    rw [H6] at h2
    omega
theorem PG {x m : Mv} (h : ¬ Ahead x m.f0 m.f1) (h2 : D8 m.f0 m.f1 x = false) : Behind x m = true := by
 have h3 : ¬ (x.f0 = m.f0 ∧ x.f1 = m.f1) := fun h4 => by rw [Cz.2 h4] at h2; cases h2
 unfold Ahead at h
 rw [H6]
 omega
theorem Gn {x m : Mv} {xs : List Mv} (hs : Sorted (x :: xs)) (h : ¬ Ahead x m.f0 m.f1) : ∀ y ∈ xs, Behind y m = true := by
 intro y hy
 have := (List.pairwise_cons.1 hs).1 y hy
 unfold Ahead at this h
 rw [H6]
 omega
theorem EO (m : Mv) (ms : List Mv) (hb : ∀ x ∈ ms, Behind x m = true) : Bg m ms true = ms ∧ Bg m ms false = m :: ms := by
  induction ms with
  | nil => exact ⟨rfl, rfl⟩
  | cons x xs ih =>
    have h1 := hb x (List.mem_cons_self ..)
    have h2 := ih fun y hy => hb y (List.mem_cons_of_mem _ hy)
    constructor
    · unfold Bg
      rw [if_neg (by rw [O0 h1]; decide), if_neg (by simp), h2.1]
    · unfold Bg
      rw [if_neg (by rw [O0 h1]; decide), if_pos (by rw [h1]; rfl), h2.1]
theorem Fs {x : Mv} {xs : List Mv} {g i : Int} (h : Ahead x g i) : Ep (x :: xs) g i = Ep xs g i + 1 := by
 unfold Ep
 rw [List.takeWhile_cons_of_pos (by simpa using h), List.length_cons]
theorem Gf {x : Mv} {xs : List Mv} {g i : Int} (h : ¬ Ahead x g i) : Ep (x :: xs) g i = 0 := by
 unfold Ep
 rw [List.takeWhile_cons_of_neg (by simpa using h), List.length_nil]
def EZ (ms : List Mv) (g i : Int) : Bool := (ms.drop (Ep ms g i)).head?.any (D8 g i)
theorem GQ {x : Mv} {xs : List Mv} {g i : Int} (h : Ahead x g i) : EZ (x :: xs) g i = EZ xs g i := by
 unfold EZ
 rw [Fs h]
 rfl
theorem IM {x : Mv} {xs : List Mv} {g i : Int} (h : ¬ Ahead x g i) : EZ (x :: xs) g i = D8 g i x := by
 unfold EZ
 rw [Gf h]
 rfl
theorem LM {ms : List Mv} {g i : Int} (h : EZ ms g i = true) : Ep ms g i < ms.length := by
  unfold EZ at h
  rcases Nat.lt_or_ge (Ep ms g i) ms.length with h1 | h1
  · exact h1
  · rw [List.drop_of_length_le h1] at h
    cases h
theorem Yq (m : Mv) (ms : List Mv) (hs : Sorted ms) (h : EZ ms m.f0 m.f1 = true) : Bg m ms false = ms.set (Ep ms m.f0 m.f1) m := by
  induction ms with
  | nil => cases h
  | cons x xs ih =>
    unfold Bg
    by_cases c : Ahead x m.f0 m.f1
    · rw [GQ c] at h
      rw [Fs c, if_neg (by rw [(FC c).1]; decide), if_neg (by rw [(FC c).2]; decide), ih (List.pairwise_cons.1 hs).2 h, List.set_cons_succ]
    · rw [IM c] at h
      rw [Gf c, if_pos h, (EO m xs (Gn hs c)).2, List.set_cons_zero]
theorem O1 (m : Mv) (ms : List Mv) (hs : Sorted ms) (h : EZ ms m.f0 m.f1 = true) : Bg m ms true = ms.eraseIdx (Ep ms m.f0 m.f1) := by
  induction ms with
  | nil => cases h
  | cons x xs ih =>
    unfold Bg
    by_cases c : Ahead x m.f0 m.f1
    · rw [GQ c] at h
      rw [Fs c, if_neg (by rw [(FC c).1]; decide), if_neg (by simp), ih (List.pairwise_cons.1 hs).2 h, List.eraseIdx_cons_succ]
    · rw [IM c] at h
      rw [Gf c, if_pos h, (EO m xs (Gn hs c)).1, List.eraseIdx_cons_zero]
theorem RQ (m : Mv) (ms : List Mv) (hs : Sorted ms) (h : EZ ms m.f0 m.f1 = false) : Bg m ms false = ms.take (Ep ms m.f0 m.f1) ++ m :: ms.drop (Ep ms m.f0 m.f1) := by
  induction ms with
  | nil => rfl
  | cons x xs ih =>
    unfold Bg
    by_cases c : Ahead x m.f0 m.f1
    · rw [GQ c] at h
      rw [Fs c, if_neg (by rw [(FC c).1]; decide), if_neg (by rw [(FC c).2]; decide), ih (List.pairwise_cons.1 hs).2 h, List.take_succ_cons, List.drop_succ_cons]
      rfl
    · rw [IM c] at h
      rw [Gf c, if_neg (by rw [h]; decide), if_pos (by rw [PG c h]; rfl), (EO m xs (Gn hs c)).1]
      rfl
theorem PH (m : Mv) (ms : List Mv) (hs : Sorted ms) (h : EZ ms m.f0 m.f1 = false) : Bg m ms true = ms := by
  induction ms with
  | nil => rfl
  | cons x xs ih =>
    unfold Bg
    by_cases c : Ahead x m.f0 m.f1
    · rw [GQ c] at h
      rw [if_neg (by rw [(FC c).1]; decide), if_neg (by simp), ih (List.pairwise_cons.1 hs).2 h]
    · rw [IM c] at h
      rw [if_neg (by rw [h]; decide), if_neg (by simp), (EO m xs (Gn hs c)).1]
theorem FD (m : Mv) (ms : List Mv) : Bg m ms true = ms.filter fun x => !D8 m.f0 m.f1 x := by
 induction ms with
 | nil => rfl
 | cons x xs ih =>
  unfold Bg
  by_cases c : D8 m.f0 m.f1 x = true
  · rw [if_pos c, List.filter_cons_of_neg (by simp [c]), ih]
  · rw [if_neg c, if_neg (by simp), List.filter_cons_of_pos (by simp [c]), ih]
theorem PI (m : Mv) (ms : List Mv) : (Bg m ms false).Perm (m :: ms.filter fun x => !D8 m.f0 m.f1 x) := by
  induction ms with
  | nil => exact List.Perm.refl _
  | cons x xs ih =>
    unfold Bg
    by_cases c : D8 m.f0 m.f1 x = true
    · rw [if_pos c, List.filter_cons_of_neg (by simp [c])]
      exact ih
    · rw [if_neg c, List.filter_cons_of_pos (by simp [c])]
      split
      · rw [FD]
      · exact (List.Perm.cons x ih).trans (List.Perm.swap ..)
theorem JK (m : Mv) (g i : Int) (ms : List Mv) (put : Bool) : (Bg m ms put).find? (D8 g i) = if g = m.f0 ∧ i = m.f1 then (if put then none else some m) else ms.find? (D8 g i) := by
  have hm : D8 g i m = decide (g = m.f0 ∧ i = m.f1) := by rw [Bool.eq_iff_iff, Cz, decide_eq_true_iff]; omega
  have hx : ∀ x : Mv, D8 m.f0 m.f1 x = true → ¬ (g = m.f0 ∧ i = m.f1) → D8 g i x = false := by
    intro x h1 h2
    rw [Cz] at h1
    rw [Bool.eq_false_iff]
    intro h3
    rw [Cz] at h3
    omega
  have hy : ∀ x : Mv, ¬ D8 m.f0 m.f1 x = true → g = m.f0 ∧ i = m.f1 → D8 g i x = false := by
    intro x h1 h2
    rw [h2.1, h2.2]
    exact Bool.eq_false_iff.2 h1
  induction ms generalizing put with
  | nil =>
    unfold Bg
    by_cases c : g = m.f0 ∧ i = m.f1
    · rw [if_pos c]
      rw [decide_eq_true c] at hm
      cases put with
      | true => rfl
      | false => exact List.find?_cons_of_pos hm
    · rw [if_neg c]
      rw [decide_eq_false c] at hm
      cases put with
      | true => rfl
      | false => exact List.find?_cons_of_neg (by rw [hm]; decide)
  | cons x xs ih =>
    unfold Bg
    by_cases c1 : D8 m.f0 m.f1 x = true
    · rw [if_pos c1, ih put]
      by_cases c : g = m.f0 ∧ i = m.f1
      · rw [if_pos c, if_pos c]
      · rw [if_neg c, if_neg c, List.find?_cons_of_neg (by rw [hx x c1 c]; decide)]
    · rw [if_neg c1]
      split
      · rename_i hp
        simp only [Bool.and_eq_true, Bool.not_eq_true'] at hp
        by_cases c : g = m.f0 ∧ i = m.f1
        · rw [decide_eq_true c] at hm
          rw [if_pos c, List.find?_cons_of_pos hm, hp.1]
          rfl
        · rw [decide_eq_false c] at hm
          rw [if_neg c, List.find?_cons_of_neg (by rw [hm]; decide)]
          by_cases c2 : D8 g i x = true
          · rw [List.find?_cons_of_pos c2, List.find?_cons_of_pos c2]
          · rw [List.find?_cons_of_neg c2, List.find?_cons_of_neg c2, ih true, if_neg c]
      · by_cases c : g = m.f0 ∧ i = m.f1
        · rw [if_pos c, List.find?_cons_of_neg (by rw [hy x c1 c]; decide), ih put, if_pos c]
        · rw [if_neg c]
          by_cases c2 : D8 g i x = true
          · rw [List.find?_cons_of_pos c2, List.find?_cons_of_pos c2]
          · rw [List.find?_cons_of_neg c2, List.find?_cons_of_neg c2, ih put, if_neg c]
theorem H7 (m y : Mv) (ms : List Mv) (put : Bool) (h : y ∈ Bg m ms put) : (y ∈ ms ∧ D8 m.f0 m.f1 y = false) ∨ (put = false ∧ y = m) := by
  cases put with
  | true =>
    rw [FD, List.mem_filter] at h
    exact .inl ⟨h.1, by simpa using h.2⟩
  | false =>
    have := (PI m ms).mem_iff.1 h
    rcases List.mem_cons.1 this with h1 | h1
    · exact .inr ⟨rfl, h1⟩
    · rw [List.mem_filter] at h1
      exact .inl ⟨h1.1, by simpa using h1.2⟩
theorem Mt (m : Mv) (ms : List Mv) (put : Bool) (hs : Sorted ms) : Sorted (Bg m ms put) := by
  cases put with
  | true =>
    rw [FD]
    exact List.Pairwise.sublist (List.filter_sublist) hs
  | false =>
    induction ms with
    | nil => exact List.pairwise_singleton ..
    | cons x xs ih =>
      have hs' := List.pairwise_cons.1 hs
      unfold Bg
      have hcons : ∀ ys : List Mv, Sorted ys → (∀ y ∈ ys, Behind y m = true) → Sorted (m :: ys) := by
        intro ys h1 h2
        refine List.pairwise_cons.2 ⟨fun y hy => ?_, h1⟩
        have := H6.1 (h2 y hy)
        unfold Ahead
        omega
      by_cases c : Ahead x m.f0 m.f1
      · rw [if_neg (by rw [(FC c).1]; decide), if_neg (by rw [(FC c).2]; decide)]
        refine List.pairwise_cons.2 ⟨fun y hy => ?_, ih hs'.2⟩
        rcases H7 m y xs false hy with h1 | h1
        · exact hs'.1 y h1.1
        · rw [h1.2]
          exact c
      · have ht := Gn hs c
        by_cases c1 : D8 m.f0 m.f1 x = true
        · rw [if_pos c1, (EO m xs ht).2]
          exact hcons xs hs'.2 ht
        · have hb := PG c (Bool.eq_false_iff.2 c1)
          rw [if_neg c1, if_pos (by rw [hb]; rfl), (EO m xs ht).1]
          refine hcons _ hs fun y hy => ?_
          rcases List.mem_cons.1 hy with rfl | h
          · exact hb
          · exact ht y h
theorem Mw {ms : List Mv} (hs : Sorted ms) (g i : Int) : EZ ms g i = (ms.find? (D8 g i)).isSome := by
 rw [Ry ms hs g i]
 unfold EZ
 cases (ms.drop (Ep ms g i)).head? with
 | none => rfl
 | some x =>
  rw [Option.any_some, Option.filter_some]
  by_cases c : D8 g i x = true
  · rw [if_pos c, c]; rfl
  · rw [if_neg c, Bool.eq_false_iff.2 c]; rfl
section
variable {d : Int} {L : List (List Int)} {w n r : Nat} {T S : Int} (H : Lo d L w n r T S)
include H
theorem Lo.RS (g : Int) (h0 : 0 ≤ g) (h1 : g < T * n) : ((List.range w).map fun i => (Fb L w n r g.toNat i).1).Nodup := by
 obtain ⟨_, hl, hg⟩ := H.Qj g h0 h1
 have Zy := H.ok.w1
 have hnd : (L.getD (g.toNat % n) []).Nodup := by
  rw [getD_at _ _ _ hg]
  exact H.ok.nodup _ (List.getElem_mem hg)
 rw [List.nodup_iff_pairwise_ne, List.pairwise_iff_getElem] at hnd ⊢
 intro i j hi hj hij he
 simp only [List.length_map, List.length_range] at hi hj
 simp only [List.getElem_map, List.getElem_range] at he
 unfold Fb at he
 simp only at he
 generalize g.toNat / n = t at he
 generalize L.getD (g.toNat % n) [] = row at he hl hnd
 have hi' : (i + t) % w < row.length := by rw [hl]; exact Nat.mod_lt _ (by omega)
 have hj' : (j + t) % w < row.length := by rw [hl]; exact Nat.mod_lt _ (by omega)
 have hne : (i + t) % w ≠ (j + t) % w := by
  rcases (show w = 4 ∨ w = 5 by omega) with e | e <;> subst e <;> omega
 rw [getD_at _ _ _ hi', getD_at _ _ _ hj'] at he
 rcases Nat.lt_or_ge ((i + t) % w) ((j + t) % w) with h2 | h2
 · exact hnd _ _ hi' hj' h2 he
 · exact hnd _ _ hj' hi' (by omega) he.symm
theorem Lo.TH (ms : List Mv) (g : Int) (h0 : 0 ≤ g) (hn : ∀ m ∈ ms, m.f0 ≠ g) : Av L w n r ms g = (List.range w).map fun i => (Fb L w n r g.toNat i).1 := by
  unfold Av
  refine List.map_congr_left fun i hi => ?_
  unfold Ca
  rw [show ms.find? (D8 g (i : Int)) = none from ?_]
  · simp
  · rw [List.find?_eq_none]
    intro m hm h
    rw [Cz] at h
    exact hn m hm h.1
theorem Lo.Jt (ms : List Mv) (hv : VM d L w n r T S ms) (g : Int) (h0 : 0 ≤ g) (h1 : g < T * n) : (Av L w n r ms g).Nodup := by
  by_cases c : ∃ m ∈ ms, m.f0 = g
  · obtain ⟨m, hm, rfl⟩ := c
    exact hv.2 m hm
  · rw [H.TH ms g h0 fun m hm he => c ⟨m, hm, he⟩]
    exact H.RS g h0 h1
end
end Go.Proofs.Ytjonnfmoocijlaa.P
