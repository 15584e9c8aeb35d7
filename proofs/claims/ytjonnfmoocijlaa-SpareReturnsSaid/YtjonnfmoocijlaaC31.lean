/- Texts of a claim, packed. -/
import Derived.Test.YtjonnfmoocijlaaC29
import Derived.Test.YtjonnfmoocijlaaC30
set_option linter.all false
namespace Go.Proofs.Ytjonnfmoocijlaa.P
open Go.RowKit Go.Proofs.YtjonnfmoocijlaaKW.PrintWords
def EM (h : Int) : List Int → Int
 | [] => h
 | x :: u => if x = h then EM (h + 1) u else h
def Pz (S : Int) (st : Option (Int × Int)) (c : Int) : Bool := match st with
 | none => decide (c < S)
 | some p => decide (c < p.2)
def LJ (L : List (List Int)) (w n r : Nat) (S : Int) (ms : List Mv) (g : Int) (dead : List Bool) (st : Option (Int × Int)) (x : Nat) : Option (Int × Int) :=
 if dead.getD x false = false ∧ (x : Int) ∉ Av L w n r ms g ∧ Pz S st ((Dr ms (x : Int)).length : Int) = true then some ((x : Int), ((Dr ms (x : Int)).length : Int)) else st
def G6 (L : List (List Int)) (w n r : Nat) (S : Int) (ms : List Mv) (g : Int) (dead : List Bool) (j : Nat) : Option (Int × Int) := (List.range j).foldl (LJ L w n r S ms g dead) none
theorem JJ (L : List (List Int)) (w n r : Nat) (S : Int) (ms : List Mv) (g : Int) (dead : List Bool) (j : Nat) : G6 L w n r S ms g dead (j + 1) = LJ L w n r S ms g dead (G6 L w n r S ms g dead j) j := by
 unfold G6
 rw [List.range_succ, List.foldl_append]
 rfl
theorem Lb (L : List (List Int)) (w n r : Nat) (S : Int) (ms : List Mv) (g : Int) (dead : List Bool) (j : Nat) : ∀ p, G6 L w n r S ms g dead j = some p → 0 ≤ p.1 ∧ p.1 < (j : Int) ∧ p.2 = ((Dr ms p.1).length : Int) ∧ p.2 < S := by
  induction j with
  | zero => intro p h; cases h
  | succ j ih =>
    intro p h
    rw [JJ] at h
    unfold LJ at h
    split at h
    · rename_i hc
      obtain rfl := Option.some.inj h
      refine ⟨by simp, by simp; omega, rfl, ?_⟩
      have h3 := hc.2.2
      cases hs : G6 L w n r S ms g dead j with
      | none => rw [hs] at h3; exact of_decide_eq_true h3
      | some q =>
        rw [hs] at h3
        have := of_decide_eq_true h3
        have := (ih q hs).2.2.2
        show _ < S
        omega
    · have := ih p h
      omega
theorem Y7 (l : List Int) (hl : l.length ≤ 1000) (x : Int) : Ev (fun k => slices_Contains_int.f k l x) (decide (x ∈ l)) := by
  have h0 : ∀ t j : Nat, l.length - j = t → j ≤ l.length → x ∉ l.take j → ∃ v, Ev (fun k => slices_Index_int.l0 k l x (l.length : Int) (j : Int)) v ∧ (0 ≤ v ↔ x ∈ l) := by
    intro t
    induction t with
    | zero =>
      intro j ht hj hn
      rw [List.take_of_length_le (by omega)] at hn
      exact ⟨-1, evs (fun k => by rw [slices_Index_int.l0]) (BQ (by omega) (Ev.now _)), by simp [hn]⟩
    | succ t ih =>
      intro j ht hj hn
      have hlt : j < l.length := by omega
      by_cases c : x = l[j]
      · exact ⟨(j : Int), evs (fun k => by rw [slices_Index_int.l0]) (AJ (by omega) (AJ (by omega) (AJ (by omega) (AJ (by rw [IQ l j hlt]; exact c) (Ev.now _))))), ⟨fun _ => c ▸ List.getElem_mem hlt, fun _ => by omega⟩⟩
      · obtain ⟨v, h1, h2⟩ := ih (j + 1) (by omega) (by omega) (by
          rw [List.take_succ_eq_append_getElem hlt, List.mem_append, List.mem_singleton]
          exact fun h => h.elim hn c)
        refine ⟨v, evs (fun k => by rw [slices_Index_int.l0]) (AJ (by omega) (AJ (by omega) (AJ (by omega) (BQ (by rw [IQ l j hlt]; exact c) ?_)))), h2⟩
        rw [ww (by omega) (by omega), show (j : Int) + 1 = ((j + 1 : Nat) : Int) by omega]
        exact h1
  obtain ⟨v, h1, h2⟩ := h0 _ 0 rfl (Nat.zero_le _) (by simp)
  unfold slices_Contains_int.f slices_Index_int.f
  refine DN h1 (I8 ?_)
  rw [decide_eq_decide]
  exact h2
theorem Vy (x : Int) (ms : List Mv) (hp : ms.Pairwise fun a b => Ec b.f2 a.f2 = false) : (Py x ms).Nodup := by
  unfold Py
  induction ms with
  | nil => simp
  | cons m ms ih =>
    have h1 := List.pairwise_cons.1 hp
    by_cases c : m.f2.f0 = x
    · rw [List.filter_cons_of_pos (by simpa using c), List.map_cons, List.nodup_cons]
      refine ⟨fun h => ?_, ih h1.2⟩
      obtain ⟨b, hb, he⟩ := List.mem_map.1 h
      have hb' := List.mem_filter.1 hb
      have := h1.1 b hb'.1
      simp only [Ec, Bool.and_eq_false_iff, beq_eq_false_iff_ne, ne_eq] at this
      have h4 : b.f2.f0 = x := by simpa using hb'.2
      omega
    · rw [List.filter_cons_of_neg (by simpa using c)]
      exact ih h1.2
theorem En.places {d : Int} {w : Nat} {tn h b : Int} {ms : List Mv} (hk : En d w tn h b ms 0) : ms.Pairwise fun a b => Ec b.f2 a.f2 = false := by
 rw [List.pairwise_iff_getElem]
 intro i j hi hj hij
 have := (hk j hj (Nat.zero_le _)).2.2.2 ms[i] (by rw [List.mem_take_iff_getElem]; exact ⟨i, by omega, rfl⟩)
 rwa [getD_at _ _ _ hj] at this
theorem En.blocks {d : Int} {w : Nat} {tn h b : Int} {ms : List Mv} (hk : En d w tn h b ms 0) : ∀ m ∈ ms, h ≤ m.f2.f1 ∧ m.f2.f1 < b := by
 intro m hm
 obtain ⟨i, hi, rfl⟩ := List.getElem_of_mem hm
 have := (hk i hi (Nat.zero_le _)).2.2.1
 rw [getD_at _ _ _ hi] at this
 exact ⟨this.2.2.1, this.2.2.2⟩
theorem RH (x : Int) (ms : List Mv) (hp : ms.Pairwise fun a b => Ec b.f2 a.f2 = false) : (Dr ms x).Pairwise (· < ·) := by
 have h1 := Ip (Py x ms)
 have h2 : (Dr ms x).Nodup := (sorted_perm (Py x ms)).nodup_iff.2 (Vy x ms hp)
 unfold Dr at h2 ⊢
 rw [List.nodup_iff_pairwise_ne] at h2
 exact List.Pairwise.imp₂ (fun a b h3 h4 => by omega) h1 h2
theorem RI (x h : Int) (ms : List Mv) (hb : ∀ m ∈ ms, h ≤ m.f2.f1) : ∀ y ∈ Dr ms x, h ≤ y := by
 intro y hy
 have := (sorted_perm (Py x ms)).mem_iff.1 hy
 unfold Py at this
 obtain ⟨m, hm, rfl⟩ := List.mem_map.1 this
 exact hb m (List.mem_filter.1 hm).1
theorem ZE (b x : Int) (u : List Int) (hu : u.length ≤ 1000) : ∀ t q : Nat, ∀ h : Int, u.length - q = t → q ≤ u.length → -100000 ≤ h → h + ((u.length - q : Nat) : Int) ≤ 100000 → (u.drop q).Pairwise (· < ·) → (∀ y ∈ u.drop q, h ≤ y) →
    Ev (fun k => yV.l1 k b h u (u.length : Int) (q : Int)) (b, EM h (u.drop q), 0) := by
  intro t
  induction t with
  | zero =>
    intro q h ht hq hh1 hh2 hp hg
    refine evs (fun k => by rw [yV.l1]) (BQ (by omega) (I8 ?_))
    rw [List.drop_of_length_le (by omega)]
    rfl
  | succ t ih =>
    intro q h ht hq hh1 hh2 hp hg
    have hlt : q < u.length := by omega
    rw [List.drop_eq_getElem_cons hlt] at hp hg ⊢
    have hp' := List.pairwise_cons.1 hp
    refine evs (fun k => by rw [yV.l1]) (AJ (by omega) (AJ (by omega) (AJ (by omega) ?_)))
    rw [IQ u q hlt, ww (x := (q : Int) + 1) (by omega) (by omega), show (q : Int) + 1 = ((q + 1 : Nat) : Int) by omega]
    unfold EM
    by_cases c : u[q] = h
    · refine AJ c ?_
      rw [if_pos c, ww (by omega) (by omega)]
      refine ih (q + 1) (h + 1) (by omega) (by omega) (by omega) (by omega) hp'.2 fun y hy => ?_
      have := hp'.1 y hy
      omega
    · refine BQ c ?_
      rw [if_neg c]
      have hnone : ∀ (v : List Int), (∀ y ∈ v, h < y) → EM h v = h := by
        intro v hv
        cases v with
        | nil => rfl
        | cons y v => unfold EM; rw [if_neg (by have := hv y (List.mem_cons_self ..); omega)]
      have hq2 := hg u[q] (List.mem_cons_self ..)
      have := ih (q + 1) h (by omega) (by omega) hh1 (by omega) hp'.2 fun y hy => by have := hp'.1 y hy; omega
      rw [hnone _ (fun y hy => by have := hp'.1 y hy; omega)] at this
      exact this
section
variable {d : Int} {L : List (List Int)} {w n r : Nat} {T S : Int} (H : Lo d L w n r T S)
include H
theorem Lo.Lc (ms : List Mv) (hl : ms.length ≤ 1000) (hv : VM d L w n r T S ms) (g : Int) (dead : List Bool) (hd : (dead.length : Int) = d) :
    Ev (fun k => yV.f k d L T S ms g dead) (if 0 ≤ g ∧ g < T * n then (match G6 L w n r S ms g dead d.toNat with | none => (0, 0, 11) | some p => (p.1, EM (T * r) (Dr ms p.1), 0)) else (0, 0, 2)) := by
  have hd1 := H.ok.d1
  have hr := H.tr
  have hs1 := H.s1
  have Zy := H.ok.w1
  have hl0 : 0 ≤ g ∧ g < T * n → ∀ t j : Nat, d.toNat - j = t → j ≤ d.toNat → Ev (fun k => yV.l0 k dead (Av L w n r ms g) (match G6 L w n r S ms g dead j with | none => -1 | some p => p.1) (match G6 L w n r S ms g dead j with | none => S | some p => p.2) d (j : Int) d L T S ms (T * r) (T * r + S))
      (match G6 L w n r S ms g dead d.toNat with | none => (0, 0, 11) | some p => (p.1, EM (T * r) (Dr ms p.1), 0)) := by
    intro hg t
    induction t with
    | zero =>
      intro j ht hj
      obtain rfl : j = d.toNat := by omega
      refine evs (fun k => by rw [yV.l0]) (BQ (by omega) ?_)
      cases hc : G6 L w n r S ms g dead d.toNat with
      | none => exact AJ (by decide) (Ev.now _)
      | some p =>
        have hi := Lb L w n r S ms g dead _ p hc
        have hul := LH p.1 ms
        refine BQ (by show ¬ p.1 < 0; omega) (DN (NY ms hl _ _ _ _ _ _ _) ?_)
        have := ZE p.1 0 (Dr ms p.1) (by omega) _ 0 (T * r) rfl (Nat.zero_le _) (by omega) (by omega) (RH _ _ hv.1.places) (by rw [List.drop_zero]; exact RI _ _ _ fun m hm => (hv.1.blocks m hm).1)
        rw [List.drop_zero] at this
        exact this
    | succ t ih =>
      intro j ht hj
      have hlt : j < d.toNat := by omega
      have hjd : j < dead.length := by omega
      have hstep := ih (j + 1) (by omega) (by omega)
      rw [JJ] at hstep
      have hul := LH (j : Int) ms
      have hdl : (Av L w n r ms g).length = w := by simp [Av]
      have hrd : Ha false dead (j : Int) = dead.getD j false := by unfold Ha; rw [Int.toNat_natCast]
      refine evs (fun k => by rw [yV.l0]) (AJ (by omega) (DN (NY ms hl _ _ _ _ _ _ _) ?_))
      refine AJ (show (0 : Int) ≤ (j : Int) by omega) (AJ (show (j : Int) < (dead.length : Int) by omega) ?_)
      rw [hrd]
      have hj2 : ∀ bb : Bool, bb = decide (dead.getD j false = false ∧ (j : Int) ∉ Av L w n r ms g ∧ Pz S (G6 L w n r S ms g dead j) ((Dr ms (j : Int)).length : Int) = true) →
          Ev (fun k => yV.j2 k dead (Av L w n r ms g) (match G6 L w n r S ms g dead j with | none => -1 | some p => p.1) (match G6 L w n r S ms g dead j with | none => S | some p => p.2) (j : Int) ((Dr ms (j : Int)).length : Int) d (j : Int) bb d L T S ms (T * r) (T * r + S))
            (match G6 L w n r S ms g dead d.toNat with | none => (0, 0, 11) | some p => (p.1, EM (T * r) (Dr ms p.1), 0)) := by
        intro bb hbb
        refine evs (fun k => by rw [yV.j2]) ?_
        rw [ww (x := (j : Int) + 1) (by omega) (by omega), show (j : Int) + 1 = ((j + 1 : Nat) : Int) by omega]
        unfold LJ at hstep
        cases bb with
        | true =>
          refine AJ rfl ?_
          rw [if_pos (of_decide_eq_true hbb.symm)] at hstep
          exact hstep
        | false =>
          refine BQ (by decide) ?_
          rw [if_neg (of_decide_eq_false hbb.symm)] at hstep
          exact hstep
      by_cases c1 : dead.getD j false = true
      · refine AJ c1 (hj2 false ?_)
        rw [eq_comm, decide_eq_false_iff_not]
        rw [c1]
        exact fun h => by cases h.1
      refine BQ c1 (DN (Y7 _ (by omega) _) ?_)
      by_cases c2 : (j : Int) ∈ Av L w n r ms g
      · rw [decide_eq_true c2]
        refine AJ rfl (hj2 false ?_)
        rw [eq_comm, decide_eq_false_iff_not]
        exact fun h => h.2.1 c2
      · rw [decide_eq_false c2]
        refine BQ (by decide) (hj2 _ ?_)
        rw [decide_eq_decide]
        have c1' : dead.getD j false = false := Bool.eq_false_iff.2 c1
        simp only [c1', c2, true_and, not_false_eq_true]
        cases G6 L w n r S ms g dead j with
        | none => simp [Pz]
        | some p => simp [Pz]
  unfold yV.f
  refine DN (H.check ms hl) ?_
  rw [if_pos hv]
  refine AJ rfl ?_
  rw [show ((dead.length : Int) != d) = false from by rw [bne_eq_false_iff_eq]; exact hd]
  refine evs (fun k => by rw [yV.j0]) (BQ (by decide) ?_)
  by_cases c1 : g < 0
  · refine AJ c1 (I8 ?_)
    rw [if_neg (by omega)]
  refine BQ c1 (DN H.Zu ?_)
  by_cases c2 : g ≥ T * n
  · refine AJ c2 (I8 ?_)
    rw [if_neg (by omega)]
  · refine BQ c2 (DN (H.a0P ms hv.1.sorted hl hv.1.NW _ _ g (by omega) (by omega)) ?_)
    rw [if_pos ⟨by omega, by omega⟩]
    exact hl0 ⟨by omega, by omega⟩ _ 0 rfl (Nat.zero_le _)
end
theorem vv (i : Nat) (h : i < 1000000) : wrap64 ((i : Int) + 1) = ((i + 1 : Nat) : Int) := by rw [ww (by omega) (by omega)]; omega
def Y8 (st : Option (Int × Int)) : Int := match st with | none => -1 | some p => p.2
def stD (st : Option (Int × Int)) : Int := match st with | none => 0 | some p => p.1
def ZF (h : Int) (ms : List Mv) (st : Option (Int × Int)) : Int := match st with | none => 0 | some p => EM h (Dr ms p.1)
section
variable {d : Int} {L : List (List Int)} {w n r : Nat} {T S : Int} (H : Lo d L w n r T S)
include H
set_option maxHeartbeats 1000000 in
theorem Lo.UL (ms : List Mv) (hl : ms.length ≤ 1000) (hv : VM d L w n r T S ms) (g : Int) (dead : List Bool) (hd : (dead.length : Int) = d) (hg : 0 ≤ g ∧ g < T * n) :
    Ev (fun k => yH.f k d L T S ms g dead) (match G6 L w n r S ms g dead d.toNat with | none => (0, 0, false) | some p => (p.1, EM (T * r) (Dr ms p.1), true)) := by
  have hd1 := H.ok.d1
  have hr := H.tr
  have hs1 := H.s1
  have Zy := H.ok.w1
  have hdl : (Av L w n r ms g).length = w := by simp [Av]
  have hl0 : ∀ t j : Nat, d.toNat - j = t → j ≤ d.toNat → Ev (fun k => yH.l0 k ms g dead (Y8 (G6 L w n r S ms g dead j)) (j : Int) d L T S (stD (G6 L w n r S ms g dead j)) (ZF (T * r) ms (G6 L w n r S ms g dead j)))
      (match G6 L w n r S ms g dead d.toNat with | none => (0, 0, false) | some p => (p.1, EM (T * r) (Dr ms p.1), true)) := by
    intro t
    induction t with
    | zero =>
      intro j ht hj
      obtain rfl : j = d.toNat := by omega
      refine evs (fun k => by rw [yH.l0]) (BQ (by omega) (I8 ?_))
      cases hc : G6 L w n r S ms g dead d.toNat with
      | none => rfl
      | some p =>
        have hi := Lb L w n r S ms g dead _ p hc
        have h9 : Y8 (some p) ≥ 0 := by show p.2 ≥ 0; omega
        rw [decide_eq_true h9]
        rfl
    | succ t ih =>
      intro j ht hj
      have hlt : j < d.toNat := by omega
      have hstep := ih (j + 1) (by omega) (by omega)
      rw [JJ] at hstep
      have hinv := Lb L w n r S ms g dead j
      have hul := LH (j : Int) ms
      have hur := H.a5F ms hl hv.1.blocks (j : Int)
      have hat := fun i (hi : i < w) => TB L w n r ms g i hi
      have hrd : Ha false dead (j : Int) = dead.getD j false := by unfold Ha; rw [Int.toNat_natCast]
      generalize hst : G6 L w n r S ms g dead j = st at hstep hinv ⊢
      unfold LJ at hstep
      have hsB : ∀ c, ZF (T * r) ms (some ((j : Int), c)) = EM (T * r) (Dr ms (j : Int)) := fun c => rfl
      generalize Dr ms (j : Int) = u at hstep hul hur hsB
      generalize Av L w n r ms g = D at hstep hdl hat
      clear ih hst
      generalize hR : (match G6 L w n r S ms g dead d.toNat with | none => ((0 : Int), (0 : Int), false) | some p => (p.1, EM (T * r) (Dr ms p.1), true)) = R at hstep ⊢
      have hl2 : ∀ t q : Nat, ∀ h : Int, (u).length - q = t → q ≤ (u).length → -100000 ≤ h → h + (((u).length - q : Nat) : Int) ≤ 100000 →
          Ev (fun k => yH.l0 k ms g dead ((u).length : Int) (wrap64 ((j : Int) + 1)) d L T S (j : Int) (EM h ((u).drop q))) R →
          Ev (fun k => yH.l2 k ms g dead (j : Int) (u) h (q : Int) d L T S) R := by
        intro t
        induction t with
        | zero =>
          intro q h ht hq hh1 hh2 hK
          refine evs (fun k => by rw [yH.l2]) (BQ (by omega) ?_)
          rw [List.drop_of_length_le (by omega)] at hK
          exact hK
        | succ t ih2 =>
          intro q h ht hq hh1 hh2 hK
          have hq' : q < (u).length := by omega
          refine evs (fun k => by rw [yH.l2]) (AJ (by omega) (AJ (by omega) ?_))
          rw [IQ _ q hq']
          rw [List.drop_eq_getElem_cons hq'] at hK
          unfold EM at hK
          by_cases c : (u)[q] = h
          · rw [if_pos c] at hK
            refine AJ c ?_
            rw [ww (x := h + 1) (by omega) (by omega), ww (x := (q : Int) + 1) (by omega) (by omega), show (q : Int) + 1 = ((q + 1 : Nat) : Int) by omega]
            exact ih2 (q + 1) (h + 1) (by omega) (by omega) (by omega) (by omega) hK
          · rw [if_neg c] at hK
            exact BQ c hK
      have hj2 : ∀ bb : Bool, (bb = true → ¬ (dead.getD j false = false ∧ (j : Int) ∉ D ∧ Pz S st ((u).length : Int) = true)) → (bb = false → (dead.getD j false = false ∧ (j : Int) ∉ D ∧ Pz S st ((u).length : Int) = true)) →
          Ev (fun k => yH.j2 k ms g dead (Y8 st) (j : Int) (u) bb d L T S (stD st) (ZF (T * r) ms st)) R := by
        intro bb hb1 hb2
        refine evs (fun k => by rw [yH.j2]) ?_
        have hww : wrap64 ((j : Int) + 1) = ((j + 1 : Nat) : Int) := by rw [ww (by omega) (by omega)]; omega
        cases bb with
        | true =>
          refine AJ rfl ?_
          rw [hww]
          rw [if_neg (hb1 rfl)] at hstep
          exact hstep
        | false =>
          refine BQ (by decide) (GJ H.homes ?_)
          rw [if_pos (hb2 rfl)] at hstep
          refine hl2 _ 0 (T * r) rfl (Nat.zero_le _) (by omega) (by omega) ?_
          rw [hww, List.drop_zero, ← hsB (u.length : Int)]
          exact hstep
      have hfin : ∀ F6 : Bool, F6 = decide ((j : Int) ∈ D) → Ev (fun k => (zM.f k d L T S ms (j : Int)).bind fun ER => (if 0 ≤ (j : Int) then (if (j : Int) < (dead.length : Int) then (if Ha false dead (j : Int) = true then (yH.j2 k ms g dead (Y8 st) (j : Int) ER true d L T S (stD st) (ZF (T * r) ms st)) else (if F6 = true then (yH.j2 k ms g dead (Y8 st) (j : Int) ER true d L T S (stD st) (ZF (T * r) ms st)) else (if (ER.length : Int) ≥ S then (yH.j2 k ms g dead (Y8 st) (j : Int) ER true d L T S (stD st) (ZF (T * r) ms st)) else (if Y8 st ≥ 0 then (yH.j2 k ms g dead (Y8 st) (j : Int) ER (decide ((ER.length : Int) ≥ Y8 st)) d L T S (stD st) (ZF (T * r) ms st)) else (yH.j2 k ms g dead (Y8 st) (j : Int) ER false d L T S (stD st) (ZF (T * r) ms st)))))) else (none)) else (none))) R := by
        intro F6 hx
        refine DN hur ?_
        refine AJ (show (0 : Int) ≤ (j : Int) by omega) (AJ (show (j : Int) < (dead.length : Int) by omega) ?_)
        rw [hrd]
        by_cases c1 : dead.getD j false = true
        · exact AJ c1 (hj2 true (fun _ h => by rw [c1] at h; cases h.1) (by simp))
        have c1' : dead.getD j false = false := Bool.eq_false_iff.2 c1
        refine BQ c1 ?_
        by_cases c2 : (j : Int) ∈ D
        · rw [decide_eq_true c2] at hx
          exact AJ hx (hj2 true (fun _ h => h.2.1 c2) (by simp))
        rw [decide_eq_false c2] at hx
        refine BQ (by rw [hx]; decide) ?_
        by_cases c3 : ((u).length : Int) ≥ S
        · refine AJ c3 (hj2 true (fun _ h => ?_) (by simp))
          cases st with
          | none => have := of_decide_eq_true h.2.2; omega
          | some p => have := of_decide_eq_true h.2.2; have := (hinv p rfl).2.2.2; omega
        · refine BQ c3 ?_
          cases st with
          | none => exact BQ (by show ¬ (-1 : Int) ≥ 0; decide) (hj2 false (by simp) fun _ => ⟨c1', c2, decide_eq_true (by omega)⟩)
          | some p =>
            have hp := hinv p rfl
            refine AJ (show p.2 ≥ 0 by omega) (hj2 _ (fun h1 h2 => ?_) fun h1 => ⟨c1', c2, decide_eq_true ?_⟩)
            · have h3 : ((u).length : Int) ≥ p.2 := of_decide_eq_true h1
              have h4 : ((u).length : Int) < p.2 := of_decide_eq_true h2.2.2
              omega
            · have h3 : ¬ ((u).length : Int) ≥ p.2 := of_decide_eq_false h1
              omega
      have hl1 : ∀ t i : Nat, w - i = t → i ≤ w → ∀ F6 : Bool, F6 = decide ((j : Int) ∈ (D).take i) → Ev (fun k => yH.l1 k ms g dead (Y8 st) (j : Int) F6 (i : Int) d L T S (stD st) (ZF (T * r) ms st)) R := by
        intro t
        induction t with
        | zero =>
          intro i ht hi F6 hx
          rw [List.take_of_length_le (by omega)] at hx
          refine evs (fun k => by rw [yH.l1]) ?_
          refine GJ H.FR ?_
          refine BQ (show ¬ (i : Int) < (w : Int) by omega) ?_
          exact hfin F6 hx
        | succ t ih3 =>
          intro i ht hi F6 hx
          have hi' : i < D.length := by rw [hdl]; omega
          have hiw : i < w := by omega
          have ht' : w - (i + 1) = t := by omega
          have hii : (0 : Int) ≤ (i : Int) := Int.natCast_nonneg i
          have hww := vv i (Nat.lt_of_lt_of_le hiw (Nat.le_trans Zy.2 (by decide)))
          refine evs (fun k => by rw [yH.l1]) ?_
          refine GJ H.FR ?_
          refine AJ (Int.ofNat_lt.2 hiw) ?_
          have hmem : (j : Int) ∈ (D).take (i + 1) ↔ (j : Int) ∈ (D).take i ∨ (j : Int) = (D)[i] := by
            rw [List.take_succ_eq_append_getElem hi', List.mem_append, List.mem_singleton]
          cases F6 with
          | true =>
            refine AJ rfl ?_
            rw [hww]
            exact ih3 (i + 1) ht' hiw true (by rw [eq_comm, decide_eq_true_iff, hmem]; exact .inl (of_decide_eq_true hx.symm))
          | false =>
            refine BQ (by decide) (DN (H.K9 ms hl g (i : Int) hg.1 hg.2 hii (Int.ofNat_lt.2 hiw)) ?_)
            rw [hww]
            refine ih3 (i + 1) ht' hiw _ ?_
            rw [Bool.eq_iff_iff, beq_iff_eq, decide_eq_true_iff, hmem, ← hat i hiw, getD_at _ _ _ hi']
            have hnot := of_decide_eq_false hx.symm
            exact ⟨fun h => .inr h.symm, fun h => h.elim (fun h => absurd h hnot) (fun h => h.symm)⟩
      refine evs (fun k => by rw [yH.l0]) (AJ (by omega) ?_)
      exact hl1 _ 0 rfl (Nat.zero_le _) false (by simp)
  unfold yH.f
  exact hl0 _ 0 rfl (Nat.zero_le _)
end
end Go.Proofs.Ytjonnfmoocijlaa.P
