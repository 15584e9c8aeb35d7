/- Texts of a claim, packed. -/
import Derived.Test.YtjonnfmoocijlaaD28
set_option linter.all false
namespace Go.Proofs.Ytjonnfmoocijlaa.P
open Go.RowKit Go.Proofs.YtjonnfmoocijlaaKW.PrintWords
def Kr (h : Int) : List Int → Int
 | [] => h
 | x :: u => if x = h then Kr (h + 1) u else h
def Sb (S : Int) (st : Option (Int × Int)) (c : Int) : Bool := match st with
 | none => decide (c < S)
 | some p => decide (c < p.2)
def Oa (L : List (List Int)) (w n r : Nat) (S : Int) (ms : List Mv) (g : Int) (dead : List Bool) (st : Option (Int × Int)) (x : Nat) : Option (Int × Int) :=
 if dead.getD x false = false ∧ (x : Int) ∉ Aw L w n r ms g ∧ Sb S st ((EE ms (x : Int)).length : Int) = true then some ((x : Int), ((EE ms (x : Int)).length : Int)) else st
def Ir (L : List (List Int)) (w n r : Nat) (S : Int) (ms : List Mv) (g : Int) (dead : List Bool) (j : Nat) : Option (Int × Int) := (List.range j).foldl (Oa L w n r S ms g dead) none
theorem Nl (L : List (List Int)) (w n r : Nat) (S : Int) (ms : List Mv) (g : Int) (dead : List Bool) (j : Nat) : Ir L w n r S ms g dead (j + 1) = Oa L w n r S ms g dead (Ir L w n r S ms g dead j) j := by
 unfold Ir
 rw [List.range_succ, List.foldl_append]
 rfl
theorem VC (L : List (List Int)) (w n r : Nat) (S : Int) (ms : List Mv) (g : Int) (dead : List Bool) (j : Nat) : ∀ p, Ir L w n r S ms g dead j = some p → 0 ≤ p.1 ∧ p.1 < (j : Int) ∧ p.2 = ((EE ms p.1).length : Int) ∧ p.2 < S := by
  induction j with
  | zero => intro p h; cases h
  | succ j ih =>
    intro p h
    rw [Nl] at h
    unfold Oa at h
    split at h
    · rename_i hc
      obtain rfl := Option.some.inj h
      refine ⟨by simp, by simp; omega, rfl, ?_⟩
      have h3 := hc.2.2
      cases hs : Ir L w n r S ms g dead j with
      | none => rw [hs] at h3; exact of_decide_eq_true h3
      | some q =>
        rw [hs] at h3
        have := of_decide_eq_true h3
        have := (ih q hs).2.2.2
        show _ < S
        omega
    · have := ih p h
      omega
theorem VD (l : List Int) (hl : l.length ≤ 1000) (x : Int) : Ev (fun k => slices_Contains_int.f k l x) (decide (x ∈ l)) := by
  have h0 : ∀ t j : Nat, l.length - j = t → j ≤ l.length → x ∉ l.take j → ∃ v, Ev (fun k => slices_Index_int.l0 k l x (l.length : Int) (j : Int)) v ∧ (0 ≤ v ↔ x ∈ l) := by
    intro t
    induction t with
    | zero =>
      intro j ht hj hn
      rw [List.take_of_length_le (by omega)] at hn
      exact ⟨-1, evs (fun k => by rw [slices_Index_int.l0]) (C8 (by omega) (Ev.now _)), by simp [hn]⟩
    | succ t ih =>
      intro j ht hj hn
      have hlt : j < l.length := by omega
      by_cases c : x = l[j]
      · exact ⟨(j : Int), evs (fun k => by rw [slices_Index_int.l0]) (AP (by omega) (AP (by omega) (AP (by omega) (AP (by rw [Iu l j hlt]; exact c) (Ev.now _))))), ⟨fun _ => c ▸ List.getElem_mem hlt, fun _ => by omega⟩⟩
      · obtain ⟨v, h1, h2⟩ := ih (j + 1) (by omega) (by omega) (by
          rw [List.take_succ_eq_append_getElem hlt, List.mem_append, List.mem_singleton]
          exact fun h => h.elim hn c)
        refine ⟨v, evs (fun k => by rw [slices_Index_int.l0]) (AP (by omega) (AP (by omega) (AP (by omega) (C8 (by rw [Iu l j hlt]; exact c) ?_)))), h2⟩
        rw [ww (by omega) (by omega), show (j : Int) + 1 = ((j + 1 : Nat) : Int) by omega]
        exact h1
  obtain ⟨v, h1, h2⟩ := h0 _ 0 rfl (Nat.zero_le _) (by simp)
  unfold slices_Contains_int.f slices_Index_int.f
  refine DL h1 (GX ?_)
  rw [decide_eq_decide]
  exact h2
theorem Tx (x : Int) (ms : List Mv) (hp : ms.Pairwise fun a b => DW b.f2 a.f2 = false) : (Vw x ms).Nodup := by
  unfold Vw
  induction ms with
  | nil => simp
  | cons m ms ih =>
    have h1 := List.pairwise_cons.1 hp
    by_cases c : m.f2.f0 = x
    · rw [List.filter_cons_of_pos (by simpa using c), List.map_cons, List.nodup_cons]
      refine ⟨fun h => ?_, ih h1.2⟩
      obtain ⟨b, hb, he⟩ := List.mem_map.1 h
      have hb' := List.mem_filter.1 hb
      have := h1.1 b hb'.1
      simp only [DW, Bool.and_eq_false_iff, beq_eq_false_iff_ne, ne_eq] at this
      have h4 : b.f2.f0 = x := by simpa using hb'.2
      omega
    · rw [List.filter_cons_of_neg (by simpa using c)]
      exact ih h1.2
theorem Dm.places {d : Int} {w : Nat} {tn h b : Int} {ms : List Mv} (hk : Dm d w tn h b ms 0) : ms.Pairwise fun a b => DW b.f2 a.f2 = false := by
 rw [List.pairwise_iff_getElem]
 intro i j hi hj hij
 have := (hk j hj (Nat.zero_le _)).2.2.2 ms[i] (by rw [List.mem_take_iff_getElem]; exact ⟨i, by omega, rfl⟩)
 rwa [getD_at _ _ _ hj] at this
theorem Dm.blocks {d : Int} {w : Nat} {tn h b : Int} {ms : List Mv} (hk : Dm d w tn h b ms 0) : ∀ m ∈ ms, h ≤ m.f2.f1 ∧ m.f2.f1 < b := by
 intro m hm
 obtain ⟨i, hi, rfl⟩ := List.getElem_of_mem hm
 have := (hk i hi (Nat.zero_le _)).2.2.1
 rw [getD_at _ _ _ hi] at this
 exact ⟨this.2.2.1, this.2.2.2⟩
theorem VE (x : Int) (ms : List Mv) (hp : ms.Pairwise fun a b => DW b.f2 a.f2 = false) : (EE ms x).Pairwise (· < ·) := by
 have h1 := Ip (Vw x ms)
 have h2 : (EE ms x).Nodup := (sorted_perm (Vw x ms)).nodup_iff.2 (Tx x ms hp)
 unfold EE at h2 ⊢
 rw [List.nodup_iff_pairwise_ne] at h2
 exact List.Pairwise.imp₂ (fun a b h3 h4 => by omega) h1 h2
theorem VF (x h : Int) (ms : List Mv) (hb : ∀ m ∈ ms, h ≤ m.f2.f1) : ∀ y ∈ EE ms x, h ≤ y := by
 intro y hy
 have := (sorted_perm (Vw x ms)).mem_iff.1 hy
 unfold Vw at this
 obtain ⟨m, hm, rfl⟩ := List.mem_map.1 this
 exact hb m (List.mem_filter.1 hm).1
theorem X5 (b x : Int) (u : List Int) (hu : u.length ≤ 1000) : ∀ t q : Nat, ∀ h : Int, u.length - q = t → q ≤ u.length → -100000 ≤ h → h + ((u.length - q : Nat) : Int) ≤ 100000 → (u.drop q).Pairwise (· < ·) → (∀ y ∈ u.drop q, h ≤ y) →
    Ev (fun k => yN.l1 k b h u (u.length : Int) (q : Int)) (b, Kr h (u.drop q), 0) := by
  intro t
  induction t with
  | zero =>
    intro q h ht hq aa ae hp hg
    refine evs (fun k => by rw [yN.l1]) (C8 (by omega) (GX ?_))
    rw [List.drop_of_length_le (by omega)]
    rfl
  | succ t ih =>
    intro q h ht hq aa ae hp hg
    have hlt : q < u.length := by omega
    rw [List.drop_eq_getElem_cons hlt] at hp hg ⊢
    have hp' := List.pairwise_cons.1 hp
    refine evs (fun k => by rw [yN.l1]) (AP (by omega) (AP (by omega) (AP (by omega) ?_)))
    rw [Iu u q hlt, ww (x := (q : Int) + 1) (by omega) (by omega), show (q : Int) + 1 = ((q + 1 : Nat) : Int) by omega]
    unfold Kr
    by_cases c : u[q] = h
    · refine AP c ?_
      rw [if_pos c, ww (by omega) (by omega)]
      refine ih (q + 1) (h + 1) (by omega) (by omega) (by omega) (by omega) hp'.2 fun y hy => ?_
      have := hp'.1 y hy
      omega
    · refine C8 c ?_
      rw [if_neg c]
      have hnone : ∀ (v : List Int), (∀ y ∈ v, h < y) → Kr h v = h := by
        intro v hv
        cases v with
        | nil => rfl
        | cons y v => unfold Kr; rw [if_neg (by have := hv y (List.mem_cons_self ..); omega)]
      have hq2 := hg u[q] (List.mem_cons_self ..)
      have := ih (q + 1) h (by omega) (by omega) aa (by omega) hp'.2 fun y hy => by have := hp'.1 y hy; omega
      rw [hnone _ (fun y hy => by have := hp'.1 y hy; omega)] at this
      exact this
section
variable {d : Int} {L : List (List Int)} {w n r : Nat} {T S : Int} (H : Lo d L w n r T S)
include H
theorem Lo.KT (ms : List Mv) (hl : ms.length ≤ 1000) (hv : VM d L w n r T S ms) (g : Int) (dead : List Bool) (hd : (dead.length : Int) = d) :
    Ev (fun k => yN.f k d L T S ms g dead) (if 0 ≤ g ∧ g < T * n then (match Ir L w n r S ms g dead d.toNat with | none => (0, 0, 11) | some p => (p.1, Kr (T * r) (EE ms p.1), 0)) else (0, 0, 2)) := by
  have hd1 := H.ok.d1
  have hr := H.tr
  have hs1 := H.s1
  have hw5 := H.ok.w1
  have hl0 : 0 ≤ g ∧ g < T * n → ∀ t j : Nat, d.toNat - j = t → j ≤ d.toNat → Ev (fun k => yN.l0 k dead (Aw L w n r ms g) (match Ir L w n r S ms g dead j with | none => -1 | some p => p.1) (match Ir L w n r S ms g dead j with | none => S | some p => p.2) d (j : Int) d L T S ms (T * r) (T * r + S))
      (match Ir L w n r S ms g dead d.toNat with | none => (0, 0, 11) | some p => (p.1, Kr (T * r) (EE ms p.1), 0)) := by
    intro hg t
    induction t with
    | zero =>
      intro j ht hj
      obtain rfl : j = d.toNat := by omega
      refine evs (fun k => by rw [yN.l0]) (C8 (by omega) ?_)
      cases hc : Ir L w n r S ms g dead d.toNat with
      | none => exact AP (by decide) (Ev.now _)
      | some p =>
        have hi := VC L w n r S ms g dead _ p hc
        have hul := Nk p.1 ms
        refine C8 (by show ¬ p.1 < 0; omega) (DL (Jt ms hl _ _ _ _ _ _ _) ?_)
        have := X5 p.1 0 (EE ms p.1) (by omega) _ 0 (T * r) rfl (Nat.zero_le _) (by omega) (by omega) (VE _ _ hv.1.places) (by rw [List.drop_zero]; exact VF _ _ _ fun m hm => (hv.1.blocks m hm).1)
        rw [List.drop_zero] at this
        exact this
    | succ t ih =>
      intro j ht hj
      have hlt : j < d.toNat := by omega
      have hjd : j < dead.length := by omega
      have hstep := ih (j + 1) (by omega) (by omega)
      rw [Nl] at hstep
      have hul := Nk (j : Int) ms
      have hdl : (Aw L w n r ms g).length = w := by simp [Aw]
      have hrd : Ns false dead (j : Int) = dead.getD j false := by unfold Ns; rw [Int.toNat_natCast]
      refine evs (fun k => by rw [yN.l0]) (AP (by omega) (DL (Jt ms hl _ _ _ _ _ _ _) ?_))
      refine AP (show (0 : Int) ≤ (j : Int) by omega) (AP (show (j : Int) < (dead.length : Int) by omega) ?_)
      rw [hrd]
      have hj2 : ∀ bb : Bool, bb = decide (dead.getD j false = false ∧ (j : Int) ∉ Aw L w n r ms g ∧ Sb S (Ir L w n r S ms g dead j) ((EE ms (j : Int)).length : Int) = true) →
          Ev (fun k => yN.j2 k dead (Aw L w n r ms g) (match Ir L w n r S ms g dead j with | none => -1 | some p => p.1) (match Ir L w n r S ms g dead j with | none => S | some p => p.2) (j : Int) ((EE ms (j : Int)).length : Int) d (j : Int) bb d L T S ms (T * r) (T * r + S))
            (match Ir L w n r S ms g dead d.toNat with | none => (0, 0, 11) | some p => (p.1, Kr (T * r) (EE ms p.1), 0)) := by
        intro bb hbb
        refine evs (fun k => by rw [yN.j2]) ?_
        rw [ww (x := (j : Int) + 1) (by omega) (by omega), show (j : Int) + 1 = ((j + 1 : Nat) : Int) by omega]
        unfold Oa at hstep
        cases bb with
        | true =>
          refine AP rfl ?_
          rw [if_pos (of_decide_eq_true hbb.symm)] at hstep
          exact hstep
        | false =>
          refine C8 (by decide) ?_
          rw [if_neg (of_decide_eq_false hbb.symm)] at hstep
          exact hstep
      by_cases c1 : dead.getD j false = true
      · refine AP c1 (hj2 false ?_)
        rw [eq_comm, decide_eq_false_iff_not]
        rw [c1]
        exact fun h => by cases h.1
      refine C8 c1 (DL (VD _ (by omega) _) ?_)
      by_cases c2 : (j : Int) ∈ Aw L w n r ms g
      · rw [decide_eq_true c2]
        refine AP rfl (hj2 false ?_)
        rw [eq_comm, decide_eq_false_iff_not]
        exact fun h => h.2.1 c2
      · rw [decide_eq_false c2]
        refine C8 (by decide) (hj2 _ ?_)
        rw [decide_eq_decide]
        have c1' : dead.getD j false = false := Bool.eq_false_iff.2 c1
        simp only [c1', c2, true_and, not_false_eq_true]
        cases Ir L w n r S ms g dead j with
        | none => simp [Sb]
        | some p => simp [Sb]
  unfold yN.f
  refine DL (H.check ms hl) ?_
  rw [if_pos hv]
  refine AP rfl ?_
  rw [show ((dead.length : Int) != d) = false from by rw [bne_eq_false_iff_eq]; exact hd]
  refine evs (fun k => by rw [yN.j0]) (C8 (by decide) ?_)
  by_cases c1 : g < 0
  · refine AP c1 (GX ?_)
    rw [if_neg (by omega)]
  refine C8 c1 (DL H.WZ ?_)
  by_cases c2 : g ≥ T * n
  · refine AP c2 (GX ?_)
    rw [if_neg (by omega)]
  · refine C8 c2 (DL (H.Yl ms hv.1.sorted hl hv.1.Pn _ _ g (by omega) (by omega)) ?_)
    rw [if_pos ⟨by omega, by omega⟩]
    exact hl0 ⟨by omega, by omega⟩ _ 0 rfl (Nat.zero_le _)
end
theorem vv (i : Nat) (h : i < 1000000) : wrap64 ((i : Int) + 1) = ((i + 1 : Nat) : Int) := by rw [ww (by omega) (by omega)]; omega
section
variable {d : Int} {L : List (List Int)} {w n r : Nat} {T S : Int} (H : Lo d L w n r T S)
include H
end
end Go.Proofs.Ytjonnfmoocijlaa.P
