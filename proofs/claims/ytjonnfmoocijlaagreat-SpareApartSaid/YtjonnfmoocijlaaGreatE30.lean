/- Texts of a claim, packed. -/
import Derived.Test.YtjonnfmoocijlaaGreatE28
import Derived.Test.YtjonnfmoocijlaaGreatE29
set_option linter.all false
namespace Go.Proofs.YtjonnfmoocijlaaGreat.P
open Go.RowKit Go.Proofs.YtjonnfmoocijlaaGreatKW.PrintWords
def GD (h : Int) : List Int → Int
 | [] => h
 | x :: u => if x = h then GD (h + 1) u else h
def OQ (S : Int) (st : Option (Int × Int)) (c : Int) : Bool := match st with
 | none => decide (c < S)
 | some p => decide (c < p.2)
def Np (L : List (List Int)) (w n r : Nat) (S : Int) (ms : List Mv) (g : Int) (dead : List Bool) (st : Option (Int × Int)) (x : Nat) : Option (Int × Int) :=
 if dead.getD x false = false ∧ (x : Int) ∉ Av L w n r ms g ∧ OQ S st ((DR ms (x : Int)).length : Int) = true then some ((x : Int),((DR ms (x : Int)).length : Int)) else st
def GA (L : List (List Int)) (w n r : Nat) (S : Int) (ms : List Mv) (g : Int) (dead : List Bool) (j : Nat) : Option (Int × Int) := (List.range j).foldl (Np L w n r S ms g dead) none
theorem L9 (L : List (List Int)) (w n r : Nat) (S : Int) (ms : List Mv) (g : Int) (dead : List Bool) (j : Nat) : GA L w n r S ms g dead (j + 1) = Np L w n r S ms g dead (GA L w n r S ms g dead j) j := by
 unfold GA
 rw [List.range_succ,List.foldl_append]
 rfl
theorem Nn (L : List (List Int)) (w n r : Nat) (S : Int) (ms : List Mv) (g : Int) (dead : List Bool) (j : Nat) : ∀ p,GA L w n r S ms g dead j = some p → 0 ≤ p.1 ∧ p.1 < (j : Int) ∧ p.2 = ((DR ms p.1).length : Int) ∧ p.2 < S := by
  induction j with
  | zero => intro p h;cases h
  | succ j ih =>
    intro p h
    rw [L9] at h
    unfold Np at h
    split at h
    · rename_i hc
      obtain rfl := Option.some.inj h
      refine ⟨by simp,by simp;omega,rfl,?_⟩
      have h3 := hc.2.2
      cases hs : GA L w n r S ms g dead j with
      | none => rw [hs] at h3;exact of_decide_eq_true h3
      | some q =>
        rw [hs] at h3
        have := of_decide_eq_true h3
        have := (ih q hs).2.2.2
        show _ < S
        omega
    · have := ih p h
      omega
theorem Xq (l : List Int) (hl : l.length ≤ 1000) (x : Int) : Ev (fun k => slices_Contains_int.f k l x) (decide (x ∈ l)) := by
  have h0 : ∀ t j : Nat,l.length - j = t → j ≤ l.length → x ∉ l.take j → ∃ v,Ev (fun k => slices_Index_int.l0 k l x (l.length : Int) (j : Int)) v ∧ (0 ≤ v ↔ x ∈ l) := by
    intro t
    induction t with
    | zero =>
      intro j ht hj hn
      rw [List.take_of_length_le (by omega)] at hn
      exact ⟨-1,evs (fun k => by rw [slices_Index_int.l0]) (BF (by omega) (Ev.now _)),by simp [hn]⟩
    | succ t ih =>
      intro j ht hj hn
      have hlt : j < l.length := by omega
      by_cases c : x = l[j]
      · exact ⟨(j : Int),evs (fun k => by rw [slices_Index_int.l0]) (AA (by omega) (AA (by omega) (AA (by omega) (AA (by rw [IJ l j hlt];exact c) (Ev.now _))))),⟨fun _ => c ▸ List.getElem_mem hlt,fun _ => by omega⟩⟩
      · obtain ⟨v,h1,h2⟩ := ih (j + 1) (by omega) (by omega) (by
          rw [List.take_succ_eq_append_getElem hlt,List.mem_append,List.mem_singleton]
          exact fun h => h.elim hn c)
        refine ⟨v,evs (fun k => by rw [slices_Index_int.l0]) (AA (by omega) (AA (by omega) (AA (by omega) (BF (by rw [IJ l j hlt];exact c) ?_)))),h2⟩
        rw [ww (by omega) (by omega),show (j : Int) + 1 = ((j + 1 : Nat) : Int) by omega]
        exact h1
  obtain ⟨v,h1,h2⟩ := h0 _ 0 rfl (Nat.zero_le _) (by simp)
  unfold slices_Contains_int.f slices_Index_int.f
  refine Ep h1 (Hw ?_)
  rw [decide_eq_decide]
  exact h2
theorem UZ (x : Int) (ms : List Mv) (hp : ms.Pairwise fun a b => Es b.f2 a.f2 = false) : (PP x ms).Nodup := by
  unfold PP
  induction ms with
  | nil => simp
  | cons m ms ih =>
    have h1 := List.pairwise_cons.1 hp
    by_cases c : m.f2.f0 = x
    · rw [List.filter_cons_of_pos (by simpa using c),List.map_cons,List.nodup_cons]
      refine ⟨fun h => ?_,ih h1.2⟩
      obtain ⟨b,hb,he⟩ := List.mem_map.1 h
      have hb' := List.mem_filter.1 hb
      have := h1.1 b hb'.1
      simp only [Es,Bool.and_eq_false_iff,beq_eq_false_iff_ne,ne_eq] at this
      have h4 : b.f2.f0 = x := by simpa using hb'.2
      omega
    · rw [List.filter_cons_of_neg (by simpa using c)]
      exact ih h1.2
theorem DY.places {d : Int} {w : Nat} {tn h b : Int} {ms : List Mv} (hk : DY d w tn h b ms 0) : ms.Pairwise fun a b => Es b.f2 a.f2 = false := by
 rw [List.pairwise_iff_getElem]
 intro i j hi hj hij
 have := (hk j hj (Nat.zero_le _)).2.2.2 ms[i] (by rw [List.mem_take_iff_getElem];exact ⟨i,by omega,rfl⟩)
 rwa [getD_at _ _ _ hj] at this
theorem DY.blocks {d : Int} {w : Nat} {tn h b : Int} {ms : List Mv} (hk : DY d w tn h b ms 0) : ∀ m ∈ ms,h ≤ m.f2.f1 ∧ m.f2.f1 < b := by
 intro m hm
 obtain ⟨i,hi,rfl⟩ := List.getElem_of_mem hm
 have := (hk i hi (Nat.zero_le _)).2.2.1
 rw [getD_at _ _ _ hi] at this
 exact ⟨this.2.2.1,this.2.2.2⟩
theorem Yf (x : Int) (ms : List Mv) (hp : ms.Pairwise fun a b => Es b.f2 a.f2 = false) : (DR ms x).Pairwise (· < ·) := by
 have h1 := Ib (PP x ms)
 have h2 : (DR ms x).Nodup := (sorted_perm (PP x ms)).nodup_iff.2 (UZ x ms hp)
 unfold DR at h2 ⊢
 rw [List.nodup_iff_pairwise_ne] at h2
 exact List.Pairwise.imp₂ (fun a b h3 h4 => by omega) h1 h2
theorem Ye (x h : Int) (ms : List Mv) (hb : ∀ m ∈ ms,h ≤ m.f2.f1) : ∀ y ∈ DR ms x,h ≤ y := by
 intro y hy
 have := (sorted_perm (PP x ms)).mem_iff.1 hy
 unfold PP at this
 obtain ⟨m,hm,rfl⟩ := List.mem_map.1 this
 exact hb m (List.mem_filter.1 hm).1
theorem YY (b x : Int) (u : List Int) (hu : u.length ≤ 1000) : ∀ t q : Nat,∀ h : Int,u.length - q = t → q ≤ u.length → -100000 ≤ h → h + ((u.length - q : Nat) : Int) ≤ 100000 → (u.drop q).Pairwise (· < ·) → (∀ y ∈ u.drop q,h ≤ y) →
    Ev (fun k => yY.l1 k b h u (u.length : Int) (q : Int)) (b,GD h (u.drop q),0) := by
  intro t
  induction t with
  | zero =>
    intro q h ht hq hh1 hh2 hp hg
    refine evs (fun k => by rw [yY.l1]) (BF (by omega) (Hw ?_))
    rw [List.drop_of_length_le (by omega)]
    rfl
  | succ t ih =>
    intro q h ht hq hh1 hh2 hp hg
    have hlt : q < u.length := by omega
    rw [List.drop_eq_getElem_cons hlt] at hp hg ⊢
    have hp' := List.pairwise_cons.1 hp
    refine evs (fun k => by rw [yY.l1]) (AA (by omega) (AA (by omega) (AA (by omega) ?_)))
    rw [IJ u q hlt,ww (x := (q : Int) + 1) (by omega) (by omega),show (q : Int) + 1 = ((q + 1 : Nat) : Int) by omega]
    unfold GD
    by_cases c : u[q] = h
    · refine AA c ?_
      rw [if_pos c,ww (by omega) (by omega)]
      refine ih (q + 1) (h + 1) (by omega) (by omega) (by omega) (by omega) hp'.2 fun y hy => ?_
      have := hp'.1 y hy
      omega
    · refine BF c ?_
      rw [if_neg c]
      have hnone : ∀ (v : List Int),(∀ y ∈ v,h < y) → GD h v = h := by
        intro v hv
        cases v with
        | nil => rfl
        | cons y v => unfold GD;rw [if_neg (by have := hv y (List.mem_cons_self ..);omega)]
      have hq2 := hg u[q] (List.mem_cons_self ..)
      have := ih (q + 1) h (by omega) (by omega) hh1 (by omega) hp'.2 fun y hy => by have := hp'.1 y hy;omega
      rw [hnone _ (fun y hy => by have := hp'.1 y hy;omega)] at this
      exact this
section
variable {d : Int} {L : List (List Int)} {w n r : Nat} {T S : Int} (H : Lo d L w n r T S)
include H
theorem Lo.Pq (ms : List Mv) (hl : ms.length ≤ 1000) (hv : VM d L w n r T S ms) (g : Int) (dead : List Bool) (hd : (dead.length : Int) = d) :
    Ev (fun k => yY.f k d L T S ms g dead) (if 0 ≤ g ∧ g < T * n then (match GA L w n r S ms g dead d.toNat with | none => (0,0,11) | some p => (p.1,GD (T * r) (DR ms p.1),0)) else (0,0,2)) := by
  have hd1 := H.ok.d1
  have hr := H.tr
  have hs1 := H.s1
  have Yn := H.ok.w1
  have hl0 : 0 ≤ g ∧ g < T * n → ∀ t j : Nat,d.toNat - j = t → j ≤ d.toNat → Ev (fun k => yY.l0 k dead (Av L w n r ms g) (match GA L w n r S ms g dead j with | none => -1 | some p => p.1) (match GA L w n r S ms g dead j with | none => S | some p => p.2) d (j : Int) d L T S ms (T * r) (T * r + S))
      (match GA L w n r S ms g dead d.toNat with | none => (0,0,11) | some p => (p.1,GD (T * r) (DR ms p.1),0)) := by
    intro hg t
    induction t with
    | zero =>
      intro j ht hj
      obtain rfl : j = d.toNat := by omega
      refine evs (fun k => by rw [yY.l0]) (BF (by omega) ?_)
      cases hc : GA L w n r S ms g dead d.toNat with
      | none => exact AA (by decide) (Ev.now _)
      | some p =>
        have hi := Nn L w n r S ms g dead _ p hc
        have hul := Jw p.1 ms
        refine BF (by show ¬ p.1 < 0;omega) (Ep (KR ms hl _ _ _ _ _ _ _) ?_)
        have := YY p.1 0 (DR ms p.1) (by omega) _ 0 (T * r) rfl (Nat.zero_le _) (by omega) (by omega) (Yf _ _ hv.1.places) (by rw [List.drop_zero];exact Ye _ _ _ fun m hm => (hv.1.blocks m hm).1)
        rw [List.drop_zero] at this
        exact this
    | succ t ih =>
      intro j ht hj
      have hlt : j < d.toNat := by omega
      have hjd : j < dead.length := by omega
      have hstep := ih (j + 1) (by omega) (by omega)
      rw [L9] at hstep
      have hul := Jw (j : Int) ms
      have hdl : (Av L w n r ms g).length = w := by simp [Av]
      have hrd : Ir false dead (j : Int) = dead.getD j false := by unfold Ir;rw [Int.toNat_natCast]
      refine evs (fun k => by rw [yY.l0]) (AA (by omega) (Ep (KR ms hl _ _ _ _ _ _ _) ?_))
      refine AA (show (0 : Int) ≤ (j : Int) by omega) (AA (show (j : Int) < (dead.length : Int) by omega) ?_)
      rw [hrd]
      have hj2 : ∀ bb : Bool,bb = decide (dead.getD j false = false ∧ (j : Int) ∉ Av L w n r ms g ∧ OQ S (GA L w n r S ms g dead j) ((DR ms (j : Int)).length : Int) = true) →
          Ev (fun k => yY.j2 k dead (Av L w n r ms g) (match GA L w n r S ms g dead j with | none => -1 | some p => p.1) (match GA L w n r S ms g dead j with | none => S | some p => p.2) (j : Int) ((DR ms (j : Int)).length : Int) d (j : Int) bb d L T S ms (T * r) (T * r + S))
            (match GA L w n r S ms g dead d.toNat with | none => (0,0,11) | some p => (p.1,GD (T * r) (DR ms p.1),0)) := by
        intro bb hbb
        refine evs (fun k => by rw [yY.j2]) ?_
        rw [ww (x := (j : Int) + 1) (by omega) (by omega),show (j : Int) + 1 = ((j + 1 : Nat) : Int) by omega]
        unfold Np at hstep
        cases bb with
        | true =>
          refine AA rfl ?_
          rw [if_pos (of_decide_eq_true hbb.symm)] at hstep
          exact hstep
        | false =>
          refine BF (by decide) ?_
          rw [if_neg (of_decide_eq_false hbb.symm)] at hstep
          exact hstep
      by_cases c1 : dead.getD j false = true
      · refine AA c1 (hj2 false ?_)
        rw [eq_comm,decide_eq_false_iff_not]
        rw [c1]
        exact fun h => by cases h.1
      refine BF c1 (Ep (Xq _ (by omega) _) ?_)
      by_cases c2 : (j : Int) ∈ Av L w n r ms g
      · rw [decide_eq_true c2]
        refine AA rfl (hj2 false ?_)
        rw [eq_comm,decide_eq_false_iff_not]
        exact fun h => h.2.1 c2
      · rw [decide_eq_false c2]
        refine BF (by decide) (hj2 _ ?_)
        rw [decide_eq_decide]
        have c1' : dead.getD j false = false := Bool.eq_false_iff.2 c1
        simp only [c1',c2,true_and,not_false_eq_true]
        cases GA L w n r S ms g dead j with
        | none => simp [OQ]
        | some p => simp [OQ]
  unfold yY.f
  refine Ep (H.check ms hl) ?_
  rw [if_pos hv]
  refine AA rfl ?_
  rw [show ((dead.length : Int) != d) = false from by rw [bne_eq_false_iff_eq];exact hd]
  refine evs (fun k => by rw [yY.j0]) (BF (by decide) ?_)
  by_cases c1 : g < 0
  · refine AA c1 (Hw ?_)
    rw [if_neg (by omega)]
  refine BF c1 (Ep H.Zj ?_)
  by_cases c2 : g ≥ T * n
  · refine AA c2 (Hw ?_)
    rw [if_neg (by omega)]
  · refine BF c2 (Ep (H.a01 ms hv.1.sorted hl hv.1.OM _ _ g (by omega) (by omega)) ?_)
    rw [if_pos ⟨by omega,by omega⟩]
    exact hl0 ⟨by omega,by omega⟩ _ 0 rfl (Nat.zero_le _)
end
theorem vv (i : Nat) (h : i < 1000000) : wrap64 ((i : Int) + 1) = ((i + 1 : Nat) : Int) := by rw [ww (by omega) (by omega)];omega
def XI (st : Option (Int × Int)) : Int := match st with | none => -1 | some p => p.2
def stD (st : Option (Int × Int)) : Int := match st with | none => 0 | some p => p.1
def Zo (h : Int) (ms : List Mv) (st : Option (Int × Int)) : Int := match st with | none => 0 | some p => GD h (DR ms p.1)
section
variable {d : Int} {L : List (List Int)} {w n r : Nat} {T S : Int} (H : Lo d L w n r T S)
include H
set_option maxHeartbeats 1000000 in
theorem Lo.YR (ms : List Mv) (hl : ms.length ≤ 1000) (hv : VM d L w n r T S ms) (g : Int) (dead : List Bool) (hd : (dead.length : Int) = d) (hg : 0 ≤ g ∧ g < T * n) :
    Ev (fun k => yH.f k d L T S ms g dead) (match GA L w n r S ms g dead d.toNat with | none => (0,0,false) | some p => (p.1,GD (T * r) (DR ms p.1),true)) := by
  have hd1 := H.ok.d1
  have hr := H.tr
  have hs1 := H.s1
  have Yn := H.ok.w1
  have hdl : (Av L w n r ms g).length = w := by simp [Av]
  have hl0 : ∀ t j : Nat,d.toNat - j = t → j ≤ d.toNat → Ev (fun k => yH.l0 k ms g dead (XI (GA L w n r S ms g dead j)) (j : Int) d L T S (stD (GA L w n r S ms g dead j)) (Zo (T * r) ms (GA L w n r S ms g dead j)))
      (match GA L w n r S ms g dead d.toNat with | none => (0,0,false) | some p => (p.1,GD (T * r) (DR ms p.1),true)) := by
    intro t
    induction t with
    | zero =>
      intro j ht hj
      obtain rfl : j = d.toNat := by omega
      refine evs (fun k => by rw [yH.l0]) (BF (by omega) (Hw ?_))
      cases hc : GA L w n r S ms g dead d.toNat with
      | none => rfl
      | some p =>
        have hi := Nn L w n r S ms g dead _ p hc
        have h9 : XI (some p) ≥ 0 := by show p.2 ≥ 0;omega
        rw [decide_eq_true h9]
        rfl
    | succ t ih =>
      intro j ht hj
      have hlt : j < d.toNat := by omega
      have hstep := ih (j + 1) (by omega) (by omega)
      rw [L9] at hstep
      have hinv := Nn L w n r S ms g dead j
      have hul := Jw (j : Int) ms
      have hur := H.a1d ms hl hv.1.blocks (j : Int)
      have hat := fun i (hi : i < w) => Si L w n r ms g i hi
      have hrd : Ir false dead (j : Int) = dead.getD j false := by unfold Ir;rw [Int.toNat_natCast]
      generalize hst : GA L w n r S ms g dead j = st at hstep hinv ⊢
      unfold Np at hstep
      have hsB : ∀ c,Zo (T * r) ms (some ((j : Int),c)) = GD (T * r) (DR ms (j : Int)) := fun c => rfl
      generalize DR ms (j : Int) = u at hstep hul hur hsB
      generalize Av L w n r ms g = D at hstep hdl hat
      clear ih hst
      generalize hR : (match GA L w n r S ms g dead d.toNat with | none => ((0 : Int),(0 : Int),false) | some p => (p.1,GD (T * r) (DR ms p.1),true)) = R at hstep ⊢
      have hl2 : ∀ t q : Nat,∀ h : Int,(u).length - q = t → q ≤ (u).length → -100000 ≤ h → h + (((u).length - q : Nat) : Int) ≤ 100000 →
          Ev (fun k => yH.l0 k ms g dead ((u).length : Int) (wrap64 ((j : Int) + 1)) d L T S (j : Int) (GD h ((u).drop q))) R →
          Ev (fun k => yH.l2 k ms g dead (j : Int) (u) h (q : Int) d L T S) R := by
        intro t
        induction t with
        | zero =>
          intro q h ht hq hh1 hh2 hK
          refine evs (fun k => by rw [yH.l2]) (BF (by omega) ?_)
          rw [List.drop_of_length_le (by omega)] at hK
          exact hK
        | succ t ih2 =>
          intro q h ht hq hh1 hh2 hK
          have hq' : q < (u).length := by omega
          refine evs (fun k => by rw [yH.l2]) (AA (by omega) (AA (by omega) ?_))
          rw [IJ _ q hq']
          rw [List.drop_eq_getElem_cons hq'] at hK
          unfold GD at hK
          by_cases c : (u)[q] = h
          · rw [if_pos c] at hK
            refine AA c ?_
            rw [ww (x := h + 1) (by omega) (by omega),ww (x := (q : Int) + 1) (by omega) (by omega),show (q : Int) + 1 = ((q + 1 : Nat) : Int) by omega]
            exact ih2 (q + 1) (h + 1) (by omega) (by omega) (by omega) (by omega) hK
          · rw [if_neg c] at hK
            exact BF c hK
      have hj2 : ∀ bb : Bool,(bb = true → ¬ (dead.getD j false = false ∧ (j : Int) ∉ D ∧ OQ S st ((u).length : Int) = true)) → (bb = false → (dead.getD j false = false ∧ (j : Int) ∉ D ∧ OQ S st ((u).length : Int) = true)) →
          Ev (fun k => yH.j2 k ms g dead (XI st) (j : Int) (u) bb d L T S (stD st) (Zo (T * r) ms st)) R := by
        intro bb hb1 hb2
        refine evs (fun k => by rw [yH.j2]) ?_
        have hww : wrap64 ((j : Int) + 1) = ((j + 1 : Nat) : Int) := by rw [ww (by omega) (by omega)];omega
        cases bb with
        | true =>
          refine AA rfl ?_
          rw [hww]
          rw [if_neg (hb1 rfl)] at hstep
          exact hstep
        | false =>
          refine BF (by decide) (GZ H.homes ?_)
          rw [if_pos (hb2 rfl)] at hstep
          refine hl2 _ 0 (T * r) rfl (Nat.zero_le _) (by omega) (by omega) ?_
          rw [hww,List.drop_zero,← hsB (u.length : Int)]
          exact hstep
      have hfin : ∀ G8 : Bool,G8 = decide ((j : Int) ∈ D) → Ev (fun k => (zx.f k d L T S ms (j : Int)).bind fun Ez => (if 0 ≤ (j : Int) then (if (j : Int) < (dead.length : Int) then (if Ir false dead (j : Int) = true then (yH.j2 k ms g dead (XI st) (j : Int) Ez true d L T S (stD st) (Zo (T * r) ms st)) else (if G8 = true then (yH.j2 k ms g dead (XI st) (j : Int) Ez true d L T S (stD st) (Zo (T * r) ms st)) else (if (Ez.length : Int) ≥ S then (yH.j2 k ms g dead (XI st) (j : Int) Ez true d L T S (stD st) (Zo (T * r) ms st)) else (if XI st ≥ 0 then (yH.j2 k ms g dead (XI st) (j : Int) Ez (decide ((Ez.length : Int) ≥ XI st)) d L T S (stD st) (Zo (T * r) ms st)) else (yH.j2 k ms g dead (XI st) (j : Int) Ez false d L T S (stD st) (Zo (T * r) ms st)))))) else (none)) else (none))) R := by
        intro G8 hx
        refine Ep hur ?_
        refine AA (show (0 : Int) ≤ (j : Int) by omega) (AA (show (j : Int) < (dead.length : Int) by omega) ?_)
        rw [hrd]
        by_cases c1 : dead.getD j false = true
        · exact AA c1 (hj2 true (fun _ h => by rw [c1] at h;cases h.1) (by simp))
        have c1' : dead.getD j false = false := Bool.eq_false_iff.2 c1
        refine BF c1 ?_
        by_cases c2 : (j : Int) ∈ D
        · rw [decide_eq_true c2] at hx
          exact AA hx (hj2 true (fun _ h => h.2.1 c2) (by simp))
        rw [decide_eq_false c2] at hx
        refine BF (by rw [hx];decide) ?_
        by_cases c3 : ((u).length : Int) ≥ S
        · refine AA c3 (hj2 true (fun _ h => ?_) (by simp))
          cases st with
          | none => have := of_decide_eq_true h.2.2;omega
          | some p => have := of_decide_eq_true h.2.2;have := (hinv p rfl).2.2.2;omega
        · refine BF c3 ?_
          cases st with
          | none => exact BF (by show ¬ (-1 : Int) ≥ 0;decide) (hj2 false (by simp) fun _ => ⟨c1',c2,decide_eq_true (by omega)⟩)
          | some p =>
            have hp := hinv p rfl
            refine AA (show p.2 ≥ 0 by omega) (hj2 _ (fun h1 h2 => ?_) fun h1 => ⟨c1',c2,decide_eq_true ?_⟩)
            · have h3 : ((u).length : Int) ≥ p.2 := of_decide_eq_true h1
              have h4 : ((u).length : Int) < p.2 := of_decide_eq_true h2.2.2
              omega
            · have h3 : ¬ ((u).length : Int) ≥ p.2 := of_decide_eq_false h1
              omega
      have hl1 : ∀ t i : Nat,w - i = t → i ≤ w → ∀ G8 : Bool,G8 = decide ((j : Int) ∈ (D).take i) → Ev (fun k => yH.l1 k ms g dead (XI st) (j : Int) G8 (i : Int) d L T S (stD st) (Zo (T * r) ms st)) R := by
        intro t
        induction t with
        | zero =>
          intro i ht hi G8 hx
          rw [List.take_of_length_le (by omega)] at hx
          refine evs (fun k => by rw [yH.l1]) ?_
          refine GZ H.Gg ?_
          refine BF (show ¬ (i : Int) < (w : Int) by omega) ?_
          exact hfin G8 hx
        | succ t ih3 =>
          intro i ht hi G8 hx
          have hi' : i < D.length := by rw [hdl];omega
          have hiw : i < w := by omega
          have ht' : w - (i + 1) = t := by omega
          have hii : (0 : Int) ≤ (i : Int) := Int.natCast_nonneg i
          have hww := vv i (Nat.lt_of_lt_of_le hiw (Nat.le_trans Yn.2 (by decide)))
          refine evs (fun k => by rw [yH.l1]) ?_
          refine GZ H.Gg ?_
          refine AA (Int.ofNat_lt.2 hiw) ?_
          have hmem : (j : Int) ∈ (D).take (i + 1) ↔ (j : Int) ∈ (D).take i ∨ (j : Int) = (D)[i] := by
            rw [List.take_succ_eq_append_getElem hi',List.mem_append,List.mem_singleton]
          cases G8 with
          | true =>
            refine AA rfl ?_
            rw [hww]
            exact ih3 (i + 1) ht' hiw true (by rw [eq_comm,decide_eq_true_iff,hmem];exact .inl (of_decide_eq_true hx.symm))
          | false =>
            refine BF (by decide) (Ep (H.Q0 ms hl g (i : Int) hg.1 hg.2 hii (Int.ofNat_lt.2 hiw)) ?_)
            rw [hww]
            refine ih3 (i + 1) ht' hiw _ ?_
            rw [Bool.eq_iff_iff,beq_iff_eq,decide_eq_true_iff,hmem,← hat i hiw,getD_at _ _ _ hi']
            have hnot := of_decide_eq_false hx.symm
            exact ⟨fun h => .inr h.symm,fun h => h.elim (fun h => absurd h hnot) (fun h => h.symm)⟩
      refine evs (fun k => by rw [yH.l0]) (AA (by omega) ?_)
      exact hl1 _ 0 rfl (Nat.zero_le _) false (by simp)
  unfold yH.f
  exact hl0 _ 0 rfl (Nat.zero_le _)
end
end Go.Proofs.YtjonnfmoocijlaaGreat.P
