/- Texts of a claim, packed. -/
import Derived.Test.YtjonnfmoocijlaaC26
set_option linter.all false
namespace Go.Proofs.Ytjonnfmoocijlaa.P
open Go.RowKit Go.Proofs.YtjonnfmoocijlaaKW.PrintWords
theorem OC (l : List Int) : (Lib.compact (sorted l)).length = l.length ↔ l.Nodup := by
  have hp := sorted_perm l
  have hs := Ip l
  rw [← hp.length_eq, ← hp.nodup_iff]
  generalize sorted l = s at hs
  have hat : ∀ j (h : j < s.length), s.toArray[j]! = s[j] := fun j h => by simp [h]
  constructor
  · intro h
    have h1 : ∀ j, j < s.length → Lib.keeps s.toArray j = true := by
      have h2 : ((List.range s.length).filter (Lib.keeps s.toArray)).length = (List.range s.length).length := by
        simp only [Lib.compact, Lib.compactUpTo, List.length_map] at h
        rw [h, List.length_range]
      intro j hj
      exact List.length_filter_eq_length_iff.1 h2 j (List.mem_range.2 hj)
    rw [List.nodup_iff_pairwise_ne, List.pairwise_iff_getElem]
    intro i j hi hj hij he
    have h3 := h1 j hj
    have h4 : s[j - 1]'(by omega) ≤ s[j] := by
      rcases Nat.lt_or_ge (j - 1) j with h5 | h5
      · exact (List.pairwise_iff_getElem.1 hs) (j - 1) j (by omega) hj h5
      · omega
    have h6 : s[i] ≤ s[j - 1]'(by omega) := by
      rcases Nat.lt_or_ge i (j - 1) with h5 | h5
      · exact (List.pairwise_iff_getElem.1 hs) i (j - 1) hi (by omega) h5
      · have : i = j - 1 := by omega
        subst this
        exact Int.le_refl _
    have h7 : s[j] = s[j - 1]'(by omega) := by omega
    rw [Lib.keeps_neg (by omega) (by rw [hat j hj, hat (j - 1) (by omega)]; exact h7)] at h3
    cases h3
  · intro h
    rw [Lib.compact_all s fun j hj => ?_]
    rcases Nat.eq_zero_or_pos j with rfl | h0
    · exact Lib.keeps_lt_one _ 0 (by omega)
    · refine Lib.keeps_pos ?_
      rw [hat j hj, hat (j - 1) (by omega)]
      rw [List.nodup_iff_pairwise_ne, List.pairwise_iff_getElem] at h
      exact fun e => h (j - 1) j (by omega) hj (by omega) e.symm
def I7 (d : Int) (w : Nat) (tn h b : Int) (ms : List Mv) (i : Nat) : Prop :=
 let m := ms.getD i z47
 (0 ≤ m.f0 ∧ m.f0 < tn ∧ 0 ≤ m.f1 ∧ m.f1 < (w : Int)) ∧ (0 < i → Ahead (ms.getD (i - 1) z47) m.f0 m.f1) ∧ (0 ≤ m.f2.f0 ∧ m.f2.f0 < d ∧ h ≤ m.f2.f1 ∧ m.f2.f1 < b) ∧ ∀ x ∈ ms.take i, Ec m.f2 x.f2 = false
instance (d : Int) (w : Nat) (tn h b : Int) (ms : List Mv) (i : Nat) : Decidable (I7 d w tn h b ms i) := by unfold I7; infer_instance
def En (d : Int) (w : Nat) (tn h b : Int) (ms : List Mv) (j : Nat) : Prop := ∀ i, i < ms.length → j ≤ i → I7 d w tn h b ms i
instance (d : Int) (w : Nat) (tn h b : Int) (ms : List Mv) (j : Nat) : Decidable (En d w tn h b ms j) := by unfold En; infer_instance
theorem En.step {d : Int} {w : Nat} {tn h b : Int} {ms : List Mv} {j : Nat} (hk : I7 d w tn h b ms j) : En d w tn h b ms j ↔ En d w tn h b ms (j + 1) := by
  refine ⟨fun f i h1 h2 => f i h1 (by omega), fun f i h1 h2 => ?_⟩
  rcases Nat.lt_or_ge j i with h3 | h3
  · exact f i h1 h3
  · obtain rfl : i = j := by omega
    exact hk
theorem En.sorted {d : Int} {w : Nat} {tn h b : Int} {ms : List Mv} (hk : En d w tn h b ms 0) : Sorted ms := by
  unfold Sorted
  rw [List.pairwise_iff_getElem]
  intro i j hi hj hij
  induction j with
  | zero => omega
  | succ j ih =>
    have h1 := (hk (j + 1) hj (by omega)).2.1 (by omega)
    simp only [Nat.add_sub_cancel] at h1
    rw [getD_at _ _ _ hj, getD_at _ _ _ (by omega)] at h1
    rcases Nat.lt_or_ge i j with h6 | h6
    · have h7 := ih (by omega) h6
      unfold Ahead at h1 h7 ⊢
      omega
    · obtain rfl : i = j := by omega
      exact h1
theorem En.NW {d : Int} {w : Nat} {tn h b : Int} {ms : List Mv} (hk : En d w tn h b ms 0) : Pv w tn ms := by
 intro m hm
 obtain ⟨i, hi, rfl⟩ := List.getElem_of_mem hm
 have := (hk i hi (by omega)).1
 rwa [getD_at _ _ _ hi] at this
def VM (d : Int) (L : List (List Int)) (w n r : Nat) (T S : Int) (ms : List Mv) : Prop := En d w (T * n) (T * r) (T * r + S) ms 0 ∧ ∀ m ∈ ms, (Av L w n r ms m.f0).Nodup
instance (d : Int) (L : List (List Int)) (w n r : Nat) (T S : Int) (ms : List Mv) : Decidable (VM d L w n r T S ms) := by unfold VM; infer_instance
section
variable {d : Int} {L : List (List Int)} {w n r : Nat} {T S : Int} (H : Lo d L w n r T S)
include H
theorem Lo.apart (ms : List Mv) (hs : Sorted ms) (hl : ms.length ≤ 1000) (hin : Pv w (T * n) ms) (a b g : Int) (h0 : 0 ≤ g) (h1 : g < T * n) : Ev (fun k => Ci.f k d L T S ms a b g) (decide (Av L w n r ms g).Nodup) := by
 have h5 := H.ok.w1
 have hw : (Av L w n r ms g).length = w := by simp [Av]
 unfold Ci.f
 refine DN (H.a0P ms hs hl hin a b g h0 h1) ?_
 refine GJ (a := sorted (Av L w n r ms g)) (by unfold slices_Sort_int.f; rw [if_pos (by omega)]) ?_
 refine GJ (a := Lib.compact (sorted (Av L w n r ms g))) (by unfold slices_Compact_int.f; rw [if_pos (by rw [I6]; omega)]) ?_
 refine GJ (H.Qi ms a b) (I8 ?_)
 have hc := OC (Av L w n r ms g)
 rw [hw] at hc
 rw [Bool.eq_iff_iff, beq_iff_eq, decide_eq_true_eq, ← hc]
 omega
theorem Lo.has (ms : List Mv) (a b g i : Int) : DT.f d L T S ms a b g i = some (decide (0 ≤ g ∧ g < T * n ∧ 0 ≤ i ∧ i < (w : Int))) := by
  have := H.tn
  unfold DT.f
  rw [H.Qi, H.ok.len, ww (by omega) (by omega)]
  simp only [Option.bind_some]
  by_cases h1 : g ≥ 0
  · rw [if_pos h1]
    by_cases h2 : g < T * n
    · rw [if_pos h2]
      by_cases h3 : i ≥ 0
      · rw [if_pos h3]
        congr 1
        rw [decide_eq_decide]
        omega
      · rw [if_neg h3, decide_eq_false (by omega)]
    · rw [if_neg h2, decide_eq_false (by omega)]
  · rw [if_neg h1, decide_eq_false (by omega)]
theorem RF (ms : List Mv) (j : Nat) (hj : j < ms.length) : Jr ms (j : Int) = false ↔ ∀ x ∈ ms.take j, Ec (ms.getD j z47).f2 x.f2 = false := by
 unfold Jr
 rw [Int.toNat_natCast, Gm ms j hj, getD_at _ _ _ hj, List.any_eq_false]
 simp
theorem Lo.check (ms : List Mv) (hl : ms.length ≤ 1000) : Ev (fun k => zb.f k d L T S ms) (if VM d L w n r T S ms then (d, L, T, S, ms, T * r, T * r + S, true) else (0, [], 0, 0, [], 0, 0, false)) := by
  have hr := H.tr
  have hs1 := H.s1
  have hS : wrap64 (T * r + S - S) = T * r := by rw [ww (by omega) (by omega)]; omega
  have hl1 : ∀ t j : Nat, ms.length - j = t → j ≤ ms.length → En d w (T * n) (T * r) (T * r + S) ms 0 → Ev (fun k => zb.l1 k ms (ms.length : Int) (j : Int) d L T S ms (T * r) (T * r + S)) (if ∀ m ∈ ms.drop j, (Av L w n r ms m.f0).Nodup then (d, L, T, S, ms, T * r, T * r + S, true) else (0, [], 0, 0, [], 0, 0, false)) := by
    intro t
    induction t with
    | zero =>
      intro j ht hj ha
      refine evs (fun k => by rw [zb.l1]) (BQ (by omega) (I8 ?_))
      rw [List.drop_of_length_le (by omega), if_pos (by simp)]
    | succ t ih =>
      intro j ht hj ha
      have hlt : j < ms.length := by omega
      have hm := ha.NW _ (List.getElem_mem hlt)
      refine evs (fun k => by rw [zb.l1]) (AJ (by omega) (AJ (by omega) (AJ (by omega) ?_)))
      rw [Gm ms j hlt]
      refine DN (H.apart ms ha.sorted hl ha.NW _ _ _ hm.1 hm.2.1) ?_
      rw [List.drop_eq_getElem_cons hlt]
      by_cases c : (Av L w n r ms ms[j].f0).Nodup
      · rw [decide_eq_true c]
        refine AJ rfl ?_
        rw [ww (by omega) (by omega), show (j : Int) + 1 = ((j + 1 : Nat) : Int) by omega]
        have := ih (j + 1) (by omega) (by omega) ha
        simp only [List.mem_cons, forall_eq_or_imp, c, true_and]
        exact this
      · rw [decide_eq_false c]
        refine BQ (by decide) (I8 ?_)
        rw [if_neg (fun h => c (h _ (List.mem_cons_self ..)))]
  have hl0 : ∀ t j : Nat, ms.length - j = t → j ≤ ms.length → (∀ i, i < j → I7 d w (T * n) (T * r) (T * r + S) ms i) → Ev (fun k => zb.l0 k ms ms (ms.length : Int) (j : Int) d L T S d L T S ms (T * r) (T * r + S)) (if VM d L w n r T S ms then (d, L, T, S, ms, T * r, T * r + S, true) else (0, [], 0, 0, [], 0, 0, false)) := by
    intro t
    induction t with
    | zero =>
      intro j ht hj ha
      refine evs (fun k => by rw [zb.l0]) (BQ (by omega) ?_)
      have ha' : En d w (T * n) (T * r) (T * r + S) ms 0 := fun i h1 _ => ha i (by omega)
      have := hl1 _ 0 rfl (Nat.zero_le _) ha'
      rw [List.drop_zero] at this
      unfold VM
      simp only [ha', true_and]
      exact this
    | succ t ih =>
      intro j ht hj ha
      have hlt : j < ms.length := by omega
      have hgd := getD_at ms z47 j hlt
      have hbad : ¬ I7 d w (T * n) (T * r) (T * r + S) ms j → ¬ VM d L w n r T S ms := fun hb h => hb (h.1 j hlt (Nat.zero_le _))
      have hj2 : ∀ bb : Bool, (bb = true → ¬ I7 d w (T * n) (T * r) (T * r + S) ms j) → (bb = false → I7 d w (T * n) (T * r) (T * r + S) ms j) → Ev (fun k => zb.j2 k ms ms (ms.length : Int) (j : Int) bb d L T S d L T S ms (T * r) (T * r + S)) (if VM d L w n r T S ms then (d, L, T, S, ms, T * r, T * r + S, true) else (0, [], 0, 0, [], 0, 0, false)) := by
        intro bb h1 h2
        refine evs (fun k => by rw [zb.j2]) ?_
        cases bb with
        | true => exact AJ rfl (I8 (by rw [if_neg (hbad (h1 rfl))]))
        | false =>
          refine BQ (by decide) ?_
          rw [ww (by omega) (by omega), show (j : Int) + 1 = ((j + 1 : Nat) : Int) by omega]
          refine ih (j + 1) (by omega) (by omega) fun i hi => ?_
          rcases Nat.lt_or_ge i j with h3 | h3
          · exact ha i h3
          · obtain rfl : i = j := by omega
            exact h2 rfl
      have hj1 : ∀ bb : Bool, (0 ≤ ms[j].f0 ∧ ms[j].f0 < T * n ∧ 0 ≤ ms[j].f1 ∧ ms[j].f1 < (w : Int)) → (bb = true → ¬ I7 d w (T * n) (T * r) (T * r + S) ms j) → (bb = false → (0 < j → Ahead (ms.getD (j - 1) z47) ms[j].f0 ms[j].f1)) →
          Ev (fun k => zb.j1 k ms ms (ms.length : Int) (j : Int) bb d L T S d L T S ms (T * r) (T * r + S) ms[j].f0 ms[j].f1 ms[j].f2.f0 ms[j].f2.f1) (if VM d L w n r T S ms then (d, L, T, S, ms, T * r, T * r + S, true) else (0, [], 0, 0, [], 0, 0, false)) := by
        intro bb h0 h1 h2
        refine evs (fun k => by rw [zb.j1]) ?_
        cases bb with
        | true => exact AJ rfl (I8 (by rw [if_neg (hbad (h1 rfl))]))
        | false =>
          refine BQ (by decide) ?_
          have hno : ¬ (0 ≤ ms[j].f2.f0 ∧ ms[j].f2.f0 < d ∧ T * r ≤ ms[j].f2.f1 ∧ ms[j].f2.f1 < T * r + S) → ¬ I7 d w (T * n) (T * r) (T * r + S) ms j := fun h1 h2 => by
            have := h2.2.2.1
            rw [hgd] at this
            exact h1 this
          by_cases c1 : ms[j].f2.f0 < 0
          · exact AJ c1 (hj2 true (fun _ => hno (by omega)) (by simp))
          refine BQ c1 ?_
          by_cases c2 : ms[j].f2.f0 ≥ d
          · exact AJ c2 (hj2 true (fun _ => hno (by omega)) (by simp))
          refine BQ c2 ?_
          by_cases c3 : ms[j].f2.f1 < T * r
          · exact AJ c3 (hj2 true (fun _ => hno (by omega)) (by simp))
          refine BQ c3 ?_
          by_cases c4 : ms[j].f2.f1 ≥ T * r + S
          · exact AJ c4 (hj2 true (fun _ => hno (by omega)) (by simp))
          refine BQ c4 (hj2 _ (fun hb hm => ?_) fun hb => ?_)
          · have := (RF H ms j hlt).2 hm.2.2.2
            rw [hb] at this
            cases this
          · have h4 := (RF H ms j hlt).1 hb
            refine ⟨?_, ?_, ?_, h4⟩
            · rw [hgd]; exact h0
            · rw [hgd]; exact h2 rfl
            · rw [hgd]; omega
      refine evs (fun k => by rw [zb.l0]) (AJ (by omega) (AJ (by omega) (AJ (by omega) (GJ (H.has ms _ _ _ _) ?_))))
      rw [Gm ms j hlt]
      by_cases c : 0 ≤ ms[j].f0 ∧ ms[j].f0 < T * n ∧ 0 ≤ ms[j].f1 ∧ ms[j].f1 < (w : Int)
      · rw [decide_eq_true c]
        refine AJ rfl ?_
        rcases Nat.eq_zero_or_pos j with hz | hz
        · refine BQ (by omega) (hj1 false c (by simp) (fun _ h => by omega))
        · refine AJ (by omega) ?_
          rw [ww (x := (j : Int) - 1) (by omega) (by omega), show (j : Int) - 1 = ((j - 1 : Nat) : Int) by omega]
          refine AJ (by omega) (AJ (by omega) (DN (NT _ _ _ _ _ _) ?_))
          rw [Gm ms (j - 1) (by omega)]
          have hgd' := getD_at ms z47 (j - 1) (by omega)
          refine hj1 _ c (fun hb hm => ?_) fun hb _ => ?_
          · have h3 := hm.2.1 hz
            rw [hgd, hgd'] at h3
            have := (KY _ _ _).2 h3
            have := of_decide_eq_true hb
            omega
          · rw [hgd']
            refine (KY _ _ _).1 ?_
            have := of_decide_eq_false hb
            omega
      · rw [decide_eq_false c]
        refine BQ (by decide) (I8 ?_)
        rw [if_neg (hbad fun h => c (by have := h.1; rwa [hgd] at this))]
  unfold zb.f
  refine DN H.Qf (BQ (by omega) ?_)
  rw [hS]
  have := hl0 _ 0 rfl (Nat.zero_le _) (fun i hi => by omega)
  exact this
end
end Go.Proofs.Ytjonnfmoocijlaa.P
namespace Go.Proofs.Ytjonnfmoocijlaa.P
open Go.RowKit Go.Proofs.YtjonnfmoocijlaaKW.PrintWords Go.Proofs.YtjonnfmoocijlaaKW.PrintLast Go.Proofs.YtjonnfmoocijlaaKW.PrintMore
attribute [local go_sem] zO zP Aj Ak zC zD zQ zR
def zU.l0 : Nat → Int → List Int → List (AX) → Int → Int → Option (List Int)
 | 0, _, _, _, _, _ => none
 | k + 1, x1, x5, x9, F5, EK => if EK < F5 then (if 0 ≤ EK then (if EK < (x9.length : Int) then (if ((yg x9 EK).f2.f0) = x1 then (if x5.length < 17592186044416 then (zU.l0 k x1 (x5 ++ [(yg x9 EK).f2.f1]) x9 F5 (wrap64 (EK + 1))) else (none)) else (zU.l0 k x1 x5 x9 F5 (wrap64 (EK + 1)))) else (none)) else (none)) else ((slices_Sort_int.f x5).bind fun t232 => (some t232))
def zU.f (k : Nat) (yn : Int) (yh : List (List Int)) (yo : Int) (yu : Int) (AB : List (AX)) (BB : Int) (AY : Int) (a1 : Int) : Option (List Int) := zU.l0 k a1 ([] : List Int) AB (AB.length : Int) 0
set_option maxHeartbeats 8000000 in
set_option maxRecDepth 100000 in
theorem zU.calls (k : Nat) (yn : Int) (yQ : Option Addr) (yM : Nat) (yh : List (List Int)) (yo : Int) (yu : Int) (EA : Option Addr) (Eo : Nat) (AB : List (AX)) (BB : Int) (AY : Int) (a1 : Int) (r : List Int) (w : World) (Ah : Kd.C (Kd.slice 3 (Kd.int .i64)) w yQ yh.length yh) (Ai : yh.length ≤ yM) (Gj : Kd.C CS w EA AB.length AB) (Gl : AB.length ≤ Eo) (h : zU.f k yn yh yo yu AB BB AY a1 = some r) :
  Calls Try.prog 36 #[.agg #[.int .i64 yn, .slice yQ yh.length yM, .int .i64 yo, .int .i64 yu, .slice EA AB.length Eo, .int .i64 BB, .int .i64 AY], .int .i64 a1] w fun e w' => ∃ GG : Value, e = .returned (GG) ∧ Kd.R (Kd.int .i64) 3 w' w.heap.size (fun _ => True) GG r ∧ Below w.heap.size w w' := by
 have NS := Try.underlying71;have LC := Try.underlying47;have zA := yf.mk Ah;have zK := yf.mk Ai;clear Ah Ai;have FB := yf.mk Gj;have Io := yf.mk Gl;clear Gj Gl;have HB := yf.mk (Below.refl w.heap.size w)
 have H : (zU.l0 k a1 ([] : List Int) AB (AB.length : Int) 0) = some r := h
 clear h;have H' := yf.mk H;clear H
 go_enter Try.func36, Try.ntmps36
 go_wp2_with (((with_reducible refine yI (N := 2) rfl ?_); refine yG rfl (N := 2) rfl (cs := #[.int .i64 yn, .slice yQ yh.length yM, .int .i64 yo, .int .i64 yu, .slice EA AB.length Eo, .int .i64 BB, .int .i64 AY]) (t := 71) (by go_simp) ?_; intro ay hg w3 yJ hb; have aa := yf.mk (yJ); have aH := bG (w := w) hg; have aG := bG (w := w) hg; replace HB := bS HB hb; clear hb yJ hg; have Tj := Gt aa; have Tk := bf aa))
 go_loopg [5, 11] k (fun kq v5 v11 w' => ∃ (yN : List Int) (AV : Int), v11 = .int .i64 AV ∧ yf (zU.l0 kq a1 yN AB (AB.length : Int) AV = some r) ∧ yf (kq ≤ k) ∧ yf (Kd.R (Kd.int .i64) 3 w' w.heap.size (fun _ => True) v5 yN) ∧ yf (w'.heap[ay]? = some (.cells #[.int .i64 yn, (.slice yQ yh.length yM), .int .i64 yo, .int .i64 yu, (.slice EA AB.length Eo), .int .i64 BB, .int .i64 AY] 71 (0, 0))) ∧ yf (Below w.heap.size w w'))
 case atStart => exact ⟨(([] : List Int)), (0), (by rfl), H', ⟨Nat.le_refl _⟩, ⟨by exact Kd.Er _ _ _ _ _⟩, ⟨kk aa⟩, ⟨bO HB⟩⟩
 case round =>
 clear H' Tj Tk;obtain ⟨yN, AV, rfl, HA, BJ, Bw, aa, HB⟩ := hrel
 cases gk with
 | zero => exact absurd HA.out (by simp [zU.l0])
 | succ k1 =>
 have H := HA.out;clear HA;simp only [zU.l0] at H
 by_cases c5 : AV < (AB.length : Int)
 rotate_left
 ·
  rw [if_neg c5] at H;have FE := decide_eq_false c5;clear c5;obtain ⟨t232, A17, H⟩ := bE H
  try dsimp only at H
  obtain rfl := Option.some.inj H;obtain ⟨Jn, IJ, Xk⟩ := Kd.zJ Bw.out;subst Xk
  go_wp2_with (((with_reducible refine yw (f := 64) rfl ?_); refine gL (some 28) Try.func64 #[.slice Jn yN.length IJ] ?_; (with_reducible refine (slices_Sort_int.calls (fun k_ => some k_ = (.slice Jn yN.length IJ : Value).ownBlock) (.slice Jn yN.length IJ) yN t232 w _ ?yD ?yF A17.out).mono ?_); (case yD => repeat ((with_reducible exact HB.out))); (case yF => exact Kd.Ht rfl Bw.out); rintro e w19 ⟨rfl, hy0, hb, hkp⟩; refine ⟨_, rfl, ?_⟩; have BL := yf.mk (Kd.VZ rfl hy0 (fun k_ e_ => Bw.out.1 k_ e_)); have BN := yf.mk (FL (kk aa) hkp (fun hs_ => (fun e_ => (Kd.EI Bw.out aa.out (by decide)) e_) hs_)); have BX := yf.mk (hb); clear Bw; clear aa; clear HB; have Bw := BL; have aa := BN; have HB := BX; clear BL BN BX; clear hb; clear hkp; clear hy0))
  go_ret
  exact ⟨_, by rfl, by (with_reducible repeat (apply Kd.yZ)); exact Bw.out, bO HB⟩
 rw [if_pos c5] at H;have FE := decide_eq_true c5;clear c5
 by_cases c6 : 0 ≤ AV
 rotate_left
 ·
  rw [if_neg c6] at H;exact absurd H (by simp)
 rw [if_pos c6] at H;have EJ := decide_eq_true c6;clear c6
 by_cases c7 : AV < (AB.length : Int)
 rotate_left
 ·
  rw [if_neg c7] at H;exact absurd H (by simp)
 rw [if_pos c7] at H;have GN := decide_eq_true c7;clear c7
 by_cases c8 : ((yg AB AV).f2.f0) = a1
 rotate_left
 ·
  rw [if_neg c8] at H;have GZ := beq_eq_false_iff_ne.mpr c8;have Nh := bne_iff_ne.mpr c8;have H' := yf.mk H;clear H
  have ae : 0 ≤ (AV : Int) := of_decide_eq_true ‹_›
  have af : AV < (AB.length : Int) := of_decide_eq_true ‹_›
  obtain ⟨az, e227, aj, ag, ah, ai⟩ := BU FB.out AV ae af;cases e227;replace aj := cB HB aj;replace ag := cB HB ag;replace ah := cB HB ah;replace ai := cB HB ai;replace ae := eq_true ae;replace af := eq_true af
  go_wp2_with (((with_reducible refine yI (N := 7) rfl ?_); refine yG rfl (N := 7) rfl (cs := #[.int .i64 0, .int .i64 0, .int .i64 0, .int .i64 0]) (t := 47) (by go_simp) ?_; intro Fh hg w14 yJ hb; have BR := yf.mk (yJ); have XB := bG (w := w) hg; have a0T := bG (w := w) hg; have au := Co aa hg; have ak := Ar aa hg; replace Bw := BZ Bw hb; replace aa := bB aa hb; replace HB := bS HB hb; clear hb yJ hg; have WR := ak.out; have WS := au.out; have KO := AP BR; have KP := bf BR))
  go_roundg k1
  case measure => have := BJ.out; omega
  case rel => exact ⟨(yN), (wrap64 (AV + 1)), (by rfl), H', ⟨by have := BJ.out; omega⟩, ⟨by (with_reducible repeat (apply Kd.yZ)); exact Kd.yX (F4 (g := Fh) (Kd.Aw Bw.out BR.out (by decide)) (fun _ hk => hk.2)) (fun _ hk => trivial)⟩, bK aa rfl, ⟨bO HB⟩⟩
 rw [if_pos c8] at H;have GZ := beq_iff_eq.mpr c8
 have Nh : (((yg AB AV).f2.f0) != a1) = false := bne_eq_false_iff_eq.mpr c8
 clear c8
 by_cases c9 : yN.length < 17592186044416
 rotate_left
 ·
  rw [if_neg c9] at H;exact absurd H (by simp)
 rw [if_pos c9] at H;have aC := yf.mk c9;clear c9;obtain ⟨ax, av⟩ : ∃ y_ : List Int, y_ = (yN ++ [(yg AB AV).f2.f1]) := ⟨_, rfl⟩
 replace H : (zU.l0 k1 a1 ax AB (AB.length : Int) (wrap64 (AV + 1))) = some r := by (rw [av]; with_reducible exact H)
 have aD := yf.mk av;clear av;have H' := yf.mk H;clear H
 have ae : 0 ≤ (AV : Int) := of_decide_eq_true ‹_›
 have af : AV < (AB.length : Int) := of_decide_eq_true ‹_›
 obtain ⟨az, e227, aj, ag, ah, ai⟩ := BU FB.out AV ae af;cases e227;replace aj := cB HB aj;replace ag := cB HB ag;replace ah := cB HB ah;replace ai := cB HB ai;replace ae := eq_true ae;replace af := eq_true af
 go_wp2_with (first | ((with_reducible refine yI (N := 7) rfl ?_); refine yG rfl (N := 7) rfl (cs := #[.int .i64 0, .int .i64 0, .int .i64 0, .int .i64 0]) (t := 47) (by go_simp) ?_; intro Fh hg w10 yJ hb; have BR := yf.mk (yJ); have XB := bG (w := w) hg; have a0T := bG (w := w) hg; have au := Co aa hg; have ak := Ar aa hg; replace Bw := BZ Bw hb; replace aa := bB aa hb; replace HB := bS HB hb; clear hb yJ hg; have Xi := ak.out; have Xj := au.out; have NM := AP BR; have NN := bf BR) | ((with_reducible refine BH (b := .append) (xs := #[.tmp 20, .tmp 24]) rfl ?_); at_builtin; refine Kd.El (Kd.int .i64) (w0 := w) w.heap.size rfl (.tmp 20) (.tmp 24) 63 3 (.int .i64 0) 8 rfl Try.underlying63 info3 rfl (by decide) (by omega) u5 yN ((yg AB AV).f2.f1) [.int .i64 ((yg AB AV).f2.f1)] (fun _ => True) (fun _ => False) rfl (by go_simp) ?aP (fun _ hk => hk.elim) ?aF ?aO ?aB ?aS ?aL ?_; (case aP => exact rfl); (case aB => exact (bO HB)); (case aF => exact (fun _ _ => trivial)); (case aO => exact (by (with_reducible repeat (apply Kd.yZ)); exact Kd.yX (F4 (g := Fh) (Kd.Aw Bw.out BR.out (by decide)) (fun _ hk => hk.2)) (fun _ hk => trivial))); (case aS => exact (yL (bO HB))); (case aL => have := aC.out; omega); intro v230 w13 ho hb hg hat; rw [← aD.out] at ho; have BL := yf.mk (zY (g := ay) (o := .cells #[.int .i64 yn, .slice yQ yh.length yM, .int .i64 yo, .int .i64 yu, .slice (some az) AB.length Eo, .int .i64 BB, .int .i64 AY] 71 (0, 0)) (CJ aa rfl) hg (Kd.EI Bw.out aa.out (by decide))); have BN := yf.mk (zY (g := Fh) (o := .cells #[.int .i64 ((yg AB AV).f0), .int .i64 ((yg AB AV).f1), .int .i64 ((yg AB AV).f2.f0), .int .i64 ((yg AB AV).f2.f1)] 47 (0, 0)) (CJ BR rfl) hg (Kd.EI Bw.out BR.out (by decide))); have BX := yf.mk (hb); have Cr := yf.mk (ho); clear aa; clear BR; clear HB; clear Bw; have aa := BL; have BR := BN; have HB := BX; have aA := Cr; clear BL BN BX Cr; clear ho hb hg hat))
 go_roundg k1
 case measure => have := BJ.out; omega
 case rel => exact ⟨(ax), (wrap64 (AV + 1)), (by rfl), H', ⟨by have := BJ.out; omega⟩, ⟨kR aA⟩, ⟨kk aa⟩, ⟨bO HB⟩⟩
theorem Mr (d : Nat) (w : World) (x0 y0 : Int) (x1 y1 : Int) :
  (Op.equalIn (d + 2) 38 (.agg #[.int .i64 x0, .int .i64 x1]) (.agg #[.int .i64 y0, .int .i64 y1])).run Try.prog w = .ok (x0 == y0 && (x1 == y1)) w := by
 refine SI Try.underlying38 (by kernel_rfl) ?_
 refine KD (by rfl) (by go_simp; rfl) (by go_simp; rfl) (by go_simp) ?_
 exact Nc (by rfl) (by go_simp; rfl) (by go_simp; rfl) (by go_simp)
end Go.Proofs.Ytjonnfmoocijlaa.P
