/- Texts of a claim, packed. -/
import Derived.Test.YtjonnfmoocijlaaD31
import Derived.Test.YtjonnfmoocijlaaD41
set_option linter.all false
namespace Go.Proofs.Ytjonnfmoocijlaa.P
open Go.RowKit Go.Proofs.YtjonnfmoocijlaaKW.PrintWords
theorem a2F (l : List Mb) (i : Nat) (h : i < l.length) : Cf l (i : Int) = l[i] := by unfold Cf; rw [Int.toNat_natCast, getD_at _ _ _ h]
section
variable {d : Int} {L : List (List Int)} {w n r : Nat} {T S : Int} (H : Lo d L w n r T S)
include H
def TJ (d : Int) (L : List (List Int)) (w n r : Nat) (T S : Int) (x j : Nat) : Mb :=
 match zf.f 400 d L T S (w : Int) (r : Int) (n : Int) (FN d.toNat L).2 (FN d.toNat L).1 (T * r) (T * r + S) (x : Int) (j : Int) with
 | none => ⟨0, 0⟩
 | some p => ⟨p.1, p.2⟩
theorem Lo.a0i : (T * (r : Int)).toNat ≤ 5 * r := by
 have h2 := H.t1
 have h3 : T * (r : Int) ≤ 5 * r := Int.mul_le_mul_of_nonneg_right h2.2 (by omega)
 omega
theorem Lo.a2G (A : GZ d L w n r) (x j : Nat) (hx : x < d.toNat) (hj : j < (T * (r : Int)).toNat) :
    Ev (fun k => zf.f k d L T S (w : Int) (r : Int) (n : Int) (FN d.toNat L).2 (FN d.toNat L).1 (T * r) (T * r + S) (x : Int) (j : Int)) ((TJ d L w n r T S x j).f0, (TJ d L w n r T S x j).f1) ∧
    (0 ≤ (TJ d L w n r T S x j).f0 ∧ (TJ d L w n r T S x j).f0.toNat / n = j / r ∧ 0 ≤ (TJ d L w n r T S x j).f1 ∧ (TJ d L w n r T S x j).f1 < (w : Int) ∧ ER L w n r (TJ d L w n r T S x j).f0.toNat (TJ d L w n r T S x j).f1.toNat = ((x : Int), (j : Int))) := by
  have h1 := List.all_eq_true.1 (List.all_eq_true.1 (A.at_ T S (T * r) (T * r + S)) x (List.mem_range.2 hx)) j (List.mem_range.2 (Nat.lt_of_lt_of_le hj H.a0i))
  unfold TJ
  cases h : zf.f 400 d L T S (w : Int) (r : Int) (n : Int) (FN d.toNat L).2 (FN d.toNat L).1 (T * r) (T * r + S) (x : Int) (j : Int) with
  | none => rw [h] at h1; cases h1
  | some p =>
    rw [h] at h1
    exact ⟨MJ (fun k => zf.mono _ _ _ _ _ _ _ _ _ _ _ _ _ k) h, of_decide_eq_true h1⟩
def EN (d : Int) (L : List (List Int)) (w n r : Nat) (T S : Int) (x : Nat) : List Mb := (List.range (T * (r : Int)).toNat).map fun j => TJ d L w n r T S x j
theorem Lo.Xd (A : GZ d L w n r) (x : Int) : Ev (fun k => AQ.f k d L T S x) (if 0 ≤ x ∧ x < d then (EN d L w n r T S x.toNat, 0) else ([], 2)) := by
  have htr := H.tr
  have hsm : (T * (r : Int)).toNat ≤ 75 := by omega
  unfold AQ.f
  refine DL H.measure (AP rfl ?_)
  by_cases c1 : x < 0
  · refine AP c1 ?_
    rw [if_neg (by omega)]
    exact Ev.now _
  refine C8 c1 ?_
  by_cases c2 : x ≥ d
  · refine AP c2 ?_
    rw [if_neg (by omega)]
    exact Ev.now _
  refine C8 c2 ?_
  rw [if_pos ⟨by omega, by omega⟩]
  obtain ⟨xn, rfl⟩ : ∃ xn : Nat, x = (xn : Int) := ⟨x.toNat, by omega⟩
  rw [Int.toNat_natCast]
  have hxn : xn < d.toNat := by omega
  have hl0 : ∀ t j : Nat, (T * (r : Int)).toNat - j = t → j ≤ (T * (r : Int)).toNat → Ev (fun k => AQ.l0 k (xn : Int) ((List.range j).map fun j => TJ d L w n r T S xn j) (T * r) (j : Int) d L T S (w : Int) (r : Int) (n : Int) (FN d.toNat L).2 (FN d.toNat L).1 (T * r) (T * r + S)) (EN d L w n r T S xn, 0) := by
    intro t
    induction t with
    | zero =>
      intro j ht hj
      obtain rfl : j = (T * (r : Int)).toNat := by omega
      refine evs (fun k => by rw [AQ.l0]) ?_
      exact C8 (show ¬ (((T * (r : Int)).toNat : Nat) : Int) < T * r by omega) (Ev.now _)
    | succ t ih =>
      intro j ht hj
      have hlt : j < (T * (r : Int)).toNat := by omega
      have hstep := ih (j + 1) (by omega) hlt
      rw [← vv j (by omega), List.range_succ, List.map_append, List.map_singleton] at hstep
      have hlen : ((List.range j).map fun j => TJ d L w n r T S xn j).length < 8796093022208 := by rw [List.length_map, List.length_range]; omega
      refine evs (fun k => by rw [AQ.l0]) ?_
      exact AP (show (j : Int) < T * r by omega) (DL (a2G H A xn j hxn hlt).1 (AP hlen hstep))
  exact hl0 _ 0 rfl (Nat.zero_le _)
def Eu (ms : List Mv) (x : Int) : List Mb := (ms.filter fun m => m.f2.f0 == x).map fun m => ⟨m.f0, m.f1⟩
def EF (d : Int) (L : List (List Int)) (w n r : Nat) (T S : Int) (ms : List Mv) (x : Nat) : List Mb := (EN d L w n r T S x).filter fun y => !DX ms y.f0 y.f1
def M8 (l : List Mb) : List Mb := (Go.Sort.pdq (ltOf I9) l.toArray 0 l.length (Go.Lib.bitLen l.length) true true).toList
theorem Lo.We (A : GZ d L w n r) (ms : List Mv) (hl : ms.length ≤ 1000) (hv : VM d L w n r T S ms) (x : Int) :
    Ev (fun k => zP.f k d L T S ms x) (if 0 ≤ x ∧ x < d then (M8 (EF d L w n r T S ms x.toNat ++ Eu ms x), 0) else ([], 2)) := by
  have htr := H.tr
  have hsm : (T * (r : Int)).toNat ≤ 75 := by omega
  unfold zP.f
  refine DL (H.check ms hl) ?_
  rw [if_pos hv]
  refine AP rfl ?_
  by_cases c1 : x < 0
  · refine AP c1 ?_
    rw [if_neg (by omega)]
    exact Ev.now _
  refine C8 c1 ?_
  by_cases c2 : x ≥ d
  · refine AP c2 ?_
    rw [if_neg (by omega)]
    exact Ev.now _
  have hin : 0 ≤ x ∧ x < d := ⟨by omega, by omega⟩
  have hlo := Xd H A x
  rw [if_pos hin] at hlo ⊢
  refine C8 c2 (DL hlo ?_)
  have hhl : (EN d L w n r T S x.toNat).length ≤ 75 := by unfold EN; rw [List.length_map, List.length_range]; exact hsm
  have hll : (EF d L w n r T S ms x.toNat).length ≤ 75 := Nat.le_trans (List.length_filter_le _ _) hhl
  have hl1 : ∀ t j : Nat, ms.length - j = t → j ≤ ms.length → Ev (fun k => zP.l1 k x (EF d L w n r T S ms x.toNat ++ Eu (ms.take j) x) ms (ms.length : Int) (j : Int)) (M8 (EF d L w n r T S ms x.toNat ++ Eu ms x), 0) := by
    intro t
    induction t with
    | zero =>
      intro j ht hj
      have hje : ms.length ≤ j := by omega
      rw [List.take_of_length_le hje]
      have hml : (Eu ms x).length ≤ ms.length := by unfold Eu; rw [List.length_map]; exact List.length_filter_le _ _
      refine evs (fun k => by rw [zP.l1]) (C8 (by omega) (Kv (a := M8 (EF d L w n r T S ms x.toNat ++ Eu ms x)) ?_ (Ev.now _)))
      unfold C9.f
      rw [if_pos (by rw [List.length_append]; omega)]
      rfl
    | succ t ih =>
      intro j ht hj
      have hlt : j < ms.length := by omega
      have hstep := ih (j + 1) (by omega) hlt
      have hml : (Eu (ms.take j) x).length ≤ j := by
        unfold Eu
        rw [List.length_map]
        have := List.length_filter_le (fun m : Mv => m.f2.f0 == x) (ms.take j)
        rw [List.length_take] at this
        omega
      have hlen : (EF d L w n r T S ms x.toNat ++ Eu (ms.take j) x).length < 8796093022208 := by rw [List.length_append]; omega
      rw [← vv j (by omega), List.take_succ_eq_append_getElem hlt] at hstep
      unfold Eu at hstep hlen ⊢
      rw [List.filter_append, List.map_append] at hstep
      refine evs (fun k => by rw [zP.l1]) (AP (by omega) (AP (by omega) (AP (by omega) ?_)))
      rw [FO ms j hlt]
      by_cases c : ms[j].f2.f0 = x
      · rw [List.filter_cons_of_pos (by simpa using c), List.filter_nil, List.map_singleton, ← List.append_assoc] at hstep
        exact AP c (AP hlen hstep)
      · rw [List.filter_cons_of_neg (by simpa using c), List.filter_nil, List.map_nil, List.append_nil] at hstep
        exact C8 c hstep
  have hl0 : ∀ t j : Nat, (EN d L w n r T S x.toNat).length - j = t → j ≤ (EN d L w n r T S x.toNat).length → Ev (fun k => zP.l0 k ms x (((EN d L w n r T S x.toNat).take j).filter fun y => !DX ms y.f0 y.f1) (EN d L w n r T S x.toNat) ((EN d L w n r T S x.toNat).length : Int) (j : Int) d L T S ms (T * r) (T * r + S)) (M8 (EF d L w n r T S ms x.toNat ++ Eu ms x), 0) := by
    have h1 := hl1 _ 0 rfl (Nat.zero_le _)
    unfold Eu at h1
    rw [List.take_zero, List.filter_nil, List.map_nil, List.append_nil] at h1
    unfold EF at h1 ⊢
    clear hlo hl1 hll
    generalize EN d L w n r T S x.toNat = hl at hhl h1 ⊢
    intro t
    induction t with
    | zero =>
      intro j ht hj
      have hje : hl.length ≤ j := by omega
      rw [List.take_of_length_le hje]
      refine evs (fun k => by rw [zP.l0]) ?_
      exact C8 (show ¬ (j : Int) < (hl.length : Int) by omega) h1
    | succ t ih =>
      intro j ht hj
      have hlt : j < hl.length := by omega
      have hstep := ih (j + 1) (by omega) hlt
      have hflen : ((hl.take j).filter fun y => !DX ms y.f0 y.f1).length < 8796093022208 := by
        have := List.length_filter_le (fun y : Mb => !DX ms y.f0 y.f1) (hl.take j)
        rw [List.length_take] at this
        omega
      rw [← vv j (by omega), List.take_succ_eq_append_getElem hlt, List.filter_append] at hstep
      refine evs (fun k => by rw [zP.l0]) (AP (by omega) (AP (by omega) (AP (by omega) ?_)))
      rw [a2F hl j hlt]
      have hsr : Ev (fun k => yl.f k ms hl[j].f0 hl[j].f1) ((DI ms hl[j].f0 hl[j].f1 : Int), DX ms hl[j].f0 hl[j].f1) := Io ms hv.1.sorted (by omega) hl[j].f0 hl[j].f1
      refine DL hsr ?_
      by_cases c : DX ms hl[j].f0 hl[j].f1 = true
      · rw [List.filter_cons_of_neg (by simp [c]), List.filter_nil, List.append_nil] at hstep
        exact AP c hstep
      · rw [List.filter_cons_of_pos (by simp [c]), List.filter_nil] at hstep
        exact C8 c (AP hflen hstep)
  exact hl0 _ 0 rfl (Nat.zero_le _)
end
end Go.Proofs.Ytjonnfmoocijlaa.P
namespace Go.Proofs.Ytjonnfmoocijlaa.P
open Go.RowKit Go.Proofs.YtjonnfmoocijlaaKW.PrintWords Go.Proofs.YtjonnfmoocijlaaKW.PrintLast Go.Proofs.YtjonnfmoocijlaaKW.PrintMore
attribute [local go_sem] zz zA zS zT zn zo zB zC
def CU.f (l0 : List (AY)) : Option ((List (AY))) := (some (([] : List (AY)) : List (AY))).bind fun M9 => (if M9.length + l0.length < 4398046511104 then (some (M9 ++ l0)) else (none))
set_option maxHeartbeats 8000000 in
set_option maxRecDepth 100000 in
theorem CU.calls (A0 : Option Addr) (c0 : Nat) (l0 : List (AY)) (r : List (AY)) (w : World) (hr0 : Kd.C Dy w A0 l0.length l0) (hc0 : l0.length ≤ c0) (h : CU.f l0 = some r) :
  Calls Try.prog 16 #[.slice A0 l0.length c0] w fun e w' => ∃ Gw : Value, e = .returned (Gw) ∧ Kd.R Dy 47 w' w.heap.size (fun _ => True) Gw r ∧ Below w.heap.size w w' := by
 have Lm := yf.mk hr0;have WM := yf.mk hc0;clear hr0 hc0;have HB := yf.mk (Below.refl w.heap.size w)
 have H : ((some (([] : List (AY)) : List (AY))).bind fun M9 => (if M9.length + l0.length < 4398046511104 then (some (M9 ++ l0)) else (none))) = some r := h
 clear h;obtain ⟨M9, ae⟩ : ∃ y_ : List (AY), y_ = (([] : List (AY))) := ⟨_, rfl⟩
 replace H : (if M9.length + l0.length < 4398046511104 then (some (M9 ++ l0)) else (none)) = some r := by (have H2_ := (Option.bind_some _ _).symm.trans H; rw [ae]; with_reducible exact H2_)
 have aj := yf.mk ae;clear ae
 by_cases c2 : M9.length + l0.length < 4398046511104
 rotate_left
 ·
  rw [if_neg c2] at H;exact absurd H (by simp)
 rw [if_pos c2] at H;have ak := yf.mk c2;clear c2;obtain ⟨ai, aa⟩ : ∃ y_ : List (AY), y_ = (M9 ++ l0) := ⟨_, rfl⟩
 replace H : (some ai) = some r := by (rw [aa]; with_reducible exact H)
 have ag := yf.mk aa;clear aa;obtain rfl := Option.some.inj H
 go_enter Try.func16, Try.ntmps16
 go_wp2_with (first | ((with_reducible refine yK (N := 3) rfl ?_); refine Kd.Hf Dy _ 47 ?hg (N := 3) ?hd (xs := ([] : List (AY))) (inner := []) (ok := fun _ => True) (okp := fun _ => True) ?hr ?hp (fun _ hk => hk) trivial (Below.refl _ _) (Nat.le_refl _) (by simp) ?_; (case hd => rfl); (case hg => rfl); (case hr => go_simp); (case hp => exact (Bo.none _ _)); intro v619 w3 ho4 hb H5 CG; clear H5 CG; (rw [← aj.out] at ho4); have af := yf.mk (Kd.AL ho4 (yJ (bO HB))); replace HB := bS HB hb; clear hb ho4) | ((with_reducible refine Bz (b := .append) (xs := #[.tmp 3, .tmp 4]) rfl ?_); at_builtin; refine Kd.F4 Dy (w0 := w) w.heap.size rfl (.tmp 3) (.tmp 4) 33 47 (.agg #[(.int .i64 0), (.int .i64 0), (.int .i64 0), (.int .i64 0)]) 32 rfl Try.underlying33 Le rfl (by decide) (by omega) v619 M9 l0 _ _ _ (fun _ => True) (fun _ => False) rfl rfl ?aO ?aR (fun _ _ h => h) (fun _ h => h.elim) ?aF ?aB ?aS ?aL ?_; (case aR => repeat (exact (Kd.Ci Lm.out HB.out))); (case aB => exact (bO HB)); (case aF => exact (fun _ _ => trivial)); (case aO => exact (kR af)); (case aS => exact (yJ (bO HB))); (case aL => have := ak.out; omega); intro v622 w5 ho hb hg hat; rw [← ag.out] at ho; have Bt := yf.mk (hb); have Bu := yf.mk (ho); clear HB; clear af; have HB := Bt; have ah := Bu; clear Bt Bu; clear ho hb hg hat))
 go_ret
 exact ⟨_, by rfl, by (with_reducible repeat (apply Kd.zl)); exact ah.out, bO HB⟩
end Go.Proofs.Ytjonnfmoocijlaa.P
