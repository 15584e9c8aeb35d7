/- Texts of a claim, packed. -/
import Derived.Test.YtjonnfmoocijlaaGreatE30
import Derived.Test.YtjonnfmoocijlaaGreatE32
import Derived.Test.YtjonnfmoocijlaaGreatE35
set_option linter.all false
namespace Go.Proofs.YtjonnfmoocijlaaGreat.P
open Go.RowKit Go.Proofs.YtjonnfmoocijlaaGreatKW.PrintWords
def Behind (x m : Mv) : Bool := decide (x.f0 > m.f0) || (x.f0 == m.f0 && decide (x.f1 > m.f1))
def Dl (m : Mv) : List Mv → Bool → List Mv
 | [],put => if put then [] else [m]
 | x :: xs,put => if F3 m.f0 m.f1 x then Dl m xs put else if !put && Behind x m then m :: x :: Dl m xs true else x :: Dl m xs put
def EP (ms : List Mv) (m : Mv) : List Mv := Dl m ms (m.f2.f0 == -1)
theorem K6 (m : Mv) : ∀ (ms : List Mv) (put : Bool),(Dl m ms put).length ≤ ms.length + (if put then 0 else 1)
  | [],put => by cases put <;> simp [Dl]
  | x :: xs,put => by
    unfold Dl
    have h1 := K6 m xs put
    have h2 := K6 m xs true
    split
    · simp only [List.length_cons];omega
    · split
      · rename_i hc
        simp only [Bool.and_eq_true,Bool.not_eq_true'] at hc
        simp only [List.length_cons,hc.1,if_true] at h2 ⊢
        simp
        exact h2
      · simp only [List.length_cons];omega
theorem Ls (ms : List Mv) (m : Mv) : (EP ms m).length ≤ ms.length + 1 := by
 have := K6 m ms (m.f2.f0 == -1)
 unfold EP
 split at this <;> omega
theorem Zz (ms : List Mv) (hl : ms.length ≤ 1000) (m : Mv) : Ev (fun k => zi.f k ms m.f0 m.f1 m.f2.f0 m.f2.f1) (EP ms m) := by
 have h0 : ∀ t j : Nat,ms.length - j = t → j ≤ ms.length → ∀ (out : List Mv) (put : Bool),out.length ≤ 2 * j → Ev (fun k => zi.l0 k ms out put (j : Int) m.f0 m.f1 m.f2.f0 m.f2.f1) (out ++ Dl m (ms.drop j) put) := by
  intro t
  induction t with
  | zero =>
   intro j ht hj out put ho
   refine evs (fun k => by rw [zi.l0]) (BF (by omega) ?_)
   rw [List.drop_of_length_le (by omega)]
   unfold Dl
   cases put with
   | true => exact AA rfl (Hw (by simp))
   | false => exact BF (by decide) (AA (by omega) (Ev.now _))
  | succ t ih =>
   intro j ht hj out put ho
   have hlt : j < ms.length := by omega
   have ht' : ms.length - (j + 1) = t := by omega
   have hww := vv j (by omega)
   have hb1 : out.length < 4398046511104 := by omega
   have hb2 : (out ++ [m]).length < 4398046511104 := by rw [List.length_append,List.length_singleton];omega
   have hb3 : out.length ≤ 2 * (j + 1) := by omega
   have hb4 : (out ++ [ms[j]]).length ≤ 2 * (j + 1) := by rw [List.length_append,List.length_singleton];omega
   have hb5 : (out ++ [m] ++ [ms[j]]).length ≤ 2 * (j + 1) := by simp only [List.length_append,List.length_singleton];omega
   have hdrop := List.drop_eq_getElem_cons hlt
   generalize hx : ms[j] = x at hb4 hb5 hdrop
   have hj2 : ∀ bb : Bool,F3 m.f0 m.f1 x = false → bb = (!put && Behind x m) → Ev (fun k => zi.j2 k ms out put (j : Int) bb m.f0 m.f1 m.f2.f0 m.f2.f1 x.f0 x.f1 x.f2.f0 x.f2.f1) (out ++ Dl m (ms.drop j) put) := by
    intro bb hi hbb
    refine evs (fun k => by rw [zi.j2]) ?_
    rw [hdrop]
    unfold Dl
    rw [if_neg (by rw [hi];decide),← hbb,hww]
    cases bb with
    | true =>
     refine AA rfl (AA hb1 (GZ (a := out ++ [m]) rfl (AA hb2 ?_)))
     have := ih (j + 1) ht' hlt (out ++ [m] ++ [x]) true hb5
     rw [if_pos rfl]
     simpa using this
    | false =>
     refine BF (by decide) (AA hb1 ?_)
     have := ih (j + 1) ht' hlt (out ++ [x]) put hb4
     rw [if_neg (by decide)]
     simpa using this
   have hj1 : ∀ bb : Bool,bb = F3 m.f0 m.f1 x → Ev (fun k => zi.j1 k ms out put (j : Int) bb m.f0 m.f1 m.f2.f0 m.f2.f1 x.f0 x.f1 x.f2.f0 x.f2.f1) (out ++ Dl m (ms.drop j) put) := by
    intro bb hbb
    refine evs (fun k => by rw [zi.j1]) ?_
    cases bb with
    | true =>
     refine AA rfl ?_
     rw [hdrop,hww]
     unfold Dl
     rw [if_pos hbb.symm]
     exact ih (j + 1) ht' hlt out put hb3
    | false =>
     refine BF (by decide) ?_
     cases put with
     | true => exact AA rfl (hj2 false hbb.symm rfl)
     | false =>
      refine BF (by decide) ?_
      by_cases c1 : x.f0 > m.f0
      · exact AA c1 (hj2 true hbb.symm (by simp [Behind,c1]))
      refine BF c1 ?_
      by_cases c2 : x.f0 = m.f0
      · exact AA c2 (hj2 _ hbb.symm (by simp [Behind,c2]))
      · exact BF c2 (hj2 false hbb.symm (by simp [Behind,c1,c2]))
   refine evs (fun k => by rw [zi.l0]) (AA (Int.ofNat_lt.2 hlt) (AA (Int.natCast_nonneg j) ?_))
   rw [G5 ms j hlt,hx]
   by_cases c1 : x.f0 = m.f0
   · exact AA c1 (hj1 _ (by simp [F3,c1]))
   · exact BF c1 (hj1 false (by simp [F3,c1]))
 have := h0 _ 0 rfl (Nat.zero_le _) [] (m.f2.f0 == -1) (Nat.zero_le _)
 exact this
section
variable {d : Int} {L : List (List Int)} {w n r : Nat} {T S : Int} (H : Lo d L w n r T S)
include H
def Ij (d : Int) (L : List (List Int)) (w n r : Nat) (T S : Int) (ms : List Mv) (m : Mv) : List Mv × Int :=
 if 0 ≤ m.f0 ∧ m.f0 < T * n ∧ 0 ≤ m.f1 ∧ m.f1 < (w : Int) then
  if m.f2.f0 = -1 ∧ (EP ms m).length = ms.length then ([],9) else if VM d L w n r T S (EP ms m) then (EP ms m,0) else ([],1)
 else ([],2)
theorem Lo.a1F (ms : List Mv) (hl : ms.length ≤ 900) (m : Mv) : Ev (fun k => Az.f k d L T S ms m.f0 m.f1 m.f2.f0 m.f2.f1) (Ij d L w n r T S ms m) := by
  have hwl := Ls ms m
  unfold Ij Az.f
  refine GZ (H.is _ _) ?_
  by_cases c : 0 ≤ m.f0 ∧ m.f0 < T * n ∧ 0 ≤ m.f1 ∧ m.f1 < (w : Int)
  · rw [decide_eq_true c,if_pos c]
    refine AA rfl (Ep (Zz ms (by omega) m) ?_)
    have hj : ∀ bb : Bool,bb = decide (m.f2.f0 = -1 ∧ (EP ms m).length = ms.length) → Ev (fun k => Az.j0 k (EP ms m) bb d L T S) (if m.f2.f0 = -1 ∧ (EP ms m).length = ms.length then ([],9) else if VM d L w n r T S (EP ms m) then (EP ms m,0) else ([],1)) := by
      intro bb hbb
      refine evs (fun k => by rw [Az.j0]) ?_
      cases bb with
      | true => exact AA rfl (Hw (by rw [if_pos (of_decide_eq_true hbb.symm)]))
      | false =>
        rw [if_neg (of_decide_eq_false hbb.symm)]
        refine BF (by decide) (Ep (H.a2X _ (by omega)) ?_)
        by_cases c2 : VM d L w n r T S (EP ms m)
        · rw [decide_eq_true c2,if_pos c2]
          exact AA rfl (Ev.now _)
        · rw [decide_eq_false c2,if_neg c2]
          exact BF (by decide) (Ev.now _)
    by_cases c1 : m.f2.f0 = -1
    · refine AA c1 (hj _ ?_)
      rw [Bool.eq_iff_iff,beq_iff_eq,decide_eq_true_iff]
      exact ⟨fun h => ⟨c1,by omega⟩,fun h => by omega⟩
    · refine BF c1 (hj false ?_)
      rw [eq_comm,decide_eq_false_iff_not]
      exact fun h => c1 h.1
  · rw [decide_eq_false c,if_neg c]
    exact BF (by decide) (Ev.now _)
theorem Lo.PY : VM d L w n r T S [] := ⟨fun i h _ => by simp at h,fun m hm => by simp at hm⟩
theorem Lo.XB (raw : List Int) (hraw : ∀ b ∈ raw,0 ≤ b ∧ b < 256) (hlr : raw.length ≤ 100) : ∃ ms,Ev (fun k => yN.f k d L T S raw) ms ∧ VM d L w n r T S ms ∧ ms.length ≤ raw.length := by
  have htn := H.tn
  have Yn := H.ok.w1
  have hd1 := H.ok.d1
  have hn1 := H.ok.n1
  have a4Y : 1 ≤ T * (n : Int) := by
    calc (1 : Int) ≤ 1 * n := by omega
      _ ≤ T * n := Int.mul_le_mul_of_nonneg_right H.t1.1 (by omega)
  have hl0 : ∀ t j : Nat,raw.length - j = t → j ≤ raw.length → ∀ out,VM d L w n r T S out → out.length ≤ j → ∃ ms,Ev (fun k => yN.l0 k raw out (j : Int) d L T S) ms ∧ VM d L w n r T S ms ∧ ms.length ≤ raw.length := by
    intro t
    induction t with
    | zero =>
      intro j ht hj out hv ho
      exact ⟨out,evs (fun k => by rw [yN.l0]) (BF (by omega) (Ev.now _)),hv,by omega⟩
    | succ t ih =>
      intro j ht hj out hv ho
      have hlt : j < raw.length := by omega
      have ht' : raw.length - (j + 1) = t := by omega
      have hol : out.length ≤ 900 := by omega
      have hww := vv j (by omega)
      obtain ⟨hb0,hb1⟩ := hraw _ (List.getElem_mem hlt)
      have hrd : rd raw (j : Int) = raw[j] := IJ raw j hlt
      generalize raw[j] = b at hb0 hb1 hrd
      obtain ⟨N,hN⟩ : ∃ N : Int,N = T * n * w := ⟨_,rfl⟩
      have hN1 : 1 ≤ N ∧ N ≤ 525 := by
        rw [hN]
        refine ⟨?_,?_⟩
        · calc (1 : Int) ≤ 1 * w := by omega
            _ ≤ T * n * w := Int.mul_le_mul_of_nonneg_right a4Y (by omega)
        · calc T * n * w ≤ 105 * w := Int.mul_le_mul_of_nonneg_right htn.2 (by omega)
            _ ≤ 525 := by omega
      have e1 : wrap64 (T * (n : Int) * (w : Int)) = N := by rw [← hN];exact ww (by omega) (by omega)
      have e2 : wrap64 (wrap64 b * 7) = b * 7 := by rw [ww (x := b) (by omega) (by omega)];exact ww (by omega) (by omega)
      have e3 : Int.tmod (b * 7) N = b * 7 % N := Int.tmod_eq_emod_of_nonneg (by omega)
      have aa : 0 ≤ b * 7 % N := Int.emod_nonneg _ (by omega)
      have hK1 : b * 7 % N < N := Int.emod_lt_of_pos _ (by omega)
      generalize b * 7 % N = K at e3 aa hK1
      have e4 : Int.tdiv K (w : Int) = K / (w : Int) := Int.tdiv_eq_ediv_of_nonneg aa
      have hG0 : 0 ≤ K / (w : Int) := Int.ediv_nonneg aa (by omega)
      have hG1 : K / (w : Int) < T * n := Int.ediv_lt_of_lt_mul (by omega) (by rw [← hN];exact hK1)
      generalize K / (w : Int) = G at e4 hG0 hG1
      have e5 : wrap64 G = G := ww (by omega) (by omega)
      generalize hP : Int.tmod K (w : Int) = P
      have hst : ∀ p0 p1 : Int,∃ ms,Ev (fun k => yN.j1 k raw out (j : Int) d L T S G P 0 0 p0 p1) ms ∧ VM d L w n r T S ms ∧ ms.length ≤ raw.length := by
        intro p0 p1
        have ha := H.a1F out hol ⟨G,P,⟨p0,p1⟩⟩
        have hwl := Ls out ⟨G,P,⟨p0,p1⟩⟩
        by_cases c : (Ij d L w n r T S out ⟨G,P,⟨p0,p1⟩⟩).2 = 0
        · have hvm : VM d L w n r T S (Ij d L w n r T S out ⟨G,P,⟨p0,p1⟩⟩).1 ∧ (Ij d L w n r T S out ⟨G,P,⟨p0,p1⟩⟩).1.length ≤ out.length + 1 := by
            unfold Ij at c ⊢
            split
            · rename_i c1
              rw [if_pos c1] at c
              split
              · rename_i c2
                rw [if_pos c2] at c
                cases c
              · rename_i c2
                rw [if_neg c2] at c
                split
                · rename_i c3
                  exact ⟨c3,hwl⟩
                · rename_i c3
                  rw [if_neg c3] at c
                  cases c
            · rename_i c1
              rw [if_neg c1] at c
              cases c
          obtain ⟨ms,h1,h2,h3⟩ := ih (j + 1) ht' hlt _ hvm.1 (Nat.le_trans hvm.2 (Nat.succ_le_succ ho))
          refine ⟨ms,evs (fun k => by rw [yN.j1]) (Ep ha (AA c ?_)),h2,h3⟩
          rw [hww]
          exact h1
        · obtain ⟨ms,h1,h2,h3⟩ := ih (j + 1) ht' hlt out hv (Nat.le_succ_of_le ho)
          refine ⟨ms,evs (fun k => by rw [yN.j1]) (Ep ha (BF c ?_)),h2,h3⟩
          rw [hww]
          exact h1
      obtain ⟨ii,hii⟩ : ∃ ii : Int,ii = Int.tdiv b 2 % 256 % ((List.replicate d.toNat false).length : Int) := ⟨_,rfl⟩
      have hrl : ((List.replicate d.toNat false).length : Int) = d := by rw [List.length_replicate];omega
      have hi0 : 0 ≤ ii := by rw [hii];exact Int.emod_nonneg _ (by omega)
      have hi1 : ii < ((List.replicate d.toNat false).length : Int) := by rw [hii];exact Int.emod_lt_of_pos _ (by omega)
      obtain ⟨v,hch⟩ : ∃ v,Ev (fun k => yH.f k d L T S out G ((List.replicate d.toNat false).set ii.toNat true)) v := ⟨_,H.YR out (Nat.le_trans hol (by decide)) hv G _ (by rw [List.length_set];exact hrl) ⟨hG0,hG1⟩⟩
      have hd0 : 0 ≤ d := by omega
      have hdn : d.toNat ≤ 281474976710656 := by omega
      have ae : ¬ ((List.replicate d.toNat false).length : Int) = 0 := by omega
      have hw0 : ¬ (w : Int) = 0 := by omega
      have hN0 : ¬ N = 0 := by omega
      have hgo : ∀ R,(∀ p0 p1 : Int,p0 = (if v.2.2 = true then v.1 else -1) → p1 = (if v.2.2 = true then v.2.1 else 0) → Ev (fun k => yN.j1 k raw out (j : Int) d L T S G P 0 0 p0 p1) R) → Ev (fun k => yN.l0 k raw out (j : Int) d L T S) R := by
        intro R hR
        refine evs (fun k => by rw [yN.l0]) ?_
        refine AA (Int.ofNat_lt.2 hlt) (AA (Int.natCast_nonneg j) ?_)
        refine GZ H.groups ?_
        refine GZ H.Gg ?_
        rw [hrd]
        simp only [e1,e2,e3]
        refine BF hN0 ?_
        refine GZ H.Gg ?_
        refine BF hw0 ?_
        refine GZ H.Gg ?_
        refine BF hw0 ?_
        refine AA hd0 (AA hdn ?_)
        refine GZ (a := List.replicate d.toNat false) rfl ?_
        rw [← hii]
        refine BF ae (AA hi0 (AA hi1 ?_))
        simp only [e4,e5,hP]
        refine Ep hch ?_
        by_cases c : v.2.2 = true
        · exact AA c (hR _ _ (by rw [if_pos c]) (by rw [if_pos c]))
        · exact BF c (hR _ _ (by rw [if_neg c]) (by rw [if_neg c]))
      obtain ⟨ms,h1,h2,h3⟩ := hst (if v.2.2 = true then v.1 else -1) (if v.2.2 = true then v.2.1 else 0)
      exact ⟨ms,hgo ms (fun p0 p1 q0 q1 => by rw [q0,q1];exact h1),h2,h3⟩
  obtain ⟨ms,h1,h2,h3⟩ := hl0 _ 0 rfl (Nat.zero_le _) [] H.PY (Nat.zero_le _)
  exact ⟨ms,h1,h2,h3⟩
end
theorem Ik {x m : Mv} : Behind x m = true ↔ (x.f0 > m.f0 ∨ x.f0 = m.f0 ∧ x.f1 > m.f1) := by simp [Behind]
theorem N7 {x m : Mv} (h : Behind x m = true) : F3 m.f0 m.f1 x = false := by
 rw [Ik] at h
 rw [Bool.eq_false_iff]
 intro h2
 rw [Dh] at h2
 omega
theorem Gu {x m : Mv} (h : Ahead x m.f0 m.f1) : F3 m.f0 m.f1 x = false ∧ Behind x m = false := by
  unfold Ahead at h
  constructor
  · rw [Bool.eq_false_iff]
    intro h2
    rw [Dh] at h2
    omega
  · rw [Bool.eq_false_iff]
    intro h2
    rw [Ik] at h2
    omega
theorem Ux {x m : Mv} (h : ¬ Ahead x m.f0 m.f1) (h2 : F3 m.f0 m.f1 x = false) : Behind x m = true := by
 have h3 : ¬ (x.f0 = m.f0 ∧ x.f1 = m.f1) := fun h4 => by rw [Dh.2 h4] at h2;cases h2
 unfold Ahead at h
 rw [Ik]
 omega
theorem GY {x m : Mv} {xs : List Mv} (hs : Sorted (x :: xs)) (h : ¬ Ahead x m.f0 m.f1) : ∀ y ∈ xs,Behind y m = true := by
 intro y hy
 have := (List.pairwise_cons.1 hs).1 y hy
 unfold Ahead at this h
 rw [Ik]
 omega
theorem FQ (m : Mv) (ms : List Mv) (hb : ∀ x ∈ ms,Behind x m = true) : Dl m ms true = ms ∧ Dl m ms false = m :: ms := by
  induction ms with
  | nil => exact ⟨rfl,rfl⟩
  | cons x xs ih =>
    have h1 := hb x (List.mem_cons_self ..)
    have h2 := ih fun y hy => hb y (List.mem_cons_of_mem _ hy)
    constructor
    · unfold Dl
      rw [if_neg (by rw [N7 h1];decide),if_neg (by simp),h2.1]
    · unfold Dl
      rw [if_neg (by rw [N7 h1];decide),if_pos (by rw [h1];rfl),h2.1]
theorem F6 {x : Mv} {xs : List Mv} {g i : Int} (h : Ahead x g i) : Ee (x :: xs) g i = Ee xs g i + 1 := by
 unfold Ee
 rw [List.takeWhile_cons_of_pos (by simpa using h),List.length_cons]
theorem FP {x : Mv} {xs : List Mv} {g i : Int} (h : ¬ Ahead x g i) : Ee (x :: xs) g i = 0 := by
 unfold Ee
 rw [List.takeWhile_cons_of_neg (by simpa using h),List.length_nil]
def DW (ms : List Mv) (g i : Int) : Bool := (ms.drop (Ee ms g i)).head?.any (F3 g i)
theorem Gr {x : Mv} {xs : List Mv} {g i : Int} (h : Ahead x g i) : DW (x :: xs) g i = DW xs g i := by
 unfold DW
 rw [F6 h]
 rfl
theorem Ip {x : Mv} {xs : List Mv} {g i : Int} (h : ¬ Ahead x g i) : DW (x :: xs) g i = F3 g i x := by
 unfold DW
 rw [FP h]
 rfl
theorem OT {ms : List Mv} {g i : Int} (h : DW ms g i = true) : Ee ms g i < ms.length := by
  unfold DW at h
  rcases Nat.lt_or_ge (Ee ms g i) ms.length with h1 | h1
  · exact h1
  · rw [List.drop_of_length_le h1] at h
    cases h
theorem Yi (m : Mv) (ms : List Mv) (hs : Sorted ms) (h : DW ms m.f0 m.f1 = true) : Dl m ms false = ms.set (Ee ms m.f0 m.f1) m := by
  induction ms with
  | nil => cases h
  | cons x xs ih =>
    unfold Dl
    by_cases c : Ahead x m.f0 m.f1
    · rw [Gr c] at h
      rw [F6 c,if_neg (by rw [(Gu c).1];decide),if_neg (by rw [(Gu c).2];decide),ih (List.pairwise_cons.1 hs).2 h,List.set_cons_succ]
    · rw [Ip c] at h
      rw [FP c,if_pos h,(FQ m xs (GY hs c)).2,List.set_cons_zero]
theorem Tj (m : Mv) (ms : List Mv) (hs : Sorted ms) (h : DW ms m.f0 m.f1 = true) : Dl m ms true = ms.eraseIdx (Ee ms m.f0 m.f1) := by
  induction ms with
  | nil => cases h
  | cons x xs ih =>
    unfold Dl
    by_cases c : Ahead x m.f0 m.f1
    · rw [Gr c] at h
      rw [F6 c,if_neg (by rw [(Gu c).1];decide),if_neg (by simp),ih (List.pairwise_cons.1 hs).2 h,List.eraseIdx_cons_succ]
    · rw [Ip c] at h
      rw [FP c,if_pos h,(FQ m xs (GY hs c)).1,List.eraseIdx_cons_zero]
theorem Rm (m : Mv) (ms : List Mv) (hs : Sorted ms) (h : DW ms m.f0 m.f1 = false) : Dl m ms false = ms.take (Ee ms m.f0 m.f1) ++ m :: ms.drop (Ee ms m.f0 m.f1) := by
  induction ms with
  | nil => rfl
  | cons x xs ih =>
    unfold Dl
    by_cases c : Ahead x m.f0 m.f1
    · rw [Gr c] at h
      rw [F6 c,if_neg (by rw [(Gu c).1];decide),if_neg (by rw [(Gu c).2];decide),ih (List.pairwise_cons.1 hs).2 h,List.take_succ_cons,List.drop_succ_cons]
      rfl
    · rw [Ip c] at h
      rw [FP c,if_neg (by rw [h];decide),if_pos (by rw [Ux c h];rfl),(FQ m xs (GY hs c)).1]
      rfl
theorem Vn (m : Mv) (ms : List Mv) (hs : Sorted ms) (h : DW ms m.f0 m.f1 = false) : Dl m ms true = ms := by
  induction ms with
  | nil => rfl
  | cons x xs ih =>
    unfold Dl
    by_cases c : Ahead x m.f0 m.f1
    · rw [Gr c] at h
      rw [if_neg (by rw [(Gu c).1];decide),if_neg (by simp),ih (List.pairwise_cons.1 hs).2 h]
    · rw [Ip c] at h
      rw [if_neg (by rw [h];decide),if_neg (by simp),(FQ m xs (GY hs c)).1]
theorem Ja {ms : List Mv} (hs : Sorted ms) (g i : Int) : DW ms g i = (ms.find? (F3 g i)).isSome := by
 rw [Qv ms hs g i]
 unfold DW
 cases (ms.drop (Ee ms g i)).head? with
 | none => rfl
 | some x =>
  rw [Option.any_some,Option.filter_some]
  by_cases c : F3 g i x = true
  · rw [if_pos c,c];rfl
  · rw [if_neg c,Bool.eq_false_iff.2 c];rfl
section
variable {d : Int} {L : List (List Int)} {w n r : Nat} {T S : Int} (H : Lo d L w n r T S)
include H
theorem Lo.QS (g : Int) (h0 : 0 ≤ g) (h1 : g < T * n) : ((List.range w).map fun i => (Ed L w n r g.toNat i).1).Nodup := by
 obtain ⟨_,hl,hg⟩ := H.PH g h0 h1
 have Yn := H.ok.w1
 have hnd : (L.getD (g.toNat % n) []).Nodup := by
  rw [getD_at _ _ _ hg]
  exact H.ok.nodup _ (List.getElem_mem hg)
 rw [List.nodup_iff_pairwise_ne,List.pairwise_iff_getElem] at hnd ⊢
 intro i j hi hj hij he
 simp only [List.length_map,List.length_range] at hi hj
 simp only [List.getElem_map,List.getElem_range] at he
 unfold Ed at he
 simp only at he
 generalize g.toNat / n = t at he
 generalize L.getD (g.toNat % n) [] = row at he hl hnd
 have hi' : (i + t) % w < row.length := by rw [hl];exact Nat.mod_lt _ (by omega)
 have hj' : (j + t) % w < row.length := by rw [hl];exact Nat.mod_lt _ (by omega)
 have hne : (i + t) % w ≠ (j + t) % w := by
  rcases (show w = 4 ∨ w = 5 by omega) with e | e <;> subst e <;> omega
 rw [getD_at _ _ _ hi',getD_at _ _ _ hj'] at he
 rcases Nat.lt_or_ge ((i + t) % w) ((j + t) % w) with h2 | h2
 · exact hnd _ _ hi' hj' h2 he
 · exact hnd _ _ hj' hi' (by omega) he.symm
theorem Lo.Sj (ms : List Mv) (g : Int) (h0 : 0 ≤ g) (hn : ∀ m ∈ ms,m.f0 ≠ g) : Av L w n r ms g = (List.range w).map fun i => (Ed L w n r g.toNat i).1 := by
  unfold Av
  refine List.map_congr_left fun i hi => ?_
  unfold BN
  rw [show ms.find? (F3 g (i : Int)) = none from ?_]
  · simp
  · rw [List.find?_eq_none]
    intro m hm h
    rw [Dh] at h
    exact hn m hm h.1
theorem Lo.LM (ms : List Mv) (hv : VM d L w n r T S ms) (g : Int) (h0 : 0 ≤ g) (h1 : g < T * n) : (Av L w n r ms g).Nodup := by
  by_cases c : ∃ m ∈ ms,m.f0 = g
  · obtain ⟨m,hm,rfl⟩ := c
    exact hv.2 m hm
  · rw [H.Sj ms g h0 fun m hm he => c ⟨m,hm,he⟩]
    exact H.QS g h0 h1
end
theorem UW (w : Nat) (f : Nat → Int) : ((List.range w).map f).Nodup ↔ ∀ a,a < w → ∀ b,b < w → a ≠ b → f a ≠ f b := by
  rw [List.nodup_iff_pairwise_ne,List.pairwise_iff_getElem]
  simp only [List.length_map,List.length_range,List.getElem_map,List.getElem_range]
  constructor
  · intro h a ha b hb hab he
    rcases Nat.lt_or_ge a b with h1 | h1
    · exact h a b ha hb h1 he
    · exact h b a hb ha (by omega) he.symm
  · intro h i j hi hj hij
    exact h i hi j hj (by omega)
section
variable {d : Int} {L : List (List Int)} {w n r : Nat} {T S : Int} (H : Lo d L w n r T S)
include H
theorem Lo.Yg (ms : List Mv) (hv : VM d L w n r T S ms) : ∀ m ∈ ms,0 ≤ m.f2.f0 ∧ m.f2.f0 < d ∧ T * r ≤ m.f2.f1 ∧ m.f2.f1 < T * r + S := by
 intro m hm
 obtain ⟨i,hi,rfl⟩ := List.getElem_of_mem hm
 have := (hv.1 i hi (Nat.zero_le _)).2.2.1
 rwa [getD_at _ _ _ hi] at this
end
section
variable {d : Int} {L : List (List Int)} {w n r : Nat} {T S : Int} (H : Lo d L w n r T S)
include H
end
end Go.Proofs.YtjonnfmoocijlaaGreat.P
namespace Go.Proofs.YtjonnfmoocijlaaGreat.P
open Go.RowKit Go.Proofs.YtjonnfmoocijlaaGreatKW.PrintWords Go.Proofs.YtjonnfmoocijlaaGreatKW.PrintLast Go.Proofs.YtjonnfmoocijlaaGreatKW.PrintMore
attribute [local go_sem] zN zP Af Ag zz zA zO zQ
def CS.f (k : Nat) (yj : Int) (yg : List (List Int)) (ym : Int) (yn : Int) (l1 : List (AP)) : Option (Bool) := (yS.f k yj yg ym yn l1).bind fun VO => (some VO.2.2.2.2.2.2.2)
set_option maxHeartbeats 8000000 in
set_option maxRecDepth 100000 in
theorem CS.calls (k : Nat) (yj : Int) (yK : Option Addr) (yE : Nat) (yg : List (List Int)) (ym : Int) (yn : Int) (A1 : Option Addr) (c1 : Nat) (l1 : List (AP)) (r : Bool) (w : World) (zS : Kd.C (Kd.slice 3 (Kd.int .i64)) w yK yg.length yg) (zT : yg.length ≤ yE) (hr1 : Kd.C DN w A1 l1.length l1) (hc1 : l1.length ≤ c1) (h : CS.f k yj yg ym yn l1 = some r) :
  Calls Tryz.prog 38 #[.agg #[.int .i64 yj,.slice yK yg.length yE,.int .i64 ym,.int .i64 yn],.slice A1 l1.length c1] w fun e w' => e = .returned (.bool r) ∧ Below w.heap.size w w' := by
 have ET := Tryz.underlying29;have Mq := Tryz.underlying65;have zk := yf.mk zS;have zq := yf.mk zT;clear zS zT;have HR1 := yf.mk hr1;have Gt := yf.mk hc1;clear hr1 hc1;have HB := yf.mk (Below.refl w.heap.size w)
 have H : ((yS.f k yj yg ym yn l1).bind fun VO => (some VO.2.2.2.2.2.2.2)) = some r := h
 clear h;obtain ⟨⟨av,ax,ay,az,aA,aC,aD,aG⟩,A3,H⟩ := bE H
 try dsimp only at H
 obtain rfl := Option.some.inj H
 go_enter Tryz.func38,Tryz.ntmps38
 go_wp2_with (first | ((with_reducible refine yG (N := 2) rfl ?_);refine yD rfl (N := 2) rfl (cs := #[.int .i64 yj,.slice yK yg.length yE,.int .i64 ym,.int .i64 yn]) (t := 29) (by go_simp) ?_;intro af hg w4 yI hb;have aa := yf.mk (yI);have ae := bG (w := w) hg;have aH := bG (w := w) hg;replace HB := bS HB hb;clear hb yI hg;have Z0 := AO aa;have Z6 := bf aa) | ((with_reducible refine yz (f := 22) rfl ?_);refine gL (some 10) Tryz.func22 #[.agg #[.int .i64 yj,.slice yK yg.length yE,.int .i64 ym,.int .i64 yn],.slice A1 l1.length c1] ?_;(with_reducible refine (yS.calls k yj (fun k_ => k_ < w.heap.size) _ _ yg ym yn (fun k_ => k_ < w.heap.size) _ _ l1 av ax ay az aA aC aD aG _ ?yB ?yC A3.out).mono ?_);(case yB => exact Kd.EA zq.out (Kd.Bq (Kd.IV (Kd.BA 3 (Kd.BV .i64)) zk.out) (bO HB)));(case yC => exact Kd.EA Gt.out (Kd.Bq (Kd.IV Em HR1.out) (bO HB)));rintro e w6 ⟨v337,v342,rfl,ho0,ho1,hb⟩;refine ⟨_,rfl,?_⟩;have ag := yf.mk (Kd.Aw (Kd.yL (ok' := fun k_ => k_ ≠ af) ho0 (fun k_ Cg => Or.elim Cg (fun hs_ => Or.elim hs_ (fun hs_ => fun e_ => Nat.not_le.2 hs_ (by rw [e_];exact ae.out)) (fun hs_ => fun e_ => Nat.not_le.2 hs_ (by rw [e_];exact ae.out))) (fun Cm => (Kd.Ac (g := af) (o := .cells #[.int .i64 yj,.slice yK yg.length yE,.int .i64 ym,.int .i64 yn] 29 (0,0)) (kk aa) k_ Cm)))) (yF (bO HB)));have ah := yf.mk (Kd.Aw (Kd.yL (ok' := fun k_ => k_ ≠ af) ho1 (fun k_ Cg => Or.elim Cg (fun hs_ => Or.elim hs_ (fun hs_ => fun e_ => Nat.not_le.2 hs_ (by rw [e_];exact ae.out)) (fun hs_ => fun e_ => Nat.not_le.2 hs_ (by rw [e_];exact ae.out))) (fun Cm => (Kd.Ac (g := af) (o := .cells #[.int .i64 yj,.slice yK yg.length yE,.int .i64 ym,.int .i64 yn] 29 (0,0)) (kk aa) k_ Cm)))) (yF (bO HB)));replace aa := bB aa hb;replace HB := bS HB hb;clear hb;clear ho0;clear ho1) | ((with_reducible refine yG (N := 5) rfl ?_);refine yD rfl (N := 5) rfl (cs := #[.int .i64 0,.slice none 0 0,.int .i64 0,.int .i64 0,.slice none 0 0,.int .i64 0,.int .i64 0]) (t := 65) (by go_simp) ?_;intro aj hg w7 yI hb;have ai := yf.mk (yI);have aJ := bG (w := w) hg;have aI := bG (w := w) hg;have ak := Cq aa hg;have au := Aq aa hg;replace ag := yf.mk (Kd.zw (Kd.zD (kV ag) aj (Nat.le_of_eq hg.symm)) hb);replace ah := yf.mk (Kd.zw (Kd.zD (kV ah) aj (Nat.le_of_eq hg.symm)) hb);replace aa := bB aa hb;replace HB := bS HB hb;clear hb yI hg;have a2s := au.out;have a2B := ak.out;have PD := Fy ai;have PE := bf ai;obtain ⟨MK,Mm,Sm⟩ := Kd.Ay ag.out;subst Sm;obtain ⟨Uu,S9,Sn⟩ := Kd.Ay ah.out;subst Sn))
 go_ret
 exact ⟨by rfl,bO HB⟩
end Go.Proofs.YtjonnfmoocijlaaGreat.P
