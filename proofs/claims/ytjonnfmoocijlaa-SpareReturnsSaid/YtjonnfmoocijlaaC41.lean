/- Texts of a claim, packed. -/
import Derived.Test.YtjonnfmoocijlaaC40
set_option linter.all false
namespace Go.Proofs.Ytjonnfmoocijlaa.P
open Go.RowKit Go.Proofs.YtjonnfmoocijlaaKW.PrintWords Go.Proofs.YtjonnfmoocijlaaKW.PrintLast Go.Proofs.YtjonnfmoocijlaaKW.PrintMore
attribute [local go_sem] zO zP Aj Ak zC zD zQ zR
theorem a6a (d : Nat) (w : World) (x0 y0 : Int) (x1 y1 : Int) (x2 y2 : Int) (x3 y3 : Int) :
  (Op.equalIn (d + 3) 47 (.agg #[.int .i64 x0, .int .i64 x1, .int .i64 x2, .int .i64 x3]) (.agg #[.int .i64 y0, .int .i64 y1, .int .i64 y2, .int .i64 y3])).run Try.prog w = .ok (x0 == y0 && (x1 == y1 && ((x2 == y2 && (x3 == y3))))) w := by
 refine SI Try.underlying47 (by kernel_rfl) ?_
 refine KD (by rfl) (by go_simp; rfl) (by go_simp; rfl) (by go_simp) ?_
 refine KD (by rfl) (by go_simp; rfl) (by go_simp; rfl) (by go_simp) ?_
 exact Nc (by rfl) (by go_simp) (by go_simp) (Mr (d + 0) w _ _ _ _)
end Go.Proofs.Ytjonnfmoocijlaa.P
namespace Go.Proofs.Ytjonnfmoocijlaa.P
open Go.RowKit Go.Proofs.YtjonnfmoocijlaaKW.PrintWords Go.Proofs.YtjonnfmoocijlaaKW.PrintLast Go.Proofs.YtjonnfmoocijlaaKW.PrintMore
attribute [local go_sem] zO zP Aj Ak zC zD zQ zR
attribute [local go_sem high] a6a
def Am.l0 : Nat → List (AX) → List (AX) → Int → Option (Bool)
 | 0, _, _, _ => none
 | k + 1, x0, x1, x5 => if x5 < (x0.length : Int) then (if 0 ≤ x5 then (if x5 < (x1.length : Int) then (if (!(((yg x0 x5).f0) == ((yg x1 x5).f0)) || (!(((yg x0 x5).f1) == ((yg x1 x5).f1)) || ((!(((yg x0 x5).f2.f0) == ((yg x1 x5).f2.f0)) || (!(((yg x0 x5).f2.f1) == ((yg x1 x5).f2.f1))))))) = true then (some false) else (Am.l0 k x0 x1 (wrap64 (x5 + 1)))) else (none)) else (none)) else (some true)
def Am.f (k : Nat) (l0 : List (AX)) (l1 : List (AX)) : Option (Bool) := if (l0.length : Int) = (l1.length : Int) then (Am.l0 k l0 l1 0) else (some false)
set_option maxHeartbeats 8000000 in
set_option maxRecDepth 100000 in
theorem Am.calls (k : Nat) (A0 : Option Addr) (c0 : Nat) (l0 : List (AX)) (A1 : Option Addr) (c1 : Nat) (l1 : List (AX)) (r : Bool) (w : World) (hr0 : Kd.C CS w A0 l0.length l0) (hc0 : l0.length ≤ c0) (hr1 : Kd.C CS w A1 l1.length l1) (hc1 : l1.length ≤ c1) (h : Am.f k l0 l1 = some r) :
  Calls Try.prog 19 #[.slice A0 l0.length c0, .slice A1 l1.length c1] w fun e w' => e = .returned (.bool r) ∧ zV w w' := by
 have LC := Try.underlying47;have Li := yf.mk hr0;have Ws := yf.mk hc0;clear hr0 hc0;have HR1 := yf.mk hr1;have GH := yf.mk hc1;clear hr1 hc1
 have H : (if (l0.length : Int) = (l1.length : Int) then (Am.l0 k l0 l1 0) else (some false)) = some r := h
 clear h
 by_cases c3 : (l0.length : Int) = (l1.length : Int)
 rotate_left
 ·
  rw [if_neg c3] at H;have G5 := beq_eq_false_iff_ne.mpr c3;have JM := bne_iff_ne.mpr c3
  have TA : (l0.length == l1.length) = false := by (simp at c3 ⊢; omega)
  obtain rfl := Option.some.inj H
  go_enter Try.func19, Try.ntmps19
  go_wp2
  repeat (go_quiet (fail); try go_wp2)
  go_ret
  exact ⟨by rfl, by repeat (exact zV.refl _)⟩
 rw [if_pos c3] at H;have G5 := beq_iff_eq.mpr c3
 have JM : ((l0.length : Int) != (l1.length : Int)) = false := bne_eq_false_iff_eq.mpr c3
 have TA : (l0.length == l1.length) = true := by (simp at c3 ⊢; omega)
 clear c3;have H' := yf.mk H;clear H
 go_enter Try.func19, Try.ntmps19
 go_wp2
 repeat (go_quiet (fail); try go_wp2)
 go_loopg [5] k (fun kq v5 w' => ∃ (yN : Int), v5 = .int .i64 yN ∧ yf (Am.l0 kq l0 l1 yN = some r) ∧ yf (kq ≤ k) ∧ zV w w')
 case atStart => exact ⟨(0), (by rfl), H', ⟨Nat.le_refl _⟩, by repeat (exact zV.refl _)⟩
 case round =>
 clear H' G5 JM TA;obtain ⟨yN, rfl, HA, BJ, ⟨m1, rfl⟩⟩ := hrel
 cases gk with
 | zero => exact absurd HA.out (by simp [Am.l0])
 | succ k1 =>
 have H := HA.out;clear HA;simp only [Am.l0] at H
 by_cases c4 : yN < (l0.length : Int)
 rotate_left
 ·
  rw [if_neg c4] at H;have ES := decide_eq_false c4;clear c4;obtain rfl := Option.some.inj H
  go_wp2
  repeat (go_quiet (fail); try go_wp2)
  go_ret
  exact ⟨by rfl, by repeat (first | exact zV.refl _ | apply zV.step)⟩
 rw [if_pos c4] at H;have ES := decide_eq_true c4;clear c4
 by_cases c5 : 0 ≤ yN
 rotate_left
 ·
  rw [if_neg c5] at H;exact absurd H (by simp)
 rw [if_pos c5] at H;have FE := decide_eq_true c5;clear c5
 by_cases c6 : yN < (l1.length : Int)
 rotate_left
 ·
  rw [if_neg c6] at H;exact absurd H (by simp)
 rw [if_pos c6] at H;have EJ := decide_eq_true c6;clear c6
 by_cases c7 : (!(((yg l0 yN).f0) == ((yg l1 yN).f0)) || (!(((yg l0 yN).f1) == ((yg l1 yN).f1)) || ((!(((yg l0 yN).f2.f0) == ((yg l1 yN).f2.f0)) || (!(((yg l0 yN).f2.f1) == ((yg l1 yN).f2.f1))))))) = true
 ·
  rw [if_pos c7] at H
  have GN : (!(((yg l0 yN).f0) == ((yg l1 yN).f0)) || (!(((yg l0 yN).f1) == ((yg l1 yN).f1)) || ((!(((yg l0 yN).f2.f0) == ((yg l1 yN).f2.f0)) || (!(((yg l0 yN).f2.f1) == ((yg l1 yN).f2.f1))))))) = true := c7
  clear c7;obtain rfl := Option.some.inj H
  have ag : 0 ≤ (yN : Int) := of_decide_eq_true ‹_›
  have ae : yN < (l0.length : Int) := of_decide_eq_true ‹_›
  obtain ⟨aA, ai, aj, aD, aC, av⟩ := BU Li.out yN ag ae;cases ai;replace ag := eq_true ag;replace ae := eq_true ae
  have aa : 0 ≤ (yN : Int) := of_decide_eq_true ‹_›
  have af : yN < (l1.length : Int) := of_decide_eq_true ‹_›
  obtain ⟨az, ah, au, ax, ak, ay⟩ := BU HR1.out yN aa af;cases ah;replace aa := eq_true aa;replace af := eq_true af
  go_wp2
  repeat (go_quiet (fail); try go_wp2)
  go_ret
  exact ⟨by rfl, by repeat (first | exact zV.refl _ | apply zV.step)⟩
 rw [if_neg c7] at H
 have GN : (!(((yg l0 yN).f0) == ((yg l1 yN).f0)) || (!(((yg l0 yN).f1) == ((yg l1 yN).f1)) || ((!(((yg l0 yN).f2.f0) == ((yg l1 yN).f2.f0)) || (!(((yg l0 yN).f2.f1) == ((yg l1 yN).f2.f1))))))) = false := by simpa using c7
 clear c7;have H' := yf.mk H;clear H
 have ag : 0 ≤ (yN : Int) := of_decide_eq_true ‹_›
 have ae : yN < (l0.length : Int) := of_decide_eq_true ‹_›
 obtain ⟨aA, ai, aj, aD, aC, av⟩ := BU Li.out yN ag ae;cases ai;replace ag := eq_true ag;replace ae := eq_true ae
 have aa : 0 ≤ (yN : Int) := of_decide_eq_true ‹_›
 have af : yN < (l1.length : Int) := of_decide_eq_true ‹_›
 obtain ⟨az, ah, au, ax, ak, ay⟩ := BU HR1.out yN aa af;cases ah;replace aa := eq_true aa;replace af := eq_true af
 go_wp2
 repeat (go_quiet (fail); try go_wp2)
 go_roundg k1
 case measure => have := BJ.out; omega
 case rel => exact ⟨(wrap64 (yN + 1)), (by rfl), H', ⟨by have := BJ.out; omega⟩, by repeat (first | exact zV.refl _ | apply zV.step)⟩
end Go.Proofs.Ytjonnfmoocijlaa.P
namespace Go.Proofs.Ytjonnfmoocijlaa.P
open Go.RowKit Go.Proofs.YtjonnfmoocijlaaKW.PrintWords
theorem Qr (l : List Mv) (hl : l.length ≤ 1000) : Ev (fun k => Am.f k l l) true := by
 have h0 : ∀ t j : Nat, l.length - j = t → j ≤ l.length → Ev (fun k => Am.l0 k l l (j : Int)) true := by
  intro t
  induction t with
  | zero =>
   intro j ht hj
   exact evs (fun k => by rw [Am.l0]) (BQ (by omega) (Ev.now _))
  | succ t ih =>
   intro j ht hj
   have hlt : j < l.length := by omega
   have hstep := ih (j + 1) (by omega) (by omega)
   refine evs (fun k => by rw [Am.l0]) (AJ (by omega) (AJ (by omega) (AJ (by omega) (BQ (by simp) ?_))))
   rw [vv j (by omega)]
   exact hstep
 unfold Am.f
 exact AJ rfl (h0 _ 0 rfl (Nat.zero_le _))
section
variable {d : Int} {L : List (List Int)} {w n r : Nat} {T S : Int} (H : Lo d L w n r T S)
include H
theorem Lo.TQ (ms : List Mv) (hl : ms.length ≤ 1000) : Ev (fun k => Cs.f k d L T S ms) (decide (VM d L w n r T S ms)) := by
  unfold Cs.f
  refine DN (H.check ms hl) ?_
  by_cases c : VM d L w n r T S ms
  · rw [if_pos c, decide_eq_true c]
    exact Ev.now _
  · rw [if_neg c, decide_eq_false c]
    exact Ev.now _
theorem Lo.TR (ms : List Mv) (m : Mv) : (CV d L w n r T S ms m).1.length ≤ ms.length + 1 := by
  unfold CV
  split
  · split
    · exact Nat.zero_le _
    · split
      · exact Iq ms m
      · exact Nat.zero_le _
  · exact Nat.zero_le _
theorem Lo.LU (ms : List Mv) (hl : ms.length ≤ 900) (hv : VM d L w n r T S ms) (m : Mv) : Ev (fun k => zl.f k d L T S ms m.f0 m.f1 m.f2.f0 m.f2.f1) (CV d L w n r T S ms m) := by
  have hs := hv.1.sorted
  have hpl := Qh ms m.f0 m.f1
  have hwl := Iq ms m
  unfold zl.f
  refine DN (H.TQ ms (by omega)) ?_
  rw [decide_eq_true hv]
  refine AJ rfl (DN (H.Uv m.f0 m.f1) ?_)
  unfold CV
  by_cases c : 0 ≤ m.f0 ∧ m.f0 < T * n ∧ 0 ≤ m.f1 ∧ m.f1 < (w : Int)
  · rw [if_pos c, if_pos c]
    refine AJ rfl (GJ (a := ms) (by unfold D9.f; rw [if_pos (by omega)]) ?_)
    have hsr : Ev (fun k => yB.f k ms m.f0 m.f1) ((Ep ms m.f0 m.f1 : Int), EZ ms m.f0 m.f1) := LD ms hs (by omega) m.f0 m.f1
    refine DN hsr ?_
    have hj1 : ∀ out, out = DD ms m → Ev (fun k => zl.j1 k out d L T S m.f0 m.f1 m.f2.f0 m.f2.f1) (if VM d L w n r T S (DD ms m) then (DD ms m, 0) else ([], 1)) := by
      intro out ho
      rw [← ho] at hwl ⊢
      have hol : out.length ≤ 1000 := by omega
      refine evs (fun k => by rw [zl.j1]) (DN H.Qf (DN H.Qf (DN (H.TQ out hol) ?_)))
      by_cases cv : VM d L w n r T S out
      · rw [decide_eq_true cv, if_pos cv]
        refine AJ rfl (DN (H.apart out cv.1.sorted hol cv.1.NW _ _ m.f0 c.1 c.2.1) ?_)
        rw [decide_eq_true (H.Jt out cv m.f0 c.1 c.2.1)]
        exact AJ rfl (Ev.now _)
      · rw [decide_eq_false cv, if_neg cv]
        exact BQ (by decide) (Ev.now _)
    have hww : wrap64 ((Ep ms m.f0 m.f1 : Int) + 1) = (Ep ms m.f0 m.f1 : Int) + 1 := ww (by omega) (by omega)
    have hj0 : ∀ mv x47 : Bool, mv = EZ ms m.f0 m.f1 → x47 = (decide (m.f2.f0 = -1) && !mv) → Ev (fun k => zl.j0 k ms (Ep ms m.f0 m.f1 : Int) mv x47 d L T S m.f0 m.f1 m.f2.f0 m.f2.f1)
        (if m.f2.f0 = -1 ∧ (DD ms m).length = ms.length then ([], 9) else if VM d L w n r T S (DD ms m) then (DD ms m, 0) else ([], 1)) := by
      intro mv x47 hm hx
      refine evs (fun k => by rw [zl.j0]) ?_
      by_cases c1 : m.f2.f0 = -1
      · have hP : DD ms m = Bg m ms true := by unfold DD; rw [show (m.f2.f0 == -1) = true from beq_iff_eq.2 c1]
        rw [decide_eq_true c1] at hx
        cases mv with
        | true =>
          subst hx
          have hlt := LM hm.symm
          have he := O1 m ms hs hm.symm
          have hle : (ms.eraseIdx (Ep ms m.f0 m.f1)).length = ms.length - 1 := by rw [List.length_eraseIdx, if_pos hlt]
          refine BQ (by decide) (AJ c1 (GJ (a := ms.eraseIdx (Ep ms m.f0 m.f1)) ?_ ?_))
          · unfold Dp.f
            rw [hww, if_pos ⟨Int.natCast_nonneg _, by rw [Int.toNat_natCast]; exact hlt, rfl⟩, Int.toNat_natCast]
          · rw [if_neg (by rw [hP, he, hle]; omega)]
            exact hj1 _ (by rw [hP, he])
        | false =>
          subst hx
          have he := PH m ms hs hm.symm
          refine AJ (by decide) (I8 ?_)
          rw [if_pos ⟨c1, by rw [hP, he]⟩]
      · have hP : DD ms m = Bg m ms false := by unfold DD; rw [show (m.f2.f0 == -1) = false from beq_eq_false_iff_ne.2 c1]
        rw [if_neg (fun h => c1 h.1)]
        rw [decide_eq_false c1] at hx
        subst hx
        refine BQ (by simp) (BQ c1 ?_)
        cases mv with
        | true =>
          have hlt := LM hm.symm
          refine AJ rfl (AJ (Int.natCast_nonneg _) (AJ (Int.ofNat_lt.2 hlt) ?_))
          rw [Int.toNat_natCast]
          exact hj1 _ (by rw [hP]; exact (Yq m ms hs hm.symm).symm)
        | false =>
          refine BQ (by decide) (GJ (a := ms.take (Ep ms m.f0 m.f1) ++ [m] ++ ms.drop (Ep ms m.f0 m.f1)) ?_ ?_)
          · unfold CR.f
            rw [if_pos ⟨rfl, Int.natCast_nonneg _, by rw [Int.toNat_natCast]; exact hpl, by omega⟩, Int.toNat_natCast]
          · exact hj1 _ (by rw [hP, RQ m ms hs hm.symm, List.append_assoc]; rfl)
    by_cases c1 : m.f2.f0 = -1
    · exact AJ c1 (hj0 _ _ rfl (by rw [decide_eq_true c1]; rfl))
    · exact BQ c1 (hj0 _ _ rfl (by rw [decide_eq_false c1]; rfl))
  · rw [if_neg c, if_neg c]
    exact BQ (show ¬ (2 : Int) = 0 by decide) (Ev.now _)
end
end Go.Proofs.Ytjonnfmoocijlaa.P
namespace Go.Proofs.Ytjonnfmoocijlaa.P
open Go.RowKit Go.Proofs.YtjonnfmoocijlaaKW.PrintWords Go.Proofs.YtjonnfmoocijlaaKW.PrintLast Go.Proofs.YtjonnfmoocijlaaKW.PrintMore
attribute [local go_sem] zO zP Aj Ak zC zD zQ zR
def EF.f (k : Nat) (yn : Int) (yh : List (List Int)) (yo : Int) (yu : Int) (l1 : List (AX)) (a2 : Int) : Option (List Int × Int) := (zb.f k yn yh yo yu l1).bind fun Gp => (if Gp.2.2.2.2.2.2.2 = true then (if a2 < 0 then (some (([] : List Int), 2)) else (if a2 ≥ yn then (some (([] : List Int), 2)) else ((zU.f k Gp.1 Gp.2.1 Gp.2.2.1 Gp.2.2.2.1 Gp.2.2.2.2.1 Gp.2.2.2.2.2.1 Gp.2.2.2.2.2.2.1 a2).bind fun Yy => (some (Yy, 0))))) else (some (([] : List Int), 1)))
set_option maxHeartbeats 8000000 in
set_option maxRecDepth 100000 in
theorem EF.calls (k : Nat) (yn : Int) (yQ : Option Addr) (yM : Nat) (yh : List (List Int)) (yo : Int) (yu : Int) (A1 : Option Addr) (c1 : Nat) (l1 : List (AX)) (a2 : Int) (r1 : List Int) (r2 : Int) (w : World) (Ah : Kd.C (Kd.slice 3 (Kd.int .i64)) w yQ yh.length yh) (Ai : yh.length ≤ yM) (hr1 : Kd.C CS w A1 l1.length l1) (hc1 : l1.length ≤ c1) (h : EF.f k yn yh yo yu l1 a2 = some (r1, r2)) :
  Calls Try.prog 29 #[.agg #[.int .i64 yn, .slice yQ yh.length yM, .int .i64 yo, .int .i64 yu], .slice A1 l1.length c1, .int .i64 a2] w fun e w' => ∃ GG : Value, e = .returned (.tuple #[GG, .int .i64 r2]) ∧ Kd.R (Kd.int .i64) 3 w' w.heap.size (fun _ => True) GG r1 ∧ Below w.heap.size w w' := by
 have FH := Try.underlying31;have NS := Try.underlying71;have zA := yf.mk Ah;have zK := yf.mk Ai;clear Ah Ai;have HR1 := yf.mk hr1;have GH := yf.mk hc1;clear hr1 hc1;have HB := yf.mk (Below.refl w.heap.size w)
 have H : ((zb.f k yn yh yo yu l1).bind fun Gp => (if Gp.2.2.2.2.2.2.2 = true then (if a2 < 0 then (some (([] : List Int), 2)) else (if a2 ≥ yn then (some (([] : List Int), 2)) else ((zU.f k Gp.1 Gp.2.1 Gp.2.2.1 Gp.2.2.2.1 Gp.2.2.2.2.1 Gp.2.2.2.2.2.1 Gp.2.2.2.2.2.2.1 a2).bind fun Yy => (some (Yy, 0))))) else (some (([] : List Int), 1)))) = some (r1, r2) := h
 clear h;obtain ⟨⟨av, au, ay, az, ak, aD, aA, aQ⟩, A4, H⟩ := bE H
 try dsimp only at H
 by_cases c5 : aQ = true
 rotate_left
 ·
  replace c5 := Bool.eq_false_iff.mpr c5;subst c5
  rw [if_neg (show ¬ (false = true) by decide)] at H
  simp only [Option.some.injEq, Prod.mk.injEq] at H;obtain ⟨rfl, rfl⟩ := H
  go_enter Try.func29, Try.ntmps29
  go_wp2_with (first | ((with_reducible refine yI (N := 3) rfl ?_); refine yG rfl (N := 3) rfl (cs := #[.int .i64 yn, .slice yQ yh.length yM, .int .i64 yo, .int .i64 yu]) (t := 31) (by go_simp) ?_; intro af hg w36 yJ hb; have aa := yf.mk (yJ); have ah := bG (w := w) hg; have aH := bG (w := w) hg; replace HB := bS HB hb; clear hb yJ hg; have KS := AP aa; have KT := bf aa) | ((with_reducible refine yw (f := 33) rfl ?_); refine gL (some 13) Try.func33 #[.agg #[.int .i64 yn, .slice yQ yh.length yM, .int .i64 yo, .int .i64 yu], .slice A1 l1.length c1] ?_; (with_reducible refine (zb.calls k yn (fun k_ => k_ < w.heap.size) _ _ yh yo yu (fun k_ => k_ < w.heap.size) _ _ l1 av au ay az ak aD aA false _ ?yD ?yF A4.out).mono ?_); (case yD => exact Kd.GK zK.out (Kd.CE (Kd.Nb (Kd.D5 3 (Kd.Dj .i64)) zA.out) (bO HB))); (case yF => exact Kd.GK GH.out (Kd.CE (Kd.Nb FN HR1.out) (bO HB))); rintro e w38 ⟨v359, v364, rfl, ho0, ho1, hb⟩; refine ⟨_, rfl, ?_⟩; have ai := yf.mk (Kd.Cc (Kd.z8 (ok' := fun k_ => k_ ≠ af) ho0 (fun k_ E8 => Or.elim E8 (fun hs_ => Or.elim hs_ (fun hs_ => fun e_ => Nat.not_le.2 hs_ (by rw [e_]; exact ah.out)) (fun hs_ => fun e_ => Nat.not_le.2 hs_ (by rw [e_]; exact ah.out))) (fun DC => (Kd.Bj (g := af) (o := .cells #[.int .i64 yn, .slice yQ yh.length yM, .int .i64 yo, .int .i64 yu] 31 (0, 0)) (kk aa) k_ DC)))) (yL (bO HB))); have ag := yf.mk (Kd.Cc (Kd.z8 (ok' := fun k_ => k_ ≠ af) ho1 (fun k_ E8 => Or.elim E8 (fun hs_ => Or.elim hs_ (fun hs_ => fun e_ => Nat.not_le.2 hs_ (by rw [e_]; exact ah.out)) (fun hs_ => fun e_ => Nat.not_le.2 hs_ (by rw [e_]; exact ah.out))) (fun DC => (Kd.Bj (g := af) (o := .cells #[.int .i64 yn, .slice yQ yh.length yM, .int .i64 yo, .int .i64 yu] 31 (0, 0)) (kk aa) k_ DC)))) (yL (bO HB))); replace aa := bB aa hb; replace HB := bS HB hb; clear hb; clear ho0; clear ho1) | ((with_reducible refine yI (N := 8) rfl ?_); refine yG rfl (N := 8) rfl (cs := #[.int .i64 0, .slice none 0 0, .int .i64 0, .int .i64 0, .slice none 0 0, .int .i64 0, .int .i64 0]) (t := 71) (by go_simp) ?_; intro ae hg w39 yJ hb; have aj := yf.mk (yJ); have aI := bG (w := w) hg; have aG := bG (w := w) hg; have ax := Co aa hg; have aC := Ar aa hg; replace ai := yf.mk (Kd.Ao (Kd.Bf (kV ai) ae (Nat.le_of_eq hg.symm)) hb); replace ag := yf.mk (Kd.Ao (Kd.Bf (kV ag) ae (Nat.le_of_eq hg.symm)) hb); replace aa := bB aa hb; replace HB := bS HB hb; clear hb yJ hg; have X3 := aC.out; have X4 := ax.out; have P6 := Gt aj; have P7 := bf aj; obtain ⟨aW, aZ, aM⟩ := Kd.Cb ai.out; subst aM; obtain ⟨Vx, RG, Y4⟩ := Kd.Cb ag.out; subst Y4))
  go_ret2
  exact ⟨_, by rfl, by exact Kd.Er _ _ _ _ _, bO HB⟩
 subst c5;rw [if_pos rfl] at H
 by_cases c6 : a2 < 0
 ·
  rw [if_pos c6] at H;have EJ := decide_eq_true c6;clear c6;simp only [Option.some.injEq, Prod.mk.injEq] at H;obtain ⟨rfl, rfl⟩ := H
  go_enter Try.func29, Try.ntmps29
  go_wp2_with (first | ((with_reducible refine yI (N := 3) rfl ?_); refine yG rfl (N := 3) rfl (cs := #[.int .i64 yn, .slice yQ yh.length yM, .int .i64 yo, .int .i64 yu]) (t := 31) (by go_simp) ?_; intro af hg w7 yJ hb; have aa := yf.mk (yJ); have ah := bG (w := w) hg; have aH := bG (w := w) hg; replace HB := bS HB hb; clear hb yJ hg; have SL := AP aa; have SN := bf aa) | ((with_reducible refine yw (f := 33) rfl ?_); refine gL (some 13) Try.func33 #[.agg #[.int .i64 yn, .slice yQ yh.length yM, .int .i64 yo, .int .i64 yu], .slice A1 l1.length c1] ?_; (with_reducible refine (zb.calls k yn (fun k_ => k_ < w.heap.size) _ _ yh yo yu (fun k_ => k_ < w.heap.size) _ _ l1 av au ay az ak aD aA true _ ?yD ?yF A4.out).mono ?_); (case yD => exact Kd.GK zK.out (Kd.CE (Kd.Nb (Kd.D5 3 (Kd.Dj .i64)) zA.out) (bO HB))); (case yF => exact Kd.GK GH.out (Kd.CE (Kd.Nb FN HR1.out) (bO HB))); rintro e w9 ⟨v359, v364, rfl, ho0, ho1, hb⟩; refine ⟨_, rfl, ?_⟩; have ai := yf.mk (Kd.Cc (Kd.z8 (ok' := fun k_ => k_ ≠ af) ho0 (fun k_ E8 => Or.elim E8 (fun hs_ => Or.elim hs_ (fun hs_ => fun e_ => Nat.not_le.2 hs_ (by rw [e_]; exact ah.out)) (fun hs_ => fun e_ => Nat.not_le.2 hs_ (by rw [e_]; exact ah.out))) (fun DC => (Kd.Bj (g := af) (o := .cells #[.int .i64 yn, .slice yQ yh.length yM, .int .i64 yo, .int .i64 yu] 31 (0, 0)) (kk aa) k_ DC)))) (yL (bO HB))); have ag := yf.mk (Kd.Cc (Kd.z8 (ok' := fun k_ => k_ ≠ af) ho1 (fun k_ E8 => Or.elim E8 (fun hs_ => Or.elim hs_ (fun hs_ => fun e_ => Nat.not_le.2 hs_ (by rw [e_]; exact ah.out)) (fun hs_ => fun e_ => Nat.not_le.2 hs_ (by rw [e_]; exact ah.out))) (fun DC => (Kd.Bj (g := af) (o := .cells #[.int .i64 yn, .slice yQ yh.length yM, .int .i64 yo, .int .i64 yu] 31 (0, 0)) (kk aa) k_ DC)))) (yL (bO HB))); replace aa := bB aa hb; replace HB := bS HB hb; clear hb; clear ho0; clear ho1) | ((with_reducible refine yI (N := 8) rfl ?_); refine yG rfl (N := 8) rfl (cs := #[.int .i64 0, .slice none 0 0, .int .i64 0, .int .i64 0, .slice none 0 0, .int .i64 0, .int .i64 0]) (t := 71) (by go_simp) ?_; intro ae hg w10 yJ hb; have aj := yf.mk (yJ); have aI := bG (w := w) hg; have aG := bG (w := w) hg; have ax := Co aa hg; have aC := Ar aa hg; replace ai := yf.mk (Kd.Ao (Kd.Bf (kV ai) ae (Nat.le_of_eq hg.symm)) hb); replace ag := yf.mk (Kd.Ao (Kd.Bf (kV ag) ae (Nat.le_of_eq hg.symm)) hb); replace aa := bB aa hb; replace HB := bS HB hb; clear hb yJ hg; have Xi := aC.out; have Xj := ax.out; have NM := Gt aj; have NN := bf aj; obtain ⟨aU, aX, aT⟩ := Kd.Cb ai.out; subst aT; obtain ⟨a7a, Zc, SV⟩ := Kd.Cb ag.out; subst SV))
  go_ret2
  exact ⟨_, by rfl, by exact Kd.Er _ _ _ _ _, bO HB⟩
 rw [if_neg c6] at H;have EJ := decide_eq_false c6;clear c6
 by_cases c15 : a2 ≥ yn
 ·
  rw [if_pos c15] at H;have OZ := decide_eq_true c15;clear c15;simp only [Option.some.injEq, Prod.mk.injEq] at H;obtain ⟨rfl, rfl⟩ := H
  go_enter Try.func29, Try.ntmps29
  go_wp2_with (first | ((with_reducible refine yI (N := 3) rfl ?_); refine yG rfl (N := 3) rfl (cs := #[.int .i64 yn, .slice yQ yh.length yM, .int .i64 yo, .int .i64 yu]) (t := 31) (by go_simp) ?_; intro af hg w16 yJ hb; have aa := yf.mk (yJ); have ah := bG (w := w) hg; have aH := bG (w := w) hg; replace HB := bS HB hb; clear hb yJ hg; have NP := AP aa; have NQ := bf aa) | ((with_reducible refine yw (f := 33) rfl ?_); refine gL (some 13) Try.func33 #[.agg #[.int .i64 yn, .slice yQ yh.length yM, .int .i64 yo, .int .i64 yu], .slice A1 l1.length c1] ?_; (with_reducible refine (zb.calls k yn (fun k_ => k_ < w.heap.size) _ _ yh yo yu (fun k_ => k_ < w.heap.size) _ _ l1 av au ay az ak aD aA true _ ?yD ?yF A4.out).mono ?_); (case yD => exact Kd.GK zK.out (Kd.CE (Kd.Nb (Kd.D5 3 (Kd.Dj .i64)) zA.out) (bO HB))); (case yF => exact Kd.GK GH.out (Kd.CE (Kd.Nb FN HR1.out) (bO HB))); rintro e w18 ⟨v359, v364, rfl, ho0, ho1, hb⟩; refine ⟨_, rfl, ?_⟩; have ai := yf.mk (Kd.Cc (Kd.z8 (ok' := fun k_ => k_ ≠ af) ho0 (fun k_ E8 => Or.elim E8 (fun hs_ => Or.elim hs_ (fun hs_ => fun e_ => Nat.not_le.2 hs_ (by rw [e_]; exact ah.out)) (fun hs_ => fun e_ => Nat.not_le.2 hs_ (by rw [e_]; exact ah.out))) (fun DC => (Kd.Bj (g := af) (o := .cells #[.int .i64 yn, .slice yQ yh.length yM, .int .i64 yo, .int .i64 yu] 31 (0, 0)) (kk aa) k_ DC)))) (yL (bO HB))); have ag := yf.mk (Kd.Cc (Kd.z8 (ok' := fun k_ => k_ ≠ af) ho1 (fun k_ E8 => Or.elim E8 (fun hs_ => Or.elim hs_ (fun hs_ => fun e_ => Nat.not_le.2 hs_ (by rw [e_]; exact ah.out)) (fun hs_ => fun e_ => Nat.not_le.2 hs_ (by rw [e_]; exact ah.out))) (fun DC => (Kd.Bj (g := af) (o := .cells #[.int .i64 yn, .slice yQ yh.length yM, .int .i64 yo, .int .i64 yu] 31 (0, 0)) (kk aa) k_ DC)))) (yL (bO HB))); replace aa := bB aa hb; replace HB := bS HB hb; clear hb; clear ho0; clear ho1) | ((with_reducible refine yI (N := 8) rfl ?_); refine yG rfl (N := 8) rfl (cs := #[.int .i64 0, .slice none 0 0, .int .i64 0, .int .i64 0, .slice none 0 0, .int .i64 0, .int .i64 0]) (t := 71) (by go_simp) ?_; intro ae hg w19 yJ hb; have aj := yf.mk (yJ); have aI := bG (w := w) hg; have aG := bG (w := w) hg; have ax := Co aa hg; have aC := Ar aa hg; replace ai := yf.mk (Kd.Ao (Kd.Bf (kV ai) ae (Nat.le_of_eq hg.symm)) hb); replace ag := yf.mk (Kd.Ao (Kd.Bf (kV ag) ae (Nat.le_of_eq hg.symm)) hb); replace aa := bB aa hb; replace HB := bS HB hb; clear hb yJ hg; have XU := aC.out; have XV := ax.out; have ND := Gt aj; have NE := bf aj; obtain ⟨aV, aY, aN⟩ := Kd.Cb ai.out; subst aN; obtain ⟨OE, MJ, Yz⟩ := Kd.Cb ag.out; subst Yz; have NK := AP aa; have NL := bf aa))
  go_ret2
  exact ⟨_, by rfl, by exact Kd.Er _ _ _ _ _, bO HB⟩
 rw [if_neg c15] at H;have OZ := decide_eq_false c15;clear c15;obtain ⟨Yy, A25, H⟩ := bE H
 try dsimp only at H
 simp only [Option.some.injEq, Prod.mk.injEq] at H;obtain ⟨rfl, rfl⟩ := H
 go_enter Try.func29, Try.ntmps29
 go_wp2_with (first | ((with_reducible refine yI (N := 3) rfl ?_); refine yG rfl (N := 3) rfl (cs := #[.int .i64 yn, .slice yQ yh.length yM, .int .i64 yo, .int .i64 yu]) (t := 31) (by go_simp) ?_; intro af hg w26 yJ hb; have aa := yf.mk (yJ); have ah := bG (w := w) hg; have aH := bG (w := w) hg; replace HB := bS HB hb; clear hb yJ hg; have Md := AP aa; have Me := bf aa) | ((with_reducible refine yw (f := 33) rfl ?_); refine gL (some 13) Try.func33 #[.agg #[.int .i64 yn, .slice yQ yh.length yM, .int .i64 yo, .int .i64 yu], .slice A1 l1.length c1] ?_; (with_reducible refine (zb.calls k yn (fun k_ => k_ < w.heap.size) _ _ yh yo yu (fun k_ => k_ < w.heap.size) _ _ l1 av au ay az ak aD aA true _ ?yD ?yF A4.out).mono ?_); (case yD => exact Kd.GK zK.out (Kd.CE (Kd.Nb (Kd.D5 3 (Kd.Dj .i64)) zA.out) (bO HB))); (case yF => exact Kd.GK GH.out (Kd.CE (Kd.Nb FN HR1.out) (bO HB))); rintro e w28 ⟨v359, v364, rfl, ho0, ho1, hb⟩; refine ⟨_, rfl, ?_⟩; have ai := yf.mk (Kd.Cc (Kd.z8 (ok' := fun k_ => k_ ≠ af) ho0 (fun k_ E8 => Or.elim E8 (fun hs_ => Or.elim hs_ (fun hs_ => fun e_ => Nat.not_le.2 hs_ (by rw [e_]; exact ah.out)) (fun hs_ => fun e_ => Nat.not_le.2 hs_ (by rw [e_]; exact ah.out))) (fun DC => (Kd.Bj (g := af) (o := .cells #[.int .i64 yn, .slice yQ yh.length yM, .int .i64 yo, .int .i64 yu] 31 (0, 0)) (kk aa) k_ DC)))) (yL (bO HB))); have ag := yf.mk (Kd.Cc (Kd.z8 (ok' := fun k_ => k_ ≠ af) ho1 (fun k_ E8 => Or.elim E8 (fun hs_ => Or.elim hs_ (fun hs_ => fun e_ => Nat.not_le.2 hs_ (by rw [e_]; exact ah.out)) (fun hs_ => fun e_ => Nat.not_le.2 hs_ (by rw [e_]; exact ah.out))) (fun DC => (Kd.Bj (g := af) (o := .cells #[.int .i64 yn, .slice yQ yh.length yM, .int .i64 yo, .int .i64 yu] 31 (0, 0)) (kk aa) k_ DC)))) (yL (bO HB))); replace aa := bB aa hb; replace HB := bS HB hb; clear hb; clear ho0; clear ho1) | ((with_reducible refine yI (N := 8) rfl ?_); refine yG rfl (N := 8) rfl (cs := #[.int .i64 0, .slice none 0 0, .int .i64 0, .int .i64 0, .slice none 0 0, .int .i64 0, .int .i64 0]) (t := 71) (by go_simp) ?_; intro ae hg w29 yJ hb; have aj := yf.mk (yJ); have aI := bG (w := w) hg; have aG := bG (w := w) hg; have ax := Co aa hg; have aC := Ar aa hg; replace ai := yf.mk (Kd.Ao (Kd.Bf (kV ai) ae (Nat.le_of_eq hg.symm)) hb); replace ag := yf.mk (Kd.Ao (Kd.Bf (kV ag) ae (Nat.le_of_eq hg.symm)) hb); replace aa := bB aa hb; replace HB := bS HB hb; clear hb yJ hg; have R4 := aC.out; have R5 := ax.out; have Pb := Gt aj; have Pd := bf aj; obtain ⟨aJ, Zw, a2J⟩ := Kd.Cb ai.out; subst a2J; obtain ⟨WN, V8, a2s⟩ := Kd.Cb ag.out; subst a2s; have Ns := AP aa; have Nt := bf aa) | ((with_reducible refine yw (f := 36) rfl ?_); refine gL (some 31) Try.func36 #[.agg #[.int .i64 av, .slice aJ au.length Zw, .int .i64 ay, .int .i64 az, .slice WN ak.length V8, .int .i64 aD, .int .i64 aA], .int .i64 a2] ?_; (with_reducible refine (zU.calls k av _ _ au ay az _ _ ak aD aA a2 Yy _ ?yD ?yF ?zw ?zx A25.out).mono ?_); (case yD => refine (Kd.zW (e := 63) (base := w.heap.size) (ok := fun k_ => (k_ ≠ af ∧ k_ ≠ ae)) (n := au.length) (c := Zw) ?_).2.2; exact (by (with_reducible repeat (apply Kd.Ap)); exact (Kd.z8 (FZ (g := ae) (Kd.z8 ai.out (fun k_ hk => (⟨hk, hk.2⟩ : _ ∧ k_ ≠ ae))) (fun _ hk => hk.2)) (fun _ h_ => h_.1)))); (case yF => exact (Kd.zW ai.out).2.1); (case zw => refine (Kd.zW (e := 47) (base := w.heap.size) (ok := fun k_ => (k_ ≠ af ∧ k_ ≠ ae)) (n := ak.length) (c := V8) ?_).2.2; exact (by (with_reducible repeat (apply Kd.Ap)); exact (Kd.z8 (FZ (g := ae) (Kd.z8 ag.out (fun k_ hk => (⟨hk, hk.2⟩ : _ ∧ k_ ≠ ae))) (fun _ hk => hk.2)) (fun _ h_ => h_.1)))); (case zx => exact (Kd.zW ag.out).2.1); rintro e w35 ⟨v371, rfl, ho0, hb⟩; refine ⟨_, rfl, ?_⟩; replace ai := yf.mk (Kd.Dk (by (with_reducible repeat (apply Kd.Ap)); exact (Kd.z8 (FZ (g := ae) (Kd.z8 ai.out (fun k_ hk => (⟨hk, hk.2⟩ : _ ∧ k_ ≠ ae))) (fun _ hk => hk.2)) (fun _ h_ => h_.1))) (Kd.Bh ho0) hb); replace ag := yf.mk (Kd.Dk (by (with_reducible repeat (apply Kd.Ap)); exact (Kd.z8 (FZ (g := ae) (Kd.z8 ag.out (fun k_ hk => (⟨hk, hk.2⟩ : _ ∧ k_ ≠ ae))) (fun _ hk => hk.2)) (fun _ h_ => h_.1))) (Kd.Bh ho0) hb); have aK := yf.mk (Kd.Ay ho0 (yL (bO HB))); replace aa := yf.mk (yS (g := af) (o := .cells #[.int .i64 yn, .slice yQ yh.length yM, .int .i64 yo, .int .i64 yu] 31 (0, 0)) (CJ aa rfl) hb); replace aj := yf.mk (yS (g := ae) (o := .cells #[.int .i64 av, .slice aJ au.length Zw, .int .i64 ay, .int .i64 az, .slice WN ak.length V8, .int .i64 aD, .int .i64 aA] 71 (0, 0)) (CJ aj rfl) hb); replace HB := bS HB hb; clear hb; clear ho0))
 go_ret2
 exact ⟨_, by rfl, by (with_reducible repeat (apply Kd.yZ)); exact aK.out, bO HB⟩
end Go.Proofs.Ytjonnfmoocijlaa.P
