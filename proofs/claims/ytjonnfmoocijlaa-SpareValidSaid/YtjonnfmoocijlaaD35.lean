/- Texts of a claim, packed. -/
import Derived.Test.YtjonnfmoocijlaaD34
set_option linter.all false
namespace Go.Proofs.Ytjonnfmoocijlaa.P
open Go.RowKit Go.Proofs.YtjonnfmoocijlaaKW.PrintWords Go.Proofs.YtjonnfmoocijlaaKW.PrintLast Go.Proofs.YtjonnfmoocijlaaKW.PrintMore
attribute [local go_sem] zz zA zS zT zn zo zB zC
theorem a2o (d : Nat) (w : World) (x0 y0 : Int) (x1 y1 : Int) (x2 y2 : Int) (x3 y3 : Int) :
  (Op.equalIn (d + 3) 47 (.agg #[.int .i64 x0, .int .i64 x1, .int .i64 x2, .int .i64 x3]) (.agg #[.int .i64 y0, .int .i64 y1, .int .i64 y2, .int .i64 y3])).run Try.prog w = .ok (x0 == y0 && (x1 == y1 && ((x2 == y2 && (x3 == y3))))) w := by
 refine Q6 Try.underlying47 (by kernel_rfl) ?_
 refine Je (by rfl) (by go_simp; rfl) (by go_simp; rfl) (by go_simp) ?_
 refine Je (by rfl) (by go_simp; rfl) (by go_simp; rfl) (by go_simp) ?_
 exact Lb (by rfl) (by go_simp) (by go_simp) (RU (d + 0) w _ _ _ _)
end Go.Proofs.Ytjonnfmoocijlaa.P
namespace Go.Proofs.Ytjonnfmoocijlaa.P
open Go.RowKit Go.Proofs.YtjonnfmoocijlaaKW.PrintWords
section
variable {d : Int} {L : List (List Int)} {w n r : Nat} {T S : Int} (H : Lo d L w n r T S)
include H
theorem Lo.Oe (ms : List Mv) (hl : ms.length ≤ 1000) : Ev (fun k => Ai.f k d L T S ms) (decide (VM d L w n r T S ms)) := by
  unfold Ai.f
  refine DL (H.check ms hl) ?_
  by_cases c : VM d L w n r T S ms
  · rw [if_pos c, decide_eq_true c]
    exact Ev.now _
  · rw [if_neg c, decide_eq_false c]
    exact Ev.now _
theorem Lo.VV (ms : List Mv) (hl : ms.length ≤ 900) (hv : VM d L w n r T S ms) (m : Mv) : Ev (fun k => zi.f k d L T S ms m.f0 m.f1 m.f2.f0 m.f2.f1) (JP d L w n r T S ms m) := by
  have hs := hv.1.sorted
  have hpl := O4 ms m.f0 m.f1
  have hwl := Ty ms m
  unfold zi.f
  refine DL (H.Oe ms (by omega)) ?_
  rw [decide_eq_true hv]
  refine AP rfl (DL (H.RN m.f0 m.f1) ?_)
  unfold JP
  by_cases c : 0 ≤ m.f0 ∧ m.f0 < T * n ∧ 0 ≤ m.f1 ∧ m.f1 < (w : Int)
  · rw [if_pos c, if_pos c]
    refine AP rfl (Kv (a := ms) (by unfold Cv.f; rw [if_pos (by omega)]) ?_)
    have hsr : Ev (fun k => yl.f k ms m.f0 m.f1) ((DI ms m.f0 m.f1 : Int), DX ms m.f0 m.f1) := Io ms hs (by omega) m.f0 m.f1
    refine DL hsr ?_
    have hj1 : ∀ out, out = FP ms m → Ev (fun k => zi.j1 k out d L T S m.f0 m.f1 m.f2.f0 m.f2.f1) (if VM d L w n r T S (FP ms m) then (FP ms m, 0) else ([], 1)) := by
      intro out ho
      rw [← ho] at hwl ⊢
      have hol : out.length ≤ 1000 := by omega
      refine evs (fun k => by rw [zi.j1]) (DL H.O1 (DL H.O1 (DL (H.Oe out hol) ?_)))
      by_cases cv : VM d L w n r T S out
      · rw [decide_eq_true cv, if_pos cv]
        refine AP rfl (DL (H.apart out cv.1.sorted hol cv.1.Pn _ _ m.f0 c.1 c.2.1) ?_)
        rw [decide_eq_true (H.Ps out cv m.f0 c.1 c.2.1)]
        exact AP rfl (Ev.now _)
      · rw [decide_eq_false cv, if_neg cv]
        exact C8 (by decide) (Ev.now _)
    have hww : wrap64 ((DI ms m.f0 m.f1 : Int) + 1) = (DI ms m.f0 m.f1 : Int) + 1 := ww (by omega) (by omega)
    have hj0 : ∀ mv x47 : Bool, mv = DX ms m.f0 m.f1 → x47 = (decide (m.f2.f0 = -1) && !mv) → Ev (fun k => zi.j0 k ms (DI ms m.f0 m.f1 : Int) mv x47 d L T S m.f0 m.f1 m.f2.f0 m.f2.f1)
        (if m.f2.f0 = -1 ∧ (FP ms m).length = ms.length then ([], 9) else if VM d L w n r T S (FP ms m) then (FP ms m, 0) else ([], 1)) := by
      intro mv x47 hm hx
      refine evs (fun k => by rw [zi.j0]) ?_
      by_cases c1 : m.f2.f0 = -1
      · have hP : FP ms m = Dv m ms true := by unfold FP; rw [show (m.f2.f0 == -1) = true from beq_iff_eq.2 c1]
        rw [decide_eq_true c1] at hx
        cases mv with
        | true =>
          subst hx
          have hlt := Np hm.symm
          have he := QL m ms hs hm.symm
          have hle : (ms.eraseIdx (DI ms m.f0 m.f1)).length = ms.length - 1 := by rw [List.length_eraseIdx, if_pos hlt]
          refine C8 (by decide) (AP c1 (Kv (a := ms.eraseIdx (DI ms m.f0 m.f1)) ?_ ?_))
          · unfold CS.f
            rw [hww, if_pos ⟨Int.natCast_nonneg _, by rw [Int.toNat_natCast]; exact hlt, rfl⟩, Int.toNat_natCast]
          · rw [if_neg (by rw [hP, he, hle]; omega)]
            exact hj1 _ (by rw [hP, he])
        | false =>
          subst hx
          have he := TA m ms hs hm.symm
          refine AP (by decide) (GX ?_)
          rw [if_pos ⟨c1, by rw [hP, he]⟩]
      · have hP : FP ms m = Dv m ms false := by unfold FP; rw [show (m.f2.f0 == -1) = false from beq_eq_false_iff_ne.2 c1]
        rw [if_neg (fun h => c1 h.1)]
        rw [decide_eq_false c1] at hx
        subst hx
        refine C8 (by simp) (C8 c1 ?_)
        cases mv with
        | true =>
          have hlt := Np hm.symm
          refine AP rfl (AP (Int.natCast_nonneg _) (AP (Int.ofNat_lt.2 hlt) ?_))
          rw [Int.toNat_natCast]
          exact hj1 _ (by rw [hP]; exact (VO m ms hs hm.symm).symm)
        | false =>
          refine C8 (by decide) (Kv (a := ms.take (DI ms m.f0 m.f1) ++ [m] ++ ms.drop (DI ms m.f0 m.f1)) ?_ ?_)
          · unfold Ck.f
            rw [if_pos ⟨rfl, Int.natCast_nonneg _, by rw [Int.toNat_natCast]; exact hpl, by omega⟩, Int.toNat_natCast]
          · exact hj1 _ (by rw [hP, Pp m ms hs hm.symm, List.append_assoc]; rfl)
    by_cases c1 : m.f2.f0 = -1
    · exact AP c1 (hj0 _ _ rfl (by rw [decide_eq_true c1]; rfl))
    · exact C8 c1 (hj0 _ _ rfl (by rw [decide_eq_false c1]; rfl))
  · rw [if_neg c, if_neg c]
    exact C8 (show ¬ (2 : Int) = 0 by decide) (Ev.now _)
end
end Go.Proofs.Ytjonnfmoocijlaa.P
namespace Go.Proofs.Ytjonnfmoocijlaa.P
open Go.RowKit Go.Proofs.YtjonnfmoocijlaaKW.PrintWords Go.Proofs.YtjonnfmoocijlaaKW.PrintLast Go.Proofs.YtjonnfmoocijlaaKW.PrintMore
attribute [local go_sem] zz zA zS zT zn zo zB zC
def Cc.f (k : Nat) (yn : Int) (yg : List (List Int)) (yo : Int) (yt : Int) (l1 : List (AY)) (a2 : Int) : Option (List Int × Int) := (yL.f k yn yg yo yt l1).bind fun Fb => (if Fb.2.2.2.2.2.2.2 = true then (if a2 < 0 then (some (([] : List Int), 2)) else (if a2 ≥ yn then (some (([] : List Int), 2)) else ((zH.f k Fb.1 Fb.2.1 Fb.2.2.1 Fb.2.2.2.1 Fb.2.2.2.2.1 Fb.2.2.2.2.2.1 Fb.2.2.2.2.2.2.1 a2).bind fun VW => (some (VW, 0))))) else (some (([] : List Int), 1)))
set_option maxHeartbeats 8000000 in
set_option maxRecDepth 100000 in
theorem Cc.calls (k : Nat) (yn : Int) (yP : Option Addr) (yI : Nat) (yg : List (List Int)) (yo : Int) (yt : Int) (A1 : Option Addr) (c1 : Nat) (l1 : List (AY)) (a2 : Int) (r1 : List Int) (r2 : Int) (w : World) (zR : Kd.C (Kd.slice 3 (Kd.int .i64)) w yP yg.length yg) (zU : yg.length ≤ yI) (hr1 : Kd.C Dy w A1 l1.length l1) (hc1 : l1.length ≤ c1) (h : Cc.f k yn yg yo yt l1 a2 = some (r1, r2)) :
  Calls Try.prog 29 #[.agg #[.int .i64 yn, .slice yP yg.length yI, .int .i64 yo, .int .i64 yt], .slice A1 l1.length c1, .int .i64 a2] w fun e w' => ∃ Gw : Value, e = .returned (.tuple #[Gw, .int .i64 r2]) ∧ Kd.R (Kd.int .i64) 3 w' w.heap.size (fun _ => True) Gw r1 ∧ Below w.heap.size w w' := by
 have FB := Try.underlying31;have KF := Try.underlying71;have zq := yf.mk zR;have zG := yf.mk zU;clear zR zU;have HR1 := yf.mk hr1;have Gd := yf.mk hc1;clear hr1 hc1;have HB := yf.mk (Below.refl w.heap.size w)
 have H : ((yL.f k yn yg yo yt l1).bind fun Fb => (if Fb.2.2.2.2.2.2.2 = true then (if a2 < 0 then (some (([] : List Int), 2)) else (if a2 ≥ yn then (some (([] : List Int), 2)) else ((zH.f k Fb.1 Fb.2.1 Fb.2.2.1 Fb.2.2.2.1 Fb.2.2.2.2.1 Fb.2.2.2.2.2.1 Fb.2.2.2.2.2.2.1 a2).bind fun VW => (some (VW, 0))))) else (some (([] : List Int), 1)))) = some (r1, r2) := h
 clear h;obtain ⟨⟨az, au, aA, aC, ak, aD, ax, aK⟩, A4, H⟩ := bE H
 try dsimp only at H
 by_cases c5 : aK = true
 rotate_left
 ·
  replace c5 := Bool.eq_false_iff.mpr c5;subst c5
  rw [if_neg (show ¬ (false = true) by decide)] at H
  simp only [Option.some.injEq, Prod.mk.injEq] at H;obtain ⟨rfl, rfl⟩ := H
  go_enter Try.func29, Try.ntmps29
  go_wp2_with (first | ((with_reducible refine yK (N := 3) rfl ?_); refine yE rfl (N := 3) rfl (cs := #[.int .i64 yn, .slice yP yg.length yI, .int .i64 yo, .int .i64 yt]) (t := 31) (by go_simp) ?_; intro af hg w36 yG hb; have aa := yf.mk (yG); have ag := bG (w := w) hg; have aI := bG (w := w) hg; replace HB := bS HB hb; clear hb yG hg; have Kg := AR aa; have Kh := bf aa) | ((with_reducible refine yB (f := 33) rfl ?_); refine gL (some 13) Try.func33 #[.agg #[.int .i64 yn, .slice yP yg.length yI, .int .i64 yo, .int .i64 yt], .slice A1 l1.length c1] ?_; (with_reducible refine (yL.calls k yn (fun k_ => k_ < w.heap.size) _ _ yg yo yt (fun k_ => k_ < w.heap.size) _ _ l1 az au aA aC ak aD ax false _ ?yF ?yM A4.out).mono ?_); (case yF => exact Kd.E8 zG.out (Kd.AX (Kd.Ho (Kd.Bc 3 (Kd.Br .i64)) zq.out) (bO HB))); (case yM => exact Kd.E8 Gd.out (Kd.AX (Kd.Ho DC HR1.out) (bO HB))); rintro e w38 ⟨v359, v364, rfl, ho0, ho1, hb⟩; refine ⟨_, rfl, ?_⟩; have ah := yf.mk (Kd.Ao (Kd.yH (ok' := fun k_ => k_ ≠ af) ho0 (fun k_ BG => Or.elim BG (fun hs_ => Or.elim hs_ (fun hs_ => fun e_ => Nat.not_le.2 hs_ (by rw [e_]; exact ag.out)) (fun hs_ => fun e_ => Nat.not_le.2 hs_ (by rw [e_]; exact ag.out))) (fun BO => (Kd.Ae (g := af) (o := .cells #[.int .i64 yn, .slice yP yg.length yI, .int .i64 yo, .int .i64 yt] 31 (0, 0)) (kk aa) k_ BO)))) (yJ (bO HB))); have ai := yf.mk (Kd.Ao (Kd.yH (ok' := fun k_ => k_ ≠ af) ho1 (fun k_ BG => Or.elim BG (fun hs_ => Or.elim hs_ (fun hs_ => fun e_ => Nat.not_le.2 hs_ (by rw [e_]; exact ag.out)) (fun hs_ => fun e_ => Nat.not_le.2 hs_ (by rw [e_]; exact ag.out))) (fun BO => (Kd.Ae (g := af) (o := .cells #[.int .i64 yn, .slice yP yg.length yI, .int .i64 yo, .int .i64 yt] 31 (0, 0)) (kk aa) k_ BO)))) (yJ (bO HB))); replace aa := bB aa hb; replace HB := bS HB hb; clear hb; clear ho0; clear ho1) | ((with_reducible refine yK (N := 8) rfl ?_); refine yE rfl (N := 8) rfl (cs := #[.int .i64 0, .slice none 0 0, .int .i64 0, .int .i64 0, .slice none 0 0, .int .i64 0, .int .i64 0]) (t := 71) (by go_simp) ?_; intro ae hg w39 yG hb; have aj := yf.mk (yG); have aG := bG (w := w) hg; have aH := bG (w := w) hg; have av := BL aa hg; have ay := Ag aa hg; replace ah := yf.mk (Kd.zg (Kd.zu (kV ah) ae (Nat.le_of_eq hg.symm)) hb); replace ai := yf.mk (Kd.zg (Kd.zu (kV ai) ae (Nat.le_of_eq hg.symm)) hb); replace aa := bB aa hb; replace HB := bS HB hb; clear hb yG hg; have Y5 := ay.out; have Y6 := av.out; have OM := EP aj; have OO := bf aj; obtain ⟨aT, aU, aM⟩ := Kd.Am ah.out; subst aM; obtain ⟨aV, aQ, aN⟩ := Kd.Am ai.out; subst aN))
  go_ret2
  exact ⟨_, by rfl, by exact Kd.Dh _ _ _ _ _, bO HB⟩
 subst c5;rw [if_pos rfl] at H
 by_cases c6 : a2 < 0
 ·
  rw [if_pos c6] at H;have EU := decide_eq_true c6;clear c6;simp only [Option.some.injEq, Prod.mk.injEq] at H;obtain ⟨rfl, rfl⟩ := H
  go_enter Try.func29, Try.ntmps29
  go_wp2_with (first | ((with_reducible refine yK (N := 3) rfl ?_); refine yE rfl (N := 3) rfl (cs := #[.int .i64 yn, .slice yP yg.length yI, .int .i64 yo, .int .i64 yt]) (t := 31) (by go_simp) ?_; intro af hg w7 yG hb; have aa := yf.mk (yG); have ag := bG (w := w) hg; have aI := bG (w := w) hg; replace HB := bS HB hb; clear hb yG hg; have Ox := AR aa; have Oy := bf aa) | ((with_reducible refine yB (f := 33) rfl ?_); refine gL (some 13) Try.func33 #[.agg #[.int .i64 yn, .slice yP yg.length yI, .int .i64 yo, .int .i64 yt], .slice A1 l1.length c1] ?_; (with_reducible refine (yL.calls k yn (fun k_ => k_ < w.heap.size) _ _ yg yo yt (fun k_ => k_ < w.heap.size) _ _ l1 az au aA aC ak aD ax true _ ?yF ?yM A4.out).mono ?_); (case yF => exact Kd.E8 zG.out (Kd.AX (Kd.Ho (Kd.Bc 3 (Kd.Br .i64)) zq.out) (bO HB))); (case yM => exact Kd.E8 Gd.out (Kd.AX (Kd.Ho DC HR1.out) (bO HB))); rintro e w9 ⟨v359, v364, rfl, ho0, ho1, hb⟩; refine ⟨_, rfl, ?_⟩; have ah := yf.mk (Kd.Ao (Kd.yH (ok' := fun k_ => k_ ≠ af) ho0 (fun k_ BG => Or.elim BG (fun hs_ => Or.elim hs_ (fun hs_ => fun e_ => Nat.not_le.2 hs_ (by rw [e_]; exact ag.out)) (fun hs_ => fun e_ => Nat.not_le.2 hs_ (by rw [e_]; exact ag.out))) (fun BO => (Kd.Ae (g := af) (o := .cells #[.int .i64 yn, .slice yP yg.length yI, .int .i64 yo, .int .i64 yt] 31 (0, 0)) (kk aa) k_ BO)))) (yJ (bO HB))); have ai := yf.mk (Kd.Ao (Kd.yH (ok' := fun k_ => k_ ≠ af) ho1 (fun k_ BG => Or.elim BG (fun hs_ => Or.elim hs_ (fun hs_ => fun e_ => Nat.not_le.2 hs_ (by rw [e_]; exact ag.out)) (fun hs_ => fun e_ => Nat.not_le.2 hs_ (by rw [e_]; exact ag.out))) (fun BO => (Kd.Ae (g := af) (o := .cells #[.int .i64 yn, .slice yP yg.length yI, .int .i64 yo, .int .i64 yt] 31 (0, 0)) (kk aa) k_ BO)))) (yJ (bO HB))); replace aa := bB aa hb; replace HB := bS HB hb; clear hb; clear ho0; clear ho1) | ((with_reducible refine yK (N := 8) rfl ?_); refine yE rfl (N := 8) rfl (cs := #[.int .i64 0, .slice none 0 0, .int .i64 0, .int .i64 0, .slice none 0 0, .int .i64 0, .int .i64 0]) (t := 71) (by go_simp) ?_; intro ae hg w10 yG hb; have aj := yf.mk (yG); have aG := bG (w := w) hg; have aH := bG (w := w) hg; have av := BL aa hg; have ay := Ag aa hg; replace ah := yf.mk (Kd.zg (Kd.zu (kV ah) ae (Nat.le_of_eq hg.symm)) hb); replace ai := yf.mk (Kd.zg (Kd.zu (kV ai) ae (Nat.le_of_eq hg.symm)) hb); replace aa := bB aa hb; replace HB := bS HB hb; clear hb yG hg; have RJ := ay.out; have RL := av.out; have Nc := EP aj; have Nf := bf aj; obtain ⟨a2p, a2q, VX⟩ := Kd.Am ah.out; subst VX; obtain ⟨ZP, SI, Li⟩ := Kd.Am ai.out; subst Li))
  go_ret2
  exact ⟨_, by rfl, by exact Kd.Dh _ _ _ _ _, bO HB⟩
 rw [if_neg c6] at H;have EU := decide_eq_false c6;clear c6
 by_cases c15 : a2 ≥ yn
 ·
  rw [if_pos c15] at H;have GY := decide_eq_true c15;clear c15;simp only [Option.some.injEq, Prod.mk.injEq] at H;obtain ⟨rfl, rfl⟩ := H
  go_enter Try.func29, Try.ntmps29
  go_wp2_with (first | ((with_reducible refine yK (N := 3) rfl ?_); refine yE rfl (N := 3) rfl (cs := #[.int .i64 yn, .slice yP yg.length yI, .int .i64 yo, .int .i64 yt]) (t := 31) (by go_simp) ?_; intro af hg w16 yG hb; have aa := yf.mk (yG); have ag := bG (w := w) hg; have aI := bG (w := w) hg; replace HB := bS HB hb; clear hb yG hg; have Kj := AR aa; have Kk := bf aa) | ((with_reducible refine yB (f := 33) rfl ?_); refine gL (some 13) Try.func33 #[.agg #[.int .i64 yn, .slice yP yg.length yI, .int .i64 yo, .int .i64 yt], .slice A1 l1.length c1] ?_; (with_reducible refine (yL.calls k yn (fun k_ => k_ < w.heap.size) _ _ yg yo yt (fun k_ => k_ < w.heap.size) _ _ l1 az au aA aC ak aD ax true _ ?yF ?yM A4.out).mono ?_); (case yF => exact Kd.E8 zG.out (Kd.AX (Kd.Ho (Kd.Bc 3 (Kd.Br .i64)) zq.out) (bO HB))); (case yM => exact Kd.E8 Gd.out (Kd.AX (Kd.Ho DC HR1.out) (bO HB))); rintro e w18 ⟨v359, v364, rfl, ho0, ho1, hb⟩; refine ⟨_, rfl, ?_⟩; have ah := yf.mk (Kd.Ao (Kd.yH (ok' := fun k_ => k_ ≠ af) ho0 (fun k_ BG => Or.elim BG (fun hs_ => Or.elim hs_ (fun hs_ => fun e_ => Nat.not_le.2 hs_ (by rw [e_]; exact ag.out)) (fun hs_ => fun e_ => Nat.not_le.2 hs_ (by rw [e_]; exact ag.out))) (fun BO => (Kd.Ae (g := af) (o := .cells #[.int .i64 yn, .slice yP yg.length yI, .int .i64 yo, .int .i64 yt] 31 (0, 0)) (kk aa) k_ BO)))) (yJ (bO HB))); have ai := yf.mk (Kd.Ao (Kd.yH (ok' := fun k_ => k_ ≠ af) ho1 (fun k_ BG => Or.elim BG (fun hs_ => Or.elim hs_ (fun hs_ => fun e_ => Nat.not_le.2 hs_ (by rw [e_]; exact ag.out)) (fun hs_ => fun e_ => Nat.not_le.2 hs_ (by rw [e_]; exact ag.out))) (fun BO => (Kd.Ae (g := af) (o := .cells #[.int .i64 yn, .slice yP yg.length yI, .int .i64 yo, .int .i64 yt] 31 (0, 0)) (kk aa) k_ BO)))) (yJ (bO HB))); replace aa := bB aa hb; replace HB := bS HB hb; clear hb; clear ho0; clear ho1) | ((with_reducible refine yK (N := 8) rfl ?_); refine yE rfl (N := 8) rfl (cs := #[.int .i64 0, .slice none 0 0, .int .i64 0, .int .i64 0, .slice none 0 0, .int .i64 0, .int .i64 0]) (t := 71) (by go_simp) ?_; intro ae hg w19 yG hb; have aj := yf.mk (yG); have aG := bG (w := w) hg; have aH := bG (w := w) hg; have av := BL aa hg; have ay := Ag aa hg; replace ah := yf.mk (Kd.zg (Kd.zu (kV ah) ae (Nat.le_of_eq hg.symm)) hb); replace ai := yf.mk (Kd.zg (Kd.zu (kV ai) ae (Nat.le_of_eq hg.symm)) hb); replace aa := bB aa hb; replace HB := bS HB hb; clear hb yG hg; have RV := ay.out; have RX := av.out; have K8 := EP aj; have K9 := bf aj; obtain ⟨a2r, a2s, VY⟩ := Kd.Am ah.out; subst VY; obtain ⟨Xa, Xb, QU⟩ := Kd.Am ai.out; subst QU; have Na := AR aa; have Nb := bf aa))
  go_ret2
  exact ⟨_, by rfl, by exact Kd.Dh _ _ _ _ _, bO HB⟩
 rw [if_neg c15] at H;have GY := decide_eq_false c15;clear c15;obtain ⟨VW, Xz, H⟩ := bE H
 try dsimp only at H
 simp only [Option.some.injEq, Prod.mk.injEq] at H;obtain ⟨rfl, rfl⟩ := H
 go_enter Try.func29, Try.ntmps29
 go_wp2_with (first | ((with_reducible refine yK (N := 3) rfl ?_); refine yE rfl (N := 3) rfl (cs := #[.int .i64 yn, .slice yP yg.length yI, .int .i64 yo, .int .i64 yt]) (t := 31) (by go_simp) ?_; intro af hg w26 yG hb; have aa := yf.mk (yG); have ag := bG (w := w) hg; have aI := bG (w := w) hg; replace HB := bS HB hb; clear hb yG hg; have Hu := AR aa; have Hw := bf aa) | ((with_reducible refine yB (f := 33) rfl ?_); refine gL (some 13) Try.func33 #[.agg #[.int .i64 yn, .slice yP yg.length yI, .int .i64 yo, .int .i64 yt], .slice A1 l1.length c1] ?_; (with_reducible refine (yL.calls k yn (fun k_ => k_ < w.heap.size) _ _ yg yo yt (fun k_ => k_ < w.heap.size) _ _ l1 az au aA aC ak aD ax true _ ?yF ?yM A4.out).mono ?_); (case yF => exact Kd.E8 zG.out (Kd.AX (Kd.Ho (Kd.Bc 3 (Kd.Br .i64)) zq.out) (bO HB))); (case yM => exact Kd.E8 Gd.out (Kd.AX (Kd.Ho DC HR1.out) (bO HB))); rintro e w28 ⟨v359, v364, rfl, ho0, ho1, hb⟩; refine ⟨_, rfl, ?_⟩; have ah := yf.mk (Kd.Ao (Kd.yH (ok' := fun k_ => k_ ≠ af) ho0 (fun k_ BG => Or.elim BG (fun hs_ => Or.elim hs_ (fun hs_ => fun e_ => Nat.not_le.2 hs_ (by rw [e_]; exact ag.out)) (fun hs_ => fun e_ => Nat.not_le.2 hs_ (by rw [e_]; exact ag.out))) (fun BO => (Kd.Ae (g := af) (o := .cells #[.int .i64 yn, .slice yP yg.length yI, .int .i64 yo, .int .i64 yt] 31 (0, 0)) (kk aa) k_ BO)))) (yJ (bO HB))); have ai := yf.mk (Kd.Ao (Kd.yH (ok' := fun k_ => k_ ≠ af) ho1 (fun k_ BG => Or.elim BG (fun hs_ => Or.elim hs_ (fun hs_ => fun e_ => Nat.not_le.2 hs_ (by rw [e_]; exact ag.out)) (fun hs_ => fun e_ => Nat.not_le.2 hs_ (by rw [e_]; exact ag.out))) (fun BO => (Kd.Ae (g := af) (o := .cells #[.int .i64 yn, .slice yP yg.length yI, .int .i64 yo, .int .i64 yt] 31 (0, 0)) (kk aa) k_ BO)))) (yJ (bO HB))); replace aa := bB aa hb; replace HB := bS HB hb; clear hb; clear ho0; clear ho1) | ((with_reducible refine yK (N := 8) rfl ?_); refine yE rfl (N := 8) rfl (cs := #[.int .i64 0, .slice none 0 0, .int .i64 0, .int .i64 0, .slice none 0 0, .int .i64 0, .int .i64 0]) (t := 71) (by go_simp) ?_; intro ae hg w29 yG hb; have aj := yf.mk (yG); have aG := bG (w := w) hg; have aH := bG (w := w) hg; have av := BL aa hg; have ay := Ag aa hg; replace ah := yf.mk (Kd.zg (Kd.zu (kV ah) ae (Nat.le_of_eq hg.symm)) hb); replace ai := yf.mk (Kd.zg (Kd.zu (kV ai) ae (Nat.le_of_eq hg.symm)) hb); replace aa := bB aa hb; replace HB := bS HB hb; clear hb yG hg; have MZ := ay.out; have N7 := av.out; have Lx := EP aj; have LA := bf aj; obtain ⟨Fu, EZ, O5⟩ := Kd.Am ah.out; subst O5; obtain ⟨FV, Fp, Qj⟩ := Kd.Am ai.out; subst Qj; have JX := AR aa; have JY := bf aa) | ((with_reducible refine yB (f := 36) rfl ?_); refine gL (some 31) Try.func36 #[.agg #[.int .i64 az, .slice Fu au.length EZ, .int .i64 aA, .int .i64 aC, .slice FV ak.length Fp, .int .i64 aD, .int .i64 ax], .int .i64 a2] ?_; (with_reducible refine (zH.calls k az _ _ au aA aC _ _ ak aD ax a2 VW _ ?yF ?yM ?zI ?zJ Xz.out).mono ?_); (case yF => refine (Kd.zx (e := 63) (base := w.heap.size) (ok := fun k_ => (k_ ≠ af ∧ k_ ≠ ae)) (n := au.length) (c := EZ) ?_).2.2; exact (by (with_reducible repeat (apply Kd.zh)); exact (Kd.yH (E9 (g := ae) (Kd.yH ah.out (fun k_ hk => (⟨hk, hk.2⟩ : _ ∧ k_ ≠ ae))) (fun _ hk => hk.2)) (fun _ h_ => h_.1)))); (case yM => exact (Kd.zx ah.out).2.1); (case zI => refine (Kd.zx (e := 47) (base := w.heap.size) (ok := fun k_ => (k_ ≠ af ∧ k_ ≠ ae)) (n := ak.length) (c := Fp) ?_).2.2; exact (by (with_reducible repeat (apply Kd.zh)); exact (Kd.yH (E9 (g := ae) (Kd.yH ai.out (fun k_ hk => (⟨hk, hk.2⟩ : _ ∧ k_ ≠ ae))) (fun _ hk => hk.2)) (fun _ h_ => h_.1)))); (case zJ => exact (Kd.zx ai.out).2.1); rintro e w35 ⟨v371, rfl, ho0, hb⟩; refine ⟨_, rfl, ?_⟩; replace ah := yf.mk (Kd.Cm (by (with_reducible repeat (apply Kd.zh)); exact (Kd.yH (E9 (g := ae) (Kd.yH ah.out (fun k_ hk => (⟨hk, hk.2⟩ : _ ∧ k_ ≠ ae))) (fun _ hk => hk.2)) (fun _ h_ => h_.1))) (Kd.AO ho0) hb); replace ai := yf.mk (Kd.Cm (by (with_reducible repeat (apply Kd.zh)); exact (Kd.yH (E9 (g := ae) (Kd.yH ai.out (fun k_ hk => (⟨hk, hk.2⟩ : _ ∧ k_ ≠ ae))) (fun _ hk => hk.2)) (fun _ h_ => h_.1))) (Kd.AO ho0) hb); have aJ := yf.mk (Kd.AL ho0 (yJ (bO HB))); replace aa := yf.mk (yX (g := af) (o := .cells #[.int .i64 yn, .slice yP yg.length yI, .int .i64 yo, .int .i64 yt] 31 (0, 0)) (CF aa rfl) hb); replace aj := yf.mk (yX (g := ae) (o := .cells #[.int .i64 az, .slice Fu au.length EZ, .int .i64 aA, .int .i64 aC, .slice FV ak.length Fp, .int .i64 aD, .int .i64 ax] 71 (0, 0)) (CF aj rfl) hb); replace HB := bS HB hb; clear hb; clear ho0))
 go_ret2
 exact ⟨_, by rfl, by (with_reducible repeat (apply Kd.zl)); exact aJ.out, bO HB⟩
def zy.l0 : Nat → List Int → List Int → Int → Option (Bool)
 | 0, _, _, _ => none
 | k + 1, x0, x1, x5 => if x5 < (x0.length : Int) then (if 0 ≤ x5 then (if x5 < (x1.length : Int) then (if (rd x0 x5) = (rd x1 x5) then (zy.l0 k x0 x1 (wrap64 (x5 + 1))) else (some false)) else (none)) else (none)) else (some true)
def zy.f (k : Nat) (l0 : List Int) (l1 : List Int) : Option (Bool) := if (l0.length : Int) = (l1.length : Int) then (zy.l0 k l0 l1 0) else (some false)
set_option maxHeartbeats 8000000 in
set_option maxRecDepth 100000 in
theorem zy.calls (k : Nat) (A0 : Option Addr) (c0 : Nat) (l0 : List Int) (A1 : Option Addr) (c1 : Nat) (l1 : List Int) (r : Bool) (w : World) (hr0 : Kd.C (Kd.int .i64) w A0 l0.length l0) (hc0 : l0.length ≤ c0) (hr1 : Kd.C (Kd.int .i64) w A1 l1.length l1) (hc1 : l1.length ≤ c1) (h : zy.f k l0 l1 = some r) :
  Calls Try.prog 31 #[.slice A0 l0.length c0, .slice A1 l1.length c1] w fun e w' => e = .returned (.bool r) ∧ zN w w' := by
 have Lm := yf.mk hr0;have WM := yf.mk hc0;clear hr0 hc0;have HR1 := yf.mk hr1;have Gd := yf.mk hc1;clear hr1 hc1
 have H : (if (l0.length : Int) = (l1.length : Int) then (zy.l0 k l0 l1 0) else (some false)) = some r := h
 clear h
 by_cases c3 : (l0.length : Int) = (l1.length : Int)
 rotate_left
 ·
  rw [if_neg c3] at H;have FM := beq_eq_false_iff_ne.mpr c3;have Lg := bne_iff_ne.mpr c3
  have X0 : (l0.length == l1.length) = false := by (simp at c3 ⊢; omega)
  obtain rfl := Option.some.inj H
  go_enter Try.func31, Try.ntmps31
  go_wp2
  repeat (go_quiet (fail); try go_wp2)
  go_ret
  exact ⟨by rfl, by repeat (exact zN.refl _)⟩
 rw [if_pos c3] at H;have FM := beq_iff_eq.mpr c3
 have Lg : ((l0.length : Int) != (l1.length : Int)) = false := bne_eq_false_iff_eq.mpr c3
 have X0 : (l0.length == l1.length) = true := by (simp at c3 ⊢; omega)
 clear c3;have H' := yf.mk H;clear H
 go_enter Try.func31, Try.ntmps31
 go_wp2
 repeat (go_quiet (fail); try go_wp2)
 go_loopg [5] k (fun kq v5 w' => ∃ (yQ : Int), v5 = .int .i64 yQ ∧ yf (zy.l0 kq l0 l1 yQ = some r) ∧ yf (kq ≤ k) ∧ zN w w')
 case atStart => exact ⟨(0), (by rfl), H', ⟨Nat.le_refl _⟩, by repeat (exact zN.refl _)⟩
 case round =>
 clear H' FM Lg X0;obtain ⟨yQ, rfl, HA, BZ, ⟨m1, rfl⟩⟩ := hrel
 cases gk with
 | zero => exact absurd HA.out (by simp [zy.l0])
 | succ k1 =>
 have H := HA.out;clear HA;simp only [zy.l0] at H
 by_cases c4 : yQ < (l0.length : Int)
 rotate_left
 ·
  rw [if_neg c4] at H;have Ex := decide_eq_false c4;clear c4;obtain rfl := Option.some.inj H
  go_wp2
  repeat (go_quiet (fail); try go_wp2)
  go_ret
  exact ⟨by rfl, by repeat (first | exact zN.refl _ | apply zN.step)⟩
 rw [if_pos c4] at H;have Ex := decide_eq_true c4;clear c4
 by_cases c5 : 0 ≤ yQ
 rotate_left
 ·
  rw [if_neg c5] at H;exact absurd H (by simp)
 rw [if_pos c5] at H;have Ez := decide_eq_true c5;clear c5
 by_cases c6 : yQ < (l1.length : Int)
 rotate_left
 ·
  rw [if_neg c6] at H;exact absurd H (by simp)
 rw [if_pos c6] at H;have EU := decide_eq_true c6;clear c6
 by_cases c7 : (rd l0 yQ) = (rd l1 yQ)
 ·
  rw [if_pos c7] at H;have FR := beq_iff_eq.mpr c7
  have Mo : ((rd l0 yQ) != (rd l1 yQ)) = false := bne_eq_false_iff_eq.mpr c7
  clear c7;have H' := yf.mk H;clear H
  have af : 0 ≤ (yQ : Int) := of_decide_eq_true ‹_›
  have ae : yQ < (l0.length : Int) := of_decide_eq_true ‹_›
  obtain ⟨av, ah, ak⟩ := Kd.Bv Lm.out yQ af ae;cases ah;replace af := eq_true af;replace ae := eq_true ae
  have aa : 0 ≤ (yQ : Int) := of_decide_eq_true ‹_›
  have ag : yQ < (l1.length : Int) := of_decide_eq_true ‹_›
  obtain ⟨aj, ai, au⟩ := Kd.Bv HR1.out yQ aa ag;cases ai;replace aa := eq_true aa;replace ag := eq_true ag
  go_wp2
  repeat (go_quiet (fail); try go_wp2)
  go_roundg k1
  case measure => have := BZ.out; omega
  case rel => exact ⟨(wrap64 (yQ + 1)), (by rfl), H', ⟨by have := BZ.out; omega⟩, by repeat (first | exact zN.refl _ | apply zN.step)⟩
 rw [if_neg c7] at H;have FR := beq_eq_false_iff_ne.mpr c7;have Mo := bne_iff_ne.mpr c7;obtain rfl := Option.some.inj H
 have af : 0 ≤ (yQ : Int) := of_decide_eq_true ‹_›
 have ae : yQ < (l0.length : Int) := of_decide_eq_true ‹_›
 obtain ⟨av, ah, ak⟩ := Kd.Bv Lm.out yQ af ae;cases ah;replace af := eq_true af;replace ae := eq_true ae
 have aa : 0 ≤ (yQ : Int) := of_decide_eq_true ‹_›
 have ag : yQ < (l1.length : Int) := of_decide_eq_true ‹_›
 obtain ⟨aj, ai, au⟩ := Kd.Bv HR1.out yQ aa ag;cases ai;replace aa := eq_true aa;replace ag := eq_true ag
 go_wp2
 repeat (go_quiet (fail); try go_wp2)
 go_ret
 exact ⟨by rfl, by repeat (first | exact zN.refl _ | apply zN.step)⟩
end Go.Proofs.Ytjonnfmoocijlaa.P
