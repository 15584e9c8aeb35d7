/- Texts of a claim, packed. -/
import Derived.Test.YtjonnfmoocijlaaD6
set_option linter.all false
namespace Go.Proofs.Ytjonnfmoocijlaa.P
open Go.RowKit Go.Proofs.YtjonnfmoocijlaaKW.PrintWords Go.Proofs.YtjonnfmoocijlaaKW.PrintLast Go.Proofs.YtjonnfmoocijlaaKW.PrintMore
attribute [local go_sem] zz zA zS zT zn zo zB zC
mutual
def yu.l0 : Nat → Int → Int → Int → List Int → List Int → List Int → Int → Option (Int)
 | 0, _, _, _, _, _, _, _ => none
 | k + 1, x0, x7, x8, x9, Fj, EO, GH => if GH < x8 then (yu.l1 k x0 x7 x8 x9 Fj EO GH 0) else (if x0 = 8 then (yu.j2 k x0 x7 x8 EO (([1, 1, 0] : List Int))) else (yu.j2 k x0 x7 x8 EO (([1, 1] : List Int))))
def yu.l1 : Nat → Int → Int → Int → List Int → List Int → List Int → Int → Int → Option (Int)
 | 0, _, _, _, _, _, _, _, _ => none
 | k + 1, x0, x7, x8, x9, Fj, EO, GH, IR => if IR < x8 then (if 0 ≤ (wrap64 (GH + IR)) then (if (wrap64 (GH + IR)) < (EO.length : Int) then (if 0 ≤ GH then (if GH < (x9.length : Int) then (if 0 ≤ IR then (if IR < (Fj.length : Int) then (if x7 = 0 then (none) else (yu.l1 k x0 x7 x8 x9 Fj (EO.set ((wrap64 (GH + IR)) : Int).toNat (Int.tmod (wrap64 ((rd EO (wrap64 (GH + IR))) + (wrap64 ((rd x9 GH) * (rd Fj IR))))) x7)) GH (wrap64 (IR + 1)))) else (none)) else (none)) else (none)) else (none)) else (none)) else (none)) else (yu.l0 k x0 x7 x8 x9 Fj EO (wrap64 (GH + 1)))
def yu.j2 : Nat → Int → Int → Int → List Int → List Int → Option (Int)
 | 0, _, _, _, _, _ => none
 | k + 1, x0, x7, x8, EO, MQ => if x0 = 9 then (yu.j3 k x7 x8 EO (([1, 0] : List Int))) else (yu.j3 k x7 x8 EO MQ)
def yu.j3 : Nat → Int → Int → List Int → List Int → Option (Int)
 | 0, _, _, _, _ => none
 | k + 1, x7, x8, EO, MQ => yu.l2 k x7 x8 EO MQ (wrap64 ((wrap64 (2 * x8)) - 2))
def yu.l2 : Nat → Int → Int → List Int → List Int → Int → Option (Int)
 | 0, _, _, _, _, _ => none
 | k + 1, x7, x8, EO, MQ, OC => if OC ≥ x8 then (yu.l3 k x7 x8 EO MQ OC 0) else (if 0 ≤ x8 then (if x8 ≤ (EO.length : Int) then ((z8.f k (EO.take (x8 : Int).toNat) x7).bind fun Uj => (some Uj)) else (none)) else (none))
def yu.l3 : Nat → Int → Int → List Int → List Int → Int → Int → Option (Int)
 | 0, _, _, _, _, _, _ => none
 | k + 1, x7, x8, EO, MQ, OC, Rk => if Rk < x8 then (if 0 ≤ (wrap64 ((wrap64 (OC - x8)) + Rk)) then (if (wrap64 ((wrap64 (OC - x8)) + Rk)) < (EO.length : Int) then (if 0 ≤ OC then (if OC < (EO.length : Int) then (if 0 ≤ Rk then (if Rk < (MQ.length : Int) then (if x7 = 0 then (none) else (yu.l3 k x7 x8 (EO.set ((wrap64 ((wrap64 (OC - x8)) + Rk)) : Int).toNat (Int.tmod (wrap64 ((rd EO (wrap64 ((wrap64 (OC - x8)) + Rk))) + (wrap64 ((rd EO OC) * (wrap64 (x7 - (rd MQ Rk))))))) x7)) MQ OC (wrap64 (Rk + 1)))) else (none)) else (none)) else (none)) else (none)) else (none)) else (none)) else (if 0 ≤ OC then (if OC < (EO.length : Int) then (yu.l2 k x7 x8 (EO.set (OC : Int).toNat 0) MQ (wrap64 (OC - 1))) else (none)) else (none))
end
def yu.f (k : Nat) (a0 : Int) (a1 : Int) (a2 : Int) : Option (Int) := (yV.f k a0).bind fun DY => (if DY.2 = 1 then (if DY.1 = 0 then (none) else (some (Int.tmod (wrap64 (a1 * a2)) DY.1))) else ((yR.f k a1 DY.1 DY.2).bind fun FT => ((yR.f k a2 DY.1 DY.2).bind fun FU => (if 0 ≤ (wrap64 ((wrap64 (2 * DY.2)) - 1)) then (if (wrap64 ((wrap64 (2 * DY.2)) - 1) : Int).toNat ≤ 35184372088832 then (yu.l0 k a0 DY.1 DY.2 FT FU (List.replicate (wrap64 ((wrap64 (2 * DY.2)) - 1) : Int).toNat 0) 0) else (none)) else (none)))))
theorem yu.mono_l : ∀ k, (∀ y0 y1 y2 y3 y4 y5 y6, zZ (yu.l0 k y0 y1 y2 y3 y4 y5 y6) (yu.l0 (k + 1) y0 y1 y2 y3 y4 y5 y6)) ∧ (∀ y0 y1 y2 y3 y4 y5 y6 y7, zZ (yu.l1 k y0 y1 y2 y3 y4 y5 y6 y7) (yu.l1 (k + 1) y0 y1 y2 y3 y4 y5 y6 y7)) ∧ (∀ y0 y1 y2 y3 y4, zZ (yu.j2 k y0 y1 y2 y3 y4) (yu.j2 (k + 1) y0 y1 y2 y3 y4)) ∧ (∀ y0 y1 y2 y3, zZ (yu.j3 k y0 y1 y2 y3) (yu.j3 (k + 1) y0 y1 y2 y3)) ∧ (∀ y0 y1 y2 y3 y4, zZ (yu.l2 k y0 y1 y2 y3 y4) (yu.l2 (k + 1) y0 y1 y2 y3 y4)) ∧ (∀ y0 y1 y2 y3 y4 y5, zZ (yu.l3 k y0 y1 y2 y3 y4 y5) (yu.l3 (k + 1) y0 y1 y2 y3 y4 y5))
 | 0 => ⟨fun _ _ _ _ _ _ _ r h => by simp [yu.l0] at h, fun _ _ _ _ _ _ _ _ r h => by simp [yu.l1] at h, fun _ _ _ _ _ r h => by simp [yu.j2] at h, fun _ _ _ _ r h => by simp [yu.j3] at h, fun _ _ _ _ _ r h => by simp [yu.l2] at h, fun _ _ _ _ _ _ r h => by simp [yu.l3] at h⟩
 | k + 1 => by
  obtain ⟨DN, ih1, ih2, ih3, PN, Xq⟩ := yu.mono_l k
  refine ⟨?_, ?_, ?_, ?_, ?_, ?_⟩
  ·
   intro y0 y1 y2 y3 y4 y5 y6
   unfold yu.l0
   repeat' first
   | exact DN _ _ _ _ _ _ _
   | exact ih1 _ _ _ _ _ _ _ _
   | exact ih2 _ _ _ _ _
   | exact ih3 _ _ _ _
   | exact PN _ _ _ _ _
   | exact Xq _ _ _ _ _ _
   | exact yV.mono _ _
   | exact yR.mono _ _ _ _
   | exact z8.mono _ _ _
   | exact zZ.refl _
   | exact zZ.none _
   | refine zZ.ite ?_ ?_
   | refine zZ.bind ?_ (fun _ => ?_)
  ·
   intro y0 y1 y2 y3 y4 y5 y6 y7
   unfold yu.l1
   repeat' first
   | exact DN _ _ _ _ _ _ _
   | exact ih1 _ _ _ _ _ _ _ _
   | exact ih2 _ _ _ _ _
   | exact ih3 _ _ _ _
   | exact PN _ _ _ _ _
   | exact Xq _ _ _ _ _ _
   | exact yV.mono _ _
   | exact yR.mono _ _ _ _
   | exact z8.mono _ _ _
   | exact zZ.refl _
   | exact zZ.none _
   | refine zZ.ite ?_ ?_
   | refine zZ.bind ?_ (fun _ => ?_)
  ·
   intro y0 y1 y2 y3 y4
   unfold yu.j2
   repeat' first
   | exact DN _ _ _ _ _ _ _
   | exact ih1 _ _ _ _ _ _ _ _
   | exact ih2 _ _ _ _ _
   | exact ih3 _ _ _ _
   | exact PN _ _ _ _ _
   | exact Xq _ _ _ _ _ _
   | exact yV.mono _ _
   | exact yR.mono _ _ _ _
   | exact z8.mono _ _ _
   | exact zZ.refl _
   | exact zZ.none _
   | refine zZ.ite ?_ ?_
   | refine zZ.bind ?_ (fun _ => ?_)
  ·
   intro y0 y1 y2 y3
   unfold yu.j3
   repeat' first
   | exact DN _ _ _ _ _ _ _
   | exact ih1 _ _ _ _ _ _ _ _
   | exact ih2 _ _ _ _ _
   | exact ih3 _ _ _ _
   | exact PN _ _ _ _ _
   | exact Xq _ _ _ _ _ _
   | exact yV.mono _ _
   | exact yR.mono _ _ _ _
   | exact z8.mono _ _ _
   | exact zZ.refl _
   | exact zZ.none _
   | refine zZ.ite ?_ ?_
   | refine zZ.bind ?_ (fun _ => ?_)
  ·
   intro y0 y1 y2 y3 y4
   unfold yu.l2
   repeat' first
   | exact DN _ _ _ _ _ _ _
   | exact ih1 _ _ _ _ _ _ _ _
   | exact ih2 _ _ _ _ _
   | exact ih3 _ _ _ _
   | exact PN _ _ _ _ _
   | exact Xq _ _ _ _ _ _
   | exact yV.mono _ _
   | exact yR.mono _ _ _ _
   | exact z8.mono _ _ _
   | exact zZ.refl _
   | exact zZ.none _
   | refine zZ.ite ?_ ?_
   | refine zZ.bind ?_ (fun _ => ?_)
  ·
   intro y0 y1 y2 y3 y4 y5
   unfold yu.l3
   repeat' first
   | exact DN _ _ _ _ _ _ _
   | exact ih1 _ _ _ _ _ _ _ _
   | exact ih2 _ _ _ _ _
   | exact ih3 _ _ _ _
   | exact PN _ _ _ _ _
   | exact Xq _ _ _ _ _ _
   | exact yV.mono _ _
   | exact yR.mono _ _ _ _
   | exact z8.mono _ _ _
   | exact zZ.refl _
   | exact zZ.none _
   | refine zZ.ite ?_ ?_
   | refine zZ.bind ?_ (fun _ => ?_)
theorem yu.mono : ∀ a0 a1 a2 k, zZ (yu.f k a0 a1 a2) (yu.f (k + 1) a0 a1 a2) := by
 intro a0 a1 a2 k
 obtain ⟨DN, ih1, ih2, ih3, PN, Xq⟩ := yu.mono_l k
 unfold yu.f
 repeat' first
  | exact DN _ _ _ _ _ _ _
  | exact ih1 _ _ _ _ _ _ _ _
  | exact ih2 _ _ _ _ _
  | exact ih3 _ _ _ _
  | exact PN _ _ _ _ _
  | exact Xq _ _ _ _ _ _
  | exact yV.mono _ _
  | exact yR.mono _ _ _ _
  | exact z8.mono _ _ _
  | exact zZ.refl _
  | exact zZ.none _
  | refine zZ.ite ?_ ?_
  | refine zZ.bind ?_ (fun _ => ?_)
def yu.Xr : Bool × List (List Nat × List Nat) := (true, [([], []), ([], []), ([], []), ([1, 2], [1, 2]), ([], []), ([], []), ([], []), ([5, 6], [5, 6]), ([4, 7], [4, 7]), ([8], [8]), ([], []), ([], []), ([10, 11], [10, 11]), ([12], [12]), ([], []), ([], []), ([14, 15], [14, 15]), ([16], [16]), ([13, 17], [13, 17]), ([9, 18], [9, 18]), ([], []), ([19, 20], [19, 20]), ([0, 3, 0, 1, 2, 3, 4, 5, 6, 7, 8, 9, 10, 11, 12, 13, 14, 15, 16, 17, 18, 19, 20, 21], [0, 3]), ([22, 21, 0, 1, 2, 3, 4, 5, 6, 7, 8, 9, 10, 11, 12, 13, 14, 15, 16, 17, 18, 19, 20, 21], [21, 22])])
def yu.B12 : List Nat := [0, 0, 0, 6, 0, 0, 0, 96, 240, 496, 0, 0, 3072, 7168, 0, 0, 49152, 114688, 261120, 524272, 0, 2097136, 4194303, 8388607]
theorem yu.OD : CX .any (opsOf Try.f59 12) = yu.Xr := by kernel_rfl
theorem yu.Lr : Bi yu.Xr.2 yu.B12 = true := by kernel_rfl
def yu.T24 : Bool × List (List Nat × List Nat) := (true, [([], []), ([], []), ([], []), ([1, 2], [1, 2]), ([], []), ([3, 4], [3, 4]), ([], []), ([], []), ([], []), ([7, 8], [7, 8]), ([], []), ([9, 10], [9, 10]), ([6, 11], [6, 11]), ([12], [12]), ([], []), ([], []), ([14, 15], [14, 15]), ([16], [16]), ([], []), ([], []), ([], []), ([19, 20], [19, 20]), ([21], [21]), ([18, 22], [18, 22]), ([17, 23], [17, 23]), ([13, 24], [13, 24]), ([], []), ([25, 26], [25, 26]), ([0, 5, 0, 1, 2, 3, 4, 5, 6, 7, 8, 9, 10, 11, 12, 13, 14, 15, 16, 17, 18, 19, 20, 21, 22, 23, 24, 25, 26, 27], [0, 5]), ([28, 27, 0, 1, 2, 3, 4, 5, 6, 7, 8, 9, 10, 11, 12, 13, 14, 15, 16, 17, 18, 19, 20, 21, 22, 23, 24, 25, 26, 27], [27, 28])])
def yu.B24 : List Nat := [0, 0, 0, 6, 0, 30, 0, 0, 0, 384, 0, 1920, 4032, 8128, 0, 0, 49152, 114688, 0, 0, 0, 1572864, 3670016, 8126464, 16760832, 33554368, 0, 134217664, 268435455, 536870911]
theorem yu.a0J : CX .any (opsOf Try.f59 24) = yu.T24 := by kernel_rfl
theorem yu.Zp : Bi yu.T24.2 yu.B24 = true := by kernel_rfl
set_option maxHeartbeats 8000000 in
set_option maxRecDepth 100000 in
theorem yu.calls (k : Nat) (a0 : Int) (a1 : Int) (a2 : Int) (r : Int) (w : World) (h : yu.f k a0 a1 a2 = some r) :
  Calls Try.prog 59 #[.int .i64 a0, .int .i64 a1, .int .i64 a2] w fun e w' => e = .returned (.int .i64 r) ∧ Below w.heap.size w w' := by
 have HB := yf.mk (Below.refl w.heap.size w)
 have H : ((yV.f k a0).bind fun DY => (if DY.2 = 1 then (if DY.1 = 0 then (none) else (some (Int.tmod (wrap64 (a1 * a2)) DY.1))) else ((yR.f k a1 DY.1 DY.2).bind fun FT => ((yR.f k a2 DY.1 DY.2).bind fun FU => (if 0 ≤ (wrap64 ((wrap64 (2 * DY.2)) - 1)) then (if (wrap64 ((wrap64 (2 * DY.2)) - 1) : Int).toNat ≤ 35184372088832 then (yu.l0 k a0 DY.1 DY.2 FT FU (List.replicate (wrap64 ((wrap64 (2 * DY.2)) - 1) : Int).toNat 0) 0) else (none)) else (none)))))) = some r := h
 clear h;obtain ⟨⟨ae, af⟩, A4, H⟩ := bE H
 try dsimp only at H
 by_cases c5 : af = 1
 ·
  rw [if_pos c5] at H;have Ez := beq_iff_eq.mpr c5
  have Jj : (af != 1) = false := bne_eq_false_iff_eq.mpr c5
  clear c5
  by_cases c6 : ae = 0
  ·
   rw [if_pos c6] at H;exact absurd H (by simp)
  rw [if_neg c6] at H;have EU := beq_eq_false_iff_ne.mpr c6;have SN := bne_iff_ne.mpr c6;obtain rfl := Option.some.inj H
  go_enter Try.func59, Try.ntmps59
  go_wp2_with (((with_reducible refine yB (f := 76) rfl ?_); refine gL (some 19) Try.func76 #[.int .i64 a0] ?_; (with_reducible refine (yV.calls k a0 ae af _ A4.out).mono ?_); rintro e w' ⟨rfl, ⟨nd, rfl⟩⟩; refine ⟨_, rfl, ?_⟩))
  go_ret
  exact ⟨by rfl, bO HB⟩
 rw [if_neg c5] at H;have Ez := beq_eq_false_iff_ne.mpr c5;have Jj := bne_iff_ne.mpr c5;obtain ⟨FT, A7, H⟩ := bE H
 try dsimp only at H
 obtain ⟨FU, A8, H⟩ := bE H
 try dsimp only at H
 obtain ⟨J3, Qf⟩ : ∃ j_ : Int, (wrap64 ((wrap64 (2 * af)) - 1)) = j_ := ⟨_, rfl⟩
 replace H : (if 0 ≤ (J3) then (if (J3 : Int).toNat ≤ 35184372088832 then (yu.l0 k a0 ae af FT FU (List.replicate (J3 : Int).toNat 0) 0) else (none)) else (none)) = some r := by (rw [Qf] at H; exact H)
 (try rw [Qf] at A4)
 (try rw [Qf] at A7)
 (try rw [Qf] at A8)
 have hji9w : (IntKind.i64.wrap ((wrap64 (2 * af)) - 1)) = J3 := (i64_w _).trans Qf
 by_cases c10 : 0 ≤ (J3)
 rotate_left
 ·
  rw [if_neg c10] at H;exact absurd H (by simp)
 rw [if_pos c10] at H;have Fv := eq_true c10;have MR := decide_eq_true c10;clear c10
 by_cases c11 : (J3 : Int).toNat ≤ 35184372088832
 rotate_left
 ·
  rw [if_neg c11] at H;exact absurd H (by simp)
 rw [if_pos c11] at H;have Gv := eq_true c11;have Uk := decide_eq_true c11;clear c11;obtain ⟨dO, hy128⟩ : ∃ y_ : List Int, y_ = (List.replicate (J3 : Int).toNat 0) := ⟨_, rfl⟩
 replace H : (yu.l0 k a0 ae af FT FU dO 0) = some r := by (rw [hy128]; with_reducible exact H)
 have eQ := yf.mk hy128;clear hy128;have H' := yf.mk H;clear H
 go_enter Try.func59, Try.ntmps59
 go_wp2_with (first | ((with_reducible refine yB (f := 76) rfl ?_); refine gL (some 19) Try.func76 #[.int .i64 a0] ?_; (with_reducible refine (yV.calls k a0 ae af _ A4.out).mono ?_); rintro e w' ⟨rfl, ⟨nd, rfl⟩⟩; refine ⟨_, rfl, ?_⟩) | ((with_reducible refine yB (f := 77) rfl ?_); refine gL (some 32) Try.func77 #[.int .i64 a1, .int .i64 ae, .int .i64 af] ?_; (with_reducible refine (yR.calls k a1 ae af FT _ A7.out).mono ?_); rintro e w12 ⟨v123, rfl, ho0, hb⟩; refine ⟨_, rfl, ?_⟩; have ay := yf.mk (Kd.AL ho0 (yJ (bO HB))); replace HB := bS HB hb; clear hb; clear ho0) | ((with_reducible refine yB (f := 77) rfl ?_); refine gL (some 36) Try.func77 #[.int .i64 a2, .int .i64 ae, .int .i64 af] ?_; (with_reducible refine (yR.calls k a2 ae af FU _ A8.out).mono ?_); rintro e w13 ⟨v126, rfl, ho0, hb⟩; refine ⟨_, rfl, ?_⟩; have aN := yf.mk (Kd.AL (Kd.CE ho0 (Kd.Em (kR ay))) (yJ (bO HB))); replace ay := yf.mk (Kd.Bf (kR ay) (Kd.AO ho0) hb); replace HB := bS HB hb; clear hb; clear ho0) | ((with_reducible refine yK (N := 40) rfl ?_); refine Kd.PX (Kd.int .i64) _ 3 rfl (N := 40) rfl 63 _ _ rfl J3 rfl rfl Try.underlying63 (.int .i64 0) 8 info3 rfl (by decide) (by omega) 0 (ok := fun _ => True) (okp := fun _ => True) rfl (fun _ hk => hk) trivial (of_decide_eq_true ‹_›) (Nat.le_trans (Nat.mul_le_mul_right _ (of_decide_eq_true ‹_› : J3.toNat ≤ 35184372088832)) (by omega)) (Below.refl _ _) (Nat.le_refl _) ?_; intro v129 w14 aD hb H5 CG; clear H5 CG; (rw [← eQ.out] at aD); have fM := yf.mk (Kd.AL (Kd.CE (Kd.CE aD (Kd.Em (kR ay))) (Kd.Em (kR aN))) (yJ (bO HB))); replace ay := yf.mk (Kd.Bf (kR ay) (Kd.AO aD) hb); replace aN := yf.mk (Kd.Bf (kR aN) (Kd.AO aD) hb); replace HB := bS HB hb; clear hb aD))
 go_loopg [12] k (fun kq v12 w' => ∃ (Ay : List Int) (Cn : Int), v12 = .int .i64 Cn ∧ yf (yu.l0 kq a0 ae af FT FU Ay Cn = some r) ∧ yf (kq ≤ k) ∧ yf (Kd.R (Kd.int .i64) 3 w' w.heap.size (fun k_ => some k_ ≠ (v126 : Value).ownBlock ∧ some k_ ≠ (v129 : Value).ownBlock) v123 FT) ∧ yf (Kd.R (Kd.int .i64) 3 w' w.heap.size (fun k_ => some k_ ≠ (v123 : Value).ownBlock ∧ some k_ ≠ (v129 : Value).ownBlock) v126 FU) ∧ yf (Kd.R (Kd.int .i64) 3 w' w.heap.size (fun k_ => some k_ ≠ (v123 : Value).ownBlock ∧ some k_ ≠ (v126 : Value).ownBlock) v129 Ay) ∧ yf (Below w.heap.size w w'))
 case atStart => exact ⟨(dO), (0), (by rfl), H', ⟨Nat.le_refl _⟩, ⟨by (with_reducible repeat (apply Kd.zl)); exact Kd.zb ay.out (fun _ hk => ⟨hk.1.2, hk.2⟩)⟩, ⟨by (with_reducible repeat (apply Kd.zl)); exact Kd.zb aN.out (fun _ hk => ⟨hk.1.2, hk.2⟩)⟩, ⟨by (with_reducible repeat (apply Kd.zl)); exact Kd.zb fM.out (fun _ hk => ⟨hk.1.2, hk.2⟩)⟩, ⟨bO HB⟩⟩
 case round =>
 clear H' c5 Ez Jj Fv MR Gv Uk;obtain ⟨Ay, Cn, rfl, HA, BZ, EW, zk, aa, HB⟩ := hrel
 cases gk with
 | zero => exact absurd HA.out (by simp [yu.l0])
 | succ k1 =>
 have H := HA.out;clear HA;simp only [yu.l0] at H
 by_cases c16 : Cn < af
 ·
  rw [if_pos c16] at H;have G8 := decide_eq_true c16;clear c16;have H' := yf.mk H;clear H
  go_wp2
  go_loopg [13] k1 (fun kq v13 w' => ∃ (ax : List Int) (Cy : Int), v13 = .int .i64 Cy ∧ yf (yu.l1 kq a0 ae af FT FU ax Cn Cy = some r) ∧ yf (kq ≤ k1) ∧ yf (Kd.R (Kd.int .i64) 3 w' w.heap.size (fun k_ => some k_ ≠ (v126 : Value).ownBlock ∧ some k_ ≠ (v129 : Value).ownBlock) v123 FT) ∧ yf (Kd.R (Kd.int .i64) 3 w' w.heap.size (fun k_ => some k_ ≠ (v123 : Value).ownBlock ∧ some k_ ≠ (v129 : Value).ownBlock) v126 FU) ∧ yf (Kd.R (Kd.int .i64) 3 w' w.heap.size (fun k_ => some k_ ≠ (v123 : Value).ownBlock ∧ some k_ ≠ (v126 : Value).ownBlock) v129 ax) ∧ yf (Below w.heap.size w w'))
  case atStart => exact ⟨(Ay), (0), (by rfl), H', ⟨Nat.le_refl _⟩, ⟨kR EW⟩, ⟨kR zk⟩, ⟨kR aa⟩, ⟨bO HB⟩⟩
  case round =>
  clear H' G8;obtain ⟨ax, Cy, rfl, HA, DU, EW, zk, aa, HB⟩ := hrel
  cases gk with
  | zero => exact absurd HA.out (by simp [yu.l1])
  | succ k2 =>
   have H := HA.out;clear HA;simp only [yu.l1] at H
   by_cases c17 : Cy < af
   ·
    rw [if_pos c17] at H;have MS := decide_eq_true c17;clear c17;obtain ⟨ai, dx⟩ : ∃ j_ : Int, (wrap64 (Cn + Cy)) = j_ := ⟨_, rfl⟩
    replace H : (if 0 ≤ (ai) then (if (ai) < (ax.length : Int) then (if 0 ≤ Cn then (if Cn < (FT.length : Int) then (if 0 ≤ Cy then (if Cy < (FU.length : Int) then (if ae = 0 then (none) else (yu.l1 k2 a0 ae af FT FU (ax.set ((ai) : Int).toNat (Int.tmod (wrap64 ((rd ax (ai)) + (wrap64 ((rd FT Cn) * (rd FU Cy))))) ae)) Cn (wrap64 (Cy + 1)))) else (none)) else (none)) else (none)) else (none)) else (none)) else (none)) = some r := by (rw [dx] at H; exact H)
    have hji18w : (IntKind.i64.wrap (Cn + Cy)) = ai := (i64_w _).trans dx
    by_cases c19 : 0 ≤ (ai)
    ·
     rw [if_pos c19] at H;have OE := decide_eq_true c19;clear c19
     by_cases c20 : (ai) < (ax.length : Int)
     ·
      rw [if_pos c20] at H;have IA := decide_eq_true c20;clear c20
      by_cases c21 : 0 ≤ Cn
      ·
       rw [if_pos c21] at H;have Rl := decide_eq_true c21;clear c21
       by_cases Ha : Cn < (FT.length : Int)
       ·
        rw [if_pos Ha] at H;have IB := decide_eq_true Ha;clear Ha
        by_cases c23 : 0 ≤ Cy
        ·
         rw [if_pos c23] at H;have OG := decide_eq_true c23;clear c23
         by_cases c24 : Cy < (FU.length : Int)
         ·
          rw [if_pos c24] at H;have Ls := decide_eq_true c24;clear c24
          by_cases Oh : ae = 0
          ·
           rw [if_pos Oh] at H;exact absurd H (by simp)
          ·
           rw [if_neg Oh] at H;have Rm := beq_eq_false_iff_ne.mpr Oh;have fU := bne_iff_ne.mpr Oh;obtain ⟨dS, bi⟩ : ∃ y_ : List Int, y_ = (ax.set ((ai) : Int).toNat (Int.tmod (wrap64 ((rd ax (ai)) + (wrap64 ((rd FT Cn) * (rd FU Cy))))) ae)) := ⟨_, rfl⟩
           replace H : (yu.l1 k2 a0 ae af FT FU dS Cn (wrap64 (Cy + 1))) = some r := by (rw [bi]; with_reducible exact H)
           have fD := yf.mk bi;clear bi;have H' := yf.mk H;clear H
           try go_wp2
           replace EW := yf.mk (Kd.Cr EW.out);replace zk := yf.mk (Kd.Cr zk.out);replace aa := yf.mk (Kd.Cr aa.out);replace HB := yf.mk (ze HB.out);obtain ⟨DV, DD, Zq⟩ := Kd.zX aa.out
           (subst Zq)
           have bF : 0 ≤ ((ai) : Int) := of_decide_eq_true ‹_›
           have bC : (ai) < (ax.length : Int) := of_decide_eq_true ‹_›
           obtain ⟨gy, eu, bq⟩ := Kd.Bv (Kd.zt aa.out).2.2 (ai) bF bC;cases eu;replace bF := eq_true bF;replace bC := eq_true bC;obtain ⟨gT, gQ, fH⟩ := Kd.zX EW.out
           (subst fH)
           have bn : 0 ≤ (Cn : Int) := of_decide_eq_true ‹_›
           have bQ : Cn < (FT.length : Int) := of_decide_eq_true ‹_›
           obtain ⟨dY, eO, dK⟩ := Kd.Bv (Kd.zt EW.out).2.2 Cn bn bQ;cases eO;replace bn := eq_true bn;replace bQ := eq_true bQ;obtain ⟨gu, gF, eD⟩ := Kd.zX zk.out
           (subst eD)
           have cu : 0 ≤ (Cy : Int) := of_decide_eq_true ‹_›
           have bH : Cy < (FU.length : Int) := of_decide_eq_true ‹_›
           obtain ⟨fJ, fu, dw⟩ := Kd.Bv (Kd.zt zk.out).2.2 Cy cu bH;cases fu;replace cu := eq_true cu;replace bH := eq_true bH
           have p26 : 0 ≤ ((ai) : Int) := of_decide_eq_true ‹_›
           have cZ : ((ai) : Int) < ((ax.length : Int) : Int) := of_decide_eq_true ‹_›
           obtain ⟨aI, SK, Ub, dn, eP, gp, dR⟩ := Kd.He aa.out (by omega)
           (cases Ub)
           have gG := yf.mk dn;have fC := yf.mk dR;clear dn eP dR
           (simp only [add_plain] at bq)
           obtain ⟨fq, fB⟩ := Kd.FY 0 aa.out ((ai) : Int) p26 cZ;replace p26 := eq_true p26;replace cZ := eq_true cZ;have dh := Kd.NA aa.out ((ai) : Int) (Int.tmod (wrap64 ((rd ax (ai)) + (wrap64 ((rd FT Cn) * (rd FU Cy))))) ae);rw [← fD.out] at dh;have dz := yf.mk dh;clear dh
           refine AV (n := 24) (S := fun w' => w'.cell? ⟨aI, ((ai)).toNat, none⟩ = some (.int .i64 (rd ax (ai))) ∧ w'.cell? (dY.add (Cn).toNat) = some (.int .i64 (rd FT Cn)) ∧ w'.cell? (fJ.add (Cy).toNat) = some (.int .i64 (rd FU Cy))) (ds := [23]) (bz 24 0) (by kernel_rfl) rfl rfl ⟨bq, dK, dw⟩ (fun hHeld => ?_); refine zQ yu.OD yu.Lr (fun yD AZ => ?_)
           generalize wr.drew = w27 at EW zk aa HB fC dz fB bq dK dw fq hHeld ⊢;refine pU 0 51 24 1 yD ?_;refine pU 1 52 24 3 yD ?_;refine pU 2 53 24 7 yD ?_;refine pU 3 54 24 15 yD ?_;refine pU 4 55 24 31 yD ?_;refine pU 5 56 24 63 yD ?_;refine pU 6 57 24 127 yD ?_;refine pU 7 58 24 255 yD ?_;refine pU 8 59 24 511 yD ?_;refine pU 10 61 24 1535 yD ?_;refine pU 11 62 24 3583 yD ?_;refine pU 12 63 24 7679 yD ?_;refine pU 14 65 24 24063 yD ?_;refine pU 15 66 24 56831 yD ?_;refine pU 16 67 24 122367 yD ?_;refine pU 20 71 24 1170943 yD ?_
           refine BQ 9 60 24 1171455 yD AZ hHeld ?_
           refine BQ 13 64 24 1179647 yD AZ hHeld ?_
           refine BQ 17 68 24 1310719 yD AZ hHeld ?_
           refine pU 18 69 24 1572863 yD ?_;refine pU 19 70 24 2097151 yD ?_;refine pU 21 72 24 4194303 yD ?_;refine pU 22 73 24 8388607 yD ?_
           refine ML (i := 23) (N := none) (bz 24 16777215) rfl rfl (Af yD.out (by kernel_rfl)) (by decide) (fun K hK => ?_)
           refine G5 (w1 := ?_) (by rfl) rfl ?_ ?_
           rotate_left
           ·
            go_simp
            rfl
           refine hK.out _ _ ?_
           clear hK K
           refine BI (Az yD.out (by kernel_rfl)) ?_
           try go_wp2
           go_roundg k2
           case measure => have := BZ.out; have := DU.out; omega
           case rel => exact ⟨(dS), (wrap64 (Cy + 1)), (by rfl), H', ⟨by have := BZ.out; have := DU.out; omega⟩, ⟨by (with_reducible repeat (apply Kd.zl)); exact Kd.zb (Kd.J6 (p := ⟨aI, ((ai) : Int).toNat, none⟩) (Kd.zb EW.out (fun k_ hk => (⟨hk, fun e_ => hk.2 (by rw [e_]; rfl)⟩ : _ ∧ k_ ≠ aI))) (fun _ hk => hk.2) (.int .i64 (Int.tmod (wrap64 ((rd ax (ai)) + (wrap64 ((rd FT Cn) * (rd FU Cy))))) ae))) (fun _ hk => ⟨hk.1.1, hk.1.2⟩)⟩, ⟨by (with_reducible repeat (apply Kd.zl)); exact Kd.zb (Kd.J6 (p := ⟨aI, ((ai) : Int).toNat, none⟩) (Kd.zb zk.out (fun k_ hk => (⟨hk, fun e_ => hk.2 (by rw [e_]; rfl)⟩ : _ ∧ k_ ≠ aI))) (fun _ hk => hk.2) (.int .i64 (Int.tmod (wrap64 ((rd ax (ai)) + (wrap64 ((rd FT Cn) * (rd FU Cy))))) ae))) (fun _ hk => ⟨hk.1.1, hk.1.2⟩)⟩, ⟨kR dz⟩, ⟨bO HB⟩⟩
         ·
          rw [if_neg c24] at H;exact absurd H (by simp)
        ·
         rw [if_neg c23] at H;exact absurd H (by simp)
       ·
        rw [if_neg Ha] at H;exact absurd H (by simp)
      ·
       rw [if_neg c21] at H;exact absurd H (by simp)
     ·
      rw [if_neg c20] at H;exact absurd H (by simp)
    ·
     rw [if_neg c19] at H;exact absurd H (by simp)
   ·
    rw [if_neg c17] at H;have MS := decide_eq_false c17;clear c17;have H' := yf.mk H;clear H
    go_wp2
    go_roundg k2
    case measure => have := BZ.out; have := DU.out; omega
    case rel => exact ⟨(ax), (wrap64 (Cn + 1)), (by rfl), H', ⟨by have := BZ.out; have := DU.out; omega⟩, ⟨kR EW⟩, ⟨kR zk⟩, ⟨kR aa⟩, ⟨bO HB⟩⟩
 rw [if_neg c16] at H;have G8 := decide_eq_false c16;clear c16;obtain ⟨dQ, bI⟩ : ∃ y_ : List Int, y_ = (([1, 1] : List Int)) := ⟨_, rfl⟩
 replace H : (if a0 = 8 then (yu.j2 k1 a0 ae af Ay (([1, 1, 0] : List Int))) else (yu.j2 k1 a0 ae af Ay dQ)) = some r := by (rw [bI]; with_reducible exact H)
 have fA := yf.mk bI;clear bI;have bL := yf.mk H;clear H
 go_upto_if 76 with (((with_reducible refine yK (N := 74) rfl ?_); refine Kd.Hf (Kd.int .i64) _ 3 ?hg (N := 74) ?hd (xs := ([1, 1] : List Int)) (inner := [.int .i64 1, .int .i64 1]) (ok := fun _ => True) (okp := fun _ => True) ?hr ?hp (fun _ hk => hk) trivial (Below.refl _ _) (Nat.le_refl _) (by simp) ?_; (case hd => rfl); (case hg => rfl); (case hr => go_simp); (case hp => exact (Bo.one (show Kd.M (Kd.int .i64) _ _ _ 1 [.int .i64 1] from rfl) (Bo.one (show Kd.M (Kd.int .i64) _ _ _ 1 [.int .i64 1] from rfl) (Bo.none _ _)))); intro v136 w33 aA hb H5 CG; clear H5 CG; (rw [← fA.out] at aA); have aQ := yf.mk (Kd.AL (Kd.CE (Kd.CE (Kd.CE aA (Kd.Em (kR EW))) (Kd.Em (kR zk))) (Kd.Em (kR aa))) (yJ (bO HB))); replace EW := yf.mk (Kd.Bf (kR EW) (Kd.AO aA) hb); replace zk := yf.mk (Kd.Bf (kR zk) (Kd.AO aA) hb); replace aa := yf.mk (Kd.Bf (kR aa) (Kd.AO aA) hb); replace HB := bS HB hb; clear hb aA))
 (try simp only [pz])
 go_cut [14] (fun v14 wc => ∃ (kq : Nat) (aX : List Int), yf (yu.j2 kq a0 ae af Ay aX = some r) ∧ yf (kq ≤ k1) ∧ yf (Kd.R (Kd.int .i64) 3 wc w.heap.size (fun k_ => some k_ ≠ (v14 : Value).ownBlock) v129 Ay) ∧ yf (Kd.R (Kd.int .i64) 3 wc w.heap.size (fun k_ => some k_ ≠ (v129 : Value).ownBlock) v14 aX) ∧ yf (Below w.heap.size w wc))
 case first =>
  have H := bL.out;clear bL
  by_cases KC : a0 = 8
  rotate_left
  ·
   rw [if_neg KC] at H;have OH := beq_eq_false_iff_ne.mpr KC;have Ul := bne_iff_ne.mpr KC
   (rw [OH])
   have H' := yf.mk H;clear H
   go_wp2
   go_meet
   case rel => exact ⟨_, (dQ), H', ⟨by have := BZ.out; omega⟩, ⟨by (with_reducible repeat (apply Kd.zl)); exact Kd.zb aa.out (fun _ hk => hk.2)⟩, ⟨by (with_reducible repeat (apply Kd.zl)); exact Kd.zb aQ.out (fun _ hk => hk.2)⟩, ⟨bO HB⟩⟩
  rw [if_pos KC] at H;have OH := beq_iff_eq.mpr KC
  have Ul : (a0 != 8) = false := bne_eq_false_iff_eq.mpr KC
  clear KC
  (rw [OH])
  obtain ⟨dC, bR⟩ : ∃ y_ : List Int, y_ = (([1, 1, 0] : List Int)) := ⟨_, rfl⟩
  replace H : (yu.j2 k1 a0 ae af Ay dC) = some r := by (rw [bR]; with_reducible exact H)
  have fI := yf.mk bR;clear bR;have H' := yf.mk H;clear H
  go_wp2_with (((with_reducible refine yK (N := 77) rfl ?_); refine Kd.Hf (Kd.int .i64) _ 3 ?hg (N := 77) ?hd (xs := ([1, 1, 0] : List Int)) (inner := [.int .i64 1, .int .i64 1, .int .i64 0]) (ok := fun _ => True) (okp := fun _ => True) ?hr ?hp (fun _ hk => hk) trivial (Below.refl _ _) (Nat.le_refl _) (by simp) ?_; (case hd => rfl); (case hg => rfl); (case hr => go_simp); (case hp => exact (Bo.one (show Kd.M (Kd.int .i64) _ _ _ 1 [.int .i64 1] from rfl) (Bo.one (show Kd.M (Kd.int .i64) _ _ _ 1 [.int .i64 1] from rfl) (Bo.one (show Kd.M (Kd.int .i64) _ _ _ 0 [.int .i64 0] from rfl) (Bo.none _ _))))); intro v139 w36 az hb H5 CG; clear H5 CG; (rw [← fI.out] at az); have fP := yf.mk (Kd.AL (Kd.CE (Kd.CE (Kd.CE (Kd.CE az (Kd.Em (kR EW))) (Kd.Em (kR zk))) (Kd.Em (kR aa))) (Kd.Em (kR aQ))) (yJ (bO HB))); replace EW := yf.mk (Kd.Bf (kR EW) (Kd.AO az) hb); replace zk := yf.mk (Kd.Bf (kR zk) (Kd.AO az) hb); replace aa := yf.mk (Kd.Bf (kR aa) (Kd.AO az) hb); replace aQ := yf.mk (Kd.Bf (kR aQ) (Kd.AO az) hb); replace HB := bS HB hb; clear hb az))
  go_meet
  case rel => exact ⟨_, (dC), H', ⟨by have := BZ.out; omega⟩, ⟨by (with_reducible repeat (apply Kd.zl)); exact Kd.zb aa.out (fun _ hk => hk.2)⟩, ⟨by (with_reducible repeat (apply Kd.zl)); exact Kd.zb fP.out (fun _ hk => hk.1.2)⟩, ⟨bO HB⟩⟩
 case rest =>
 clear bL G8;obtain ⟨kq, aX, HA, aC, aa, av, HB⟩ := hcut
 cases kq with
 | zero => exact absurd HA.out (by simp [yu.j2])
 | succ dL =>
  have H := HA.out;clear HA;simp only [yu.j2] at H;have bP := yf.mk H;clear H
  go_upto_if 79 with (fail)
  go_cut [14] (fun v14 wc => ∃ (kq : Nat) (au : List Int), yf (yu.j3 kq ae af Ay au = some r) ∧ yf (kq ≤ dL) ∧ yf (Kd.R (Kd.int .i64) 3 wc w.heap.size (fun k_ => some k_ ≠ (v14 : Value).ownBlock) v129 Ay) ∧ yf (Kd.R (Kd.int .i64) 3 wc w.heap.size (fun k_ => some k_ ≠ (v129 : Value).ownBlock) v14 au) ∧ yf (Below w.heap.size w wc))
  case first =>
   have H := bP.out;clear bP
   by_cases Jl : a0 = 9
   ·
    rw [if_pos Jl] at H;have MU := beq_iff_eq.mpr Jl
    have dV : (a0 != 9) = false := bne_eq_false_iff_eq.mpr Jl
    clear Jl
    (rw [MU])
    obtain ⟨dN, bY⟩ : ∃ y_ : List Int, y_ = (([1, 0] : List Int)) := ⟨_, rfl⟩
    replace H : (yu.j3 dL ae af Ay dN) = some r := by (rw [bY]; with_reducible exact H)
    have eB := yf.mk bY;clear bY;have H' := yf.mk H;clear H
    go_wp2_with (((with_reducible refine yK (N := 80) rfl ?_); refine Kd.Hf (Kd.int .i64) _ 3 ?hg (N := 80) ?hd (xs := ([1, 0] : List Int)) (inner := [.int .i64 1, .int .i64 0]) (ok := fun _ => True) (okp := fun _ => True) ?hr ?hp (fun _ hk => hk) trivial (Below.refl _ _) (Nat.le_refl _) (by simp) ?_; (case hd => rfl); (case hg => rfl); (case hr => go_simp); (case hp => exact (Bo.one (show Kd.M (Kd.int .i64) _ _ _ 1 [.int .i64 1] from rfl) (Bo.one (show Kd.M (Kd.int .i64) _ _ _ 0 [.int .i64 0] from rfl) (Bo.none _ _)))); intro v142 w40 aG hb H5 CG; clear H5 CG; (rw [← eB.out] at aG); have eH := yf.mk (Kd.AL (Kd.CE (Kd.CE aG (Kd.Em (kR aa))) (Kd.Em (kR av))) (yJ (bO HB))); replace aa := yf.mk (Kd.Bf (kR aa) (Kd.AO aG) hb); replace av := yf.mk (Kd.Bf (kR av) (Kd.AO aG) hb); replace HB := bS HB hb; clear hb aG))
    go_meet
    case rel => exact ⟨_, (dN), H', ⟨by have := BZ.out; have := aC.out; omega⟩, ⟨by (with_reducible repeat (apply Kd.zl)); exact Kd.zb aa.out (fun _ hk => hk.2)⟩, ⟨by (with_reducible repeat (apply Kd.zl)); exact Kd.zb eH.out (fun _ hk => hk.1.2)⟩, ⟨bO HB⟩⟩
   ·
    rw [if_neg Jl] at H;have MU := beq_eq_false_iff_ne.mpr Jl;have dV := bne_iff_ne.mpr Jl
    (rw [MU])
    have H' := yf.mk H;clear H
    go_wp2
    go_meet
    case rel => exact ⟨_, (aX), H', ⟨by have := BZ.out; have := aC.out; omega⟩, ⟨kR aa⟩, ⟨kR av⟩, ⟨bO HB⟩⟩
  case rest =>
   clear bP;obtain ⟨kq, au, HA, aK, aa, av, HB⟩ := hcut
   cases kq with
   | zero => exact absurd HA.out (by simp [yu.j3])
   | succ dm =>
    have H := HA.out;clear HA;simp only [yu.j3] at H;have H' := yf.mk H;clear H
    go_wp2
    go_loopg [15] dm (fun kq v15 w' => ∃ (Ei : List Int) (ag : Int), v15 = .int .i64 ag ∧ yf (yu.l2 kq ae af Ei au ag = some r) ∧ yf (kq ≤ dm) ∧ yf (Kd.R (Kd.int .i64) 3 w' w.heap.size (fun k_ => some k_ ≠ (u14 : Value).ownBlock) v129 Ei) ∧ yf (Kd.R (Kd.int .i64) 3 w' w.heap.size (fun k_ => some k_ ≠ (v129 : Value).ownBlock) u14 au) ∧ yf (Below w.heap.size w w'))
    case atStart => exact ⟨(Ay), (wrap64 ((wrap64 (2 * af)) - 2)), (by rfl), H', ⟨Nat.le_refl _⟩, ⟨kR aa⟩, ⟨kR av⟩, ⟨bO HB⟩⟩
    case round =>
     clear H';obtain ⟨Ei, ag, rfl, HA, NQ, aa, av, HB⟩ := hrel
     cases gk with
     | zero => exact absurd HA.out (by simp [yu.l2])
     | succ k4 =>
      have H := HA.out;clear HA;simp only [yu.l2] at H
      by_cases IQ : ag ≥ af
      ·
       rw [if_pos IQ] at H;have Lj := decide_eq_true IQ;clear IQ;have H' := yf.mk H;clear H
       go_wp2
       go_loopg [16] k4 (fun kq v16 w' => ∃ (ah : List Int) (aj : Int), v16 = .int .i64 aj ∧ yf (yu.l3 kq ae af ah au ag aj = some r) ∧ yf (kq ≤ k4) ∧ yf (Kd.R (Kd.int .i64) 3 w' w.heap.size (fun k_ => some k_ ≠ (u14 : Value).ownBlock) v129 ah) ∧ yf (Kd.R (Kd.int .i64) 3 w' w.heap.size (fun k_ => some k_ ≠ (v129 : Value).ownBlock) u14 au) ∧ yf (Below w.heap.size w w'))
       case atStart => exact ⟨(Ei), (0), (by rfl), H', ⟨Nat.le_refl _⟩, ⟨kR aa⟩, ⟨kR av⟩, ⟨bO HB⟩⟩
       case round =>
        clear H' Lj;obtain ⟨ah, aj, rfl, HA, aM, aa, av, HB⟩ := hrel
        cases gk with
        | zero => exact absurd HA.out (by simp [yu.l3])
        | succ k5 =>
         have H := HA.out;clear HA;simp only [yu.l3] at H
         by_cases PP : aj < af
         ·
          rw [if_pos PP] at H;have Um := decide_eq_true PP;clear PP;obtain ⟨ak, dM⟩ : ∃ j_ : Int, (wrap64 ((wrap64 (ag - af)) + aj)) = j_ := ⟨_, rfl⟩
          replace H : (if 0 ≤ (ak) then (if (ak) < (ah.length : Int) then (if 0 ≤ ag then (if ag < (ah.length : Int) then (if 0 ≤ aj then (if aj < (au.length : Int) then (if ae = 0 then (none) else (yu.l3 k5 ae af (ah.set ((ak) : Int).toNat (Int.tmod (wrap64 ((rd ah (ak)) + (wrap64 ((rd ah ag) * (wrap64 (ae - (rd au aj))))))) ae)) au ag (wrap64 (aj + 1)))) else (none)) else (none)) else (none)) else (none)) else (none)) else (none)) = some r := by (rw [dM] at H; exact H)
          have hji44w : (IntKind.i64.wrap ((wrap64 (ag - af)) + aj)) = ak := (i64_w _).trans dM
          by_cases PO : 0 ≤ (ak)
          ·
           rw [if_pos PO] at H;have Ug := decide_eq_true PO;clear PO
           by_cases c46 : (ak) < (ah.length : Int)
           ·
            rw [if_pos c46] at H;have a0E := decide_eq_true c46;clear c46
            by_cases Ji : 0 ≤ ag
            ·
             rw [if_pos Ji] at H;have Ll := decide_eq_true Ji;clear Ji
             by_cases aV : ag < (ah.length : Int)
             ·
              rw [if_pos aV] at H;have fQ := decide_eq_true aV;clear aV
              by_cases c49 : 0 ≤ aj
              ·
               rw [if_pos c49] at H;have gz := decide_eq_true c49;clear c49
               by_cases aU : aj < (au.length : Int)
               ·
                rw [if_pos aU] at H;have gB := decide_eq_true aU;clear aU
                by_cases c51 : ae = 0
                ·
                 rw [if_pos c51] at H;exact absurd H (by simp)
                ·
                 rw [if_neg c51] at H;have gD := beq_eq_false_iff_ne.mpr c51;have gV := bne_iff_ne.mpr c51;obtain ⟨dD, bu⟩ : ∃ y_ : List Int, y_ = (ah.set ((ak) : Int).toNat (Int.tmod (wrap64 ((rd ah (ak)) + (wrap64 ((rd ah ag) * (wrap64 (ae - (rd au aj))))))) ae)) := ⟨_, rfl⟩
                 replace H : (yu.l3 k5 ae af dD au ag (wrap64 (aj + 1))) = some r := by (rw [bu]; with_reducible exact H)
                 have fG := yf.mk bu;clear bu;have H' := yf.mk H;clear H
                 try go_wp2
                 replace aa := yf.mk (Kd.Cr aa.out);replace av := yf.mk (Kd.Cr av.out);replace HB := yf.mk (ze HB.out);obtain ⟨Zr, Zt, Qg⟩ := Kd.zX aa.out
                 (subst Qg)
                 have bW : 0 ≤ ((ak) : Int) := of_decide_eq_true ‹_›
                 have aZ : (ak) < (ah.length : Int) := of_decide_eq_true ‹_›
                 obtain ⟨dX, dZ, bN⟩ := Kd.Bv (Kd.zt aa.out).2.2 (ak) bW aZ;cases dZ;replace bW := eq_true bW;replace aZ := eq_true aZ
                 have bD : 0 ≤ (ag : Int) := of_decide_eq_true ‹_›
                 have bg : ag < (ah.length : Int) := of_decide_eq_true ‹_›
                 obtain ⟨ek, eG, bX⟩ := Kd.Bv (Kd.zt aa.out).2.2 ag bD bg;obtain rfl : dX = ek := (by injection eG);replace bD := eq_true bD;replace bg := eq_true bg;obtain ⟨a2T, a2U, Zu⟩ := Kd.zX av.out
                 (subst Zu)
                 have bT : 0 ≤ (aj : Int) := of_decide_eq_true ‹_›
                 have bZ : aj < (au.length : Int) := of_decide_eq_true ‹_›
                 obtain ⟨fw, eT, di⟩ := Kd.Bv (Kd.zt av.out).2.2 aj bT bZ;cases eT;replace bT := eq_true bT;replace bZ := eq_true bZ
                 have p52 : 0 ≤ ((ak) : Int) := of_decide_eq_true ‹_›
                 have cK : ((ak) : Int) < ((ah.length : Int) : Int) := of_decide_eq_true ‹_›
                 obtain ⟨aW, gH, eY, dB, dU, gK, dP⟩ := Kd.He aa.out (by omega)
                 (cases eY)
                 have gq := yf.mk dB;have ed := yf.mk dP;clear dB dU dP
                 (simp only [add_plain] at bN)
                 (simp only [add_plain] at bX)
                 obtain ⟨fF, eU⟩ := Kd.FY 0 aa.out ((ak) : Int) p52 cK;replace p52 := eq_true p52;replace cK := eq_true cK;have bV := Kd.NA aa.out ((ak) : Int) (Int.tmod (wrap64 ((rd ah (ak)) + (wrap64 ((rd ah ag) * (wrap64 (ae - (rd au aj))))))) ae);rw [← fG.out] at bV;have dI := yf.mk bV;clear bV
                 refine AV (n := 30) (S := fun w' => w'.cell? ⟨aW, ((ak)).toNat, none⟩ = some (.int .i64 (rd ah (ak))) ∧ w'.cell? ⟨aW, (ag).toNat, none⟩ = some (.int .i64 (rd ah ag)) ∧ w'.cell? (fw.add (aj).toNat) = some (.int .i64 (rd au aj))) (ds := [29]) (bz 30 0) (by kernel_rfl) rfl rfl ⟨bN, bX, di⟩ (fun hHeld => ?_); refine zQ yu.a0J yu.Zp (fun yD AZ => ?_)
                 generalize wr.drew = w53 at aa av HB ed dI eU bN bX di fF hHeld ⊢;refine pU 0 94 30 1 yD ?_;refine pU 1 95 30 3 yD ?_;refine pU 2 96 30 7 yD ?_;refine pU 3 97 30 15 yD ?_;refine pU 4 98 30 31 yD ?_;refine pU 5 99 30 63 yD ?_;refine pU 6 100 30 127 yD ?_;refine pU 7 101 30 255 yD ?_;refine pU 8 102 30 511 yD ?_;refine pU 9 103 30 1023 yD ?_;refine pU 10 104 30 2047 yD ?_;refine pU 11 105 30 4095 yD ?_;refine pU 12 106 30 8191 yD ?_;refine pU 14 108 30 24575 yD ?_;refine pU 15 109 30 57343 yD ?_;refine pU 16 110 30 122879 yD ?_;refine pU 18 112 30 385023 yD ?_;refine pU 19 113 30 909311 yD ?_;refine pU 20 114 30 1957887 yD ?_;refine pU 21 115 30 4055039 yD ?_;refine pU 26 120 30 71163903 yD ?_
                 refine BQ 13 107 30 71172095 yD AZ hHeld ?_
                 refine BQ 17 111 30 71303167 yD AZ hHeld ?_
                 refine BQ 22 116 30 75497471 yD AZ hHeld ?_
                 refine pU 23 117 30 83886079 yD ?_;refine pU 24 118 30 100663295 yD ?_;refine pU 25 119 30 134217727 yD ?_;refine pU 27 121 30 268435455 yD ?_;refine pU 28 122 30 536870911 yD ?_
                 refine ML (i := 29) (N := none) (bz 30 1073741823) rfl rfl (Af yD.out (by kernel_rfl)) (by decide) (fun K hK => ?_)
                 refine G5 (w1 := ?_) (by rfl) rfl ?_ ?_
                 rotate_left
                 ·
                  go_simp
                  rfl
                 refine hK.out _ _ ?_
                 clear hK K
                 refine BI (Az yD.out (by kernel_rfl)) ?_
                 try go_wp2
                 go_roundg k5
                 case measure => have := BZ.out; have := aC.out; have := aK.out; have := NQ.out; have := aM.out; omega
                 case rel => exact ⟨(dD), (wrap64 (aj + 1)), (by rfl), H', ⟨by have := BZ.out; have := aC.out; have := aK.out; have := NQ.out; have := aM.out; omega⟩, ⟨kR dI⟩, ⟨by (with_reducible repeat (apply Kd.zl)); exact Kd.zb (Kd.J6 (p := ⟨aW, ((ak) : Int).toNat, none⟩) (Kd.zb av.out (fun k_ hk => (⟨hk, fun e_ => hk (by rw [e_]; rfl)⟩ : _ ∧ k_ ≠ aW))) (fun _ hk => hk.2) (.int .i64 (Int.tmod (wrap64 ((rd ah (ak)) + (wrap64 ((rd ah ag) * (wrap64 (ae - (rd au aj))))))) ae))) (fun _ hk => hk.1)⟩, ⟨bO HB⟩⟩
               ·
                rw [if_neg aU] at H;exact absurd H (by simp)
              ·
               rw [if_neg c49] at H;exact absurd H (by simp)
             ·
              rw [if_neg aV] at H;exact absurd H (by simp)
            ·
             rw [if_neg Ji] at H;exact absurd H (by simp)
           ·
            rw [if_neg c46] at H;exact absurd H (by simp)
          ·
           rw [if_neg PO] at H;exact absurd H (by simp)
         ·
          rw [if_neg PP] at H;have Um := decide_eq_false PP;clear PP
          by_cases aT : 0 ≤ ag
          ·
           rw [if_pos aT] at H;have gI := decide_eq_true aT;clear aT
           by_cases PQ : ag < (ah.length : Int)
           ·
            rw [if_pos PQ] at H;have Un := decide_eq_true PQ;clear PQ;obtain ⟨d9, bv⟩ : ∃ y_ : List Int, y_ = (ah.set (ag : Int).toNat 0) := ⟨_, rfl⟩
            replace H : (yu.l2 k5 ae af d9 au (wrap64 (ag - 1))) = some r := by (rw [bv]; with_reducible exact H)
            have fE := yf.mk bv;clear bv;have H' := yf.mk H;clear H
            have p59 : 0 ≤ (ag : Int) := of_decide_eq_true ‹_›
            have bM : (ag : Int) < ((ah.length : Int) : Int) := of_decide_eq_true ‹_›
            obtain ⟨aJ, WN, Zv, dJ, dW, gP, dF⟩ := Kd.He aa.out (by omega)
            (cases Zv)
            have fe := yf.mk dJ;have gM := yf.mk dF;clear dJ dW dF;obtain ⟨fV, fT⟩ := Kd.FY 0 aa.out (ag : Int) p59 bM;replace p59 := eq_true p59;replace bM := eq_true bM;have cO := Kd.NC aa.out (ag : Int) 0
            go_wp2_with (((with_reducible refine FJ (t := 3) (p := 125) rfl ?_); refine F7 (t := 3) (p := 125) (v := ?vo_w61) (w1 := (wr.setCell ⟨aJ, (ag : Int).toNat, none⟩ (.int .i64 0))) ?hg ?ho ?hn ?hr ?_; (case ho => rfl); (case hg => rfl); (case hn => rfl); (case hr => go_simp); intro w61 hw; have hg : wr.grownBy w61 (some aJ) := (by rw [hw]; exact cO.2); have Re : Kd.R (Kd.int .i64) 3 w61 w.heap.size (fun k_ => some k_ ≠ (u14 : Value).ownBlock) (.slice (some ⟨aJ, 0, none⟩) ah.length WN) d9 := (by rw [hw, fE.out]; exact cO.1); clear cO; replace aa := yf.mk (Re); replace av := yf.mk (Kd.KL (v := (.slice (some ⟨aJ, 0, none⟩) ah.length WN)) (v1 := (.slice (some ⟨aJ, 0, none⟩) ah.length WN)) (ok := (fun _ => True)) (by (with_reducible repeat (apply Kd.zl)); exact Kd.zb av.out (fun _ hk => ⟨trivial, hk⟩)) hg (.inl rfl)); replace HB := yf.mk ((by rw [hw]; exact Dk (HB.out) fe.out : Below w.heap.size w w61)); clear hg hw Re))
            go_roundg k5
            case measure => have := BZ.out; have := aC.out; have := aK.out; have := NQ.out; have := aM.out; omega
            case rel => exact ⟨(d9), (wrap64 (ag - 1)), (by rfl), H', ⟨by have := BZ.out; have := aC.out; have := aK.out; have := NQ.out; have := aM.out; omega⟩, ⟨kR aa⟩, ⟨by (with_reducible repeat (apply Kd.zl)); exact Kd.zb av.out (fun _ hk => hk.2)⟩, ⟨bO HB⟩⟩
           ·
            rw [if_neg PQ] at H;exact absurd H (by simp)
          ·
           rw [if_neg aT] at H;exact absurd H (by simp)
      ·
       rw [if_neg IQ] at H;have Lj := decide_eq_false IQ;clear IQ
       by_cases Oi : 0 ≤ af
       ·
        rw [if_pos Oi] at H;have Xt := eq_true Oi;have Xu := decide_eq_true Oi;clear Oi
        by_cases Qh : af ≤ (Ei.length : Int)
        ·
         rw [if_pos Qh] at H;have gU := eq_true Qh;have gW := decide_eq_true Qh;clear Qh;obtain ⟨aH, bJ⟩ : ∃ y_ : List Int, y_ = (Ei.take (af : Int).toNat) := ⟨_, rfl⟩
         replace H : ((z8.f k4 aH ae).bind fun Uj => (some Uj)) = some r := by (rw [bJ]; with_reducible exact H)
         have dE := yf.mk bJ;clear bJ;obtain ⟨Uj, eF, H⟩ := bE H
         try dsimp only at H
         obtain rfl := Option.some.inj H;obtain ⟨bU, aY, eZ⟩ := Kd.zX aa.out;subst eZ
         have bA : (af : Int) ≤ ((Ei.length : Int) : Int) := of_decide_eq_true ‹_›
         obtain ⟨fZ, dG, _, fK, _⟩ := info_parts info3
         have dH : Ei.length ≤ aY := (Kd.zt aa.out).2.1
         have dA : Kd.C (Kd.int .i64) _ bU Ei.length Ei := (Kd.zt aa.out).2.2
         have fO := YQ (P := Try.prog) 63 3 .i64 Try.underlying63 dG bU Ei.length aY af (of_decide_eq_true ‹_›) bA dH;have df := Kd.YS (m := (af : Int).toNat) dA (by omega)
         have cz : aH.length = (af : Int).toNat := (by rw [dE.out, List.length_take]; omega)
         rw [← dE.out] at df;rw [← cz] at fO;have fo := yf.mk df;have eX := yf.mk (show aH.length ≤ aY from by omega);clear df dA dH dG fK;have gN := yf.mk cz;clear cz
         have gJ := yf.mk (show (af : Int).toNat ≤ Ei.length from by omega)
         replace bA := eq_true bA
         go_wp2_with (((with_reducible refine yB (f := 78) rfl ?_); refine gL (some 130) Try.func78 #[.slice bU aH.length aY, .int .i64 ae] ?_; (with_reducible refine (z8.calls k4 _ _ aH ae Uj _ ?yF ?yM eF.out).mono ?_); (case yF => repeat (exact (by repeat ((with_reducible exact fo.out))))); (case yM => exact eX.out); rintro e w' ⟨rfl, ⟨nd, rfl⟩⟩; refine ⟨_, rfl, ?_⟩))
         go_ret
         exact ⟨by rfl, bO HB⟩
        ·
         rw [if_neg Qh] at H;exact absurd H (by simp)
       ·
        rw [if_neg Oi] at H;exact absurd H (by simp)
end Go.Proofs.Ytjonnfmoocijlaa.P
