/- Texts of a claim, packed. -/
import Derived.Test.YtjonnfmoocijlaaC6
set_option linter.all false
namespace Go.Proofs.Ytjonnfmoocijlaa.P
open Go.RowKit Go.Proofs.YtjonnfmoocijlaaKW.PrintWords Go.Proofs.YtjonnfmoocijlaaKW.PrintLast Go.Proofs.YtjonnfmoocijlaaKW.PrintMore
attribute [local go_sem] zO zP Aj Ak zC zD zQ zR
mutual
def yx.l0 : Nat → Int → Int → Int → List Int → List Int → List Int → Int → Option (Int)
 | 0, _, _, _, _, _, _, _ => none
 | k + 1, x0, x7, x8, x9, F5, EK, Ga => if Ga < x8 then (yx.l1 k x0 x7 x8 x9 F5 EK Ga 0) else (if x0 = 8 then (yx.j2 k x0 x7 x8 EK (([1, 1, 0] : List Int))) else (yx.j2 k x0 x7 x8 EK (([1, 1] : List Int))))
def yx.l1 : Nat → Int → Int → Int → List Int → List Int → List Int → Int → Int → Option (Int)
 | 0, _, _, _, _, _, _, _, _ => none
 | k + 1, x0, x7, x8, x9, F5, EK, Ga, F6 => if F6 < x8 then (if 0 ≤ (wrap64 (Ga + F6)) then (if (wrap64 (Ga + F6)) < (EK.length : Int) then (if 0 ≤ Ga then (if Ga < (x9.length : Int) then (if 0 ≤ F6 then (if F6 < (F5.length : Int) then (if x7 = 0 then (none) else (yx.l1 k x0 x7 x8 x9 F5 (EK.set ((wrap64 (Ga + F6)) : Int).toNat (Int.tmod (wrap64 ((rd EK (wrap64 (Ga + F6))) + (wrap64 ((rd x9 Ga) * (rd F5 F6))))) x7)) Ga (wrap64 (F6 + 1)))) else (none)) else (none)) else (none)) else (none)) else (none)) else (none)) else (yx.l0 k x0 x7 x8 x9 F5 EK (wrap64 (Ga + 1)))
def yx.j2 : Nat → Int → Int → Int → List Int → List Int → Option (Int)
 | 0, _, _, _, _, _ => none
 | k + 1, x0, x7, x8, EK, IG => if x0 = 9 then (yx.j3 k x7 x8 EK (([1, 0] : List Int))) else (yx.j3 k x7 x8 EK IG)
def yx.j3 : Nat → Int → Int → List Int → List Int → Option (Int)
 | 0, _, _, _, _ => none
 | k + 1, x7, x8, EK, IG => yx.l2 k x7 x8 EK IG (wrap64 ((wrap64 (2 * x8)) - 2))
def yx.l2 : Nat → Int → Int → List Int → List Int → Int → Option (Int)
 | 0, _, _, _, _, _ => none
 | k + 1, x7, x8, EK, IG, Ig => if Ig ≥ x8 then (yx.l3 k x7 x8 EK IG Ig 0) else (if 0 ≤ x8 then (if x8 ≤ (EK.length : Int) then ((zo.f k (EK.take (x8 : Int).toNat) x7).bind fun Wu => (some Wu)) else (none)) else (none))
def yx.l3 : Nat → Int → Int → List Int → List Int → Int → Int → Option (Int)
 | 0, _, _, _, _, _, _ => none
 | k + 1, x7, x8, EK, IG, Ig, KI => if KI < x8 then (if 0 ≤ (wrap64 ((wrap64 (Ig - x8)) + KI)) then (if (wrap64 ((wrap64 (Ig - x8)) + KI)) < (EK.length : Int) then (if 0 ≤ Ig then (if Ig < (EK.length : Int) then (if 0 ≤ KI then (if KI < (IG.length : Int) then (if x7 = 0 then (none) else (yx.l3 k x7 x8 (EK.set ((wrap64 ((wrap64 (Ig - x8)) + KI)) : Int).toNat (Int.tmod (wrap64 ((rd EK (wrap64 ((wrap64 (Ig - x8)) + KI))) + (wrap64 ((rd EK Ig) * (wrap64 (x7 - (rd IG KI))))))) x7)) IG Ig (wrap64 (KI + 1)))) else (none)) else (none)) else (none)) else (none)) else (none)) else (none)) else (if 0 ≤ Ig then (if Ig < (EK.length : Int) then (yx.l2 k x7 x8 (EK.set (Ig : Int).toNat 0) IG (wrap64 (Ig - 1))) else (none)) else (none))
end
def yx.f (k : Nat) (a0 : Int) (a1 : Int) (a2 : Int) : Option (Int) := (zf.f k a0).bind fun EL => (if EL.2 = 1 then (if EL.1 = 0 then (none) else (some (Int.tmod (wrap64 (a1 * a2)) EL.1))) else ((yY.f k a1 EL.1 EL.2).bind fun He => ((yY.f k a2 EL.1 EL.2).bind fun Hf => (if 0 ≤ (wrap64 ((wrap64 (2 * EL.2)) - 1)) then (if (wrap64 ((wrap64 (2 * EL.2)) - 1) : Int).toNat ≤ 35184372088832 then (yx.l0 k a0 EL.1 EL.2 He Hf (List.replicate (wrap64 ((wrap64 (2 * EL.2)) - 1) : Int).toNat 0) 0) else (none)) else (none)))))
theorem yx.mono_l : ∀ k, (∀ y0 y1 y2 y3 y4 y5 y6, BP (yx.l0 k y0 y1 y2 y3 y4 y5 y6) (yx.l0 (k + 1) y0 y1 y2 y3 y4 y5 y6)) ∧ (∀ y0 y1 y2 y3 y4 y5 y6 y7, BP (yx.l1 k y0 y1 y2 y3 y4 y5 y6 y7) (yx.l1 (k + 1) y0 y1 y2 y3 y4 y5 y6 y7)) ∧ (∀ y0 y1 y2 y3 y4, BP (yx.j2 k y0 y1 y2 y3 y4) (yx.j2 (k + 1) y0 y1 y2 y3 y4)) ∧ (∀ y0 y1 y2 y3, BP (yx.j3 k y0 y1 y2 y3) (yx.j3 (k + 1) y0 y1 y2 y3)) ∧ (∀ y0 y1 y2 y3 y4, BP (yx.l2 k y0 y1 y2 y3 y4) (yx.l2 (k + 1) y0 y1 y2 y3 y4)) ∧ (∀ y0 y1 y2 y3 y4 y5, BP (yx.l3 k y0 y1 y2 y3 y4 y5) (yx.l3 (k + 1) y0 y1 y2 y3 y4 y5))
 | 0 => ⟨fun _ _ _ _ _ _ _ r h => by simp [yx.l0] at h, fun _ _ _ _ _ _ _ _ r h => by simp [yx.l1] at h, fun _ _ _ _ _ r h => by simp [yx.j2] at h, fun _ _ _ _ r h => by simp [yx.j3] at h, fun _ _ _ _ _ r h => by simp [yx.l2] at h, fun _ _ _ _ _ _ r h => by simp [yx.l3] at h⟩
 | k + 1 => by
  obtain ⟨Gg, ih1, ih2, ih3, Su, ih5⟩ := yx.mono_l k
  refine ⟨?_, ?_, ?_, ?_, ?_, ?_⟩
  ·
   intro y0 y1 y2 y3 y4 y5 y6
   unfold yx.l0
   repeat' first
   | exact Gg _ _ _ _ _ _ _
   | exact ih1 _ _ _ _ _ _ _ _
   | exact ih2 _ _ _ _ _
   | exact ih3 _ _ _ _
   | exact Su _ _ _ _ _
   | exact ih5 _ _ _ _ _ _
   | exact zf.mono _ _
   | exact yY.mono _ _ _ _
   | exact zo.mono _ _ _
   | exact BP.refl _
   | exact BP.none _
   | refine BP.ite ?_ ?_
   | refine BP.bind ?_ (fun _ => ?_)
  ·
   intro y0 y1 y2 y3 y4 y5 y6 y7
   unfold yx.l1
   repeat' first
   | exact Gg _ _ _ _ _ _ _
   | exact ih1 _ _ _ _ _ _ _ _
   | exact ih2 _ _ _ _ _
   | exact ih3 _ _ _ _
   | exact Su _ _ _ _ _
   | exact ih5 _ _ _ _ _ _
   | exact zf.mono _ _
   | exact yY.mono _ _ _ _
   | exact zo.mono _ _ _
   | exact BP.refl _
   | exact BP.none _
   | refine BP.ite ?_ ?_
   | refine BP.bind ?_ (fun _ => ?_)
  ·
   intro y0 y1 y2 y3 y4
   unfold yx.j2
   repeat' first
   | exact Gg _ _ _ _ _ _ _
   | exact ih1 _ _ _ _ _ _ _ _
   | exact ih2 _ _ _ _ _
   | exact ih3 _ _ _ _
   | exact Su _ _ _ _ _
   | exact ih5 _ _ _ _ _ _
   | exact zf.mono _ _
   | exact yY.mono _ _ _ _
   | exact zo.mono _ _ _
   | exact BP.refl _
   | exact BP.none _
   | refine BP.ite ?_ ?_
   | refine BP.bind ?_ (fun _ => ?_)
  ·
   intro y0 y1 y2 y3
   unfold yx.j3
   repeat' first
   | exact Gg _ _ _ _ _ _ _
   | exact ih1 _ _ _ _ _ _ _ _
   | exact ih2 _ _ _ _ _
   | exact ih3 _ _ _ _
   | exact Su _ _ _ _ _
   | exact ih5 _ _ _ _ _ _
   | exact zf.mono _ _
   | exact yY.mono _ _ _ _
   | exact zo.mono _ _ _
   | exact BP.refl _
   | exact BP.none _
   | refine BP.ite ?_ ?_
   | refine BP.bind ?_ (fun _ => ?_)
  ·
   intro y0 y1 y2 y3 y4
   unfold yx.l2
   repeat' first
   | exact Gg _ _ _ _ _ _ _
   | exact ih1 _ _ _ _ _ _ _ _
   | exact ih2 _ _ _ _ _
   | exact ih3 _ _ _ _
   | exact Su _ _ _ _ _
   | exact ih5 _ _ _ _ _ _
   | exact zf.mono _ _
   | exact yY.mono _ _ _ _
   | exact zo.mono _ _ _
   | exact BP.refl _
   | exact BP.none _
   | refine BP.ite ?_ ?_
   | refine BP.bind ?_ (fun _ => ?_)
  ·
   intro y0 y1 y2 y3 y4 y5
   unfold yx.l3
   repeat' first
   | exact Gg _ _ _ _ _ _ _
   | exact ih1 _ _ _ _ _ _ _ _
   | exact ih2 _ _ _ _ _
   | exact ih3 _ _ _ _
   | exact Su _ _ _ _ _
   | exact ih5 _ _ _ _ _ _
   | exact zf.mono _ _
   | exact yY.mono _ _ _ _
   | exact zo.mono _ _ _
   | exact BP.refl _
   | exact BP.none _
   | refine BP.ite ?_ ?_
   | refine BP.bind ?_ (fun _ => ?_)
theorem yx.mono : ∀ a0 a1 a2 k, BP (yx.f k a0 a1 a2) (yx.f (k + 1) a0 a1 a2) := by
 intro a0 a1 a2 k
 obtain ⟨Gg, ih1, ih2, ih3, Su, ih5⟩ := yx.mono_l k
 unfold yx.f
 repeat' first
  | exact Gg _ _ _ _ _ _ _
  | exact ih1 _ _ _ _ _ _ _ _
  | exact ih2 _ _ _ _ _
  | exact ih3 _ _ _ _
  | exact Su _ _ _ _ _
  | exact ih5 _ _ _ _ _ _
  | exact zf.mono _ _
  | exact yY.mono _ _ _ _
  | exact zo.mono _ _ _
  | exact BP.refl _
  | exact BP.none _
  | refine BP.ite ?_ ?_
  | refine BP.bind ?_ (fun _ => ?_)
def yx.T12 : Bool × List (List Nat × List Nat) := (true, [([], []), ([], []), ([], []), ([1, 2], [1, 2]), ([], []), ([], []), ([], []), ([5, 6], [5, 6]), ([4, 7], [4, 7]), ([8], [8]), ([], []), ([], []), ([10, 11], [10, 11]), ([12], [12]), ([], []), ([], []), ([14, 15], [14, 15]), ([16], [16]), ([13, 17], [13, 17]), ([9, 18], [9, 18]), ([], []), ([19, 20], [19, 20]), ([0, 3, 0, 1, 2, 3, 4, 5, 6, 7, 8, 9, 10, 11, 12, 13, 14, 15, 16, 17, 18, 19, 20, 21], [0, 3]), ([22, 21, 0, 1, 2, 3, 4, 5, 6, 7, 8, 9, 10, 11, 12, 13, 14, 15, 16, 17, 18, 19, 20, 21], [21, 22])])
def yx.B12 : List Nat := [0, 0, 0, 6, 0, 0, 0, 96, 240, 496, 0, 0, 3072, 7168, 0, 0, 49152, 114688, 261120, 524272, 0, 2097136, 4194303, 8388607]
theorem yx.M6 : CZ .any (opsOf Try.f59 12) = yx.T12 := by kernel_rfl
theorem yx.Jb : BD yx.T12.2 yx.B12 = true := by kernel_rfl
def yx.T24 : Bool × List (List Nat × List Nat) := (true, [([], []), ([], []), ([], []), ([1, 2], [1, 2]), ([], []), ([3, 4], [3, 4]), ([], []), ([], []), ([], []), ([7, 8], [7, 8]), ([], []), ([9, 10], [9, 10]), ([6, 11], [6, 11]), ([12], [12]), ([], []), ([], []), ([14, 15], [14, 15]), ([16], [16]), ([], []), ([], []), ([], []), ([19, 20], [19, 20]), ([21], [21]), ([18, 22], [18, 22]), ([17, 23], [17, 23]), ([13, 24], [13, 24]), ([], []), ([25, 26], [25, 26]), ([0, 5, 0, 1, 2, 3, 4, 5, 6, 7, 8, 9, 10, 11, 12, 13, 14, 15, 16, 17, 18, 19, 20, 21, 22, 23, 24, 25, 26, 27], [0, 5]), ([28, 27, 0, 1, 2, 3, 4, 5, 6, 7, 8, 9, 10, 11, 12, 13, 14, 15, 16, 17, 18, 19, 20, 21, 22, 23, 24, 25, 26, 27], [27, 28])])
def yx.B24 : List Nat := [0, 0, 0, 6, 0, 30, 0, 0, 0, 384, 0, 1920, 4032, 8128, 0, 0, 49152, 114688, 0, 0, 0, 1572864, 3670016, 8126464, 16760832, 33554368, 0, 134217664, 268435455, 536870911]
theorem yx.a4r : CZ .any (opsOf Try.f59 24) = yx.T24 := by kernel_rfl
theorem yx.a2j : BD yx.T24.2 yx.B24 = true := by kernel_rfl
set_option maxHeartbeats 8000000 in
set_option maxRecDepth 100000 in
theorem yx.calls (k : Nat) (a0 : Int) (a1 : Int) (a2 : Int) (r : Int) (w : World) (h : yx.f k a0 a1 a2 = some r) :
  Calls Try.prog 59 #[.int .i64 a0, .int .i64 a1, .int .i64 a2] w fun e w' => e = .returned (.int .i64 r) ∧ Below w.heap.size w w' := by
 have HB := yf.mk (Below.refl w.heap.size w)
 have H : ((zf.f k a0).bind fun EL => (if EL.2 = 1 then (if EL.1 = 0 then (none) else (some (Int.tmod (wrap64 (a1 * a2)) EL.1))) else ((yY.f k a1 EL.1 EL.2).bind fun He => ((yY.f k a2 EL.1 EL.2).bind fun Hf => (if 0 ≤ (wrap64 ((wrap64 (2 * EL.2)) - 1)) then (if (wrap64 ((wrap64 (2 * EL.2)) - 1) : Int).toNat ≤ 35184372088832 then (yx.l0 k a0 EL.1 EL.2 He Hf (List.replicate (wrap64 ((wrap64 (2 * EL.2)) - 1) : Int).toNat 0) 0) else (none)) else (none)))))) = some r := h
 clear h;obtain ⟨⟨ae, af⟩, A4, H⟩ := bE H
 try dsimp only at H
 by_cases c5 : af = 1
 ·
  rw [if_pos c5] at H;have FE := beq_iff_eq.mpr c5
  have MF : (af != 1) = false := bne_eq_false_iff_eq.mpr c5
  clear c5
  by_cases c6 : ae = 0
  ·
   rw [if_pos c6] at H;exact absurd H (by simp)
  rw [if_neg c6] at H;have EJ := beq_eq_false_iff_ne.mpr c6;have IX := bne_iff_ne.mpr c6;obtain rfl := Option.some.inj H
  go_enter Try.func59, Try.ntmps59
  go_wp2_with (((with_reducible refine yw (f := 76) rfl ?_); refine gL (some 19) Try.func76 #[.int .i64 a0] ?_; (with_reducible refine (zf.calls k a0 ae af _ A4.out).mono ?_); rintro e w' ⟨rfl, ⟨nd, rfl⟩⟩; refine ⟨_, rfl, ?_⟩))
  go_ret
  exact ⟨by rfl, bO HB⟩
 rw [if_neg c5] at H;have FE := beq_eq_false_iff_ne.mpr c5;have MF := bne_iff_ne.mpr c5;obtain ⟨He, A7, H⟩ := bE H
 try dsimp only at H
 obtain ⟨Hf, A8, H⟩ := bE H
 try dsimp only at H
 obtain ⟨Kn, Tc⟩ : ∃ j_ : Int, (wrap64 ((wrap64 (2 * af)) - 1)) = j_ := ⟨_, rfl⟩
 replace H : (if 0 ≤ (Kn) then (if (Kn : Int).toNat ≤ 35184372088832 then (yx.l0 k a0 ae af He Hf (List.replicate (Kn : Int).toNat 0) 0) else (none)) else (none)) = some r := by (rw [Tc] at H; exact H)
 (try rw [Tc] at A4)
 (try rw [Tc] at A7)
 (try rw [Tc] at A8)
 have hji9w : (IntKind.i64.wrap ((wrap64 (2 * af)) - 1)) = Kn := (i64_w _).trans Tc
 by_cases c10 : 0 ≤ (Kn)
 rotate_left
 ·
  rw [if_neg c10] at H;exact absurd H (by simp)
 rw [if_pos c10] at H;have Gi := eq_true c10;have M7 := decide_eq_true c10;clear c10
 by_cases c11 : (Kn : Int).toNat ≤ 35184372088832
 rotate_left
 ·
  rw [if_neg c11] at H;exact absurd H (by simp)
 rw [if_pos c11] at H;have GD := eq_true c11;have Uc := decide_eq_true c11;clear c11;obtain ⟨dM, hy128⟩ : ∃ y_ : List Int, y_ = (List.replicate (Kn : Int).toNat 0) := ⟨_, rfl⟩
 replace H : (yx.l0 k a0 ae af He Hf dM 0) = some r := by (rw [hy128]; with_reducible exact H)
 have fo := yf.mk hy128;clear hy128;have H' := yf.mk H;clear H
 go_enter Try.func59, Try.ntmps59
 go_wp2_with (first | ((with_reducible refine yw (f := 76) rfl ?_); refine gL (some 19) Try.func76 #[.int .i64 a0] ?_; (with_reducible refine (zf.calls k a0 ae af _ A4.out).mono ?_); rintro e w' ⟨rfl, ⟨nd, rfl⟩⟩; refine ⟨_, rfl, ?_⟩) | ((with_reducible refine yw (f := 77) rfl ?_); refine gL (some 32) Try.func77 #[.int .i64 a1, .int .i64 ae, .int .i64 af] ?_; (with_reducible refine (yY.calls k a1 ae af He _ A7.out).mono ?_); rintro e w12 ⟨v123, rfl, ho0, hb⟩; refine ⟨_, rfl, ?_⟩; have ax := yf.mk (Kd.Ay ho0 (yL (bO HB))); replace HB := bS HB hb; clear hb; clear ho0) | ((with_reducible refine yw (f := 77) rfl ?_); refine gL (some 36) Try.func77 #[.int .i64 a2, .int .i64 ae, .int .i64 af] ?_; (with_reducible refine (yY.calls k a2 ae af Hf _ A8.out).mono ?_); rintro e w13 ⟨v126, rfl, ho0, hb⟩; refine ⟨_, rfl, ?_⟩; have aQ := yf.mk (Kd.Ay (Kd.C8 ho0 (Kd.DV (kR ax))) (yL (bO HB))); replace ax := yf.mk (Kd.Bb (kR ax) (Kd.Bh ho0) hb); replace HB := bS HB hb; clear hb; clear ho0) | ((with_reducible refine yI (N := 40) rfl ?_); refine Kd.MS (Kd.int .i64) _ 3 rfl (N := 40) rfl 63 _ _ rfl Kn rfl rfl Try.underlying63 (.int .i64 0) 8 info3 rfl (by decide) (by omega) 0 (ok := fun _ => True) (okp := fun _ => True) rfl (fun _ hk => hk) trivial (of_decide_eq_true ‹_›) (Nat.le_trans (Nat.mul_le_mul_right _ (of_decide_eq_true ‹_› : Kn.toNat ≤ 35184372088832)) (by omega)) (Below.refl _ _) (Nat.le_refl _) ?_; intro v129 w14 aG hb JN DW; clear JN DW; (rw [← fo.out] at aG); have fw := yf.mk (Kd.Ay (Kd.C8 (Kd.C8 aG (Kd.DV (kR ax))) (Kd.DV (kR aQ))) (yL (bO HB))); replace ax := yf.mk (Kd.Bb (kR ax) (Kd.Bh aG) hb); replace aQ := yf.mk (Kd.Bb (kR aQ) (Kd.Bh aG) hb); replace HB := bS HB hb; clear hb aG))
 go_loopg [12] k (fun kq v12 w' => ∃ (AV : List Int) (Bv : Int), v12 = .int .i64 Bv ∧ yf (yx.l0 kq a0 ae af He Hf AV Bv = some r) ∧ yf (kq ≤ k) ∧ yf (Kd.R (Kd.int .i64) 3 w' w.heap.size (fun k_ => some k_ ≠ (v126 : Value).ownBlock ∧ some k_ ≠ (v129 : Value).ownBlock) v123 He) ∧ yf (Kd.R (Kd.int .i64) 3 w' w.heap.size (fun k_ => some k_ ≠ (v123 : Value).ownBlock ∧ some k_ ≠ (v129 : Value).ownBlock) v126 Hf) ∧ yf (Kd.R (Kd.int .i64) 3 w' w.heap.size (fun k_ => some k_ ≠ (v123 : Value).ownBlock ∧ some k_ ≠ (v126 : Value).ownBlock) v129 AV) ∧ yf (Below w.heap.size w w'))
 case atStart => exact ⟨(dM), (0), (by rfl), H', ⟨Nat.le_refl _⟩, ⟨by (with_reducible repeat (apply Kd.yZ)); exact Kd.yX ax.out (fun _ hk => ⟨hk.1.2, hk.2⟩)⟩, ⟨by (with_reducible repeat (apply Kd.yZ)); exact Kd.yX aQ.out (fun _ hk => ⟨hk.1.2, hk.2⟩)⟩, ⟨by (with_reducible repeat (apply Kd.yZ)); exact Kd.yX fw.out (fun _ hk => ⟨hk.1.2, hk.2⟩)⟩, ⟨bO HB⟩⟩
 case round =>
 clear H' c5 FE MF Gi M7 GD Uc;obtain ⟨AV, Bv, rfl, HA, BJ, zT, zB, aa, HB⟩ := hrel
 cases gk with
 | zero => exact absurd HA.out (by simp [yx.l0])
 | succ k1 =>
 have H := HA.out;clear HA;simp only [yx.l0] at H
 by_cases c16 : Bv < af
 ·
  rw [if_pos c16] at H;have Fy := decide_eq_true c16;clear c16;have H' := yf.mk H;clear H
  go_wp2
  go_loopg [13] k1 (fun kq v13 w' => ∃ (av : List Int) (BF : Int), v13 = .int .i64 BF ∧ yf (yx.l1 kq a0 ae af He Hf av Bv BF = some r) ∧ yf (kq ≤ k1) ∧ yf (Kd.R (Kd.int .i64) 3 w' w.heap.size (fun k_ => some k_ ≠ (v126 : Value).ownBlock ∧ some k_ ≠ (v129 : Value).ownBlock) v123 He) ∧ yf (Kd.R (Kd.int .i64) 3 w' w.heap.size (fun k_ => some k_ ≠ (v123 : Value).ownBlock ∧ some k_ ≠ (v129 : Value).ownBlock) v126 Hf) ∧ yf (Kd.R (Kd.int .i64) 3 w' w.heap.size (fun k_ => some k_ ≠ (v123 : Value).ownBlock ∧ some k_ ≠ (v126 : Value).ownBlock) v129 av) ∧ yf (Below w.heap.size w w'))
  case atStart => exact ⟨(AV), (0), (by rfl), H', ⟨Nat.le_refl _⟩, ⟨kR zT⟩, ⟨kR zB⟩, ⟨kR aa⟩, ⟨bO HB⟩⟩
  case round =>
  clear H' Fy;obtain ⟨av, BF, rfl, HA, D6, zT, zB, aa, HB⟩ := hrel
  cases gk with
  | zero => exact absurd HA.out (by simp [yx.l1])
  | succ k2 =>
   have H := HA.out;clear HA;simp only [yx.l1] at H
   by_cases c17 : BF < af
   ·
    rw [if_pos c17] at H;have Nk := decide_eq_true c17;clear c17;obtain ⟨ai, dz⟩ : ∃ j_ : Int, (wrap64 (Bv + BF)) = j_ := ⟨_, rfl⟩
    replace H : (if 0 ≤ (ai) then (if (ai) < (av.length : Int) then (if 0 ≤ Bv then (if Bv < (He.length : Int) then (if 0 ≤ BF then (if BF < (Hf.length : Int) then (if ae = 0 then (none) else (yx.l1 k2 a0 ae af He Hf (av.set ((ai) : Int).toNat (Int.tmod (wrap64 ((rd av (ai)) + (wrap64 ((rd He Bv) * (rd Hf BF))))) ae)) Bv (wrap64 (BF + 1)))) else (none)) else (none)) else (none)) else (none)) else (none)) else (none)) = some r := by (rw [dz] at H; exact H)
    have hji18w : (IntKind.i64.wrap (Bv + BF)) = ai := (i64_w _).trans dz
    by_cases c19 : 0 ≤ (ai)
    ·
     rw [if_pos c19] at H;have QK := decide_eq_true c19;clear c19
     by_cases c20 : (ai) < (av.length : Int)
     ·
      rw [if_pos c20] at H;have KJ := decide_eq_true c20;clear c20
      by_cases c21 : 0 ≤ Bv
      ·
       rw [if_pos c21] at H;have QL := decide_eq_true c21;clear c21
       by_cases Ih : Bv < (He.length : Int)
       ·
        rw [if_pos Ih] at H;have JV := decide_eq_true Ih;clear Ih
        by_cases c23 : 0 ≤ BF
        ·
         rw [if_pos c23] at H;have QM := decide_eq_true c23;clear c23
         by_cases c24 : BF < (Hf.length : Int)
         ·
          rw [if_pos c24] at H;have Nl := decide_eq_true c24;clear c24
          by_cases M8 : ae = 0
          ·
           rw [if_pos M8] at H;exact absurd H (by simp)
          ·
           rw [if_neg M8] at H;have OV := beq_eq_false_iff_ne.mpr M8;have a05 := bne_iff_ne.mpr M8;obtain ⟨dI, bX⟩ : ∃ y_ : List Int, y_ = (av.set ((ai) : Int).toNat (Int.tmod (wrap64 ((rd av (ai)) + (wrap64 ((rd He Bv) * (rd Hf BF))))) ae)) := ⟨_, rfl⟩
           replace H : (yx.l1 k2 a0 ae af He Hf dI Bv (wrap64 (BF + 1))) = some r := by (rw [bX]; with_reducible exact H)
           have ed := yf.mk bX;clear bX;have H' := yf.mk H;clear H
           try go_wp2
           replace zT := yf.mk (Kd.AQ zT.out);replace zB := yf.mk (Kd.AQ zB.out);replace aa := yf.mk (Kd.AQ aa.out);replace HB := yf.mk (za HB.out);obtain ⟨Td, Te, a2k⟩ := Kd.zJ aa.out
           (subst a2k)
           have bW : 0 ≤ ((ai) : Int) := of_decide_eq_true ‹_›
           have bV : (ai) < (av.length : Int) := of_decide_eq_true ‹_›
           obtain ⟨gD, dN, bD⟩ := Kd.C9 (Kd.yT aa.out).2.2 (ai) bW bV;cases dN;replace bW := eq_true bW;replace bV := eq_true bV;obtain ⟨gy, fG, dP⟩ := Kd.zJ zT.out
           (subst dP)
           have bA : 0 ≤ (Bv : Int) := of_decide_eq_true ‹_›
           have aV : Bv < (He.length : Int) := of_decide_eq_true ‹_›
           obtain ⟨eQ, eT, dm⟩ := Kd.C9 (Kd.yT zT.out).2.2 Bv bA aV;cases eT;replace bA := eq_true bA;replace aV := eq_true aV;obtain ⟨fJ, fH, fB⟩ := Kd.zJ zB.out
           (subst fB)
           have bC : 0 ≤ (BF : Int) := of_decide_eq_true ‹_›
           have bL : BF < (Hf.length : Int) := of_decide_eq_true ‹_›
           obtain ⟨fe, dU, dJ⟩ := Kd.C9 (Kd.yT zB.out).2.2 BF bC bL;cases dU;replace bC := eq_true bC;replace bL := eq_true bL
           have p26 : 0 ≤ ((ai) : Int) := of_decide_eq_true ‹_›
           have aU : ((ai) : Int) < ((av.length : Int) : Int) := of_decide_eq_true ‹_›
           obtain ⟨aD, Dt, SX, dn, eD, fV, dL⟩ := Kd.HZ aa.out (by omega)
           (cases SX)
           have gz := yf.mk dn;have fE := yf.mk dL;clear dn eD dL
           (simp only [add_plain] at bD)
           obtain ⟨dS, dQ⟩ := Kd.FJ 0 aa.out ((ai) : Int) p26 aU;replace p26 := eq_true p26;replace aU := eq_true aU;have aX := Kd.PQ aa.out ((ai) : Int) (Int.tmod (wrap64 ((rd av (ai)) + (wrap64 ((rd He Bv) * (rd Hf BF))))) ae);rw [← ed.out] at aX;have df := yf.mk aX;clear aX
           refine Bc (n := 24) (S := fun w' => w'.cell? ⟨aD, ((ai)).toNat, none⟩ = some (.int .i64 (rd av (ai))) ∧ w'.cell? (eQ.add (Bv).toNat) = some (.int .i64 (rd He Bv)) ∧ w'.cell? (fe.add (BF).toNat) = some (.int .i64 (rd Hf BF))) (ds := [23]) (bz 24 0) (by kernel_rfl) rfl rfl ⟨bD, dm, dJ⟩ (fun hHeld => ?_); refine zF yx.M6 yx.Jb (fun yz Bi => ?_)
           generalize wr.drew = w27 at zT zB aa HB fE df dQ bD dm dJ dS hHeld ⊢;refine pU 0 51 24 1 yz ?_;refine pU 1 52 24 3 yz ?_;refine pU 2 53 24 7 yz ?_;refine pU 3 54 24 15 yz ?_;refine pU 4 55 24 31 yz ?_;refine pU 5 56 24 63 yz ?_;refine pU 6 57 24 127 yz ?_;refine pU 7 58 24 255 yz ?_;refine pU 8 59 24 511 yz ?_;refine pU 10 61 24 1535 yz ?_;refine pU 11 62 24 3583 yz ?_;refine pU 12 63 24 7679 yz ?_;refine pU 14 65 24 24063 yz ?_;refine pU 15 66 24 56831 yz ?_;refine pU 16 67 24 122367 yz ?_;refine pU 20 71 24 1170943 yz ?_
           refine BO 9 60 24 1171455 yz Bi hHeld ?_
           refine BO 13 64 24 1179647 yz Bi hHeld ?_
           refine BO 17 68 24 1310719 yz Bi hHeld ?_
           refine pU 18 69 24 1572863 yz ?_;refine pU 19 70 24 2097151 yz ?_;refine pU 21 72 24 4194303 yz ?_;refine pU 22 73 24 8388607 yz ?_
           refine OL (i := 23) (N := none) (bz 24 16777215) rfl rfl (Af yz.out (by kernel_rfl)) (by decide) (fun K hK => ?_)
           refine IR (w1 := ?_) (by rfl) rfl ?_ ?_
           rotate_left
           ·
            go_simp
            rfl
           refine hK.out _ _ ?_
           clear hK K
           refine BG (Al yz.out (by kernel_rfl)) ?_
           try go_wp2
           go_roundg k2
           case measure => have := BJ.out; have := D6.out; omega
           case rel => exact ⟨(dI), (wrap64 (BF + 1)), (by rfl), H', ⟨by have := BJ.out; have := D6.out; omega⟩, ⟨by (with_reducible repeat (apply Kd.yZ)); exact Kd.yX (Kd.Kt (p := ⟨aD, ((ai) : Int).toNat, none⟩) (Kd.yX zT.out (fun k_ hk => (⟨hk, fun e_ => hk.2 (by rw [e_]; rfl)⟩ : _ ∧ k_ ≠ aD))) (fun _ hk => hk.2) (.int .i64 (Int.tmod (wrap64 ((rd av (ai)) + (wrap64 ((rd He Bv) * (rd Hf BF))))) ae))) (fun _ hk => ⟨hk.1.1, hk.1.2⟩)⟩, ⟨by (with_reducible repeat (apply Kd.yZ)); exact Kd.yX (Kd.Kt (p := ⟨aD, ((ai) : Int).toNat, none⟩) (Kd.yX zB.out (fun k_ hk => (⟨hk, fun e_ => hk.2 (by rw [e_]; rfl)⟩ : _ ∧ k_ ≠ aD))) (fun _ hk => hk.2) (.int .i64 (Int.tmod (wrap64 ((rd av (ai)) + (wrap64 ((rd He Bv) * (rd Hf BF))))) ae))) (fun _ hk => ⟨hk.1.1, hk.1.2⟩)⟩, ⟨kR df⟩, ⟨bO HB⟩⟩
         ·
          rw [if_neg c24] at H;exact absurd H (by simp)
        ·
         rw [if_neg c23] at H;exact absurd H (by simp)
       ·
        rw [if_neg Ih] at H;exact absurd H (by simp)
      ·
       rw [if_neg c21] at H;exact absurd H (by simp)
     ·
      rw [if_neg c20] at H;exact absurd H (by simp)
    ·
     rw [if_neg c19] at H;exact absurd H (by simp)
   ·
    rw [if_neg c17] at H;have Nk := decide_eq_false c17;clear c17;have H' := yf.mk H;clear H
    go_wp2
    go_roundg k2
    case measure => have := BJ.out; have := D6.out; omega
    case rel => exact ⟨(av), (wrap64 (Bv + 1)), (by rfl), H', ⟨by have := BJ.out; have := D6.out; omega⟩, ⟨kR zT⟩, ⟨kR zB⟩, ⟨kR aa⟩, ⟨bO HB⟩⟩
 rw [if_neg c16] at H;have Fy := decide_eq_false c16;clear c16;obtain ⟨cO, bv⟩ : ∃ y_ : List Int, y_ = (([1, 1] : List Int)) := ⟨_, rfl⟩
 replace H : (if a0 = 8 then (yx.j2 k1 a0 ae af AV (([1, 1, 0] : List Int))) else (yx.j2 k1 a0 ae af AV cO)) = some r := by (rw [bv]; with_reducible exact H)
 have eH := yf.mk bv;clear bv;have bJ := yf.mk H;clear H
 go_upto_if 76 with (((with_reducible refine yI (N := 74) rfl ?_); refine Kd.J4 (Kd.int .i64) _ 3 ?hg (N := 74) ?hd (xs := ([1, 1] : List Int)) (inner := [.int .i64 1, .int .i64 1]) (ok := fun _ => True) (okp := fun _ => True) ?hr ?hp (fun _ hk => hk) trivial (Below.refl _ _) (Nat.le_refl _) (by simp) ?_; (case hd => rfl); (case hg => rfl); (case hr => go_simp); (case hp => exact (Cj.one (show Kd.M (Kd.int .i64) _ _ _ 1 [.int .i64 1] from rfl) (Cj.one (show Kd.M (Kd.int .i64) _ _ _ 1 [.int .i64 1] from rfl) (Cj.none _ _)))); intro v136 w33 ay hb JN DW; clear JN DW; (rw [← eH.out] at ay); have aM := yf.mk (Kd.Ay (Kd.C8 (Kd.C8 (Kd.C8 ay (Kd.DV (kR zT))) (Kd.DV (kR zB))) (Kd.DV (kR aa))) (yL (bO HB))); replace zT := yf.mk (Kd.Bb (kR zT) (Kd.Bh ay) hb); replace zB := yf.mk (Kd.Bb (kR zB) (Kd.Bh ay) hb); replace aa := yf.mk (Kd.Bb (kR aa) (Kd.Bh ay) hb); replace HB := bS HB hb; clear hb ay))
 (try simp only [pz])
 go_cut [14] (fun v14 wc => ∃ (kq : Nat) (aK : List Int), yf (yx.j2 kq a0 ae af AV aK = some r) ∧ yf (kq ≤ k1) ∧ yf (Kd.R (Kd.int .i64) 3 wc w.heap.size (fun k_ => some k_ ≠ (v14 : Value).ownBlock) v129 AV) ∧ yf (Kd.R (Kd.int .i64) 3 wc w.heap.size (fun k_ => some k_ ≠ (v129 : Value).ownBlock) v14 aK) ∧ yf (Below w.heap.size w wc))
 case first =>
  have H := bJ.out;clear bJ
  by_cases Ko : a0 = 8
  rotate_left
  ·
   rw [if_neg Ko] at H;have QN := beq_eq_false_iff_ne.mpr Ko;have Wv := bne_iff_ne.mpr Ko
   (rw [QN])
   have H' := yf.mk H;clear H
   go_wp2
   go_meet
   case rel => exact ⟨_, (cO), H', ⟨by have := BJ.out; omega⟩, ⟨by (with_reducible repeat (apply Kd.yZ)); exact Kd.yX aa.out (fun _ hk => hk.2)⟩, ⟨by (with_reducible repeat (apply Kd.yZ)); exact Kd.yX aM.out (fun _ hk => hk.2)⟩, ⟨bO HB⟩⟩
  rw [if_pos Ko] at H;have QN := beq_iff_eq.mpr Ko
  have Wv : (a0 != 8) = false := bne_eq_false_iff_eq.mpr Ko
  clear Ko
  (rw [QN])
  obtain ⟨dh, bN⟩ : ∃ y_ : List Int, y_ = (([1, 1, 0] : List Int)) := ⟨_, rfl⟩
  replace H : (yx.j2 k1 a0 ae af AV dh) = some r := by (rw [bN]; with_reducible exact H)
  have dZ := yf.mk bN;clear bN;have H' := yf.mk H;clear H
  go_wp2_with (((with_reducible refine yI (N := 77) rfl ?_); refine Kd.J4 (Kd.int .i64) _ 3 ?hg (N := 77) ?hd (xs := ([1, 1, 0] : List Int)) (inner := [.int .i64 1, .int .i64 1, .int .i64 0]) (ok := fun _ => True) (okp := fun _ => True) ?hr ?hp (fun _ hk => hk) trivial (Below.refl _ _) (Nat.le_refl _) (by simp) ?_; (case hd => rfl); (case hg => rfl); (case hr => go_simp); (case hp => exact (Cj.one (show Kd.M (Kd.int .i64) _ _ _ 1 [.int .i64 1] from rfl) (Cj.one (show Kd.M (Kd.int .i64) _ _ _ 1 [.int .i64 1] from rfl) (Cj.one (show Kd.M (Kd.int .i64) _ _ _ 0 [.int .i64 0] from rfl) (Cj.none _ _))))); intro v139 w36 Nn hb JN DW; clear JN DW; (rw [← dZ.out] at Nn); have eG := yf.mk (Kd.Ay (Kd.C8 (Kd.C8 (Kd.C8 (Kd.C8 Nn (Kd.DV (kR zT))) (Kd.DV (kR zB))) (Kd.DV (kR aa))) (Kd.DV (kR aM))) (yL (bO HB))); replace zT := yf.mk (Kd.Bb (kR zT) (Kd.Bh Nn) hb); replace zB := yf.mk (Kd.Bb (kR zB) (Kd.Bh Nn) hb); replace aa := yf.mk (Kd.Bb (kR aa) (Kd.Bh Nn) hb); replace aM := yf.mk (Kd.Bb (kR aM) (Kd.Bh Nn) hb); replace HB := bS HB hb; clear hb Nn))
  go_meet
  case rel => exact ⟨_, (dh), H', ⟨by have := BJ.out; omega⟩, ⟨by (with_reducible repeat (apply Kd.yZ)); exact Kd.yX aa.out (fun _ hk => hk.2)⟩, ⟨by (with_reducible repeat (apply Kd.yZ)); exact Kd.yX eG.out (fun _ hk => hk.1.2)⟩, ⟨bO HB⟩⟩
 case rest =>
 clear bJ Fy;obtain ⟨kq, aK, HA, az, aa, Au, HB⟩ := hcut
 cases kq with
 | zero => exact absurd HA.out (by simp [yx.j2])
 | succ dA =>
  have H := HA.out;clear HA;simp only [yx.j2] at H;have bT := yf.mk H;clear H
  go_upto_if 79 with (fail)
  go_cut [14] (fun v14 wc => ∃ (kq : Nat) (au : List Int), yf (yx.j3 kq ae af AV au = some r) ∧ yf (kq ≤ dA) ∧ yf (Kd.R (Kd.int .i64) 3 wc w.heap.size (fun k_ => some k_ ≠ (v14 : Value).ownBlock) v129 AV) ∧ yf (Kd.R (Kd.int .i64) 3 wc w.heap.size (fun k_ => some k_ ≠ (v129 : Value).ownBlock) v14 au) ∧ yf (Below w.heap.size w wc))
  case first =>
   have H := bT.out;clear bT
   by_cases K7 : a0 = 9
   ·
    rw [if_pos K7] at H;have OW := beq_iff_eq.mpr K7
    have a06 : (a0 != 9) = false := bne_eq_false_iff_eq.mpr K7
    clear K7
    (rw [OW])
    obtain ⟨d9, bH⟩ : ∃ y_ : List Int, y_ = (([1, 0] : List Int)) := ⟨_, rfl⟩
    replace H : (yx.j3 dA ae af AV d9) = some r := by (rw [bH]; with_reducible exact H)
    have dX := yf.mk bH;clear bH;have H' := yf.mk H;clear H
    go_wp2_with (((with_reducible refine yI (N := 80) rfl ?_); refine Kd.J4 (Kd.int .i64) _ 3 ?hg (N := 80) ?hd (xs := ([1, 0] : List Int)) (inner := [.int .i64 1, .int .i64 0]) (ok := fun _ => True) (okp := fun _ => True) ?hr ?hp (fun _ hk => hk) trivial (Below.refl _ _) (Nat.le_refl _) (by simp) ?_; (case hd => rfl); (case hg => rfl); (case hr => go_simp); (case hp => exact (Cj.one (show Kd.M (Kd.int .i64) _ _ _ 1 [.int .i64 1] from rfl) (Cj.one (show Kd.M (Kd.int .i64) _ _ _ 0 [.int .i64 0] from rfl) (Cj.none _ _)))); intro v142 w40 aC hb JN DW; clear JN DW; (rw [← dX.out] at aC); have dW := yf.mk (Kd.Ay (Kd.C8 (Kd.C8 aC (Kd.DV (kR aa))) (Kd.DV (kR Au))) (yL (bO HB))); replace aa := yf.mk (Kd.Bb (kR aa) (Kd.Bh aC) hb); replace Au := yf.mk (Kd.Bb (kR Au) (Kd.Bh aC) hb); replace HB := bS HB hb; clear hb aC))
    go_meet
    case rel => exact ⟨_, (d9), H', ⟨by have := BJ.out; have := az.out; omega⟩, ⟨by (with_reducible repeat (apply Kd.yZ)); exact Kd.yX aa.out (fun _ hk => hk.2)⟩, ⟨by (with_reducible repeat (apply Kd.yZ)); exact Kd.yX dW.out (fun _ hk => hk.1.2)⟩, ⟨bO HB⟩⟩
   ·
    rw [if_neg K7] at H;have OW := beq_eq_false_iff_ne.mpr K7;have a06 := bne_iff_ne.mpr K7
    (rw [OW])
    have H' := yf.mk H;clear H
    go_wp2
    go_meet
    case rel => exact ⟨_, (aK), H', ⟨by have := BJ.out; have := az.out; omega⟩, ⟨kR aa⟩, ⟨kR Au⟩, ⟨bO HB⟩⟩
  case rest =>
   clear bT;obtain ⟨kq, au, HA, aJ, aa, Au, HB⟩ := hcut
   cases kq with
   | zero => exact absurd HA.out (by simp [yx.j3])
   | succ dE =>
    have H := HA.out;clear HA;simp only [yx.j3] at H;have H' := yf.mk H;clear H
    go_wp2
    go_loopg [15] dE (fun kq v15 w' => ∃ (Fa : List Int) (ag : Int), v15 = .int .i64 ag ∧ yf (yx.l2 kq ae af Fa au ag = some r) ∧ yf (kq ≤ dE) ∧ yf (Kd.R (Kd.int .i64) 3 w' w.heap.size (fun k_ => some k_ ≠ (u14 : Value).ownBlock) v129 Fa) ∧ yf (Kd.R (Kd.int .i64) 3 w' w.heap.size (fun k_ => some k_ ≠ (v129 : Value).ownBlock) u14 au) ∧ yf (Below w.heap.size w w'))
    case atStart => exact ⟨(AV), (wrap64 ((wrap64 (2 * af)) - 2)), (by rfl), H', ⟨Nat.le_refl _⟩, ⟨kR aa⟩, ⟨kR Au⟩, ⟨bO HB⟩⟩
    case round =>
     clear H';obtain ⟨Fa, ag, rfl, HA, Ja, aa, Au, HB⟩ := hrel
     cases gk with
     | zero => exact absurd HA.out (by simp [yx.l2])
     | succ k4 =>
      have H := HA.out;clear HA;simp only [yx.l2] at H
      by_cases Hu : ag ≥ af
      ·
       rw [if_pos Hu] at H;have JU := decide_eq_true Hu;clear Hu;have H' := yf.mk H;clear H
       go_wp2
       go_loopg [16] k4 (fun kq v16 w' => ∃ (ah : List Int) (aj : Int), v16 = .int .i64 aj ∧ yf (yx.l3 kq ae af ah au ag aj = some r) ∧ yf (kq ≤ k4) ∧ yf (Kd.R (Kd.int .i64) 3 w' w.heap.size (fun k_ => some k_ ≠ (u14 : Value).ownBlock) v129 ah) ∧ yf (Kd.R (Kd.int .i64) 3 w' w.heap.size (fun k_ => some k_ ≠ (v129 : Value).ownBlock) u14 au) ∧ yf (Below w.heap.size w w'))
       case atStart => exact ⟨(Fa), (0), (by rfl), H', ⟨Nat.le_refl _⟩, ⟨kR aa⟩, ⟨kR Au⟩, ⟨bO HB⟩⟩
       case round =>
        clear H' JU;obtain ⟨ah, aj, rfl, HA, aT, aa, Au, HB⟩ := hrel
        cases gk with
        | zero => exact absurd HA.out (by simp [yx.l3])
        | succ k5 =>
         have H := HA.out;clear HA;simp only [yx.l3] at H
         by_cases Kq : aj < af
         ·
          rw [if_pos Kq] at H;have OX := decide_eq_true Kq;clear Kq;obtain ⟨ak, dH⟩ : ∃ j_ : Int, (wrap64 ((wrap64 (ag - af)) + aj)) = j_ := ⟨_, rfl⟩
          replace H : (if 0 ≤ (ak) then (if (ak) < (ah.length : Int) then (if 0 ≤ ag then (if ag < (ah.length : Int) then (if 0 ≤ aj then (if aj < (au.length : Int) then (if ae = 0 then (none) else (yx.l3 k5 ae af (ah.set ((ak) : Int).toNat (Int.tmod (wrap64 ((rd ah (ak)) + (wrap64 ((rd ah ag) * (wrap64 (ae - (rd au aj))))))) ae)) au ag (wrap64 (aj + 1)))) else (none)) else (none)) else (none)) else (none)) else (none)) else (none)) = some r := by (rw [dH] at H; exact H)
          have hji44w : (IntKind.i64.wrap ((wrap64 (ag - af)) + aj)) = ak := (i64_w _).trans dH
          by_cases Ot : 0 ≤ (ak)
          ·
           rw [if_pos Ot] at H;have Wo := decide_eq_true Ot;clear Ot
           by_cases c46 : (ak) < (ah.length : Int)
           ·
            rw [if_pos c46] at H;have Wp := decide_eq_true c46;clear c46
            by_cases J2 : 0 ≤ ag
            ·
             rw [if_pos J2] at H;have KF := decide_eq_true J2;clear J2
             by_cases Zd : ag < (ah.length : Int)
             ·
              rw [if_pos Zd] at H;have fT := decide_eq_true Zd;clear Zd
              by_cases c49 : 0 ≤ aj
              ·
               rw [if_pos c49] at H;have a07 := decide_eq_true c49;clear c49
               by_cases Sv : aj < (au.length : Int)
               ·
                rw [if_pos Sv] at H;have a08 := decide_eq_true Sv;clear Sv
                by_cases c51 : ae = 0
                ·
                 rw [if_pos c51] at H;exact absurd H (by simp)
                ·
                 rw [if_neg c51] at H;have fM := beq_eq_false_iff_ne.mpr c51;have gp := bne_iff_ne.mpr c51;obtain ⟨cK, aW⟩ : ∃ y_ : List Int, y_ = (ah.set ((ak) : Int).toNat (Int.tmod (wrap64 ((rd ah (ak)) + (wrap64 ((rd ah ag) * (wrap64 (ae - (rd au aj))))))) ae)) := ⟨_, rfl⟩
                 replace H : (yx.l3 k5 ae af cK au ag (wrap64 (aj + 1))) = some r := by (rw [aW]; with_reducible exact H)
                 have eZ := yf.mk aW;clear aW;have H' := yf.mk H;clear H
                 try go_wp2
                 replace aa := yf.mk (Kd.AQ aa.out);replace Au := yf.mk (Kd.AQ Au.out);replace HB := yf.mk (za HB.out);obtain ⟨Ww, Wx, Q8⟩ := Kd.zJ aa.out
                 (subst Q8)
                 have bU : 0 ≤ ((ak) : Int) := of_decide_eq_true ‹_›
                 have bF : (ak) < (ah.length : Int) := of_decide_eq_true ‹_›
                 obtain ⟨fA, dO, bR⟩ := Kd.C9 (Kd.yT aa.out).2.2 (ak) bU bF;cases dO;replace bU := eq_true bU;replace bF := eq_true bF
                 have bY : 0 ≤ (ag : Int) := of_decide_eq_true ‹_›
                 have aY : ag < (ah.length : Int) := of_decide_eq_true ‹_›
                 obtain ⟨eX, dY, aZ⟩ := Kd.C9 (Kd.yT aa.out).2.2 ag bY aY;obtain rfl : fA = eX := (by injection dY);replace bY := eq_true bY;replace aY := eq_true aY;obtain ⟨a6w, a6x, a2l⟩ := Kd.zJ Au.out
                 (subst a2l)
                 have bg : 0 ≤ (aj : Int) := of_decide_eq_true ‹_›
                 have cz : aj < (au.length : Int) := of_decide_eq_true ‹_›
                 obtain ⟨fC, fq, dx⟩ := Kd.C9 (Kd.yT Au.out).2.2 aj bg cz;cases fq;replace bg := eq_true bg;replace cz := eq_true cz
                 have p52 : 0 ≤ ((ak) : Int) := of_decide_eq_true ‹_›
                 have bn : ((ak) : Int) < ((ah.length : Int) : Int) := of_decide_eq_true ‹_›
                 obtain ⟨aN, a6y, a2m, dw, fu, fP, dD⟩ := Kd.HZ aa.out (by omega)
                 (cases a2m)
                 have fO := yf.mk dw;have eB := yf.mk dD;clear dw fu dD
                 (simp only [add_plain] at bR)
                 (simp only [add_plain] at aZ)
                 obtain ⟨eY, eu⟩ := Kd.FJ 0 aa.out ((ak) : Int) p52 bn;replace p52 := eq_true p52;replace bn := eq_true bn;have bu := Kd.PQ aa.out ((ak) : Int) (Int.tmod (wrap64 ((rd ah (ak)) + (wrap64 ((rd ah ag) * (wrap64 (ae - (rd au aj))))))) ae);rw [← eZ.out] at bu;have dB := yf.mk bu;clear bu
                 refine Bc (n := 30) (S := fun w' => w'.cell? ⟨aN, ((ak)).toNat, none⟩ = some (.int .i64 (rd ah (ak))) ∧ w'.cell? ⟨aN, (ag).toNat, none⟩ = some (.int .i64 (rd ah ag)) ∧ w'.cell? (fC.add (aj).toNat) = some (.int .i64 (rd au aj))) (ds := [29]) (bz 30 0) (by kernel_rfl) rfl rfl ⟨bR, aZ, dx⟩ (fun hHeld => ?_); refine zF yx.a4r yx.a2j (fun yz Bi => ?_)
                 generalize wr.drew = w53 at aa Au HB eB dB eu bR aZ dx eY hHeld ⊢;refine pU 0 94 30 1 yz ?_;refine pU 1 95 30 3 yz ?_;refine pU 2 96 30 7 yz ?_;refine pU 3 97 30 15 yz ?_;refine pU 4 98 30 31 yz ?_;refine pU 5 99 30 63 yz ?_;refine pU 6 100 30 127 yz ?_;refine pU 7 101 30 255 yz ?_;refine pU 8 102 30 511 yz ?_;refine pU 9 103 30 1023 yz ?_;refine pU 10 104 30 2047 yz ?_;refine pU 11 105 30 4095 yz ?_;refine pU 12 106 30 8191 yz ?_;refine pU 14 108 30 24575 yz ?_;refine pU 15 109 30 57343 yz ?_;refine pU 16 110 30 122879 yz ?_;refine pU 18 112 30 385023 yz ?_;refine pU 19 113 30 909311 yz ?_;refine pU 20 114 30 1957887 yz ?_;refine pU 21 115 30 4055039 yz ?_;refine pU 26 120 30 71163903 yz ?_
                 refine BO 13 107 30 71172095 yz Bi hHeld ?_
                 refine BO 17 111 30 71303167 yz Bi hHeld ?_
                 refine BO 22 116 30 75497471 yz Bi hHeld ?_
                 refine pU 23 117 30 83886079 yz ?_;refine pU 24 118 30 100663295 yz ?_;refine pU 25 119 30 134217727 yz ?_;refine pU 27 121 30 268435455 yz ?_;refine pU 28 122 30 536870911 yz ?_
                 refine OL (i := 29) (N := none) (bz 30 1073741823) rfl rfl (Af yz.out (by kernel_rfl)) (by decide) (fun K hK => ?_)
                 refine IR (w1 := ?_) (by rfl) rfl ?_ ?_
                 rotate_left
                 ·
                  go_simp
                  rfl
                 refine hK.out _ _ ?_
                 clear hK K
                 refine BG (Al yz.out (by kernel_rfl)) ?_
                 try go_wp2
                 go_roundg k5
                 case measure => have := BJ.out; have := az.out; have := aJ.out; have := Ja.out; have := aT.out; omega
                 case rel => exact ⟨(cK), (wrap64 (aj + 1)), (by rfl), H', ⟨by have := BJ.out; have := az.out; have := aJ.out; have := Ja.out; have := aT.out; omega⟩, ⟨kR dB⟩, ⟨by (with_reducible repeat (apply Kd.yZ)); exact Kd.yX (Kd.Kt (p := ⟨aN, ((ak) : Int).toNat, none⟩) (Kd.yX Au.out (fun k_ hk => (⟨hk, fun e_ => hk (by rw [e_]; rfl)⟩ : _ ∧ k_ ≠ aN))) (fun _ hk => hk.2) (.int .i64 (Int.tmod (wrap64 ((rd ah (ak)) + (wrap64 ((rd ah ag) * (wrap64 (ae - (rd au aj))))))) ae))) (fun _ hk => hk.1)⟩, ⟨bO HB⟩⟩
               ·
                rw [if_neg Sv] at H;exact absurd H (by simp)
              ·
               rw [if_neg c49] at H;exact absurd H (by simp)
             ·
              rw [if_neg Zd] at H;exact absurd H (by simp)
            ·
             rw [if_neg J2] at H;exact absurd H (by simp)
           ·
            rw [if_neg c46] at H;exact absurd H (by simp)
          ·
           rw [if_neg Ot] at H;exact absurd H (by simp)
         ·
          rw [if_neg Kq] at H;have OX := decide_eq_false Kq;clear Kq
          by_cases aI : 0 ≤ ag
          ·
           rw [if_pos aI] at H;have gu := decide_eq_true aI;clear aI
           by_cases Ov : ag < (ah.length : Int)
           ·
            rw [if_pos Ov] at H;have Wy := decide_eq_true Ov;clear Ov;obtain ⟨bq, bP⟩ : ∃ y_ : List Int, y_ = (ah.set (ag : Int).toNat 0) := ⟨_, rfl⟩
            replace H : (yx.l2 k5 ae af bq au (wrap64 (ag - 1))) = some r := by (rw [bP]; with_reducible exact H)
            have ek := yf.mk bP;clear bP;have H' := yf.mk H;clear H
            have p59 : 0 ≤ (ag : Int) := of_decide_eq_true ‹_›
            have bM : (ag : Int) < ((ah.length : Int) : Int) := of_decide_eq_true ‹_›
            obtain ⟨aA, Ze, a2n, cZ, fD, gB, dF⟩ := Kd.HZ aa.out (by omega)
            (cases a2n)
            have eU := yf.mk cZ;have fQ := yf.mk dF;clear cZ fD dF;obtain ⟨fU, gq⟩ := Kd.FJ 0 aa.out (ag : Int) p59 bM;replace p59 := eq_true p59;replace bM := eq_true bM;have bQ := Kd.Lm aa.out (ag : Int) 0
            go_wp2_with (((with_reducible refine Fu (t := 3) (p := 125) rfl ?_); refine EU (t := 3) (p := 125) (v := ?vo_w61) (w1 := (wr.setCell ⟨aA, (ag : Int).toNat, none⟩ (.int .i64 0))) ?hg ?ho ?hn ?hr ?_; (case ho => rfl); (case hg => rfl); (case hn => rfl); (case hr => go_simp); intro w61 hw; have hg : wr.grownBy w61 (some aA) := (by rw [hw]; exact bQ.2); have OP : Kd.R (Kd.int .i64) 3 w61 w.heap.size (fun k_ => some k_ ≠ (u14 : Value).ownBlock) (.slice (some ⟨aA, 0, none⟩) ah.length Ze) bq := (by rw [hw, ek.out]; exact bQ.1); clear bQ; replace aa := yf.mk (OP); replace Au := yf.mk (Kd.Iy (v := (.slice (some ⟨aA, 0, none⟩) ah.length Ze)) (v1 := (.slice (some ⟨aA, 0, none⟩) ah.length Ze)) (ok := (fun _ => True)) (by (with_reducible repeat (apply Kd.yZ)); exact Kd.yX Au.out (fun _ hk => ⟨trivial, hk⟩)) hg (.inl rfl)); replace HB := yf.mk ((by rw [hw]; exact DL (HB.out) eU.out : Below w.heap.size w w61)); clear hg hw OP))
            go_roundg k5
            case measure => have := BJ.out; have := az.out; have := aJ.out; have := Ja.out; have := aT.out; omega
            case rel => exact ⟨(bq), (wrap64 (ag - 1)), (by rfl), H', ⟨by have := BJ.out; have := az.out; have := aJ.out; have := Ja.out; have := aT.out; omega⟩, ⟨kR aa⟩, ⟨by (with_reducible repeat (apply Kd.yZ)); exact Kd.yX Au.out (fun _ hk => hk.2)⟩, ⟨bO HB⟩⟩
           ·
            rw [if_neg Ov] at H;exact absurd H (by simp)
          ·
           rw [if_neg aI] at H;exact absurd H (by simp)
      ·
       rw [if_neg Hu] at H;have JU := decide_eq_false Hu;clear Hu
       by_cases QO : 0 ≤ af
       ·
        rw [if_pos QO] at H;have a09 := eq_true QO;have fF := decide_eq_true QO;clear QO
        by_cases M9 : af ≤ (Fa.length : Int)
        ·
         rw [if_pos M9] at H;have Ud := eq_true M9;have a4s := decide_eq_true M9;clear M9;obtain ⟨aH, bI⟩ : ∃ y_ : List Int, y_ = (Fa.take (af : Int).toNat) := ⟨_, rfl⟩
         replace H : ((zo.f k4 aH ae).bind fun Wu => (some Wu)) = some r := by (rw [bI]; with_reducible exact H)
         have dK := yf.mk bI;clear bI;obtain ⟨Wu, eP, H⟩ := bE H
         try dsimp only at H
         obtain rfl := Option.some.inj H;obtain ⟨Zf, Wz, a2o⟩ := Kd.zJ aa.out;subst a2o
         have cu : (af : Int) ≤ ((Fa.length : Int) : Int) := of_decide_eq_true ‹_›
         obtain ⟨fK, di, _, dV, _⟩ := info_parts info3
         have dG : Fa.length ≤ Wz := (Kd.yT aa.out).2.1
         have dC : Kd.C (Kd.int .i64) _ Zf Fa.length Fa := (Kd.yT aa.out).2.2
         have eF := a1F (P := Try.prog) 63 3 .i64 Try.underlying63 di Zf Fa.length Wz af (of_decide_eq_true ‹_›) cu dG;have bi := Kd.a1H (m := (af : Int).toNat) dC (by omega)
         have bZ : aH.length = (af : Int).toNat := (by rw [dK.out, List.length_take]; omega)
         rw [← dK.out] at bi;rw [← bZ] at eF;have dR := yf.mk bi;have eO := yf.mk (show aH.length ≤ Wz from by omega);clear bi dC dG di dV;have fI := yf.mk bZ;clear bZ
         have fZ := yf.mk (show (af : Int).toNat ≤ Fa.length from by omega)
         replace cu := eq_true cu
         go_wp2_with (((with_reducible refine yw (f := 78) rfl ?_); refine gL (some 130) Try.func78 #[.slice Zf aH.length Wz, .int .i64 ae] ?_; (with_reducible refine (zo.calls k4 _ _ aH ae Wu _ ?yD ?yF eP.out).mono ?_); (case yD => repeat (exact (by repeat ((with_reducible exact dR.out))))); (case yF => exact eO.out); rintro e w' ⟨rfl, ⟨nd, rfl⟩⟩; refine ⟨_, rfl, ?_⟩))
         go_ret
         exact ⟨by rfl, bO HB⟩
        ·
         rw [if_neg M9] at H;exact absurd H (by simp)
       ·
        rw [if_neg QO] at H;exact absurd H (by simp)
end Go.Proofs.Ytjonnfmoocijlaa.P
