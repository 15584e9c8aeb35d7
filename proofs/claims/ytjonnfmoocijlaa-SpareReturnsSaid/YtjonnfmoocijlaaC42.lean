/- Texts of a claim, packed. -/
import Derived.Test.YtjonnfmoocijlaaC41
set_option linter.all false
namespace Go.Proofs.Ytjonnfmoocijlaa.P
open Go.RowKit Go.Proofs.YtjonnfmoocijlaaKW.PrintWords Go.Proofs.YtjonnfmoocijlaaKW.PrintLast Go.Proofs.YtjonnfmoocijlaaKW.PrintMore
attribute [local go_sem] zO zP Aj Ak zC zD zQ zR
def zS.l0 : Nat → List Int → List Int → Int → Option (Bool)
 | 0, _, _, _ => none
 | k + 1, x0, x1, x5 => if x5 < (x0.length : Int) then (if 0 ≤ x5 then (if x5 < (x1.length : Int) then (if (rd x0 x5) = (rd x1 x5) then (zS.l0 k x0 x1 (wrap64 (x5 + 1))) else (some false)) else (none)) else (none)) else (some true)
def zS.f (k : Nat) (l0 : List Int) (l1 : List Int) : Option (Bool) := if (l0.length : Int) = (l1.length : Int) then (zS.l0 k l0 l1 0) else (some false)
set_option maxHeartbeats 8000000 in
set_option maxRecDepth 100000 in
theorem zS.calls (k : Nat) (A0 : Option Addr) (c0 : Nat) (l0 : List Int) (A1 : Option Addr) (c1 : Nat) (l1 : List Int) (r : Bool) (w : World) (hr0 : Kd.C (Kd.int .i64) w A0 l0.length l0) (hc0 : l0.length ≤ c0) (hr1 : Kd.C (Kd.int .i64) w A1 l1.length l1) (hc1 : l1.length ≤ c1) (h : zS.f k l0 l1 = some r) :
  Calls Try.prog 31 #[.slice A0 l0.length c0, .slice A1 l1.length c1] w fun e w' => e = .returned (.bool r) ∧ zV w w' := by
 have Li := yf.mk hr0;have Ws := yf.mk hc0;clear hr0 hc0;have HR1 := yf.mk hr1;have GH := yf.mk hc1;clear hr1 hc1
 have H : (if (l0.length : Int) = (l1.length : Int) then (zS.l0 k l0 l1 0) else (some false)) = some r := h
 clear h
 by_cases c3 : (l0.length : Int) = (l1.length : Int)
 rotate_left
 ·
  rw [if_neg c3] at H;have G5 := beq_eq_false_iff_ne.mpr c3;have JM := bne_iff_ne.mpr c3
  have TA : (l0.length == l1.length) = false := by (simp at c3 ⊢; omega)
  obtain rfl := Option.some.inj H
  go_enter Try.func31, Try.ntmps31
  go_wp2
  repeat (go_quiet (fail); try go_wp2)
  go_ret
  exact ⟨by rfl, by repeat (exact zV.refl _)⟩
 rw [if_pos c3] at H;have G5 := beq_iff_eq.mpr c3
 have JM : ((l0.length : Int) != (l1.length : Int)) = false := bne_eq_false_iff_eq.mpr c3
 have TA : (l0.length == l1.length) = true := by (simp at c3 ⊢; omega)
 clear c3;have H' := yf.mk H;clear H
 go_enter Try.func31, Try.ntmps31
 go_wp2
 repeat (go_quiet (fail); try go_wp2)
 go_loopg [5] k (fun kq v5 w' => ∃ (yN : Int), v5 = .int .i64 yN ∧ yf (zS.l0 kq l0 l1 yN = some r) ∧ yf (kq ≤ k) ∧ zV w w')
 case atStart => exact ⟨(0), (by rfl), H', ⟨Nat.le_refl _⟩, by repeat (exact zV.refl _)⟩
 case round =>
 clear H' G5 JM TA;obtain ⟨yN, rfl, HA, BJ, ⟨m1, rfl⟩⟩ := hrel
 cases gk with
 | zero => exact absurd HA.out (by simp [zS.l0])
 | succ k1 =>
 have H := HA.out;clear HA;simp only [zS.l0] at H
 by_cases c4 : yN < (l0.length : Int)
 rotate_left
 ·
  rw [if_neg c4] at H;have ES := decide_eq_false c4;clear c4;obtain rfl := Option.some.inj H
  go_wp2
  repeat (go_quiet (fail); try go_wp2)
  go_ret
  exact ⟨by rfl, by repeat (first | exact zV.refl _ | apply zV.step)⟩
 rw [if_pos c4] at H;have ES := decide_eq_true c4;clear c4
 by_cases c5 : 0 ≤ yN
 rotate_left
 ·
  rw [if_neg c5] at H;exact absurd H (by simp)
 rw [if_pos c5] at H;have FE := decide_eq_true c5;clear c5
 by_cases c6 : yN < (l1.length : Int)
 rotate_left
 ·
  rw [if_neg c6] at H;exact absurd H (by simp)
 rw [if_pos c6] at H;have EJ := decide_eq_true c6;clear c6
 by_cases c7 : (rd l0 yN) = (rd l1 yN)
 ·
  rw [if_pos c7] at H;have GN := beq_iff_eq.mpr c7
  have Ou : ((rd l0 yN) != (rd l1 yN)) = false := bne_eq_false_iff_eq.mpr c7
  clear c7;have H' := yf.mk H;clear H
  have ag : 0 ≤ (yN : Int) := of_decide_eq_true ‹_›
  have af : yN < (l0.length : Int) := of_decide_eq_true ‹_›
  obtain ⟨aj, ah, ak⟩ := Kd.C9 Li.out yN ag af;cases ah;replace ag := eq_true ag;replace af := eq_true af
  have ae : 0 ≤ (yN : Int) := of_decide_eq_true ‹_›
  have aa : yN < (l1.length : Int) := of_decide_eq_true ‹_›
  obtain ⟨av, ai, au⟩ := Kd.C9 HR1.out yN ae aa;cases ai;replace ae := eq_true ae;replace aa := eq_true aa
  go_wp2
  repeat (go_quiet (fail); try go_wp2)
  go_roundg k1
  case measure => have := BJ.out; omega
  case rel => exact ⟨(wrap64 (yN + 1)), (by rfl), H', ⟨by have := BJ.out; omega⟩, by repeat (first | exact zV.refl _ | apply zV.step)⟩
 rw [if_neg c7] at H;have GN := beq_eq_false_iff_ne.mpr c7;have Ou := bne_iff_ne.mpr c7;obtain rfl := Option.some.inj H
 have ag : 0 ≤ (yN : Int) := of_decide_eq_true ‹_›
 have af : yN < (l0.length : Int) := of_decide_eq_true ‹_›
 obtain ⟨aj, ah, ak⟩ := Kd.C9 Li.out yN ag af;cases ah;replace ag := eq_true ag;replace af := eq_true af
 have ae : 0 ≤ (yN : Int) := of_decide_eq_true ‹_›
 have aa : yN < (l1.length : Int) := of_decide_eq_true ‹_›
 obtain ⟨av, ai, au⟩ := Kd.C9 HR1.out yN ae aa;cases ai;replace ae := eq_true ae;replace aa := eq_true aa
 go_wp2
 repeat (go_quiet (fail); try go_wp2)
 go_ret
 exact ⟨by rfl, by repeat (first | exact zV.refl _ | apply zV.step)⟩
end Go.Proofs.Ytjonnfmoocijlaa.P
namespace Go.Proofs.Ytjonnfmoocijlaa.P
open Go.RowKit Go.Proofs.YtjonnfmoocijlaaKW.PrintWords Go.Proofs.YtjonnfmoocijlaaKW.PrintLast Go.Proofs.YtjonnfmoocijlaaKW.PrintMore
attribute [local go_sem] zO zP Aj Ak zC zD zQ zR
attribute [local go_sem high] Mr
def zN.f (k : Nat)  : Option (Bool) := (ym.f k 5 4).bind fun Fp => ((yV.f k Fp.1 Fp.2 1 2 ([] : List (AX)) 0 (([true, false, false, false, false] : List Bool))).bind fun Jv => ((yV.f k Fp.1 Fp.2 1 2 ([] : List (AX)) 0 (([false, false, false, false, true] : List Bool))).bind fun Oa => ((zl.f k Fp.1 Fp.2 1 2 ([] : List (AX)) 0 2 4 4).bind fun FU => ((EF.f k Fp.1 Fp.2 1 2 FU.1 4).bind fun Jw => ((yV.f k Fp.1 Fp.2 1 2 FU.1 1 (([true, false, false, false, false] : List Bool))).bind fun FV => (if Jv.2.2 = 0 then (if (Jv.1 == 4 && (Jv.2.1 == 4)) = true then (if Oa.2.2 = 11 then (if FU.2 = 0 then (if (FU.1.length : Int) = 1 then (if Jw.2 = 0 then ((zS.f k Jw.1 (([4] : List Int))).bind fun LV => (if LV = true then (if FV.2.2 = 0 then (if (FV.1 == 3 && (FV.2.1 == 4)) = true then (some true) else (none)) else (none)) else (none))) else (none)) else (none)) else (none)) else (none)) else (none)) else (none)))))))
set_option maxHeartbeats 8000000 in
set_option maxRecDepth 100000 in
theorem zN.calls (k : Nat)  (r : Bool) (w : World) (h : zN.f k  = some r) :
  Calls Try.prog 9 #[] w fun e w' => e = .returned (.bool r) ∧ Below w.heap.size w w' := by
 have FH := Try.underlying31;have Jd := Try.underlying38;have LC := Try.underlying47;have HB := yf.mk (Below.refl w.heap.size w)
 have H : ((ym.f k 5 4).bind fun Fp => ((yV.f k Fp.1 Fp.2 1 2 ([] : List (AX)) 0 (([true, false, false, false, false] : List Bool))).bind fun Jv => ((yV.f k Fp.1 Fp.2 1 2 ([] : List (AX)) 0 (([false, false, false, false, true] : List Bool))).bind fun Oa => ((zl.f k Fp.1 Fp.2 1 2 ([] : List (AX)) 0 2 4 4).bind fun FU => ((EF.f k Fp.1 Fp.2 1 2 FU.1 4).bind fun Jw => ((yV.f k Fp.1 Fp.2 1 2 FU.1 1 (([true, false, false, false, false] : List Bool))).bind fun FV => (if Jv.2.2 = 0 then (if (Jv.1 == 4 && (Jv.2.1 == 4)) = true then (if Oa.2.2 = 11 then (if FU.2 = 0 then (if (FU.1.length : Int) = 1 then (if Jw.2 = 0 then ((zS.f k Jw.1 (([4] : List Int))).bind fun LV => (if LV = true then (if FV.2.2 = 0 then (if (FV.1 == 3 && (FV.2.1 == 4)) = true then (some true) else (none)) else (none)) else (none))) else (none)) else (none)) else (none)) else (none)) else (none)) else (none)))))))) = some r := h
 clear h;obtain ⟨⟨ai, ah⟩, A1, H⟩ := bE H
 try dsimp only at H
 obtain ⟨bD, bv⟩ : ∃ y_ : List Bool, y_ = (([true, false, false, false, false] : List Bool)) := ⟨_, rfl⟩
 replace H : ((yV.f k ai ah 1 2 ([] : List (AX)) 0 bD).bind fun Jv => ((yV.f k ai ah 1 2 ([] : List (AX)) 0 (([false, false, false, false, true] : List Bool))).bind fun Oa => ((zl.f k ai ah 1 2 ([] : List (AX)) 0 2 4 4).bind fun FU => ((EF.f k ai ah 1 2 FU.1 4).bind fun Jw => ((yV.f k ai ah 1 2 FU.1 1 (([true, false, false, false, false] : List Bool))).bind fun FV => (if Jv.2.2 = 0 then (if (Jv.1 == 4 && (Jv.2.1 == 4)) = true then (if Oa.2.2 = 11 then (if FU.2 = 0 then (if (FU.1.length : Int) = 1 then (if Jw.2 = 0 then ((zS.f k Jw.1 (([4] : List Int))).bind fun LV => (if LV = true then (if FV.2.2 = 0 then (if (FV.1 == 3 && (FV.2.1 == 4)) = true then (some true) else (none)) else (none)) else (none))) else (none)) else (none)) else (none)) else (none)) else (none)) else (none))))))) = some r := by (rw [bv]; with_reducible exact H)
 have bZ := yf.mk bv;clear bv;obtain ⟨⟨ay, az, aK⟩, A2, H⟩ := bE H
 try dsimp only at H
 obtain ⟨bC, bg⟩ : ∃ y_ : List Bool, y_ = (([false, false, false, false, true] : List Bool)) := ⟨_, rfl⟩
 replace H : ((yV.f k ai ah 1 2 ([] : List (AX)) 0 bC).bind fun Oa => ((zl.f k ai ah 1 2 ([] : List (AX)) 0 2 4 4).bind fun FU => ((EF.f k ai ah 1 2 FU.1 4).bind fun Jw => ((yV.f k ai ah 1 2 FU.1 1 (([true, false, false, false, false] : List Bool))).bind fun FV => (if aK = 0 then (if (ay == 4 && (az == 4)) = true then (if Oa.2.2 = 11 then (if FU.2 = 0 then (if (FU.1.length : Int) = 1 then (if Jw.2 = 0 then ((zS.f k Jw.1 (([4] : List Int))).bind fun LV => (if LV = true then (if FV.2.2 = 0 then (if (FV.1 == 3 && (FV.2.1 == 4)) = true then (some true) else (none)) else (none)) else (none))) else (none)) else (none)) else (none)) else (none)) else (none)) else (none)))))) = some r := by (rw [bg]; with_reducible exact H)
 have bV := yf.mk bg;clear bg;obtain ⟨⟨bq, bn, aU⟩, A3, H⟩ := bE H
 try dsimp only at H
 obtain ⟨⟨aC, aX⟩, A4, H⟩ := bE H
 try dsimp only at H
 obtain ⟨⟨aT, aY⟩, A5, H⟩ := bE H
 try dsimp only at H
 obtain ⟨bA, aZ⟩ : ∃ y_ : List Bool, y_ = (([true, false, false, false, false] : List Bool)) := ⟨_, rfl⟩
 replace H : ((yV.f k ai ah 1 2 aC 1 bA).bind fun FV => (if aK = 0 then (if (ay == 4 && (az == 4)) = true then (if aU = 11 then (if aX = 0 then (if (aC.length : Int) = 1 then (if aY = 0 then ((zS.f k aT (([4] : List Int))).bind fun LV => (if LV = true then (if FV.2.2 = 0 then (if (FV.1 == 3 && (FV.2.1 == 4)) = true then (some true) else (none)) else (none)) else (none))) else (none)) else (none)) else (none)) else (none)) else (none)) else (none))) = some r := by (rw [aZ]; with_reducible exact H)
 have bX := yf.mk aZ;clear aZ;obtain ⟨⟨aG, aH, aW⟩, A6, H⟩ := bE H
 try dsimp only at H
 by_cases c7 : aK = 0
 rotate_left
 ·
  rw [if_neg c7] at H;exact absurd H (by simp)
 rw [if_pos c7] at H;have GN := beq_iff_eq.mpr c7
 have Ou : (aK != 0) = false := bne_eq_false_iff_eq.mpr c7
 clear c7
 by_cases c8 : (ay == 4 && (az == 4)) = true
 rotate_left
 ·
  rw [if_neg c8] at H;exact absurd H (by simp)
 rw [if_pos c8] at H
 have GZ : (ay == 4 && (az == 4)) = true := c8
 (try (have Nh : decide (ay = 4 && (az == 4)) = true := by simpa using c8))
 (try (have cZ : (ay == 4 && (az == 4)) = true := by simpa using c8))
 clear c8
 by_cases c9 : aU = 11
 rotate_left
 ·
  rw [if_neg c9] at H;exact absurd H (by simp)
 rw [if_pos c9] at H;have IE := beq_iff_eq.mpr c9
 have QJ : (aU != 11) = false := bne_eq_false_iff_eq.mpr c9
 clear c9
 by_cases c10 : aX = 0
 rotate_left
 ·
  rw [if_neg c10] at H;exact absurd H (by simp)
 rw [if_pos c10] at H;have Gi := beq_iff_eq.mpr c10
 have M7 : (aX != 0) = false := bne_eq_false_iff_eq.mpr c10
 clear c10
 by_cases c11 : (aC.length : Int) = 1
 rotate_left
 ·
  rw [if_neg c11] at H;exact absurd H (by simp)
 rw [if_pos c11] at H;have GD := beq_iff_eq.mpr c11
 have Uc : ((aC.length : Int) != 1) = false := bne_eq_false_iff_eq.mpr c11
 clear c11
 by_cases c12 : aY = 0
 rotate_left
 ·
  rw [if_neg c12] at H;exact absurd H (by simp)
 rw [if_pos c12] at H;have Gh := beq_iff_eq.mpr c12
 have NA : (aY != 0) = false := bne_eq_false_iff_eq.mpr c12
 clear c12;obtain ⟨bF, bu⟩ : ∃ y_ : List Int, y_ = (([4] : List Int)) := ⟨_, rfl⟩
 replace H : ((zS.f k aT bF).bind fun LV => (if LV = true then (if aW = 0 then (if (aG == 3 && (aH == 4)) = true then (some true) else (none)) else (none)) else (none))) = some r := by (rw [bu]; with_reducible exact H)
 have bJ := yf.mk bu;clear bu;obtain ⟨LV, A13, H⟩ := bE H
 try dsimp only at H
 by_cases c14 : LV = true
 rotate_left
 ·
  replace c14 := Bool.eq_false_iff.mpr c14;subst c14
  rw [if_neg (show ¬ (false = true) by decide)] at H
  exact absurd H (by simp)
 subst c14;rw [if_pos rfl] at H
 by_cases c15 : aW = 0
 rotate_left
 ·
  rw [if_neg c15] at H;exact absurd H (by simp)
 rw [if_pos c15] at H;have OZ := beq_iff_eq.mpr c15
 have a5U : (aW != 0) = false := bne_eq_false_iff_eq.mpr c15
 clear c15
 by_cases c16 : (aG == 3 && (aH == 4)) = true
 rotate_left
 ·
  rw [if_neg c16] at H;exact absurd H (by simp)
 rw [if_pos c16] at H
 have Fy : (aG == 3 && (aH == 4)) = true := c16
 (try (have Pn : decide (aG = 3 && (aH == 4)) = true := by simpa using c16))
 (try (have a6b : (aG == 3 && (aH == 4)) = true := by simpa using c16))
 clear c16;obtain rfl := Option.some.inj H
 go_enter Try.func9, Try.ntmps9
 go_wp2_with (first | ((with_reducible refine yw (f := 30) rfl ?_); refine gL (some 12) Try.func30 #[.int .i64 5, .int .i64 4] ?_; (with_reducible refine (ym.calls k 5 4 ai ah _ A1.out).mono ?_); rintro e w17 ⟨v397, rfl, ho0, hb⟩; refine ⟨_, rfl, ?_⟩; have ae := yf.mk (Kd.Eu ho0 (yL (bO HB))); replace HB := bS HB hb; clear hb; clear ho0; obtain ⟨Jn, IJ, Xk⟩ := Kd.Eb ae.out; subst Xk) | ((with_reducible refine yI (N := 1) rfl ?_); (try (refine Ab (by rfl) ?_; dsimp only)); refine yG rfl (N := 1) rfl (cs := #[.int .i64 0, .slice none 0 0, .int .i64 0, .int .i64 0]) (t := 31) (by go_simp) ?_; intro aM hg w19 yJ hb; replace ae := EH ae hb; have aa := yf.mk (yJ); have dn := bG (w := w) hg; have d9 := bG (w := w) hg; replace HB := bS HB hb; clear hb yJ hg; have Ug := AP aa; have Uh := bf aa) | ((with_reducible refine yI (N := 16) rfl ?_); (try (refine Ab (by rfl) ?_; dsimp only)); refine Kd.J4 Kd.bool _ 4 ?hg (N := 16) ?hd (xs := ([true, false, false, false, false] : List Bool)) (inner := [.bool true, .bool false, .bool false, .bool false, .bool false]) (ok := fun _ => True) (okp := fun _ => True) ?hr ?hp (fun _ hk => hk) trivial (Below.refl _ _) (Nat.le_refl _) (by simp) ?_; (case hd => rfl); (case hg => rfl); (case hr => go_simp); (case hp => exact (Cj.one (show Kd.M Kd.bool _ _ _ true [.bool true] from rfl) (Cj.one (show Kd.M Kd.bool _ _ _ false [.bool false] from rfl) (Cj.one (show Kd.M Kd.bool _ _ _ false [.bool false] from rfl) (Cj.one (show Kd.M Kd.bool _ _ _ false [.bool false] from rfl) (Cj.one (show Kd.M Kd.bool _ _ _ false [.bool false] from rfl) (Cj.none _ _))))))); intro v401 w21 PZ hb JN DW; clear JN DW; (rw [← bZ.out] at PZ); replace ae := yf.mk (Kd.E9 (by (with_reducible repeat (apply Kd.Az)); exact (Kd.Bo (GA (g := aM) (Kd.AO ae.out aa.out (by decide)) (fun _ hk => hk.2)) (fun _ h_ => h_.1))) hb); have ag := yf.mk (Kd.Ay PZ (yL (bO HB))); replace aa := yf.mk (yS (g := aM) (o := .cells #[.int .i64 ai, .slice Jn ah.length IJ, .int .i64 1, .int .i64 2] 31 (0, 0)) (CJ aa rfl) hb); replace HB := bS HB hb; clear hb PZ; obtain ⟨OE, MJ, Yz⟩ := Kd.zJ ag.out; subst Yz) | ((with_reducible refine yw (f := 13) rfl ?_); refine gL (some 17) Try.func13 #[.agg #[.int .i64 ai, .slice Jn ah.length IJ, .int .i64 1, .int .i64 2], .slice none 0 0, .int .i64 0, .slice OE bD.length MJ] ?_; (refine (yV.calls k ai _ _ ah 1 2 _ _ ([] : List (AX)) 0 _ _ bD ay az aK _ ?yD ?yF ?zw ?zx ?Dy ?Dz A2.out).mono ?_); (case yD => exact H9 ae); (case yF => exact (Kd.zG ae.out).2.1); (case zw => exact Kd.LZ _ _); (case zx => exact Nat.le_refl _); (case Dy => exact G7 ag); (case Dz => exact (Kd.yT ag.out).2.1); rintro e w24 ⟨rfl, hb⟩; refine ⟨_, rfl, ?_⟩; replace ae := EH ae hb; replace ag := BZ ag hb; replace aa := bB aa hb; replace HB := bS HB hb; clear hb) | ((with_reducible refine yI (N := 2) rfl ?_); (try (refine Ab (by rfl) ?_; dsimp only)); refine yG rfl (N := 2) rfl (cs := #[.int .i64 0, .int .i64 0]) (t := 38) (by go_simp) ?_; intro aJ hg w25 yJ hb; have af := yf.mk (yJ); have cz := bG (w := w) hg; have df := bG (w := w) hg; have bR := Co aa hg; have bM := Ar aa hg; replace ae := EH ae hb; replace ag := BZ ag hb; replace aa := bB aa hb; replace HB := bS HB hb; clear hb yJ hg; have Um := bM.out; have Un := bR.out; have Md := bc2 af; have Me := bf af; have Ra := AP aa; have Rb := bf aa) | ((with_reducible refine yI (N := 22) rfl ?_); (try (refine Ab (by rfl) ?_; dsimp only)); refine Kd.J4 Kd.bool _ 4 ?hg (N := 22) ?hd (xs := ([false, false, false, false, true] : List Bool)) (inner := [.bool false, .bool false, .bool false, .bool false, .bool true]) (ok := fun _ => True) (okp := fun _ => True) ?hr ?hp (fun _ hk => hk) trivial (Below.refl _ _) (Nat.le_refl _) (by simp) ?_; (case hd => rfl); (case hg => rfl); (case hr => go_simp); (case hp => exact (Cj.one (show Kd.M Kd.bool _ _ _ false [.bool false] from rfl) (Cj.one (show Kd.M Kd.bool _ _ _ false [.bool false] from rfl) (Cj.one (show Kd.M Kd.bool _ _ _ false [.bool false] from rfl) (Cj.one (show Kd.M Kd.bool _ _ _ false [.bool false] from rfl) (Cj.one (show Kd.M Kd.bool _ _ _ true [.bool true] from rfl) (Cj.none _ _))))))); intro v408 w29 aV hb JN DW; clear JN DW; (rw [← bV.out] at aV); have BL := yf.mk (Kd.E9 (by (with_reducible repeat (apply Kd.Az)); exact (Kd.Bo (GA (g := aJ) (Kd.AO ae.out af.out (by decide)) (fun _ hk => hk.2)) (fun _ h_ => h_.1))) hb); have BN := yf.mk (Kd.Bb (by (with_reducible repeat (apply Kd.yZ)); exact (Kd.yX (F4 (g := aJ) (Kd.Aw ag.out af.out (by decide)) (fun _ hk => hk.2)) (fun _ h_ => h_.1))) (Kd.Bh aV) hb); have BX := yf.mk (Kd.Ay (Kd.C8 aV (Kd.DV (by (with_reducible repeat (apply Kd.yZ)); exact (Kd.yX (F4 (g := aJ) (Kd.Aw ag.out af.out (by decide)) (fun _ hk => hk.2)) (fun _ h_ => h_.1))))) (yL (bO HB))); have Cr := yf.mk (yS (g := aM) (o := .cells #[.int .i64 ai, .slice Jn ah.length IJ, .int .i64 1, .int .i64 2] 31 (0, 0)) (CJ aa rfl) hb); have CG := yf.mk (yS (g := aJ) (o := .cells #[.int .i64 ay, .int .i64 az] 38 (0, 0)) (CJ af rfl) hb); have CU := bS HB hb; clear ae; clear ag; clear aa; clear af; clear HB; have ae := BL; have ag := BN; have ak := BX; have aa := Cr; have af := CG; have HB := CU; clear BL BN BX Cr CG CU; clear hb aV; obtain ⟨Yg, Yh, Yi⟩ := Kd.zJ ak.out; subst Yi) | ((with_reducible refine yw (f := 13) rfl ?_); refine gL (some 23) Try.func13 #[.agg #[.int .i64 ai, .slice Jn ah.length IJ, .int .i64 1, .int .i64 2], .slice none 0 0, .int .i64 0, .slice Yg bC.length Yh] ?_; (refine (yV.calls k ai _ _ ah 1 2 _ _ ([] : List (AX)) 0 _ _ bC bq bn aU _ ?yD ?yF ?zw ?zx ?Dy ?Dz A3.out).mono ?_); (case yD => exact H9 ae); (case yF => exact (Kd.zG ae.out).2.1); (case zw => exact Kd.LZ _ _); (case zx => exact Nat.le_refl _); (case Dy => exact G7 ak); (case Dz => exact (Kd.yT ak.out).2.1); rintro e w32 ⟨rfl, hb⟩; refine ⟨_, rfl, ?_⟩; replace ae := EH ae hb; replace ag := BZ ag hb; replace ak := BZ ak hb; replace aa := bB aa hb; replace af := bB af hb; replace HB := bS HB hb; clear hb) | ((with_reducible refine yI (N := 4) rfl ?_); (try (refine Ab (by rfl) ?_; dsimp only)); refine yG rfl (N := 4) rfl (cs := #[.int .i64 0, .int .i64 0]) (t := 38) (by go_simp) ?_; intro aI hg w33 yJ hb; have aj := yf.mk (yJ); have dm := bG (w := w) hg; have dw := bG (w := w) hg; have bI := Co aa hg; have bY := Ar aa hg; have bH := Co af hg; have bU := Ar af hg; replace ae := EH ae hb; replace ag := BZ ag hb; replace ak := BZ ak hb; replace aa := bB aa hb; replace af := bB af hb; replace HB := bS HB hb; clear hb yJ hg; have U9 := bY.out; have Ua := bI.out; have XC := bU.out; have XD := bH.out; have QH := bc2 aj; have QI := bf aj; have KS := AP aa; have KT := bf aa) | ((with_reducible refine yw (f := 17) rfl ?_); refine gL (some 30) Try.func17 #[.agg #[.int .i64 ai, .slice Jn ah.length IJ, .int .i64 1, .int .i64 2], .slice none 0 0, .agg #[.int .i64 0, .int .i64 2, .int .i64 4, .int .i64 4]] ?_; (refine (zl.calls k ai _ _ ah 1 2 _ _ ([] : List (AX)) 0 2 4 4 aC aX _ ?yD ?yF ?zw ?zx A4.out).mono ?_); (case yD => refine (Kd.zG (e := 63) (base := w.heap.size) (ok := fun k_ => True) (n := ah.length) (c := IJ) ?_).2.2; exact (by (with_reducible repeat (apply Kd.Az)); exact (Kd.Bo (GA (g := aI) (Kd.AO ae.out aj.out (by decide)) (fun _ hk => hk.2)) (fun _ h_ => h_.1)))); (case yF => exact (Kd.zG ae.out).2.1); (case zw => exact Kd.LZ _ _); (case zx => exact Nat.le_refl _); rintro e w38 ⟨v415, rfl, ho0, hb⟩; refine ⟨_, rfl, ?_⟩; replace ae := yf.mk (Kd.E9 (by (with_reducible repeat (apply Kd.Az)); exact (Kd.Bo (GA (g := aI) (Kd.AO ae.out aj.out (by decide)) (fun _ hk => hk.2)) (fun _ h_ => h_.1))) hb); replace ag := yf.mk (Kd.CP (by (with_reducible repeat (apply Kd.yZ)); exact (Kd.yX (F4 (g := aI) (Kd.Aw ag.out aj.out (by decide)) (fun _ hk => hk.2)) (fun _ h_ => h_.1))) hb); replace ak := yf.mk (Kd.CP (by (with_reducible repeat (apply Kd.yZ)); exact (Kd.yX (F4 (g := aI) (Kd.Aw ak.out aj.out (by decide)) (fun _ hk => hk.2)) (fun _ h_ => h_.1))) hb); have au := yf.mk (Kd.Ay ho0 (yL (bO HB))); replace aa := yf.mk (yS (g := aM) (o := .cells #[.int .i64 ai, .slice Jn ah.length IJ, .int .i64 1, .int .i64 2] 31 (0, 0)) (CJ aa rfl) hb); replace af := yf.mk (yS (g := aJ) (o := .cells #[.int .i64 ay, .int .i64 az] 38 (0, 0)) (CJ af rfl) hb); replace aj := yf.mk (yS (g := aI) (o := .cells #[.int .i64 bq, .int .i64 bn] 38 (0, 0)) (CJ aj rfl) hb); replace HB := bS HB hb; clear hb; clear ho0; have a0k := AP aa; have a0l := bf aa; obtain ⟨Tg, Ti, WO⟩ := Kd.zJ au.out; subst WO) | ((with_reducible refine yw (f := 29) rfl ?_); refine gL (some 36) Try.func29 #[.agg #[.int .i64 ai, .slice Jn ah.length IJ, .int .i64 1, .int .i64 2], .slice Tg aC.length Ti, .int .i64 4] ?_; (with_reducible refine (EF.calls k ai _ _ ah 1 2 _ _ aC 4 aT aY _ ?yD ?yF ?zw ?zx A5.out).mono ?_); (case yD => exact H9 ae); (case yF => exact (Kd.zG ae.out).2.1); (case zw => exact G7 au); (case zx => exact (Kd.yT au.out).2.1); rintro e w41 ⟨v419, rfl, ho0, hb⟩; refine ⟨_, rfl, ?_⟩; replace ae := yf.mk (Kd.Na (kS ae) (Kd.Bh ho0) hb); replace ag := BZ ag hb; replace ak := BZ ak hb; replace au := BZ au hb; have ax := yf.mk (Kd.Ay ho0 (yL (bO HB))); replace aa := bB aa hb; replace af := bB af hb; replace aj := bB aj hb; replace HB := bS HB hb; clear hb; clear ho0; have Po := AP aa; have Pp := bf aa) | ((with_reducible refine yI (N := 42) rfl ?_); (try (refine Ab (by rfl) ?_; dsimp only)); refine Kd.J4 Kd.bool _ 4 ?hg (N := 42) ?hd (xs := ([true, false, false, false, false] : List Bool)) (inner := [.bool true, .bool false, .bool false, .bool false, .bool false]) (ok := fun _ => True) (okp := fun _ => True) ?hr ?hp (fun _ hk => hk) trivial (Below.refl _ _) (Nat.le_refl _) (by simp) ?_; (case hd => rfl); (case hg => rfl); (case hr => go_simp); (case hp => exact (Cj.one (show Kd.M Kd.bool _ _ _ true [.bool true] from rfl) (Cj.one (show Kd.M Kd.bool _ _ _ false [.bool false] from rfl) (Cj.one (show Kd.M Kd.bool _ _ _ false [.bool false] from rfl) (Cj.one (show Kd.M Kd.bool _ _ _ false [.bool false] from rfl) (Cj.one (show Kd.M Kd.bool _ _ _ false [.bool false] from rfl) (Cj.none _ _))))))); intro v423 w43 aN hb JN DW; clear JN DW; (rw [← bX.out] at aN); have aA := yf.mk (Kd.Ay (Kd.C8 (Kd.C8 aN (Kd.DV (kR ag))) (Kd.DV (kR ak))) (yL (bO HB))); replace ae := EH ae hb; replace ag := yf.mk (Kd.Bb (kR ag) (Kd.Bh aN) hb); replace ak := yf.mk (Kd.Bb (kR ak) (Kd.Bh aN) hb); replace au := BZ au hb; replace ax := BZ ax hb; replace aa := bB aa hb; replace af := bB af hb; replace aj := bB aj hb; replace HB := bS HB hb; clear hb aN; obtain ⟨Zj, WI, WJ⟩ := Kd.zJ aA.out; subst WJ) | ((with_reducible refine yw (f := 13) rfl ?_); refine gL (some 43) Try.func13 #[.agg #[.int .i64 ai, .slice Jn ah.length IJ, .int .i64 1, .int .i64 2], .slice Tg aC.length Ti, .int .i64 1, .slice Zj bA.length WI] ?_; (with_reducible refine (yV.calls k ai _ _ ah 1 2 _ _ aC 1 _ _ bA aG aH aW _ ?yD ?yF ?zw ?zx ?Dy ?Dz A6.out).mono ?_); (case yD => exact H9 ae); (case yF => exact (Kd.zG ae.out).2.1); (case zw => exact G7 au); (case zx => exact (Kd.yT au.out).2.1); (case Dy => exact G7 aA); (case Dz => exact (Kd.yT aA.out).2.1); rintro e w46 ⟨rfl, hb⟩; refine ⟨_, rfl, ?_⟩; replace ae := EH ae hb; replace ag := BZ ag hb; replace ak := BZ ak hb; replace au := BZ au hb; replace ax := BZ ax hb; replace aA := BZ aA hb; replace aa := bB aa hb; replace af := bB af hb; replace aj := bB aj hb; replace HB := bS HB hb; clear hb) | ((with_reducible refine yI (N := 10) rfl ?_); (try (refine Ab (by rfl) ?_; dsimp only)); refine yG rfl (N := 10) rfl (cs := #[.int .i64 0, .int .i64 0]) (t := 38) (by go_simp) ?_; intro aD hg w47 yJ hb; have av := yf.mk (yJ); have dh := bG (w := w) hg; have cK := bG (w := w) hg; have bL := Co aa hg; have bP := Ar aa hg; have bN := Co af hg; have bW := Ar af hg; have cu := Co aj hg; have bQ := Ar aj hg; replace ae := EH ae hb; replace ag := BZ ag hb; replace ak := BZ ak hb; replace au := BZ au hb; replace ax := BZ ax hb; replace aA := BZ aA hb; replace aa := bB aa hb; replace af := bB af hb; replace aj := bB aj hb; replace HB := bS HB hb; clear hb yJ hg; have WE := bP.out; have WF := bL.out; have Ui := bW.out; have Uj := bN.out; have Pj := bQ.out; have Pm := cu.out; have Uk := bc2 av; have Ul := bf av; have Rm := bc2 af; have Rn := bf af) | ((with_reducible refine yI (N := 72) rfl ?_); (try (refine Ab (by rfl) ?_; dsimp only)); refine Kd.J4 (Kd.int .i64) _ 3 ?hg (N := 72) ?hd (xs := ([4] : List Int)) (inner := [.int .i64 4]) (ok := fun _ => True) (okp := fun _ => True) ?hr ?hp (fun _ hk => hk) trivial (Below.refl _ _) (Nat.le_refl _) (by simp) ?_; (case hd => rfl); (case hg => rfl); (case hr => go_simp); (case hp => exact (Cj.one (show Kd.M (Kd.int .i64) _ _ _ 4 [.int .i64 4] from rfl) (Cj.none _ _))); intro v430 w53 aQ hb JN DW; clear JN DW; (rw [← bJ.out] at aQ); have BL := yf.mk (Kd.Na (by (with_reducible repeat (apply Kd.Az)); exact (Kd.Bo (GA (g := aD) (Kd.AO ae.out av.out (by decide)) (fun _ hk => hk.2)) (fun _ h_ => h_.1))) (Kd.Bh aQ) hb); have BN := yf.mk (Kd.CP (by (with_reducible repeat (apply Kd.yZ)); exact (Kd.yX (F4 (g := aD) (Kd.Aw ag.out av.out (by decide)) (fun _ hk => hk.2)) (fun _ h_ => h_.1))) hb); have BX := yf.mk (Kd.CP (by (with_reducible repeat (apply Kd.yZ)); exact (Kd.yX (F4 (g := aD) (Kd.Aw ak.out av.out (by decide)) (fun _ hk => hk.2)) (fun _ h_ => h_.1))) hb); have Cr := yf.mk (Kd.CP (by (with_reducible repeat (apply Kd.yZ)); exact (Kd.yX (F4 (g := aD) (Kd.Aw au.out av.out (by decide)) (fun _ hk => hk.2)) (fun _ h_ => h_.1))) hb); have CG := yf.mk (Kd.Bb (by (with_reducible repeat (apply Kd.yZ)); exact (Kd.yX (F4 (g := aD) (Kd.Aw ax.out av.out (by decide)) (fun _ hk => hk.2)) (fun _ h_ => h_.1))) (Kd.Bh aQ) hb); have CU := yf.mk (Kd.CP (by (with_reducible repeat (apply Kd.yZ)); exact (Kd.yX (F4 (g := aD) (Kd.Aw aA.out av.out (by decide)) (fun _ hk => hk.2)) (fun _ h_ => h_.1))) hb); have Eh := yf.mk (Kd.Ay (Kd.C8 aQ (Kd.DV (by (with_reducible repeat (apply Kd.yZ)); exact (Kd.yX (F4 (g := aD) (Kd.Aw ax.out av.out (by decide)) (fun _ hk => hk.2)) (fun _ h_ => h_.1))))) (yL (bO HB))); have F7 := yf.mk (yS (g := aM) (o := .cells #[.int .i64 ai, .slice Jn ah.length IJ, .int .i64 1, .int .i64 2] 31 (0, 0)) (CJ aa rfl) hb); have Gd := yf.mk (yS (g := aJ) (o := .cells #[.int .i64 ay, .int .i64 az] 38 (0, 0)) (CJ af rfl) hb); have IU := yf.mk (yS (g := aI) (o := .cells #[.int .i64 bq, .int .i64 bn] 38 (0, 0)) (CJ aj rfl) hb); have EX := yf.mk (yS (g := aD) (o := .cells #[.int .i64 aG, .int .i64 aH] 38 (0, 0)) (CJ av rfl) hb); have EY := bS HB hb; clear ae; clear ag; clear ak; clear au; clear ax; clear aA; clear aa; clear af; clear aj; clear av; clear HB; have ae := BL; have ag := BN; have ak := BX; have au := Cr; have ax := CG; have aA := CU; have bi := Eh; have aa := F7; have af := Gd; have aj := IU; have av := EX; have HB := EY; clear BL BN BX Cr CG CU Eh F7 Gd IU EX EY; clear hb aQ; obtain ⟨a6w, a6x, a2l⟩ := Kd.zJ ax.out; subst a2l; obtain ⟨di, cO, bT⟩ := Kd.zJ bi.out; subst bT) | (go_at_call 31; (with_reducible refine (zS.calls k _ _ aT _ _ bF true _ ?yD ?yF ?zw ?zx A13.out).mono ?_); (case yD => exact G7 ax); (case yF => exact (Kd.yT ax.out).2.1); (case zw => exact G7 bi); (case zx => exact (Kd.yT bi.out).2.1); rintro e w' ⟨rfl, ⟨nd, rfl⟩⟩; have a1x := bc2 av; have a1y := bf av))
 go_ret
 exact ⟨by rfl, bO HB⟩
end Go.Proofs.Ytjonnfmoocijlaa.P
