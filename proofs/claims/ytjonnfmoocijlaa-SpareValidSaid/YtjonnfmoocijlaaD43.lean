/- Texts of a claim, packed. -/
import Derived.Test.YtjonnfmoocijlaaD36
import Derived.Test.YtjonnfmoocijlaaD37
import Derived.Test.YtjonnfmoocijlaaD42
set_option linter.all false
namespace Go.Proofs.Ytjonnfmoocijlaa.P
open Go.RowKit Go.Proofs.YtjonnfmoocijlaaKW.PrintWords Go.Proofs.YtjonnfmoocijlaaKW.PrintLast Go.Proofs.YtjonnfmoocijlaaKW.PrintMore
attribute [local go_sem] zz zA zS zT zn zo zB zC
def yO.j0 : Nat → Bool → Int → Int → Int → Int → Int → Bool → Option (Bool)
 | 0, _, _, _, _, _, _, _ => none
 | k + 1, x6, x8, Fj, GH, MQ, Rk, x86 => if x86 = true then (none) else (if x6 = true then (if x8 = 0 then (if Fj = 0 then (if GH = 0 then (if MQ = 1 then (none) else (if Rk = 2 then (none) else (some true))) else (none)) else (none)) else (none)) else (if x8 = 1 then (if Fj = 1 then (if GH = 1 then (if MQ = 1 then (if Rk = 1 then (some true) else (none)) else (none)) else (none)) else (none)) else (none)))
def yO.f (k : Nat) (a0 : Int) (l1 : List (AY)) : Option (Bool) := (Ce.f k).bind fun Wh => (if Wh = true then (if (l1.length : Int) > 30 then (some true) else ((zD.f k a0).bind fun AA => ((CU.f l1).bind fun Ia => ((Ai.f k AA.1 AA.2.1 AA.2.2.1 AA.2.2.2 Ia).bind fun Gq => ((yj.f k AA.1 AA.2.1 AA.2.2.1 AA.2.2.2 l1).bind fun Og => (if (Gq != Og) = true then (none) else ((Dr.f k AA.1 AA.2.1 AA.2.2.1 AA.2.2.2 l1 0 0).bind fun PK => ((zP.f k AA.1 AA.2.1 AA.2.2.1 AA.2.2.2 l1 0).bind fun PL => ((Cc.f k AA.1 AA.2.1 AA.2.2.1 AA.2.2.2 l1 0).bind fun PM => (if 0 ≤ AA.1 then (if (AA.1 : Int).toNat ≤ 281474976710656 then ((yN.f k AA.1 AA.2.1 AA.2.2.1 AA.2.2.2 l1 0 (List.replicate (AA.1 : Int).toNat false)).bind fun Ib => ((zi.f k AA.1 AA.2.1 AA.2.2.1 AA.2.2.2 l1 0 0 (-1) 0).bind fun Ic => (if 0 ≤ (wrap64 (AA.1 + 1)) then (if (wrap64 (AA.1 + 1) : Int).toNat ≤ 281474976710656 then ((yN.f k AA.1 AA.2.1 AA.2.2.1 AA.2.2.2 ([] : List (AY)) 0 (List.replicate (wrap64 (AA.1 + 1) : Int).toNat false)).bind fun Ie => (if Ie.2.2 = 1 then ((Ai.f k 0 ([] : List (List Int)) 0 0 ([] : List (AY))).bind fun JA => (yO.j0 k Gq PK.2.2 PL.2 PM.2 Ib.2.2 Ic.2 JA)) else (yO.j0 k Gq PK.2.2 PL.2 PM.2 Ib.2.2 Ic.2 true))) else (none)) else (none)))) else (none)) else (none))))))))))) else (none))
def yO.Xr : Bool × List (List Nat × List Nat) := (true, [([], []), ([], []), ([], []), ([2], [2]), ([3], [3]), ([4, 4], [4]), ([0, 1, 5], [0, 1, 5]), ([6], [6]), ([7], [7]), ([7], [7]), ([], []), ([10, 8, 6, 0, 1, 2, 3, 4, 5, 6, 7, 8, 10], [8, 10]), ([9, 11, 0, 1, 2, 3, 4, 5, 6, 7, 8, 9, 10, 11], [9])])
def yO.B12 : List Nat := [0, 0, 0, 4, 12, 28, 63, 127, 255, 255, 0, 1535, 4095]
theorem yO.OD : CX .any (opsOf Try.f8 12) = yO.Xr := by kernel_rfl
theorem yO.Lr : Bi yO.Xr.2 yO.B12 = true := by kernel_rfl
def yO.Xv : Bool × List (List Nat × List Nat) := (true, [([], []), ([], []), ([1], [1]), ([2], [2]), ([3], [3]), ([4, 4], [4]), ([0, 5], [0, 5]), ([6], [6]), ([7], [7]), ([7], [7]), ([], []), ([10, 8, 6, 0, 1, 2, 3, 4, 5, 6, 7, 8, 10], [8, 10]), ([9, 11, 0, 1, 2, 3, 4, 5, 6, 7, 8, 9, 10, 11], [9])])
def yO.B14 : List Nat := [0, 0, 2, 6, 14, 30, 63, 127, 255, 255, 0, 1535, 4095]
theorem yO.JW : CX .any (opsOf Try.f8 14) = yO.Xv := by kernel_rfl
theorem yO.Ht : Bi yO.Xv.2 yO.B14 = true := by kernel_rfl
set_option maxHeartbeats 8000000 in
set_option maxRecDepth 100000 in
theorem yO.calls (k : Nat) (a0 : Int) (A1 : Option Addr) (c1 : Nat) (l1 : List (AY)) (r : Bool) (w : World) (hr1 : Kd.C Dy w A1 l1.length l1) (hc1 : l1.length ≤ c1) (h : yO.f k a0 l1 = some r) :
  Calls Try.prog 8 #[.int .u16 a0, .slice A1 l1.length c1] w fun e w' => e = .returned (.bool r) ∧ Below w.heap.size w w' := by
 have FB := Try.underlying31;have Lv := Try.underlying38;have Pf := Try.underlying47;have HR1 := yf.mk hr1;have Gd := yf.mk hc1;clear hr1 hc1;have HB := yf.mk (Below.refl w.heap.size w)
 have H : ((Ce.f k).bind fun Wh => (if Wh = true then (if (l1.length : Int) > 30 then (some true) else ((zD.f k a0).bind fun AA => ((CU.f l1).bind fun Ia => ((Ai.f k AA.1 AA.2.1 AA.2.2.1 AA.2.2.2 Ia).bind fun Gq => ((yj.f k AA.1 AA.2.1 AA.2.2.1 AA.2.2.2 l1).bind fun Og => (if (Gq != Og) = true then (none) else ((Dr.f k AA.1 AA.2.1 AA.2.2.1 AA.2.2.2 l1 0 0).bind fun PK => ((zP.f k AA.1 AA.2.1 AA.2.2.1 AA.2.2.2 l1 0).bind fun PL => ((Cc.f k AA.1 AA.2.1 AA.2.2.1 AA.2.2.2 l1 0).bind fun PM => (if 0 ≤ AA.1 then (if (AA.1 : Int).toNat ≤ 281474976710656 then ((yN.f k AA.1 AA.2.1 AA.2.2.1 AA.2.2.2 l1 0 (List.replicate (AA.1 : Int).toNat false)).bind fun Ib => ((zi.f k AA.1 AA.2.1 AA.2.2.1 AA.2.2.2 l1 0 0 (-1) 0).bind fun Ic => (if 0 ≤ (wrap64 (AA.1 + 1)) then (if (wrap64 (AA.1 + 1) : Int).toNat ≤ 281474976710656 then ((yN.f k AA.1 AA.2.1 AA.2.2.1 AA.2.2.2 ([] : List (AY)) 0 (List.replicate (wrap64 (AA.1 + 1) : Int).toNat false)).bind fun Ie => (if Ie.2.2 = 1 then ((Ai.f k 0 ([] : List (List Int)) 0 0 ([] : List (AY))).bind fun JA => (yO.j0 k Gq PK.2.2 PL.2 PM.2 Ib.2.2 Ic.2 JA)) else (yO.j0 k Gq PK.2.2 PL.2 PM.2 Ib.2.2 Ic.2 true))) else (none)) else (none)))) else (none)) else (none))))))))))) else (none))) = some r := h
 clear h;obtain ⟨Wh, A3, H⟩ := bE H
 try dsimp only at H
 by_cases c4 : Wh = true
 rotate_left
 ·
  replace c4 := Bool.eq_false_iff.mpr c4;subst c4
  rw [if_neg (show ¬ (false = true) by decide)] at H
  exact absurd H (by simp)
 subst c4;rw [if_pos rfl] at H
 by_cases c5 : (l1.length : Int) > 30
 ·
  rw [if_pos c5] at H;have Ez := decide_eq_true c5
  have Jj : decide (30 < l1.length) = true := decide_eq_true (by omega)
  clear c5;obtain rfl := Option.some.inj H
  go_enter Try.func8, Try.ntmps8
  go_wp2_with (((with_reducible refine yB (f := 9) rfl ?_); refine gL (some 19) Try.func9 #[] ?_; (with_reducible refine (Ce.calls k  true _ A3.out).mono ?_); rintro e w6 ⟨rfl, hb⟩; refine ⟨_, rfl, ?_⟩; replace HB := bS HB hb; clear hb))
  go_ret
  exact ⟨by rfl, bO HB⟩
 rw [if_neg c5] at H;have Ez := decide_eq_false c5
 have Jj : decide (30 < l1.length) = false := decide_eq_false (by omega)
 clear c5;obtain ⟨⟨aj, ai, az, ay⟩, A7, H⟩ := bE H
 try dsimp only at H
 obtain ⟨Ia, A8, H⟩ := bE H
 try dsimp only at H
 obtain ⟨Gq, A9, H⟩ := bE H
 try dsimp only at H
 obtain ⟨Og, dH, H⟩ := bE H
 try dsimp only at H
 by_cases c11 : (Gq != Og) = true
 ·
  rw [if_pos c11] at H;exact absurd H (by simp)
 rw [if_neg c11] at H
 have Gv : (Gq != Og) = false := by simpa using c11
 (try (have Uk : decide (Gq = Og) = true := by simpa using c11))
 (try (have dP : (Gq == Og) = true := by simpa using c11))
 clear c11;obtain ⟨⟨bq, bu, aU⟩, A12, H⟩ := bE H
 try dsimp only at H
 obtain ⟨⟨cO, aT⟩, A13, H⟩ := bE H
 try dsimp only at H
 obtain ⟨⟨bY, aW⟩, YE, H⟩ := bE H
 try dsimp only at H
 by_cases c15 : 0 ≤ aj
 rotate_left
 ·
  rw [if_neg c15] at H;exact absurd H (by simp)
 rw [if_pos c15] at H;have GY := eq_true c15;have a2t := decide_eq_true c15;clear c15
 by_cases c16 : (aj : Int).toNat ≤ 281474976710656
 rotate_left
 ·
  rw [if_neg c16] at H;exact absurd H (by simp)
 rw [if_pos c16] at H;have G8 := eq_true c16;have Vb := decide_eq_true c16;clear c16;obtain ⟨aQ, dn⟩ : ∃ y_ : List Bool, y_ = (List.replicate (aj : Int).toNat false) := ⟨_, rfl⟩
 replace H : ((yN.f k aj ai az ay l1 0 aQ).bind fun Ib => ((zi.f k aj ai az ay l1 0 0 (-1) 0).bind fun Ic => (if 0 ≤ (wrap64 (aj + 1)) then (if (wrap64 (aj + 1) : Int).toNat ≤ 281474976710656 then ((yN.f k aj ai az ay ([] : List (AY)) 0 (List.replicate (wrap64 (aj + 1) : Int).toNat false)).bind fun Ie => (if Ie.2.2 = 1 then ((Ai.f k 0 ([] : List (List Int)) 0 0 ([] : List (AY))).bind fun JA => (yO.j0 k Gq aU aT aW Ib.2.2 Ic.2 JA)) else (yO.j0 k Gq aU aT aW Ib.2.2 Ic.2 true))) else (none)) else (none)))) = some r := by (rw [dn]; with_reducible exact H)
 have dB := yf.mk dn;clear dn;obtain ⟨⟨bg, aY, aN⟩, Xy, H⟩ := bE H
 try dsimp only at H
 obtain ⟨⟨dx, bi⟩, A18, H⟩ := bE H
 try dsimp only at H
 obtain ⟨aZ, aX⟩ : ∃ j_ : Int, (wrap64 (aj + 1)) = j_ := ⟨_, rfl⟩
 replace H : (if 0 ≤ (aZ) then (if (aZ : Int).toNat ≤ 281474976710656 then ((yN.f k aj ai az ay ([] : List (AY)) 0 (List.replicate (aZ : Int).toNat false)).bind fun Ie => (if Ie.2.2 = 1 then ((Ai.f k 0 ([] : List (List Int)) 0 0 ([] : List (AY))).bind fun JA => (yO.j0 k Gq aU aT aW aN bi JA)) else (yO.j0 k Gq aU aT aW aN bi true))) else (none)) else (none)) = some r := by (rw [aX] at H; exact H)
 (try rw [aX] at A3)
 (try rw [aX] at A7)
 (try rw [aX] at A8)
 (try rw [aX] at A9)
 (try rw [aX] at dH)
 (try rw [aX] at A12)
 (try rw [aX] at A13)
 (try rw [aX] at YE)
 (try rw [aX] at Xy)
 (try rw [aX] at A18)
 have hji19w : (IntKind.i64.wrap (aj + 1)) = aZ := (i64_w _).trans aX
 by_cases c20 : 0 ≤ (aZ)
 rotate_left
 ·
  rw [if_neg c20] at H;exact absurd H (by simp)
 rw [if_pos c20] at H;have IA := eq_true c20;have UU := decide_eq_true c20;clear c20
 by_cases c21 : (aZ : Int).toNat ≤ 281474976710656
 rotate_left
 ·
  rw [if_neg c21] at H;exact absurd H (by simp)
 rw [if_pos c21] at H;have Rl := eq_true c21;have XG := decide_eq_true c21;clear c21;obtain ⟨aV, dz⟩ : ∃ y_ : List Bool, y_ = (List.replicate (aZ : Int).toNat false) := ⟨_, rfl⟩
 replace H : ((yN.f k aj ai az ay ([] : List (AY)) 0 aV).bind fun Ie => (if Ie.2.2 = 1 then ((Ai.f k 0 ([] : List (List Int)) 0 0 ([] : List (AY))).bind fun JA => (yO.j0 k Gq aU aT aW aN bi JA)) else (yO.j0 k Gq aU aT aW aN bi true))) = some r := by (rw [dz]; with_reducible exact H)
 have dC := yf.mk dz;clear dz;obtain ⟨⟨bJ, bC, bH⟩, A22, H⟩ := bE H
 try dsimp only at H
 have dm := yf.mk H;clear H
 go_enter Try.func8, Try.ntmps8
 try go_wp2_with (first | ((with_reducible refine yB (f := 9) rfl ?_); refine gL (some 19) Try.func9 #[] ?_; (with_reducible refine (Ce.calls k  true _ A3.out).mono ?_); rintro e w24 ⟨rfl, hb⟩; refine ⟨_, rfl, ?_⟩; replace HB := bS HB hb; clear hb) | ((with_reducible refine yB (f := 10) rfl ?_); refine gL (some 25) Try.func10 #[.int .u16 a0] ?_; (with_reducible refine (zD.calls k a0 aj ai az ay _ A7.out).mono ?_); rintro e w25 ⟨v852, rfl, ho0, hb⟩; refine ⟨_, rfl, ?_⟩; have ae := yf.mk (Kd.Fy ho0 (yJ (bO HB))); replace HB := bS HB hb; clear hb; clear ho0) | ((with_reducible refine yK (N := 5) rfl ?_); refine yE rfl (N := 5) rfl (cs := #[.int .i64 0, .slice none 0 0, .int .i64 0, .int .i64 0]) (t := 31) (by go_simp) ?_; intro ak hg w26 yG hb; replace ae := H9 ae hb; have aa := yf.mk (yG); have dY := bG (w := w) hg; have fC := bG (w := w) hg; replace HB := bS HB hb; clear hb yG hg; have Hu := AR aa; have Hw := bf aa; obtain ⟨DV, DD, Zq⟩ := Kd.Es ae.out; subst Zq))
 have Bt : yf (Kd.S (Kd.slice 3 (Kd.int .i64)) 63 ((((w26.setCell ⟨ak, 0, none⟩ (.int .i64 aj)).setCell ⟨ak, 1, none⟩ (.slice DV ai.length DD)).setCell ⟨ak, 2, none⟩ (.int .i64 az)).setCell ⟨ak, 3, none⟩ (.int .i64 ay)) w.heap.size (fun _ => True) (.slice DV ai.length DD) ai) := ⟨by (with_reducible repeat (apply Kd.Bb)); exact Kd.Bw (Lc (g := ak) (Kd.BD ae.out aa.out (by decide)) (fun _ hk => hk.2)) (fun _ hk => trivial)⟩
 have Bu : yf (((((w26.setCell ⟨ak, 0, none⟩ (.int .i64 aj)).setCell ⟨ak, 1, none⟩ (.slice DV ai.length DD)).setCell ⟨ak, 2, none⟩ (.int .i64 az)).setCell ⟨ak, 3, none⟩ (.int .i64 ay)).heap[ak]? = some (.cells #[.int .i64 aj, .slice DV ai.length DD, .int .i64 az, .int .i64 ay] 31 (0, 0))) := bK aa rfl
 have BJ : yf (Below w.heap.size w ((((w26.setCell ⟨ak, 0, none⟩ (.int .i64 aj)).setCell ⟨ak, 1, none⟩ (.slice DV ai.length DD)).setCell ⟨ak, 2, none⟩ (.int .i64 az)).setCell ⟨ak, 3, none⟩ (.int .i64 ay))) := ⟨bO HB⟩
 clear ae aa HB;generalize ((((w26.setCell ⟨ak, 0, none⟩ (.int .i64 aj)).setCell ⟨ak, 1, none⟩ (.slice DV ai.length DD)).setCell ⟨ak, 2, none⟩ (.int .i64 az)).setCell ⟨ak, 3, none⟩ (.int .i64 ay)) = w29 at Bt Bu BJ ⊢;have ae := Bt;have aa := Bu;have HB := BJ;clear Bt Bu BJ;replace ae := yf.mk (Kd.IM ae.out);replace aa := yf.mk (yZ aa.out);replace HB := yf.mk (ze HB.out)
 refine AV (n := 5) (S := fun w' => w'.cell? ⟨ak, 0, none⟩ = some (.int .i64 aj) ∧ w'.cell? ⟨ak, 1, none⟩ = some (.slice DV ai.length DD) ∧ w'.cell? ⟨ak, 2, none⟩ = some (.int .i64 az) ∧ w'.cell? ⟨ak, 3, none⟩ = some (.int .i64 ay)) (ds := []) (bz 5 0) (by kernel_rfl) rfl rfl (AR aa) (fun hHeld => ?_)
 generalize w29.drew = w30 at ae aa HB hHeld ⊢
 refine Hl (i := 1) (N := some 27) (v := ?_) (a' := ?_) (bz 5 2) rfl rfl (by kernel_rfl) (fun _ _ _ h => h) (Or.inl ⟨by rfl, ?_⟩) ?_ ?_
 rotate_left
 ·
  intro w'
  go_simp
  with_reducible rfl
 rotate_left
 ·
  simp only [pz]
  rfl
 refine MK (i := 0) (N := some 26) (v := ?_) (a' := ?_) (bz 5 3) rfl rfl (by kernel_rfl) (fun _ _ _ h => h) (Or.inl ⟨by rfl, ?_⟩) hHeld ?_ ?_
 rotate_left
 ·
  rintro w' ⟨s0, s1, s2, s3⟩
  go_simp
  with_reducible rfl
 rotate_left
 ·
  simp only [pz]
  rfl
 refine BP (i := 2) (N := some 28) (bz 5 7) rfl rfl (by kernel_rfl) (by decide) (fun K hK => ?_)
 refine gO Try.func16 #[.slice A1 l1.length c1] ?_
 with_reducible refine (CU.calls _ _ l1 Ia _ ?yF ?yM A8.out).mono ?_
 (case yF => exact Da HR1)
 (case yM => exact Gd.out)
 rintro e w31 ⟨v858, rfl, ho0, hb⟩
 refine ⟨_, rfl, ?_⟩
 replace ae := H9 ae hb;have ag := yf.mk (Kd.AL ho0 (yJ (bO HB)));replace aa := bB aa hb;replace HB := bS HB hb;clear hb ho0;obtain ⟨Fu, EZ, O5⟩ := Kd.zX ag.out
 (subst O5)
 refine hK.out _ _ (AR aa) (fun hHeld => ?_)
 clear hK K
 refine Aj (a' := ?_) ?_ ?_
 rotate_left
 ·
  show Act.put _ (some 28) _ = _
  simp only [pz]
  rfl
 refine BP (i := 3) (N := some 29) (bz 5 15) rfl rfl (by kernel_rfl) (by decide) (fun K hK => ?_)
 refine gO Try.func25 #[.agg #[.int .i64 aj, .slice DV ai.length DD, .int .i64 az, .int .i64 ay], .slice Fu Ia.length EZ] ?_
 with_reducible refine (Ai.calls k aj _ _ ai az ay _ _ Ia Gq _ ?yF ?yM ?zI ?zJ A9.out).mono ?_
 (case yF => exact Ra ae)
 (case yM => exact (Kd.Ca ae.out).2.1)
 (case zI => exact Kz ag)
 (case zJ => exact (Kd.zt ag.out).2.1)
 rintro e w33 ⟨rfl, hb⟩
 refine ⟨_, rfl, ?_⟩
 replace ae := H9 ae hb;replace ag := BN ag hb;replace aa := bB aa hb;replace HB := bS HB hb;clear hb
 refine hK.out _ _ (AR aa) (fun hHeld => ?_)
 clear hK K
 refine Aj (a' := ?_) ?_ ?_
 rotate_left
 ·
  show Act.put _ (some 29) _ = _
  simp only [pz]
  rfl
 refine Hl (i := 4) (N := some 6) (v := ?_) (a' := ?_) (bz 5 31) rfl rfl (by kernel_rfl) (fun _ _ _ h => h) (Or.inl ⟨by rfl, ?_⟩) ?_ ?_
 rotate_left
 ·
  intro w'
  go_simp
  with_reducible rfl
 rotate_left
 ·
  simp only [pz]
  rfl
 refine BI (by kernel_rfl) ?_
 have JX := AR aa;have JY := bf aa
 try go_wp2_with (first | ((with_reducible refine yB (f := 27) rfl ?_); refine gL (some 33) Try.func27 #[.agg #[.int .i64 aj, .slice DV ai.length DD, .int .i64 az, .int .i64 ay], .slice A1 l1.length c1] ?_; (with_reducible refine (yj.calls k aj _ _ ai az ay _ _ l1 Og _ ?yF ?yM ?zI ?zJ dH.out).mono ?_); (case yF => exact Ra ae); (case yM => exact (Kd.Ca ae.out).2.1); (case zI => exact Da HR1); (case zJ => exact Gd.out); rintro e w35 ⟨rfl, hb⟩; refine ⟨_, rfl, ?_⟩; replace ae := H9 ae hb; replace ag := BN ag hb; replace aa := bB aa hb; replace HB := bS HB hb; clear hb; have Rf := AR aa; have Rh := bf aa) | ((with_reducible refine yB (f := 20) rfl ?_); refine gL (some 38) Try.func20 #[.agg #[.int .i64 aj, .slice DV ai.length DD, .int .i64 az, .int .i64 ay], .slice A1 l1.length c1, .int .i64 0, .int .i64 0] ?_; (with_reducible refine (Dr.calls k aj _ _ ai az ay _ _ l1 0 0 bq bu aU _ ?yF ?yM ?zI ?zJ A12.out).mono ?_); (case yF => exact Ra ae); (case yM => exact (Kd.Ca ae.out).2.1); (case zI => exact Da HR1); (case zJ => exact Gd.out); rintro e w37 ⟨rfl, hb⟩; refine ⟨_, rfl, ?_⟩; replace ae := H9 ae hb; replace ag := BN ag hb; replace aa := bB aa hb; replace HB := bS HB hb; clear hb) | ((with_reducible refine yK (N := 7) rfl ?_); refine yE rfl (N := 7) rfl (cs := #[.int .i64 0, .int .i64 0]) (t := 38) (by go_simp) ?_; intro aI hg w38 yG hb; have af := yf.mk (yG); have dV := bG (w := w) hg; have ed := bG (w := w) hg; have dN := BL aa hg; have dK := Ag aa hg; replace ae := H9 ae hb; replace ag := BN ag hb; replace aa := bB aa hb; replace HB := bS HB hb; clear hb yG hg; have Rz := dK.out; have RA := dN.out; have YF := bc2 af; have YG := bf af; have OM := AR aa; have OO := bf aa) | ((with_reducible refine yB (f := 28) rfl ?_); refine gL (some 44) Try.func28 #[.agg #[.int .i64 aj, .slice DV ai.length DD, .int .i64 az, .int .i64 ay], .slice A1 l1.length c1, .int .i64 0] ?_; (with_reducible refine (zP.calls k aj _ _ ai az ay _ _ l1 0 cO aT _ ?yF ?yM ?zI ?zJ A13.out).mono ?_); (case yF => refine (Kd.Ca (e := 63) (base := w.heap.size) (ok := fun k_ => True) (n := ai.length) (c := DD) ?_).2.2; exact (by (with_reducible repeat (apply Kd.Bb)); exact (Kd.Bw (Lc (g := aI) (Kd.BD ae.out af.out (by decide)) (fun _ hk => hk.2)) (fun _ h_ => h_.1)))); (case yM => exact (Kd.Ca ae.out).2.1); (case zI => exact Kd.Ci HR1.out (bO HB)); (case zJ => exact Gd.out); rintro e w42 ⟨v867, rfl, ho0, hb⟩; refine ⟨_, rfl, ?_⟩; replace ae := yf.mk (Kd.EI (by (with_reducible repeat (apply Kd.Bb)); exact (Kd.Bw (Lc (g := aI) (Kd.BD ae.out af.out (by decide)) (fun _ hk => hk.2)) (fun _ h_ => h_.1))) hb); replace ag := yf.mk (Kd.Bh (by (with_reducible repeat (apply Kd.zl)); exact (Kd.zb (GG (g := aI) (Kd.AU ag.out af.out (by decide)) (fun _ hk => hk.2)) (fun _ h_ => h_.1))) hb); have au := yf.mk (Kd.AL ho0 (yJ (bO HB))); replace aa := yf.mk (yX (g := ak) (o := .cells #[.int .i64 aj, .slice DV ai.length DD, .int .i64 az, .int .i64 ay] 31 (0, 0)) (CF aa rfl) hb); replace af := yf.mk (yX (g := aI) (o := .cells #[.int .i64 bq, .int .i64 bu] 38 (0, 0)) (CF af rfl) hb); replace HB := bS HB hb; clear hb; clear ho0; have XA := AR aa; have XB := bf aa) | ((with_reducible refine yB (f := 29) rfl ?_); refine gL (some 50) Try.func29 #[.agg #[.int .i64 aj, .slice DV ai.length DD, .int .i64 az, .int .i64 ay], .slice A1 l1.length c1, .int .i64 0] ?_; (with_reducible refine (Cc.calls k aj _ _ ai az ay _ _ l1 0 bY aW _ ?yF ?yM ?zI ?zJ YE.out).mono ?_); (case yF => exact Ra ae); (case yM => exact (Kd.Ca ae.out).2.1); (case zI => exact Da HR1); (case zJ => exact Gd.out); rintro e w44 ⟨v871, rfl, ho0, hb⟩; refine ⟨_, rfl, ?_⟩; replace ae := yf.mk (Kd.Jd (kS ae) (Kd.AO ho0) hb); replace ag := BN ag hb; replace au := BN au hb; have ax := yf.mk (Kd.AL ho0 (yJ (bO HB))); replace aa := bB aa hb; replace af := bB af hb; replace HB := bS HB hb; clear hb; clear ho0))
 replace ae := yf.mk (Kd.IM ae.out);replace ag := yf.mk (Kd.Cr ag.out);replace au := yf.mk (Kd.Cr au.out);replace ax := yf.mk (Kd.Cr ax.out);replace aa := yf.mk (yZ aa.out);replace af := yf.mk (yZ af.out);replace HB := yf.mk (ze HB.out)
 refine AV (n := 13) (S := fun w' => w'.cell? ⟨ak, 0, none⟩ = some (.int .i64 aj) ∧ w'.cell? ⟨ak, 1, none⟩ = some (.slice DV ai.length DD) ∧ w'.cell? ⟨ak, 2, none⟩ = some (.int .i64 az) ∧ w'.cell? ⟨ak, 3, none⟩ = some (.int .i64 ay)) (ds := []) (bz 13 0) (by kernel_rfl) rfl rfl (AR aa) (fun hHeld => ?_); refine zQ yO.OD yO.Lr (fun yD AZ => ?_)
 generalize w44.drew = w45 at ae ag au ax aa af HB hHeld ⊢;refine pU 1 55 13 2 yD ?_;refine pU 2 56 13 6 yD ?_;refine pU 3 57 13 14 yD ?_
 refine BQ 0 54 13 15 yD AZ hHeld ?_
 refine BQ 4 58 13 31 yD AZ hHeld ?_
 refine Om (σ := Value × Nat) 2 (bz 13 2047) (fun s_ => [(59, s_.1), (60, .tuple #[.agg #[.int .i64 bg, .int .i64 aY], .int .i64 aN]), (13, .pointer (some ⟨s_.2, 0, none⟩)), (53, .tuple #[.agg #[.int .i64 bg, .int .i64 aY], .int .i64 aN]), (61, .agg #[.int .i64 bg, .int .i64 aY]), (62, .int .i64 aN)]) (fun s_ w' => (w'.cell? ⟨ak, 0, none⟩ = some (.int .i64 aj) ∧ w'.cell? ⟨ak, 1, none⟩ = some (.slice DV ai.length DD) ∧ w'.cell? ⟨ak, 2, none⟩ = some (.int .i64 az) ∧ w'.cell? ⟨ak, 3, none⟩ = some (.int .i64 ay)) ∧ (Kd.S (Kd.slice 3 (Kd.int .i64)) 63 w' w.heap.size (fun k_ => some k_ ≠ (v871 : Value).ownBlock) (.slice DV ai.length DD) ai) ∧ (Kd.R Dy 47 w' w.heap.size (fun _ => True) (.slice Fu Ia.length EZ) Ia) ∧ (Kd.R Lf 81 w' w.heap.size (fun _ => True) v867 cO) ∧ (Kd.R (Kd.int .i64) 3 w' w.heap.size (fun _ => True) v871 bY) ∧ (Kd.R Kd.bool 4 w' w.heap.size (fun _ => True) s_.1 aQ) ∧ (w'.heap[ak]? = some (.cells #[.int .i64 aj, .slice DV ai.length DD, .int .i64 az, .int .i64 ay] 31 (0, 0))) ∧ (w'.heap[aI]? = some (.cells #[.int .i64 bq, .int .i64 bu] 38 (0, 0))) ∧ (w'.heap[s_.2]? = some (.cells #[.int .i64 0, .int .i64 0] 38 (0, 0))) ∧ (w.heap.size ≤ s_.2) ∧ (w.heap.size ≤ s_.2) ∧ (ak ≠ s_.2) ∧ (s_.2 ≠ ak) ∧ (aI ≠ s_.2) ∧ (s_.2 ≠ aI) ∧ (Below w.heap.size w w')) ?_ ?_
 rotate_left
 ·
  intro hCont
  refine Mh (i := 5) (j := 10) (Ni := some 59) (Nj := some 13) (bz 13 63) (bz 13 1055) rfl rfl rfl rfl (Gj yD.out (by kernel_rfl)) (by decide) (by decide) (fun K hK => ?_) (fun K hK => ?_)
  ·
   skip
   refine Kd.FZ Kd.bool _ 4 (by rfl) (N := 59) rfl 35 _ _ rfl aj rfl rfl Try.underlying35 (.bool false) 1 Rb rfl (by decide) (by omega) false (ok := fun _ => True) (okp := fun _ => True) rfl (fun _ hk => hk) trivial (of_decide_eq_true ‹_›) (Nat.le_trans (Nat.mul_le_mul_right _ (of_decide_eq_true ‹_› : aj.toNat ≤ 281474976710656)) (by omega)) (Below.refl _ _) (Nat.le_refl _) ?_
   intro v875 w46 dA hb H5 CG
   clear H5 CG
   (rw [← dB.out] at dA)
   replace ae := H9 ae hb;replace ag := BN ag hb;replace au := BN au hb;replace ax := BN ax hb;have av := yf.mk (Kd.AL dA (yJ (bO HB)));replace aa := bB aa hb;replace af := bB af hb;replace HB := bS HB hb;clear hb dA;obtain ⟨ZH, ZI, ZJ⟩ := Kd.zX av.out
   (subst ZJ)
   refine hK.out _ _ (AR aa) (fun hHeld => ?_)
   clear hK K
   refine Aj (a' := ?_) ?_ ?_
   rotate_left
   ·
    show Act.put _ (some 59) _ = _
    simp only [pz]
    rfl
   refine Mh (i := 6) (j := 10) (Ni := some 60) (Nj := some 13) (bz 13 127) (bz 13 1087) rfl rfl rfl rfl (Gj yD.out (by kernel_rfl)) (by decide) (by decide) (fun K hK => ?_) (fun K hK => ?_)
   ·
    skip
    refine gO Try.func13 #[.agg #[.int .i64 aj, .slice DV ai.length DD, .int .i64 az, .int .i64 ay], .slice A1 l1.length c1, .int .i64 0, .slice ZH aQ.length ZI] ?_
    with_reducible refine (yN.calls k aj _ _ ai az ay _ _ l1 0 _ _ aQ bg aY aN _ ?yF ?yM ?zI ?zJ ?CO ?CP Xy.out).mono ?_
    (case yF => exact Ra ae)
    (case yM => exact (Kd.Ca ae.out).2.1)
    (case zI => exact Da HR1)
    (case zJ => exact Gd.out)
    (case CO => exact Kz av)
    (case CP => exact (Kd.zt av.out).2.1)
    rintro e w49 ⟨rfl, hb⟩
    refine ⟨_, rfl, ?_⟩
    replace ae := H9 ae hb;replace ag := BN ag hb;replace au := BN au hb;replace ax := BN ax hb;replace av := BN av hb;replace aa := bB aa hb;replace af := bB af hb;replace HB := bS HB hb;clear hb
    refine hK.out _ _ (AR aa) (fun hHeld => ?_)
    clear hK K
    refine Aj (a' := ?_) ?_ ?_
    rotate_left
    ·
     show Act.put _ (some 60) _ = _
     simp only [pz]
     rfl
    refine pU 7 53 13 255 yD ?_;refine pU 8 61 13 511 yD ?_;refine pU 9 62 13 1023 yD ?_
    refine BP (i := 10) (N := some 13) (bz 13 2047) rfl rfl (Af yD.out (by kernel_rfl)) (by decide) (fun K hK => ?_)
    refine D8 ?hg (N := 13) ?hd (cs := #[.int .i64 0, .int .i64 0]) (t := 38) ?hr ?_; (case hd => rfl); (case hg => rfl); (case hr => go_simp)
    intro aA hg w50 yG hb
    have Bt := H9 ae hb;have Bu := BN ag hb;have BJ := BN au hb;have Cs := BN ax hb;have CJ := BN av hb;have Db := bB aa hb;have Ec := bB af hb;have En := bS HB hb;have EB := yf.mk (yG);have EC := bG (w := w) hg;have Ct := bG (w := w) hg;have CL := BL aa hg;have D9 := Ag aa hg;have Dq := BL af hg;have aM := Ag af hg;clear ae ag au ax av aa af HB;have ae := Bt;have ag := Bu;have au := BJ;have ax := Cs;have av := CJ;have aa := Db;have af := Ec;have HB := En;have ah := EB;have bX := EC;have bW := Ct;have aJ := CL;have bn := D9;have bM := Dq;have bI := aM;clear Bt Bu BJ Cs CJ Db Ec En EB EC Ct CL D9 Dq aM hb yG hg
    refine hK.out _ _ (AR aa) (fun hHeld => ?_)
    clear hK K
    refine Aj (a' := ?_) ?_ ?_
    rotate_left
    ·
     show Act.put _ (some 13) _ = _
     simp only [pz]
     rfl
    exact Ew (hCont (.slice ZH aQ.length ZI, aA) _ ⟨hHeld, (by (with_reducible repeat (apply Kd.Bb)); exact Kd.Bw ae.out (fun _ hk => hk.2)), (kR ag), (kR au), (kR ax), (kR av), (kk aa), (kk af), (kk ah), bX.out, bW.out, aJ.out, bn.out, bM.out, bI.out, (bO HB)⟩)
   skip
   refine D8 ?hg (N := 13) ?hd (cs := #[.int .i64 0, .int .i64 0]) (t := 38) ?hr ?_; (case hd => rfl); (case hg => rfl); (case hr => go_simp)
   intro aA hg w48 yG hb
   have Bt := H9 ae hb;have Bu := BN ag hb;have BJ := BN au hb;have Cs := BN ax hb;have CJ := BN av hb;have Db := bB aa hb;have Ec := bB af hb;have En := bS HB hb;have EB := yf.mk (yG);have EC := bG (w := w) hg;have Ct := bG (w := w) hg;have CL := BL aa hg;have D9 := Ag aa hg;have Dq := BL af hg;have aM := Ag af hg;clear ae ag au ax av aa af HB;have ae := Bt;have ag := Bu;have au := BJ;have ax := Cs;have av := CJ;have aa := Db;have af := Ec;have HB := En;have ah := EB;have bX := EC;have bW := Ct;have aJ := CL;have bn := D9;have bM := Dq;have bI := aM;clear Bt Bu BJ Cs CJ Db Ec En EB EC Ct CL D9 Dq aM hb yG hg;obtain ⟨Qv, Qw, Qx⟩ := Kd.zX av.out
   ((injection Qx with M5 QR M6; have QS := M5.symm; have QT := M6.symm; clear M5 QR M6; subst QS; subst QT))
   refine hK.out _ _ (AR aa) (fun hHeld => ?_)
   clear hK K
   refine Aj (a' := ?_) ?_ ?_
   rotate_left
   ·
    show Act.put _ (some 13) _ = _
    simp only [pz]
    rfl
   refine BP (i := 6) (N := some 60) (bz 13 1151) rfl rfl (Af yD.out (by kernel_rfl)) (by decide) (fun K hK => ?_)
   refine gO Try.func13 #[.agg #[.int .i64 aj, .slice DV ai.length DD, .int .i64 az, .int .i64 ay], .slice A1 l1.length c1, .int .i64 0, .slice Qv aQ.length Qw] ?_
   with_reducible refine (yN.calls k aj _ _ ai az ay _ _ l1 0 _ _ aQ bg aY aN _ ?yF ?yM ?zI ?zJ ?CO ?CP Xy.out).mono ?_
   (case yF => exact Ra ae)
   (case yM => exact (Kd.Ca ae.out).2.1)
   (case zI => exact Da HR1)
   (case zJ => exact Gd.out)
   (case CO => exact Kz av)
   (case CP => exact (Kd.zt av.out).2.1)
   rintro e w50 ⟨rfl, hb⟩
   refine ⟨_, rfl, ?_⟩
   replace ae := H9 ae hb;replace ag := BN ag hb;replace au := BN au hb;replace ax := BN ax hb;replace av := BN av hb;replace aa := bB aa hb;replace af := bB af hb;replace ah := bB ah hb;replace HB := bS HB hb;clear hb
   refine hK.out _ _ (AR aa) (fun hHeld => ?_)
   clear hK K
   refine Aj (a' := ?_) ?_ ?_
   rotate_left
   ·
    show Act.put _ (some 60) _ = _
    simp only [pz]
    rfl
   refine pU 7 53 13 1279 yD ?_;refine pU 8 61 13 1535 yD ?_;refine pU 9 62 13 2047 yD ?_
   exact Ew (hCont (.slice Qv aQ.length Qw, aA) _ ⟨hHeld, (by (with_reducible repeat (apply Kd.Bb)); exact Kd.Bw ae.out (fun _ hk => hk.2)), (kR ag), (kR au), (kR ax), (kR av), (kk aa), (kk af), (kk ah), bX.out, bW.out, aJ.out, bn.out, bM.out, bI.out, (bO HB)⟩)
  skip
  refine D8 ?hg (N := 13) ?hd (cs := #[.int .i64 0, .int .i64 0]) (t := 38) ?hr ?_; (case hd => rfl); (case hg => rfl); (case hr => go_simp)
  intro aA hg w46 yG hb
  have Bt := H9 ae hb;have Bu := BN ag hb;have BJ := BN au hb;have Cs := BN ax hb;have CJ := bB aa hb;have Db := bB af hb;have Ec := bS HB hb;have En := yf.mk (yG);have EB := bG (w := w) hg;have EC := bG (w := w) hg;have Ct := BL aa hg;have CL := Ag aa hg;have D9 := BL af hg;have Dq := Ag af hg;clear ae ag au ax aa af HB;have ae := Bt;have ag := Bu;have au := BJ;have ax := Cs;have aa := CJ;have af := Db;have HB := Ec;have ah := En;have bX := EB;have bW := EC;have aJ := Ct;have bn := CL;have bM := D9;have bI := Dq;clear Bt Bu BJ Cs CJ Db Ec En EB EC Ct CL D9 Dq hb yG hg
  refine hK.out _ _ (AR aa) (fun hHeld => ?_)
  clear hK K
  refine Aj (a' := ?_) ?_ ?_
  rotate_left
  ·
   show Act.put _ (some 13) _ = _
   simp only [pz]
   rfl
  refine BP (i := 5) (N := some 59) (bz 13 1087) rfl rfl (Af yD.out (by kernel_rfl)) (by decide) (fun K hK => ?_)
  refine Kd.FZ Kd.bool _ 4 (by rfl) (N := 59) rfl 35 _ _ rfl aj rfl rfl Try.underlying35 (.bool false) 1 Rb rfl (by decide) (by omega) false (ok := fun _ => True) (okp := fun _ => True) rfl (fun _ hk => hk) trivial (of_decide_eq_true ‹_›) (Nat.le_trans (Nat.mul_le_mul_right _ (of_decide_eq_true ‹_› : aj.toNat ≤ 281474976710656)) (by omega)) (Below.refl _ _) (Nat.le_refl _) ?_
  intro v875 w47 dw hb H5 CG
  clear H5 CG
  (rw [← dB.out] at dw)
  replace ae := H9 ae hb;replace ag := BN ag hb;replace au := BN au hb;replace ax := BN ax hb;have av := yf.mk (Kd.AL dw (yJ (bO HB)));replace aa := bB aa hb;replace af := bB af hb;replace ah := bB ah hb;replace HB := bS HB hb;clear hb dw;obtain ⟨Qv, Qw, Qx⟩ := Kd.zX av.out
  (subst Qx)
  refine hK.out _ _ (AR aa) (fun hHeld => ?_)
  clear hK K
  refine Aj (a' := ?_) ?_ ?_
  rotate_left
  ·
   show Act.put _ (some 59) _ = _
   simp only [pz]
   rfl
  refine BP (i := 6) (N := some 60) (bz 13 1151) rfl rfl (Af yD.out (by kernel_rfl)) (by decide) (fun K hK => ?_)
  refine gO Try.func13 #[.agg #[.int .i64 aj, .slice DV ai.length DD, .int .i64 az, .int .i64 ay], .slice A1 l1.length c1, .int .i64 0, .slice Qv aQ.length Qw] ?_
  with_reducible refine (yN.calls k aj _ _ ai az ay _ _ l1 0 _ _ aQ bg aY aN _ ?yF ?yM ?zI ?zJ ?CO ?CP Xy.out).mono ?_
  (case yF => exact Ra ae)
  (case yM => exact (Kd.Ca ae.out).2.1)
  (case zI => exact Da HR1)
  (case zJ => exact Gd.out)
  (case CO => exact Kz av)
  (case CP => exact (Kd.zt av.out).2.1)
  rintro e w50 ⟨rfl, hb⟩
  refine ⟨_, rfl, ?_⟩
  replace ae := H9 ae hb;replace ag := BN ag hb;replace au := BN au hb;replace ax := BN ax hb;replace av := BN av hb;replace aa := bB aa hb;replace af := bB af hb;replace ah := bB ah hb;replace HB := bS HB hb;clear hb
  refine hK.out _ _ (AR aa) (fun hHeld => ?_)
  clear hK K
  refine Aj (a' := ?_) ?_ ?_
  rotate_left
  ·
   show Act.put _ (some 60) _ = _
   simp only [pz]
   rfl
  refine pU 7 53 13 1279 yD ?_;refine pU 8 61 13 1535 yD ?_;refine pU 9 62 13 2047 yD ?_
  exact Ew (hCont (.slice Qv aQ.length Qw, aA) _ ⟨hHeld, (by (with_reducible repeat (apply Kd.Bb)); exact Kd.Bw ae.out (fun _ hk => hk.2)), (kR ag), (kR au), (kR ax), (kR av), (kk aa), (kk af), (kk ah), bX.out, bW.out, aJ.out, bn.out, bM.out, bI.out, (bO HB)⟩)
 rintro ⟨v875, aA⟩ w51 ⟨X9, Si, PS, PT, Sj, Sk, Sl, Sm, Sn, Sq, Sr, Jv, Jw, Jy, Jz, cz⟩
 have av : yf (Kd.R Kd.bool 4 w51 w.heap.size (fun _ => True) v875 aQ) := ⟨Sk⟩
 have ah : yf (w51.heap[aA]? = some (.cells #[.int .i64 0, .int .i64 0] 38 (0, 0))) := ⟨Sn⟩
 have bX : yf (w.heap.size ≤ aA) := ⟨Sq⟩
 have bW : yf (w.heap.size ≤ aA) := ⟨Sr⟩
 have aJ : yf (ak ≠ aA) := ⟨Jv⟩
 have bn : yf (aA ≠ ak) := ⟨Jw⟩
 have bM : yf (aI ≠ aA) := ⟨Jy⟩
 have bI : yf (aA ≠ aI) := ⟨Jz⟩
 replace ae : yf (Kd.S (Kd.slice 3 (Kd.int .i64)) 63 w51 w.heap.size (fun k_ => some k_ ≠ (v871 : Value).ownBlock) (.slice DV ai.length DD) ai) := ⟨Si⟩
 replace ag : yf (Kd.R Dy 47 w51 w.heap.size (fun _ => True) (.slice Fu Ia.length EZ) Ia) := ⟨PS⟩
 replace au : yf (Kd.R Lf 81 w51 w.heap.size (fun _ => True) v867 cO) := ⟨PT⟩
 replace ax : yf (Kd.R (Kd.int .i64) 3 w51 w.heap.size (fun _ => True) v871 bY) := ⟨Sj⟩
 replace aa : yf (w51.heap[ak]? = some (.cells #[.int .i64 aj, .slice DV ai.length DD, .int .i64 az, .int .i64 ay] 31 (0, 0))) := ⟨Sl⟩
 replace af : yf (w51.heap[aI]? = some (.cells #[.int .i64 bq, .int .i64 bu] 38 (0, 0))) := ⟨Sm⟩
 replace HB : yf (Below w.heap.size w w51) := ⟨cz⟩
 clear Si PS PT Sj Sk Sl Sm Sn Sq Sr Jv Jw Jy Jz cz
 have hHeld : w51.cell? ⟨ak, 0, none⟩ = some (.int .i64 aj) ∧ w51.cell? ⟨ak, 1, none⟩ = some (.slice DV ai.length DD) ∧ w51.cell? ⟨ak, 2, none⟩ = some (.int .i64 az) ∧ w51.cell? ⟨ak, 3, none⟩ = some (.int .i64 ay) := X9
 refine Aj (a' := ?_) ?_ ?_
 rotate_left
 ·
  simp only [GL, Act.put, List.setIfInBounds_toArray, List.set_cons_zero, List.set_cons_succ]
  rfl
 refine BP (i := 11) (N := none) (bz 13 4095) rfl rfl (Af yD.out (by kernel_rfl)) (by decide) (fun K hK => ?_)
 have fM : w51.cell? ⟨aA, 0, none⟩ = some (.int .i64 0) := (yz ah.out 0).trans rfl
 have dS := zm ah.out 0;have fD := aJ.out;have fu := bM.out;have eO := bn.out;have dU := bI.out
 have eZ : w51.cell? ⟨aA, 1, none⟩ = some (.int .i64 0) := (yz ah.out 1).trans rfl
 have fo := zm ah.out 1;have fq := aJ.out;have dR := bM.out;have fF := bn.out;have eH := bI.out
 refine G5 (w1 := ?_) (by rfl) rfl ?_ ?_
 rotate_left
 ·
  go_simp
  rfl
 refine hK.out _ _ ⟨((cell_far (p := ⟨aA, _, none⟩) aJ.out _).trans (((cell_far (p := ⟨aA, _, none⟩) aJ.out _).trans (hHeld.1)))), ((cell_far (p := ⟨aA, _, none⟩) aJ.out _).trans (((cell_far (p := ⟨aA, _, none⟩) aJ.out _).trans (hHeld.2.1)))), ((cell_far (p := ⟨aA, _, none⟩) aJ.out _).trans (((cell_far (p := ⟨aA, _, none⟩) aJ.out _).trans (hHeld.2.2.1)))), ((cell_far (p := ⟨aA, _, none⟩) aJ.out _).trans (((cell_far (p := ⟨aA, _, none⟩) aJ.out _).trans (hHeld.2.2.2))))⟩ (fun hHeld => ?_)
 clear hK K;refine pU 12 14 13 8191 yD ?_
 refine BI (Az yD.out (by kernel_rfl)) ?_
 have a2B := aJ.out;have a2C := bn.out;have a2D := AR aa;have a2E := bf aa
 try go_wp2_with (((with_reducible refine yB (f := 17) rfl ?_); refine gL (some 68) Try.func17 #[.agg #[.int .i64 aj, .slice DV ai.length DD, .int .i64 az, .int .i64 ay], .slice A1 l1.length c1, .agg #[.int .i64 0, .int .i64 0, .int .i64 (-1), .int .i64 0]] ?_; (with_reducible refine (zi.calls k aj _ _ ai az ay _ _ l1 0 0 (-1) 0 dx bi _ ?yF ?yM ?zI ?zJ A18.out).mono ?_); (case yF => refine (Kd.Ca (e := 63) (base := w.heap.size) (ok := fun k_ => some k_ ≠ (v871 : Value).ownBlock) (n := ai.length) (c := DD) ?_).2.2; exact (by (with_reducible repeat (apply Kd.Bb)); exact (Kd.Bw (Lc (g := aA) (Kd.BD ae.out ah.out (by decide)) (fun _ hk => hk.2)) (fun _ h_ => h_.1)))); (case yM => exact (Kd.Ca ae.out).2.1); (case zI => exact Kd.Ci HR1.out (bO HB)); (case zJ => exact Gd.out); rintro e w56 ⟨v882, rfl, ho0, hb⟩; refine ⟨_, rfl, ?_⟩; have Bt := yf.mk (Kd.EI (by (with_reducible repeat (apply Kd.Bb)); exact (Kd.Bw (Lc (g := aA) (Kd.BD ae.out ah.out (by decide)) (fun _ hk => hk.2)) (fun _ h_ => h_.1))) hb); have Bu := yf.mk (Kd.Bf (by (with_reducible repeat (apply Kd.zl)); exact (Kd.zb (GG (g := aA) (Kd.AU ag.out ah.out (by decide)) (fun _ hk => hk.2)) (fun _ h_ => h_.1))) (Kd.AO ho0) hb); have BJ := yf.mk (Kd.Bh (by (with_reducible repeat (apply Kd.zl)); exact (Kd.zb (GG (g := aA) (Kd.AU au.out ah.out (by decide)) (fun _ hk => hk.2)) (fun _ h_ => h_.1))) hb); have Cs := yf.mk (Kd.Bh (by (with_reducible repeat (apply Kd.zl)); exact (Kd.zb (GG (g := aA) (Kd.AU ax.out ah.out (by decide)) (fun _ hk => hk.2)) (fun _ h_ => h_.1))) hb); have CJ := yf.mk (Kd.Bh (by (with_reducible repeat (apply Kd.zl)); exact (Kd.zb (GG (g := aA) (Kd.AU av.out ah.out (by decide)) (fun _ hk => hk.2)) (fun _ h_ => h_.1))) hb); have Db := yf.mk (Kd.AL (Kd.CE ho0 (Kd.Em (by (with_reducible repeat (apply Kd.zl)); exact (Kd.zb (GG (g := aA) (Kd.AU ag.out ah.out (by decide)) (fun _ hk => hk.2)) (fun _ h_ => h_.1))))) (yJ (bO HB))); have Ec := yf.mk (yX (g := ak) (o := .cells #[.int .i64 aj, .slice DV ai.length DD, .int .i64 az, .int .i64 ay] 31 (0, 0)) (CF aa rfl) hb); have En := yf.mk (yX (g := aI) (o := .cells #[.int .i64 bq, .int .i64 bu] 38 (0, 0)) (CF af rfl) hb); have EB := yf.mk (yX (g := aA) (o := .cells #[.int .i64 bg, .int .i64 aY] 38 (0, 0)) (CF ah rfl) hb); have EC := bS HB hb; clear ae; clear ag; clear au; clear ax; clear av; clear aa; clear af; clear ah; clear HB; have ae := Bt; have ag := Bu; have au := BJ; have ax := Cs; have av := CJ; have aD := Db; have aa := Ec; have af := En; have ah := EB; have HB := EC; clear Bt Bu BJ Cs CJ Db Ec En EB EC; clear hb; clear ho0))
 replace ae := yf.mk (Kd.IM ae.out);replace ag := yf.mk (Kd.Cr ag.out);replace au := yf.mk (Kd.Cr au.out);replace ax := yf.mk (Kd.Cr ax.out);replace av := yf.mk (Kd.Cr av.out);replace aD := yf.mk (Kd.Cr aD.out);replace aa := yf.mk (yZ aa.out);replace af := yf.mk (yZ af.out);replace ah := yf.mk (yZ ah.out);replace HB := yf.mk (ze HB.out)
 refine AV (n := 13) (S := fun w' => w'.cell? ⟨ak, 0, none⟩ = some (.int .i64 aj) ∧ w'.cell? ⟨ak, 1, none⟩ = some (.slice DV ai.length DD) ∧ w'.cell? ⟨ak, 2, none⟩ = some (.int .i64 az) ∧ w'.cell? ⟨ak, 3, none⟩ = some (.int .i64 ay)) (ds := []) (bz 13 0) (by kernel_rfl) rfl rfl (AR aa) (fun hHeld => ?_); refine zQ yO.JW yO.Ht (fun yD AZ => ?_)
 generalize w56.drew = w57 at ae ag au ax av aD aa af ah HB hHeld ⊢;refine pU 1 73 13 2 yD ?_;refine pU 2 74 13 6 yD ?_
 refine BQ 0 72 13 7 yD AZ hHeld ?_
 refine BQ 3 75 13 15 yD AZ hHeld ?_
 refine pU 4 76 13 31 yD ?_
 refine Om (σ := Value × Nat) 2 (bz 13 2047) (fun s_ => [(77, s_.1), (78, .tuple #[.agg #[.int .i64 bJ, .int .i64 bC], .int .i64 bH]), (17, .pointer (some ⟨s_.2, 0, none⟩)), (71, .tuple #[.agg #[.int .i64 bJ, .int .i64 bC], .int .i64 bH]), (79, .agg #[.int .i64 bJ, .int .i64 bC]), (80, .int .i64 bH)]) (fun s_ w' => (w'.cell? ⟨ak, 0, none⟩ = some (.int .i64 aj) ∧ w'.cell? ⟨ak, 1, none⟩ = some (.slice DV ai.length DD) ∧ w'.cell? ⟨ak, 2, none⟩ = some (.int .i64 az) ∧ w'.cell? ⟨ak, 3, none⟩ = some (.int .i64 ay)) ∧ (Kd.S (Kd.slice 3 (Kd.int .i64)) 63 w' w.heap.size (fun k_ => some k_ ≠ (v871 : Value).ownBlock) (.slice DV ai.length DD) ai) ∧ (Kd.R Dy 47 w' w.heap.size (fun k_ => some k_ ≠ (v882 : Value).ownBlock) (.slice Fu Ia.length EZ) Ia) ∧ (Kd.R Lf 81 w' w.heap.size (fun _ => True) v867 cO) ∧ (Kd.R (Kd.int .i64) 3 w' w.heap.size (fun _ => True) v871 bY) ∧ (Kd.R Kd.bool 4 w' w.heap.size (fun k_ => some k_ ≠ (s_.1 : Value).ownBlock) v875 aQ) ∧ (Kd.R Dy 47 w' w.heap.size (fun k_ => some k_ ≠ (.slice Fu Ia.length EZ : Value).ownBlock) v882 dx) ∧ (Kd.R Kd.bool 4 w' w.heap.size (fun k_ => some k_ ≠ (v875 : Value).ownBlock) s_.1 aV) ∧ (w'.heap[ak]? = some (.cells #[.int .i64 aj, .slice DV ai.length DD, .int .i64 az, .int .i64 ay] 31 (0, 0))) ∧ (w'.heap[aI]? = some (.cells #[.int .i64 bq, .int .i64 bu] 38 (0, 0))) ∧ (w'.heap[aA]? = some (.cells #[.int .i64 bg, .int .i64 aY] 38 (0, 0))) ∧ (w'.heap[s_.2]? = some (.cells #[.int .i64 0, .int .i64 0] 38 (0, 0))) ∧ (w.heap.size ≤ s_.2) ∧ (w.heap.size ≤ s_.2) ∧ (ak ≠ s_.2) ∧ (s_.2 ≠ ak) ∧ (aI ≠ s_.2) ∧ (s_.2 ≠ aI) ∧ (aA ≠ s_.2) ∧ (s_.2 ≠ aA) ∧ (Below w.heap.size w w')) ?_ ?_
 rotate_left
 ·
  intro hCont
  refine Mh (i := 5) (j := 10) (Ni := some 77) (Nj := some 17) (bz 13 63) (bz 13 1055) rfl rfl rfl rfl (Gj yD.out (by kernel_rfl)) (by decide) (by decide) (fun K hK => ?_) (fun K hK => ?_)
  ·
   skip
   refine Kd.FZ Kd.bool _ 4 (by rfl) (N := 77) rfl 35 _ _ rfl aZ rfl rfl Try.underlying35 (.bool false) 1 Rb rfl (by decide) (by omega) false (ok := fun _ => True) (okp := fun _ => True) rfl (fun _ hk => hk) trivial (of_decide_eq_true ‹_›) (Nat.le_trans (Nat.mul_le_mul_right _ (of_decide_eq_true ‹_› : aZ.toNat ≤ 281474976710656)) (by omega)) (Below.refl _ _) (Nat.le_refl _) ?_
   intro v886 w58 dh hb H5 CG
   clear H5 CG
   (rw [← dC.out] at dh)
   have Bt := H9 ae hb;have Bu := BN ag hb;have BJ := BN au hb;have Cs := BN ax hb;have CJ := yf.mk (Kd.Bf (kR av) (Kd.AO dh) hb);have Db := BN aD hb;have Ec := yf.mk (Kd.AL (Kd.CE dh (Kd.Em (kR av))) (yJ (bO HB)));have En := bB aa hb;have EB := bB af hb;have EC := bB ah hb;have Ct := bS HB hb;clear ae ag au ax av aD aa af ah HB;have ae := Bt;have ag := Bu;have au := BJ;have ax := Cs;have av := CJ;have aD := Db;have aH := Ec;have aa := En;have af := EB;have ah := EC;have HB := Ct;clear Bt Bu BJ Cs CJ Db Ec En EB EC Ct hb dh;obtain ⟨a0c, a0d, a0e⟩ := Kd.zX aH.out
   (subst a0e)
   refine hK.out _ _ (AR aa) (fun hHeld => ?_)
   clear hK K
   refine Aj (a' := ?_) ?_ ?_
   rotate_left
   ·
    show Act.put _ (some 77) _ = _
    simp only [pz]
    rfl
   refine Mh (i := 6) (j := 10) (Ni := some 78) (Nj := some 17) (bz 13 127) (bz 13 1087) rfl rfl rfl rfl (Gj yD.out (by kernel_rfl)) (by decide) (by decide) (fun K hK => ?_) (fun K hK => ?_)
   ·
    skip
    refine gO Try.func13 #[.agg #[.int .i64 aj, .slice DV ai.length DD, .int .i64 az, .int .i64 ay], .slice none 0 0, .int .i64 0, .slice a0c aV.length a0d] ?_
    refine (yN.calls k aj _ _ ai az ay _ _ ([] : List (AY)) 0 _ _ aV bJ bC bH _ ?yF ?yM ?zI ?zJ ?CO ?CP A22.out).mono ?_
    (case yF => exact Ra ae)
    (case yM => exact (Kd.Ca ae.out).2.1)
    (case zI => exact Kd.Gs _ _)
    (case zJ => exact Nat.le_refl _)
    (case CO => exact Kz aH)
    (case CP => exact (Kd.zt aH.out).2.1)
    rintro e w61 ⟨rfl, hb⟩
    refine ⟨_, rfl, ?_⟩
    replace ae := H9 ae hb;replace ag := BN ag hb;replace au := BN au hb;replace ax := BN ax hb;replace av := BN av hb;replace aD := BN aD hb;replace aH := BN aH hb;replace aa := bB aa hb;replace af := bB af hb;replace ah := bB ah hb;replace HB := bS HB hb;clear hb
    refine hK.out _ _ (AR aa) (fun hHeld => ?_)
    clear hK K
    refine Aj (a' := ?_) ?_ ?_
    rotate_left
    ·
     show Act.put _ (some 78) _ = _
     simp only [pz]
     rfl
    refine pU 7 71 13 255 yD ?_;refine pU 8 79 13 511 yD ?_;refine pU 9 80 13 1023 yD ?_
    refine BP (i := 10) (N := some 17) (bz 13 2047) rfl rfl (Af yD.out (by kernel_rfl)) (by decide) (fun K hK => ?_)
    refine D8 ?hg (N := 17) ?hd (cs := #[.int .i64 0, .int .i64 0]) (t := 38) ?hr ?_; (case hd => rfl); (case hg => rfl); (case hr => go_simp)
    intro aC hg w62 yG hb
    have Bt := H9 ae hb;have Bu := BN ag hb;have BJ := BN au hb;have Cs := BN ax hb;have CJ := BN av hb;have Db := BN aD hb;have Ec := BN aH hb;have En := bB aa hb;have EB := bB af hb;have EC := bB ah hb;have Ct := bS HB hb;have CL := yf.mk (yG);have D9 := bG (w := w) hg;have Dq := bG (w := w) hg;have aM := BL aa hg;have bP := Ag aa hg;have bR := BL af hg;have bL := Ag af hg;have bv := BL ah hg;have cK := Ag ah hg;clear ae ag au ax av aD aH aa af ah HB;have ae := Bt;have ag := Bu;have au := BJ;have ax := Cs;have av := CJ;have aD := Db;have aH := Ec;have aa := En;have af := EB;have ah := EC;have HB := Ct;have aG := CL;have bV := D9;have bU := Dq;have aK := aM;have bF := bP;have bD := bR;have bN := bL;have bQ := bv;have bA := cK;clear Bt Bu BJ Cs CJ Db Ec En EB EC Ct CL D9 Dq aM bP bR bL bv cK hb yG hg
    refine hK.out _ _ (AR aa) (fun hHeld => ?_)
    clear hK K
    refine Aj (a' := ?_) ?_ ?_
    rotate_left
    ·
     show Act.put _ (some 17) _ = _
     simp only [pz]
     rfl
    exact Ew (hCont (.slice a0c aV.length a0d, aC) _ ⟨hHeld, (kS ae), (by (with_reducible repeat (apply Kd.zl)); exact Kd.zb ag.out (fun _ hk => hk.2)), (kR au), (kR ax), (by (with_reducible repeat (apply Kd.zl)); exact Kd.zb av.out (fun _ hk => hk.2)), (by (with_reducible repeat (apply Kd.zl)); exact Kd.zb aD.out (fun _ hk => hk.2)), (by (with_reducible repeat (apply Kd.zl)); exact Kd.zb aH.out (fun _ hk => hk.2)), (kk aa), (kk af), (kk ah), (kk aG), bV.out, bU.out, aK.out, bF.out, bD.out, bN.out, bQ.out, bA.out, (bO HB)⟩)
   skip
   refine D8 ?hg (N := 17) ?hd (cs := #[.int .i64 0, .int .i64 0]) (t := 38) ?hr ?_; (case hd => rfl); (case hg => rfl); (case hr => go_simp)
   intro aC hg w60 yG hb
   have Bt := H9 ae hb;have Bu := BN ag hb;have BJ := BN au hb;have Cs := BN ax hb;have CJ := BN av hb;have Db := BN aD hb;have Ec := BN aH hb;have En := bB aa hb;have EB := bB af hb;have EC := bB ah hb;have Ct := bS HB hb;have CL := yf.mk (yG);have D9 := bG (w := w) hg;have Dq := bG (w := w) hg;have aM := BL aa hg;have bP := Ag aa hg;have bR := BL af hg;have bL := Ag af hg;have bv := BL ah hg;have cK := Ag ah hg;clear ae ag au ax av aD aH aa af ah HB;have ae := Bt;have ag := Bu;have au := BJ;have ax := Cs;have av := CJ;have aD := Db;have aH := Ec;have aa := En;have af := EB;have ah := EC;have HB := Ct;have aG := CL;have bV := D9;have bU := Dq;have aK := aM;have bF := bP;have bD := bR;have bN := bL;have bQ := bv;have bA := cK;clear Bt Bu BJ Cs CJ Db Ec En EB EC Ct CL D9 Dq aM bP bR bL bv cK hb yG hg;obtain ⟨Tu, Tv, VA⟩ := Kd.zX aH.out
   ((injection VA with M5 QR M6; have QS := M5.symm; have QT := M6.symm; clear M5 QR M6; subst QS; subst QT))
   refine hK.out _ _ (AR aa) (fun hHeld => ?_)
   clear hK K
   refine Aj (a' := ?_) ?_ ?_
   rotate_left
   ·
    show Act.put _ (some 17) _ = _
    simp only [pz]
    rfl
   refine BP (i := 6) (N := some 78) (bz 13 1151) rfl rfl (Af yD.out (by kernel_rfl)) (by decide) (fun K hK => ?_)
   refine gO Try.func13 #[.agg #[.int .i64 aj, .slice DV ai.length DD, .int .i64 az, .int .i64 ay], .slice none 0 0, .int .i64 0, .slice Tu aV.length Tv] ?_
   refine (yN.calls k aj _ _ ai az ay _ _ ([] : List (AY)) 0 _ _ aV bJ bC bH _ ?yF ?yM ?zI ?zJ ?CO ?CP A22.out).mono ?_
   (case yF => exact Ra ae)
   (case yM => exact (Kd.Ca ae.out).2.1)
   (case zI => exact Kd.Gs _ _)
   (case zJ => exact Nat.le_refl _)
   (case CO => exact Kz aH)
   (case CP => exact (Kd.zt aH.out).2.1)
   rintro e w62 ⟨rfl, hb⟩
   refine ⟨_, rfl, ?_⟩
   replace ae := H9 ae hb;replace ag := BN ag hb;replace au := BN au hb;replace ax := BN ax hb;replace av := BN av hb;replace aD := BN aD hb;replace aH := BN aH hb;replace aa := bB aa hb;replace af := bB af hb;replace ah := bB ah hb;replace aG := bB aG hb;replace HB := bS HB hb;clear hb
   refine hK.out _ _ (AR aa) (fun hHeld => ?_)
   clear hK K
   refine Aj (a' := ?_) ?_ ?_
   rotate_left
   ·
    show Act.put _ (some 78) _ = _
    simp only [pz]
    rfl
   refine pU 7 71 13 1279 yD ?_;refine pU 8 79 13 1535 yD ?_;refine pU 9 80 13 2047 yD ?_
   exact Ew (hCont (.slice Tu aV.length Tv, aC) _ ⟨hHeld, (kS ae), (by (with_reducible repeat (apply Kd.zl)); exact Kd.zb ag.out (fun _ hk => hk.2)), (kR au), (kR ax), (by (with_reducible repeat (apply Kd.zl)); exact Kd.zb av.out (fun _ hk => hk.2)), (by (with_reducible repeat (apply Kd.zl)); exact Kd.zb aD.out (fun _ hk => hk.2)), (by (with_reducible repeat (apply Kd.zl)); exact Kd.zb aH.out (fun _ hk => hk.2)), (kk aa), (kk af), (kk ah), (kk aG), bV.out, bU.out, aK.out, bF.out, bD.out, bN.out, bQ.out, bA.out, (bO HB)⟩)
  skip
  refine D8 ?hg (N := 17) ?hd (cs := #[.int .i64 0, .int .i64 0]) (t := 38) ?hr ?_; (case hd => rfl); (case hg => rfl); (case hr => go_simp)
  intro aC hg w58 yG hb
  have Bt := H9 ae hb;have Bu := BN ag hb;have BJ := BN au hb;have Cs := BN ax hb;have CJ := BN av hb;have Db := BN aD hb;have Ec := bB aa hb;have En := bB af hb;have EB := bB ah hb;have EC := bS HB hb;have Ct := yf.mk (yG);have CL := bG (w := w) hg;have D9 := bG (w := w) hg;have Dq := BL aa hg;have aM := Ag aa hg;have bP := BL af hg;have bR := Ag af hg;have bL := BL ah hg;have bv := Ag ah hg;clear ae ag au ax av aD aa af ah HB;have ae := Bt;have ag := Bu;have au := BJ;have ax := Cs;have av := CJ;have aD := Db;have aa := Ec;have af := En;have ah := EB;have HB := EC;have aG := Ct;have bV := CL;have bU := D9;have aK := Dq;have bF := aM;have bD := bP;have bN := bR;have bQ := bL;have bA := bv;clear Bt Bu BJ Cs CJ Db Ec En EB EC Ct CL D9 Dq aM bP bR bL bv hb yG hg
  refine hK.out _ _ (AR aa) (fun hHeld => ?_)
  clear hK K
  refine Aj (a' := ?_) ?_ ?_
  rotate_left
  ·
   show Act.put _ (some 17) _ = _
   simp only [pz]
   rfl
  refine BP (i := 5) (N := some 77) (bz 13 1087) rfl rfl (Af yD.out (by kernel_rfl)) (by decide) (fun K hK => ?_)
  refine Kd.FZ Kd.bool _ 4 (by rfl) (N := 77) rfl 35 _ _ rfl aZ rfl rfl Try.underlying35 (.bool false) 1 Rb rfl (by decide) (by omega) false (ok := fun _ => True) (okp := fun _ => True) rfl (fun _ hk => hk) trivial (of_decide_eq_true ‹_›) (Nat.le_trans (Nat.mul_le_mul_right _ (of_decide_eq_true ‹_› : aZ.toNat ≤ 281474976710656)) (by omega)) (Below.refl _ _) (Nat.le_refl _) ?_
  intro v886 w59 df hb H5 CG
  clear H5 CG
  (rw [← dC.out] at df)
  have Bt := H9 ae hb;have Bu := BN ag hb;have BJ := BN au hb;have Cs := BN ax hb;have CJ := yf.mk (Kd.Bf (kR av) (Kd.AO df) hb);have Db := BN aD hb;have Ec := yf.mk (Kd.AL (Kd.CE df (Kd.Em (kR av))) (yJ (bO HB)));have En := bB aa hb;have EB := bB af hb;have EC := bB ah hb;have Ct := bB aG hb;have CL := bS HB hb;clear ae ag au ax av aD aa af ah aG HB;have ae := Bt;have ag := Bu;have au := BJ;have ax := Cs;have av := CJ;have aD := Db;have aH := Ec;have aa := En;have af := EB;have ah := EC;have aG := Ct;have HB := CL;clear Bt Bu BJ Cs CJ Db Ec En EB EC Ct CL hb df;obtain ⟨Tu, Tv, VA⟩ := Kd.zX aH.out
  (subst VA)
  refine hK.out _ _ (AR aa) (fun hHeld => ?_)
  clear hK K
  refine Aj (a' := ?_) ?_ ?_
  rotate_left
  ·
   show Act.put _ (some 77) _ = _
   simp only [pz]
   rfl
  refine BP (i := 6) (N := some 78) (bz 13 1151) rfl rfl (Af yD.out (by kernel_rfl)) (by decide) (fun K hK => ?_)
  refine gO Try.func13 #[.agg #[.int .i64 aj, .slice DV ai.length DD, .int .i64 az, .int .i64 ay], .slice none 0 0, .int .i64 0, .slice Tu aV.length Tv] ?_
  refine (yN.calls k aj _ _ ai az ay _ _ ([] : List (AY)) 0 _ _ aV bJ bC bH _ ?yF ?yM ?zI ?zJ ?CO ?CP A22.out).mono ?_
  (case yF => exact Ra ae)
  (case yM => exact (Kd.Ca ae.out).2.1)
  (case zI => exact Kd.Gs _ _)
  (case zJ => exact Nat.le_refl _)
  (case CO => exact Kz aH)
  (case CP => exact (Kd.zt aH.out).2.1)
  rintro e w62 ⟨rfl, hb⟩
  refine ⟨_, rfl, ?_⟩
  replace ae := H9 ae hb;replace ag := BN ag hb;replace au := BN au hb;replace ax := BN ax hb;replace av := BN av hb;replace aD := BN aD hb;replace aH := BN aH hb;replace aa := bB aa hb;replace af := bB af hb;replace ah := bB ah hb;replace aG := bB aG hb;replace HB := bS HB hb;clear hb
  refine hK.out _ _ (AR aa) (fun hHeld => ?_)
  clear hK K
  refine Aj (a' := ?_) ?_ ?_
  rotate_left
  ·
   show Act.put _ (some 78) _ = _
   simp only [pz]
   rfl
  refine pU 7 71 13 1279 yD ?_;refine pU 8 79 13 1535 yD ?_;refine pU 9 80 13 2047 yD ?_
  exact Ew (hCont (.slice Tu aV.length Tv, aC) _ ⟨hHeld, (kS ae), (by (with_reducible repeat (apply Kd.zl)); exact Kd.zb ag.out (fun _ hk => hk.2)), (kR au), (kR ax), (by (with_reducible repeat (apply Kd.zl)); exact Kd.zb av.out (fun _ hk => hk.2)), (by (with_reducible repeat (apply Kd.zl)); exact Kd.zb aD.out (fun _ hk => hk.2)), (by (with_reducible repeat (apply Kd.zl)); exact Kd.zb aH.out (fun _ hk => hk.2)), (kk aa), (kk af), (kk ah), (kk aG), bV.out, bU.out, aK.out, bF.out, bD.out, bN.out, bQ.out, bA.out, (bO HB)⟩)
 rintro ⟨v886, aC⟩ w63 ⟨X9, Si, PS, PT, Sj, Sk, Sl, Sm, Sn, Sq, Sr, Jv, Jw, Jy, Jz, cz, dF, dI, dD, dE, dG⟩
 have aH : yf (Kd.R Kd.bool 4 w63 w.heap.size (fun k_ => some k_ ≠ (v875 : Value).ownBlock) v886 aV) := ⟨Sm⟩
 have aG : yf (w63.heap[aC]? = some (.cells #[.int .i64 0, .int .i64 0] 38 (0, 0))) := ⟨Jv⟩
 have bV : yf (w.heap.size ≤ aC) := ⟨Jw⟩
 have bU : yf (w.heap.size ≤ aC) := ⟨Jy⟩
 have aK : yf (ak ≠ aC) := ⟨Jz⟩
 have bF : yf (aC ≠ ak) := ⟨cz⟩
 have bD : yf (aI ≠ aC) := ⟨dF⟩
 have bN : yf (aC ≠ aI) := ⟨dI⟩
 have bQ : yf (aA ≠ aC) := ⟨dD⟩
 have bA : yf (aC ≠ aA) := ⟨dE⟩
 replace ae : yf (Kd.S (Kd.slice 3 (Kd.int .i64)) 63 w63 w.heap.size (fun k_ => some k_ ≠ (v871 : Value).ownBlock) (.slice DV ai.length DD) ai) := ⟨Si⟩
 replace ag : yf (Kd.R Dy 47 w63 w.heap.size (fun k_ => some k_ ≠ (v882 : Value).ownBlock) (.slice Fu Ia.length EZ) Ia) := ⟨PS⟩
 replace au : yf (Kd.R Lf 81 w63 w.heap.size (fun _ => True) v867 cO) := ⟨PT⟩
 replace ax : yf (Kd.R (Kd.int .i64) 3 w63 w.heap.size (fun _ => True) v871 bY) := ⟨Sj⟩
 replace av : yf (Kd.R Kd.bool 4 w63 w.heap.size (fun k_ => some k_ ≠ (v886 : Value).ownBlock) v875 aQ) := ⟨Sk⟩
 replace aD : yf (Kd.R Dy 47 w63 w.heap.size (fun k_ => some k_ ≠ (.slice Fu Ia.length EZ : Value).ownBlock) v882 dx) := ⟨Sl⟩
 replace aa : yf (w63.heap[ak]? = some (.cells #[.int .i64 aj, .slice DV ai.length DD, .int .i64 az, .int .i64 ay] 31 (0, 0))) := ⟨Sn⟩
 replace af : yf (w63.heap[aI]? = some (.cells #[.int .i64 bq, .int .i64 bu] 38 (0, 0))) := ⟨Sq⟩
 replace ah : yf (w63.heap[aA]? = some (.cells #[.int .i64 bg, .int .i64 aY] 38 (0, 0))) := ⟨Sr⟩
 replace HB : yf (Below w.heap.size w w63) := ⟨dG⟩
 clear Si PS PT Sj Sk Sl Sm Sn Sq Sr Jv Jw Jy Jz cz dF dI dD dE dG
 have hHeld : w63.cell? ⟨ak, 0, none⟩ = some (.int .i64 aj) ∧ w63.cell? ⟨ak, 1, none⟩ = some (.slice DV ai.length DD) ∧ w63.cell? ⟨ak, 2, none⟩ = some (.int .i64 az) ∧ w63.cell? ⟨ak, 3, none⟩ = some (.int .i64 ay) := X9
 refine Aj (a' := ?_) ?_ ?_
 rotate_left
 ·
  simp only [GL, Act.put, List.setIfInBounds_toArray, List.set_cons_zero, List.set_cons_succ]
  rfl
 refine BP (i := 11) (N := none) (bz 13 4095) rfl rfl (Af yD.out (by kernel_rfl)) (by decide) (fun K hK => ?_)
 have fe : w63.cell? ⟨aC, 0, none⟩ = some (.int .i64 0) := (yz aG.out 0).trans rfl
 have dO := zm aG.out 0;have eD := aK.out;have eF := bD.out;have dX := bQ.out;have eT := bF.out;have fJ := bN.out;have fQ := bA.out
 have fw : w63.cell? ⟨aC, 1, none⟩ = some (.int .i64 0) := (yz aG.out 1).trans rfl
 have ek := zm aG.out 1;have fG := aK.out;have eY := bD.out;have fA := bQ.out;have fU := bF.out;have eB := bN.out;have fP := bA.out
 refine G5 (w1 := ?_) (by rfl) rfl ?_ ?_
 rotate_left
 ·
  go_simp
  rfl
 refine hK.out _ _ ⟨((cell_far (p := ⟨aC, _, none⟩) aK.out _).trans (((cell_far (p := ⟨aC, _, none⟩) aK.out _).trans (hHeld.1)))), ((cell_far (p := ⟨aC, _, none⟩) aK.out _).trans (((cell_far (p := ⟨aC, _, none⟩) aK.out _).trans (hHeld.2.1)))), ((cell_far (p := ⟨aC, _, none⟩) aK.out _).trans (((cell_far (p := ⟨aC, _, none⟩) aK.out _).trans (hHeld.2.2.1)))), ((cell_far (p := ⟨aC, _, none⟩) aK.out _).trans (((cell_far (p := ⟨aC, _, none⟩) aK.out _).trans (hHeld.2.2.2))))⟩ (fun hHeld => ?_)
 clear hK K;refine pU 12 18 13 8191 yD ?_
 refine BI (Az yD.out (by kernel_rfl)) ?_
 go_upto_region 15 with (fail)
 go_cut [86] (fun v86 wc => ∃ (kq : Nat) (di : Bool), v86 = .bool di ∧ yf (yO.j0 kq Gq aU aT aW aN bi di = some r) ∧ yf (kq ≤ k) ∧ yf (Kd.S (Kd.slice 3 (Kd.int .i64)) 63 wc w.heap.size (fun _ => True) (.slice DV ai.length DD) ai) ∧ yf (wc.heap[ak]? = some (.cells #[.int .i64 aj, (.slice DV ai.length DD), .int .i64 az, .int .i64 ay] 31 (0, 0))) ∧ yf (wc.heap[aI]? = some (.cells #[.int .i64 bq, .int .i64 bu] 38 (0, 0))) ∧ yf (wc.heap[aA]? = some (.cells #[.int .i64 bg, .int .i64 aY] 38 (0, 0))) ∧ yf (wc.heap[aC]? = some (.cells #[.int .i64 bJ, .int .i64 bC] 38 (0, 0))) ∧ yf (Below w.heap.size w wc))
 case first =>
  have H := dm.out;clear dm
  by_cases bT : bH = 1
  ·
   rw [if_pos bT] at H;have dJ := beq_iff_eq.mpr bT
   have dM : (bH != 1) = false := bne_eq_false_iff_eq.mpr bT
   clear bT
   (skip)
   obtain ⟨JA, dL, H⟩ := bE H
   try dsimp only at H
   have H' := yf.mk H;clear H
   go_wp2_with ((go_at_call 25; (refine (Ai.calls k 0 _ _ ([] : List (List Int)) 0 0 _ _ ([] : List (AY)) JA _ ?yF ?yM ?zI ?zJ dL.out).mono ?_); (case yF => exact Kd.Gs _ _); (case yM => exact Nat.le_refl _); (case zI => exact Kd.Gs _ _); (case zJ => exact Nat.le_refl _); rintro e w68 ⟨rfl, hb⟩; replace ae := yf.mk (Kd.EI (by (with_reducible repeat (apply Kd.Bb)); exact (Kd.Bw (Lc (g := aC) (Kd.BD ae.out aG.out (by decide)) (fun _ hk => hk.2)) (fun _ h_ => h_.1))) hb); replace ag := yf.mk (Kd.Bh (by (with_reducible repeat (apply Kd.zl)); exact (Kd.zb (GG (g := aC) (Kd.AU ag.out aG.out (by decide)) (fun _ hk => hk.2)) (fun _ h_ => h_.1))) hb); replace au := yf.mk (Kd.Bh (by (with_reducible repeat (apply Kd.zl)); exact (Kd.zb (GG (g := aC) (Kd.AU au.out aG.out (by decide)) (fun _ hk => hk.2)) (fun _ h_ => h_.1))) hb); replace ax := yf.mk (Kd.Bh (by (with_reducible repeat (apply Kd.zl)); exact (Kd.zb (GG (g := aC) (Kd.AU ax.out aG.out (by decide)) (fun _ hk => hk.2)) (fun _ h_ => h_.1))) hb); replace av := yf.mk (Kd.Bh (by (with_reducible repeat (apply Kd.zl)); exact (Kd.zb (GG (g := aC) (Kd.AU av.out aG.out (by decide)) (fun _ hk => hk.2)) (fun _ h_ => h_.1))) hb); replace aD := yf.mk (Kd.Bh (by (with_reducible repeat (apply Kd.zl)); exact (Kd.zb (GG (g := aC) (Kd.AU aD.out aG.out (by decide)) (fun _ hk => hk.2)) (fun _ h_ => h_.1))) hb); replace aH := yf.mk (Kd.Bh (by (with_reducible repeat (apply Kd.zl)); exact (Kd.zb (GG (g := aC) (Kd.AU aH.out aG.out (by decide)) (fun _ hk => hk.2)) (fun _ h_ => h_.1))) hb); replace aa := yf.mk (yX (g := ak) (o := .cells #[.int .i64 aj, .slice DV ai.length DD, .int .i64 az, .int .i64 ay] 31 (0, 0)) (CF aa rfl) hb); replace af := yf.mk (yX (g := aI) (o := .cells #[.int .i64 bq, .int .i64 bu] 38 (0, 0)) (CF af rfl) hb); replace ah := yf.mk (yX (g := aA) (o := .cells #[.int .i64 bg, .int .i64 aY] 38 (0, 0)) (CF ah rfl) hb); replace aG := yf.mk (yX (g := aC) (o := .cells #[.int .i64 bJ, .int .i64 bC] 38 (0, 0)) (CF aG rfl) hb); replace HB := bS HB hb; clear hb))
   go_meet
   case rel => exact ⟨_, (JA), (by rfl), H', ⟨by omega⟩, ⟨by (with_reducible repeat (apply Kd.Bb)); exact Kd.Bw ae.out (fun _ hk => trivial)⟩, ⟨kk aa⟩, ⟨kk af⟩, ⟨kk ah⟩, ⟨kk aG⟩, ⟨bO HB⟩⟩
  rw [if_neg bT] at H;have dJ := beq_eq_false_iff_ne.mpr bT;have dM := bne_iff_ne.mpr bT
  (skip)
  have H' := yf.mk H;clear H
  go_wp2
  go_meet
  case rel => exact ⟨_, (true), (by rfl), H', ⟨by omega⟩, ⟨by (with_reducible repeat (apply Kd.Bb)); exact Kd.Bw (Lc (g := aC) (Kd.BD ae.out aG.out (by decide)) (fun _ hk => hk.2)) (fun _ hk => trivial)⟩, bK aa rfl, bK af rfl, bK ah rfl, bK aG rfl, ⟨bO HB⟩⟩
 case rest =>
 clear dm;obtain ⟨kq, di, rfl, HA, fE, fH, aa, af, ah, aG, HB⟩ := hcut
 cases kq with
 | zero => exact absurd HA.out (by simp [yO.j0])
 | succ dW =>
  have H := HA.out;clear HA;simp only [yO.j0] at H
  by_cases V8 : di = true
  ·
   subst V8;rw [if_pos rfl] at H;exact absurd H (by simp)
  ·
   replace V8 := Bool.eq_false_iff.mpr V8;subst V8
   rw [if_neg (show ¬ (false = true) by decide)] at H
   by_cases c70 : Gq = true
   ·
    subst c70;rw [if_pos rfl] at H
    by_cases cZ : aU = 0
    ·
     rw [if_pos cZ] at H;have fT := beq_iff_eq.mpr cZ
     have eu : (aU != 0) = false := bne_eq_false_iff_eq.mpr cZ
     clear cZ
     by_cases c72 : aT = 0
     ·
      rw [if_pos c72] at H;have fO := beq_iff_eq.mpr c72
      have eP : (aT != 0) = false := bne_eq_false_iff_eq.mpr c72
      clear c72
      by_cases bZ : aW = 0
      ·
       rw [if_pos bZ] at H;have eU := beq_iff_eq.mpr bZ
       have eX : (aW != 0) = false := bne_eq_false_iff_eq.mpr bZ
       clear bZ
       by_cases VB : aN = 1
       ·
        rw [if_pos VB] at H;exact absurd H (by simp)
       ·
        rw [if_neg VB] at H;have YA := beq_eq_false_iff_ne.mpr VB;have dZ := bne_iff_ne.mpr VB
        by_cases c75 : bi = 2
        ·
         rw [if_pos c75] at H;exact absurd H (by simp)
        ·
         rw [if_neg c75] at H;have a2c := beq_eq_false_iff_ne.mpr c75;have eG := bne_iff_ne.mpr c75;obtain rfl := Option.some.inj H
         go_wp2
         go_ret
         exact ⟨by rfl, bO HB⟩
      ·
       rw [if_neg bZ] at H;exact absurd H (by simp)
     ·
      rw [if_neg c72] at H;exact absurd H (by simp)
    ·
     rw [if_neg cZ] at H;exact absurd H (by simp)
   ·
    replace c70 := Bool.eq_false_iff.mpr c70;subst c70
    rw [if_neg (show ¬ (false = true) by decide)] at H
    by_cases c76 : aU = 1
    ·
     rw [if_pos c76] at H;have a2d := beq_iff_eq.mpr c76
     have dQ : (aU != 1) = false := bne_eq_false_iff_eq.mpr c76
     clear c76
     by_cases Tw : aT = 1
     ·
      rw [if_pos Tw] at H;have YB := beq_iff_eq.mpr Tw
      have YC : (aT != 1) = false := bne_eq_false_iff_eq.mpr Tw
      clear Tw
      by_cases cu : aW = 1
      ·
       rw [if_pos cu] at H;have fB := beq_iff_eq.mpr cu
       have fK : (aW != 1) = false := bne_eq_false_iff_eq.mpr cu
       clear cu
       by_cases d9 : aN = 1
       ·
        rw [if_pos d9] at H;have fI := beq_iff_eq.mpr d9
        have eQ : (aN != 1) = false := bne_eq_false_iff_eq.mpr d9
        clear d9
        by_cases c80 : bi = 1
        ·
         rw [if_pos c80] at H;have a1t := beq_iff_eq.mpr c80
         have a1u : (bi != 1) = false := bne_eq_false_iff_eq.mpr c80
         clear c80;obtain rfl := Option.some.inj H
         go_wp2
         go_ret
         exact ⟨by rfl, bO HB⟩
        ·
         rw [if_neg c80] at H;exact absurd H (by simp)
       ·
        rw [if_neg d9] at H;exact absurd H (by simp)
      ·
       rw [if_neg cu] at H;exact absurd H (by simp)
     ·
      rw [if_neg Tw] at H;exact absurd H (by simp)
    ·
     rw [if_neg c76] at H;exact absurd H (by simp)
end Go.Proofs.Ytjonnfmoocijlaa.P
