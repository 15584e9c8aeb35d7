/- Texts of a claim, packed. -/
import Derived.Test.YtjonnfmoocijlaaC42
import Derived.Test.YtjonnfmoocijlaaC46
set_option linter.all false
namespace Go.Proofs.Ytjonnfmoocijlaa.P
open Go.RowKit Go.Proofs.YtjonnfmoocijlaaKW.PrintWords Go.Proofs.YtjonnfmoocijlaaKW.PrintLast Go.Proofs.YtjonnfmoocijlaaKW.PrintMore
attribute [local go_sem] zO zP Aj Ak zC zD zQ zR
attribute [local go_sem high] Mr
mutual
def yl.j0 : Nat → List (AX) → List Bool → Int → Bool → Int → List (List Int) → Int → Int → Int → Int → Option (Bool)
 | 0, _, _, _, _, _, _, _, _, _, _ => none
 | k + 1, x8, x9, F5, x81, ag, af, ae, aa, ai, ah => if x81 = true then (none) else (yl.l0 k x8 x9 F5 0 ag af ae aa ai ah)
def yl.l0 : Nat → List (AX) → List Bool → Int → Int → Int → List (List Int) → Int → Int → Int → Int → Option (Bool)
 | 0, _, _, _, _, _, _, _, _, _, _ => none
 | k + 1, x8, x9, F5, F6, ag, af, ae, aa, ai, ah => (zi.f ag af ae aa).bind fun VE => (if F6 < VE then ((zy.f k ag af ae aa x8 F5 F6).bind fun ak => (if 0 ≤ ak.1 then (if ak.1 < (x9.length : Int) then (if Ha false x9 ak.1 = true then ((zl.f k ag af ae aa x8 F5 F6 ai ah).bind fun Lh => (if Lh.2 = 0 then ((Cs.f k ag af ae aa Lh.1).bind fun VF => (yl.j2 k x8 x9 F5 F6 Lh.1 (!VF) ag af ae aa ai ah)) else (yl.j2 k x8 x9 F5 F6 Lh.1 true ag af ae aa ai ah))) else (yl.l0 k x8 x9 F5 (wrap64 (F6 + 1)) ag af ae aa ai ah)) else (none)) else (none))) else (some true))
def yl.j2 : Nat → List (AX) → List Bool → Int → Int → List (AX) → Bool → Int → List (List Int) → Int → Int → Int → Int → Option (Bool)
 | 0, _, _, _, _, _, _, _, _, _, _, _, _ => none
 | k + 1, x8, x9, F5, F6, IG, x115, ag, af, ae, aa, ai, ah => if x115 = true then (none) else (yl.l1 k x8 x9 F5 F6 IG 0 ag af ae aa ai ah)
def yl.l1 : Nat → List (AX) → List Bool → Int → Int → List (AX) → Int → Int → List (List Int) → Int → Int → Int → Int → Option (Bool)
 | 0, _, _, _, _, _, _, _, _, _, _, _, _ => none
 | k + 1, x8, x9, F5, F6, IG, KI, ag, af, ae, aa, ai, ah => (zi.f ag af ae aa).bind fun YI => (if KI < YI then ((Dg.f k ag af ae aa IG F5 KI).bind fun aj => (if aj.2.2 = 0 then (if KI = F6 then (if (!(aj.1 == ai) || (!(aj.2.1 == ah))) = true then (yl.j4 k x8 x9 F5 F6 IG KI true ag af ae aa ai ah) else (yl.j4 k x8 x9 F5 F6 IG KI false ag af ae aa ai ah)) else ((zy.f k ag af ae aa x8 F5 KI).bind fun au => (yl.j4 k x8 x9 F5 F6 IG KI (!(aj.1 == au.1) || (!(aj.2.1 == au.2))) ag af ae aa ai ah))) else (yl.j4 k x8 x9 F5 F6 IG KI true ag af ae aa ai ah))) else (yl.l0 k x8 x9 F5 (wrap64 (F6 + 1)) ag af ae aa ai ah))
def yl.j4 : Nat → List (AX) → List Bool → Int → Int → List (AX) → Int → Bool → Int → List (List Int) → Int → Int → Int → Int → Option (Bool)
 | 0, _, _, _, _, _, _, _, _, _, _, _, _, _ => none
 | k + 1, x8, x9, F5, F6, IG, KI, av, ag, af, ae, aa, ai, ah => if av = true then (none) else (yl.l1 k x8 x9 F5 F6 IG (wrap64 (KI + 1)) ag af ae aa ai ah)
end
def yl.f (k : Nat) (a0 : Int) (l1 : List Int) (zn : Int) (zz : Int) : Option (Bool) := (zN.f k).bind fun YJ => (if YJ = true then (if (l1.length : Int) > 20 then (some true) else ((zh.f k a0).bind fun Bp => ((yK.f k Bp.1 Bp.2.1 Bp.2.2.1 Bp.2.2.2 l1).bind fun CB => ((zk.f k Bp.1 zz).bind fun CF => ((zI.f Bp.1 Bp.2.1 Bp.2.2.1 Bp.2.2.2).bind fun Es => (if Es = 0 then (none) else ((zI.f Bp.1 Bp.2.1 Bp.2.2.1 Bp.2.2.2).bind fun EG => ((zI.f Bp.1 Bp.2.1 Bp.2.2.1 Bp.2.2.2).bind fun Et => (if Et = 0 then (none) else ((yV.f k Bp.1 Bp.2.1 Bp.2.2.1 Bp.2.2.2 CB (Int.tmod (wrap64 ((Int.tmod zn Es) + EG)) Et) CF).bind fun DZ => (if DZ.2.2 = 0 then (if DZ.1 < 0 then (yl.j0 k CB CF (Int.tmod (wrap64 ((Int.tmod zn Es) + EG)) Et) true Bp.1 Bp.2.1 Bp.2.2.1 Bp.2.2.2 DZ.1 DZ.2.1) else (if DZ.1 ≥ (CF.length : Int) then (yl.j0 k CB CF (Int.tmod (wrap64 ((Int.tmod zn Es) + EG)) Et) true Bp.1 Bp.2.1 Bp.2.2.1 Bp.2.2.2 DZ.1 DZ.2.1) else (if 0 ≤ DZ.1 then (if DZ.1 < (CF.length : Int) then (if Ha false CF DZ.1 = true then (yl.j0 k CB CF (Int.tmod (wrap64 ((Int.tmod zn Es) + EG)) Et) true Bp.1 Bp.2.1 Bp.2.2.1 Bp.2.2.2 DZ.1 DZ.2.1) else ((AA.f Bp.1 Bp.2.1 Bp.2.2.1 Bp.2.2.2).bind fun Sn => (yl.j0 k CB CF (Int.tmod (wrap64 ((Int.tmod zn Es) + EG)) Et) (decide (DZ.2.1 < Sn)) Bp.1 Bp.2.1 Bp.2.2.1 Bp.2.2.2 DZ.1 DZ.2.1))) else (none)) else (none)))) else (if DZ.2.2 = 11 then (some true) else (none))))))))))))) else (none))
def yl.T8 : Bool × List (List Nat × List Nat) := (true, [([], []), ([0], [0]), ([], []), ([2], [2]), ([1, 3], [1, 3]), ([], []), ([5, 3], [5]), ([4, 6], [4, 6]), ([], []), ([8, 6], [8]), ([7, 9], [7, 9]), ([10, 9, 0, 1, 2, 3, 4, 5, 6, 7, 8, 9, 10], [10])])
def yl.B8 : List Nat := [0, 1, 0, 4, 15, 0, 44, 127, 0, 364, 1023, 2047]
theorem yl.Xr : CZ .any (opsOf Try.f6 8) = yl.T8 := by kernel_rfl
theorem yl.Rw : BD yl.T8.2 yl.B8 = true := by kernel_rfl
def yl.T12 : Bool × List (List Nat × List Nat) := (true, [([], []), ([0], [0]), ([1], [1]), ([2], [2]), ([3], [3]), ([4, 3], [3, 4]), ([3], [3]), ([6, 3], [3, 6]), ([5, 7, 3], [3, 5, 7]), ([3, 8], [3, 8]), ([9, 3], [9]), ([10], [10]), ([10], [10]), ([12, 10], [10, 12]), ([11, 13, 10], [10, 11, 13]), ([14, 10], [10, 14]), ([10, 15], [10, 15]), ([16, 10], [16]), ([17], [17]), ([18, 17], [17, 18]), ([17], [17]), ([20, 17, 17], [17, 20]), ([19, 21, 17], [17, 19, 21]), ([17, 22], [17, 22])])
def yl.B12 : List Nat := [0, 1, 3, 7, 15, 31, 15, 79, 255, 511, 1023, 2047, 2047, 6143, 16383, 32767, 65535, 131071, 262143, 524287, 262143, 1310719, 4194303, 8388607]
theorem yl.M6 : CZ .any (opsOf Try.f6 12) = yl.T12 := by kernel_rfl
theorem yl.Jb : BD yl.T12.2 yl.B12 = true := by kernel_rfl
def yl.T25 : Bool × List (List Nat × List Nat) := (true, [([], []), ([0], [0]), ([1], [1]), ([2], [2]), ([2], [2]), ([3, 4, 2], [2, 3, 4]), ([5, 2, 2], [2, 5]), ([6], [6]), ([6], [6]), ([7, 8, 6], [6, 7, 8]), ([6, 9, 2], [2, 6, 9]), ([2, 10], [2, 10]), ([11, 6], [11]), ([12], [12]), ([12], [12]), ([13, 14, 12], [12, 13, 14]), ([15, 12, 12], [12, 15]), ([16], [16]), ([16], [16]), ([16], [16]), ([16], [16]), ([16], [16]), ([18, 19, 20, 21, 16, 16], [16, 18, 19, 20, 21]), ([17, 22, 16], [16, 17, 22]), ([16, 23, 12], [12, 16, 23]), ([12, 24], [12, 24])])
def yl.B25 : List Nat := [0, 1, 3, 7, 7, 31, 63, 127, 127, 511, 1023, 2047, 4095, 8191, 8191, 32767, 65535, 131071, 131071, 131071, 131071, 131071, 4063231, 8388607, 16777215, 33554431]
theorem yl.UN : CZ .any (opsOf Try.f6 25) = yl.T25 := by kernel_rfl
theorem yl.Qs : BD yl.T25.2 yl.B25 = true := by kernel_rfl
set_option maxHeartbeats 8000000 in
set_option maxRecDepth 100000 in
theorem yl.calls (k : Nat) (a0 : Int) (A1 : Option Addr) (c1 : Nat) (l1 : List Int) (zn : Int) (zz : Int) (r : Bool) (w : World) (hr1 : Kd.C (Kd.int .u8) w A1 l1.length l1) (hc1 : l1.length ≤ c1) (h : yl.f k a0 l1 zn zz = some r) :
  Calls Try.prog 6 #[.int .u16 a0, .slice A1 l1.length c1, .agg #[.int .i64 zn, .int .u16 zz]] w fun e w' => e = .returned (.bool r) ∧ Below w.heap.size w w' := by
 have a7h := Try.underlying25;have FH := Try.underlying31;have Jd := Try.underlying38;have LC := Try.underlying47
 have Qm : ∀ (x0 x1 : Value) (W : World), (Instr.field 38 (.agg #[x0, x1]) 0).run Try.prog W = .ok (x0) W := fun x0 x1 W => by rfl
 have HR1 := yf.mk hr1;have GH := yf.mk hc1;clear hr1 hc1;have HB := yf.mk (Below.refl w.heap.size w)
 have H : ((zN.f k).bind fun YJ => (if YJ = true then (if (l1.length : Int) > 20 then (some true) else ((zh.f k a0).bind fun Bp => ((yK.f k Bp.1 Bp.2.1 Bp.2.2.1 Bp.2.2.2 l1).bind fun CB => ((zk.f k Bp.1 zz).bind fun CF => ((zI.f Bp.1 Bp.2.1 Bp.2.2.1 Bp.2.2.2).bind fun Es => (if Es = 0 then (none) else ((zI.f Bp.1 Bp.2.1 Bp.2.2.1 Bp.2.2.2).bind fun EG => ((zI.f Bp.1 Bp.2.1 Bp.2.2.1 Bp.2.2.2).bind fun Et => (if Et = 0 then (none) else ((yV.f k Bp.1 Bp.2.1 Bp.2.2.1 Bp.2.2.2 CB (Int.tmod (wrap64 ((Int.tmod zn Es) + EG)) Et) CF).bind fun DZ => (if DZ.2.2 = 0 then (if DZ.1 < 0 then (yl.j0 k CB CF (Int.tmod (wrap64 ((Int.tmod zn Es) + EG)) Et) true Bp.1 Bp.2.1 Bp.2.2.1 Bp.2.2.2 DZ.1 DZ.2.1) else (if DZ.1 ≥ (CF.length : Int) then (yl.j0 k CB CF (Int.tmod (wrap64 ((Int.tmod zn Es) + EG)) Et) true Bp.1 Bp.2.1 Bp.2.2.1 Bp.2.2.2 DZ.1 DZ.2.1) else (if 0 ≤ DZ.1 then (if DZ.1 < (CF.length : Int) then (if Ha false CF DZ.1 = true then (yl.j0 k CB CF (Int.tmod (wrap64 ((Int.tmod zn Es) + EG)) Et) true Bp.1 Bp.2.1 Bp.2.2.1 Bp.2.2.2 DZ.1 DZ.2.1) else ((AA.f Bp.1 Bp.2.1 Bp.2.2.1 Bp.2.2.2).bind fun Sn => (yl.j0 k CB CF (Int.tmod (wrap64 ((Int.tmod zn Es) + EG)) Et) (decide (DZ.2.1 < Sn)) Bp.1 Bp.2.1 Bp.2.2.1 Bp.2.2.2 DZ.1 DZ.2.1))) else (none)) else (none)))) else (if DZ.2.2 = 11 then (some true) else (none))))))))))))) else (none))) = some r := h
 clear h;obtain ⟨YJ, A4, H⟩ := bE H
 try dsimp only at H
 by_cases c5 : YJ = true
 rotate_left
 ·
  replace c5 := Bool.eq_false_iff.mpr c5;subst c5
  rw [if_neg (show ¬ (false = true) by decide)] at H
  exact absurd H (by simp)
 subst c5;rw [if_pos rfl] at H
 by_cases c6 : (l1.length : Int) > 20
 ·
  rw [if_pos c6] at H;have EJ := decide_eq_true c6
  have IX : decide (20 < l1.length) = true := decide_eq_true (by omega)
  clear c6;obtain rfl := Option.some.inj H
  go_enter Try.func6, Try.ntmps6
  go_wp2_with (first | ((with_reducible refine yI (N := 5) rfl ?_); (try (refine Ab (by rfl) ?_; dsimp only)); refine yG rfl (N := 5) rfl (cs := #[.int .i64 zn, .int .u16 zz]) (t := 25) (by go_simp) ?_; intro aK hg w7 yJ hb; have ae := yf.mk (yJ); have dz := bG (w := w) hg; have cO := bG (w := w) hg; replace HB := bS HB hb; clear hb yJ hg) | ((with_reducible refine yw (f := 9) rfl ?_); refine gL (some 19) Try.func9 #[] ?_; (with_reducible refine (zN.calls k  true _ A4.out).mono ?_); rintro e w8 ⟨rfl, hb⟩; refine ⟨_, rfl, ?_⟩; replace ae := bB ae hb; replace HB := bS HB hb; clear hb))
  go_ret
  exact ⟨by rfl, bO HB⟩
 rw [if_neg c6] at H;have EJ := decide_eq_false c6
 have IX : decide (20 < l1.length) = false := decide_eq_false (by omega)
 clear c6;obtain ⟨⟨av, ah, ax, ay⟩, A9, H⟩ := bE H
 try dsimp only at H
 obtain ⟨CB, VJ, H⟩ := bE H
 try dsimp only at H
 obtain ⟨CF, RP, H⟩ := bE H
 try dsimp only at H
 obtain ⟨Es, ZL, H⟩ := bE H
 try dsimp only at H
 by_cases c13 : Es = 0
 ·
  rw [if_pos c13] at H;exact absurd H (by simp)
 rw [if_neg c13] at H;have J9 := beq_eq_false_iff_ne.mpr c13;have a02 := bne_iff_ne.mpr c13;obtain ⟨EG, A14, H⟩ := bE H
 try dsimp only at H
 obtain ⟨Et, QP, H⟩ := bE H
 try dsimp only at H
 by_cases c16 : Et = 0
 ·
  rw [if_pos c16] at H;exact absurd H (by simp)
 rw [if_neg c16] at H;have Fy := beq_eq_false_iff_ne.mpr c16;have Pn := bne_iff_ne.mpr c16;obtain ⟨⟨au, az, bH⟩, A17, H⟩ := bE H
 try dsimp only at H
 by_cases c18 : bH = 0
 rotate_left
 ·
  rw [if_neg c18] at H;have NC := beq_eq_false_iff_ne.mpr c18;have Xd := bne_iff_ne.mpr c18
  by_cases c131 : bH = 11
  rotate_left
  ·
   rw [if_neg c131] at H;exact absurd H (by simp)
  rw [if_pos c131] at H;have fO := beq_iff_eq.mpr c131
  have eQ : (bH != 11) = false := bne_eq_false_iff_eq.mpr c131
  clear c131;obtain rfl := Option.some.inj H
  go_enter Try.func6, Try.ntmps6
  try go_wp2_with (first | ((with_reducible refine yI (N := 5) rfl ?_); (try (refine Ab (by rfl) ?_; dsimp only)); refine yG rfl (N := 5) rfl (cs := #[.int .i64 zn, .int .u16 zz]) (t := 25) (by go_simp) ?_; intro aK hg w132 yJ hb; have ae := yf.mk (yJ); have dz := bG (w := w) hg; have cO := bG (w := w) hg; replace HB := bS HB hb; clear hb yJ hg) | ((with_reducible refine yw (f := 9) rfl ?_); refine gL (some 19) Try.func9 #[] ?_; (with_reducible refine (zN.calls k  true _ A4.out).mono ?_); rintro e w133 ⟨rfl, hb⟩; refine ⟨_, rfl, ?_⟩; replace ae := bB ae hb; replace HB := bS HB hb; clear hb) | ((with_reducible refine yw (f := 10) rfl ?_); refine gL (some 25) Try.func10 #[.int .u16 a0] ?_; (with_reducible refine (zh.calls k a0 av ah ax ay _ A9.out).mono ?_); rintro e w134 ⟨v704, rfl, ho0, hb⟩; refine ⟨_, rfl, ?_⟩; have aj := yf.mk (Kd.Eu ho0 (yL (bO HB))); replace ae := bB ae hb; replace HB := bS HB hb; clear hb; clear ho0) | ((with_reducible refine yI (N := 7) rfl ?_); (try (refine Ab (by rfl) ?_; dsimp only)); refine yG rfl (N := 7) rfl (cs := #[.int .i64 0, .slice none 0 0, .int .i64 0, .int .i64 0]) (t := 31) (by go_simp) ?_; intro aI hg w135 yJ hb; have aa := yf.mk (yJ); have dJ := bG (w := w) hg; have dK := bG (w := w) hg; have aV := Co ae hg; have aT := Ar ae hg; replace aj := EH aj hb; replace ae := bB ae hb; replace HB := bS HB hb; clear hb yJ hg; have a2L := aT.out; have a2M := aV.out; have a3D := AP aa; have a3E := bf aa; obtain ⟨bq, aX, dM⟩ := Kd.Eb aj.out; subst dM) | ((with_reducible refine yw (f := 11) rfl ?_); refine gL (some 28) Try.func11 #[.agg #[.int .i64 av, .slice bq ah.length aX, .int .i64 ax, .int .i64 ay], .slice A1 l1.length c1] ?_; (with_reducible refine (yK.calls k av _ _ ah ax ay _ _ l1 CB _ ?yD ?yF ?zw ?zx VJ.out).mono ?_); (case yD => refine (Kd.zG (e := 63) (base := w.heap.size) (ok := fun k_ => True) (n := ah.length) (c := aX) ?_).2.2; exact (by (with_reducible repeat (apply Kd.Az)); exact (Kd.Bo (GA (g := aI) (Kd.AO aj.out aa.out (by decide)) (fun _ hk => hk.2)) (fun _ h_ => h_.1)))); (case yF => exact (Kd.zG aj.out).2.1); (case zw => exact Kd.Cg HR1.out (bO HB)); (case zx => exact GH.out); rintro e w139 ⟨v710, rfl, ho0, hb⟩; refine ⟨_, rfl, ?_⟩; replace aj := yf.mk (Kd.E9 (by (with_reducible repeat (apply Kd.Az)); exact (Kd.Bo (GA (g := aI) (Kd.AO aj.out aa.out (by decide)) (fun _ hk => hk.2)) (fun _ h_ => h_.1))) hb); have aA := yf.mk (Kd.Ay ho0 (yL (bO HB))); replace ae := yf.mk (yS (g := aK) (o := .cells #[.int .i64 zn, .int .u16 zz] 25 (0, 0)) (CJ ae rfl) hb); replace aa := yf.mk (yS (g := aI) (o := .cells #[.int .i64 av, .slice bq ah.length aX, .int .i64 ax, .int .i64 ay] 31 (0, 0)) (CJ aa rfl) hb); replace HB := bS HB hb; clear hb; clear ho0; have eU := AP aa; have eT := bf aa; have fq := bc2 ae; have fE := bf ae) | ((with_reducible refine yw (f := 12) rfl ?_); refine gL (some 34) Try.func12 #[.int .i64 av, .int .u16 zz] ?_; (with_reducible refine (zk.calls k av zz CF _ RP.out).mono ?_); rintro e w142 ⟨v713, rfl, ho0, hb⟩; refine ⟨_, rfl, ?_⟩; replace aj := EH aj hb; replace aA := BZ aA hb; have aC := yf.mk (Kd.Ay ho0 (yL (bO HB))); replace ae := bB ae hb; replace aa := bB aa hb; replace HB := bS HB hb; clear hb; clear ho0))
  replace aj := yf.mk (Kd.Ea aj.out);replace aA := yf.mk (Kd.AQ aA.out);replace aC := yf.mk (Kd.AQ aC.out);replace ae := yf.mk (yO ae.out);replace aa := yf.mk (yO aa.out);replace HB := yf.mk (za HB.out)
  refine Bc (n := 12) (S := fun w' => w'.cell? ⟨aK, 0, none⟩ = some (.int .i64 zn) ∧ w'.cell? ⟨aK, 1, none⟩ = some (.int .u16 zz) ∧ w'.cell? ⟨aI, 0, none⟩ = some (.int .i64 av) ∧ w'.cell? ⟨aI, 1, none⟩ = some (.slice bq ah.length aX) ∧ w'.cell? ⟨aI, 2, none⟩ = some (.int .i64 ax) ∧ w'.cell? ⟨aI, 3, none⟩ = some (.int .i64 ay)) (ds := []) (bz 12 0) (by kernel_rfl) rfl rfl (bb2 ae (AP aa)) (fun hHeld => ?_); refine zF yl.Xr yl.Rw (fun yz Bi => ?_)
  generalize w142.drew = w143 at aj aA aC ae aa HB hHeld ⊢;refine pU 0 35 12 1 yz ?_
  refine BO 1 36 12 3 yz Bi hHeld ?_
  refine BO 2 37 12 7 yz Bi hHeld ?_
  refine BO 5 40 12 39 yz Bi hHeld ?_
  refine BO 8 43 12 295 yz Bi hHeld ?_
  refine Ck (i := 3) (N := some 38) (bz 12 303) rfl rfl (Af yz.out (by kernel_rfl)) (by decide) (fun K hK => ?_)
  refine gO Try.func14 #[.agg #[.int .i64 av, .slice bq ah.length aX, .int .i64 ax, .int .i64 ay]] ?_
  with_reducible refine (zI.calls av _ _ ah ax ay Es _ ?yD ?yF ZL.out).mono ?_
  (case yD => exact H9 aj)
  (case yF => exact (Kd.zG aj.out).2.1)
  rintro e w144 ⟨rfl, hb⟩
  refine ⟨_, rfl, ?_⟩
  replace aj := EH aj hb;replace aA := BZ aA hb;replace aC := BZ aC hb;replace ae := bB ae hb;replace aa := bB aa hb;replace HB := bS HB hb;clear hb
  refine hK.out _ _ (bb2 ae (AP aa)) (fun hHeld => ?_)
  clear hK K
  refine AR (a' := ?_) ?_ ?_
  rotate_left
  ·
   show Act.put _ (some 38) _ = _
   simp only [pz]
   rfl
  refine pU 4 39 12 319 yz ?_
  refine Ck (i := 6) (N := some 41) (bz 12 383) rfl rfl (Af yz.out (by kernel_rfl)) (by decide) (fun K hK => ?_)
  refine gO Try.func14 #[.agg #[.int .i64 av, .slice bq ah.length aX, .int .i64 ax, .int .i64 ay]] ?_
  with_reducible refine (zI.calls av _ _ ah ax ay EG _ ?yD ?yF A14.out).mono ?_
  (case yD => exact H9 aj)
  (case yF => exact (Kd.zG aj.out).2.1)
  rintro e w145 ⟨rfl, hb⟩
  refine ⟨_, rfl, ?_⟩
  replace aj := EH aj hb;replace aA := BZ aA hb;replace aC := BZ aC hb;replace ae := bB ae hb;replace aa := bB aa hb;replace HB := bS HB hb;clear hb
  refine hK.out _ _ (bb2 ae (AP aa)) (fun hHeld => ?_)
  clear hK K
  refine AR (a' := ?_) ?_ ?_
  rotate_left
  ·
   show Act.put _ (some 41) _ = _
   simp only [pz]
   rfl
  refine pU 7 42 12 511 yz ?_
  refine Ck (i := 9) (N := some 44) (bz 12 1023) rfl rfl (Af yz.out (by kernel_rfl)) (by decide) (fun K hK => ?_)
  refine gO Try.func14 #[.agg #[.int .i64 av, .slice bq ah.length aX, .int .i64 ax, .int .i64 ay]] ?_
  with_reducible refine (zI.calls av _ _ ah ax ay Et _ ?yD ?yF QP.out).mono ?_
  (case yD => exact H9 aj)
  (case yF => exact (Kd.zG aj.out).2.1)
  rintro e w146 ⟨rfl, hb⟩
  refine ⟨_, rfl, ?_⟩
  replace aj := EH aj hb;replace aA := BZ aA hb;replace aC := BZ aC hb;replace ae := bB ae hb;replace aa := bB aa hb;replace HB := bS HB hb;clear hb
  refine hK.out _ _ (bb2 ae (AP aa)) (fun hHeld => ?_)
  clear hK K
  refine AR (a' := ?_) ?_ ?_
  rotate_left
  ·
   show Act.put _ (some 44) _ = _
   simp only [pz]
   rfl
  refine pU 10 45 12 2047 yz ?_;refine pU 11 10 12 4095 yz ?_
  refine BG (Al yz.out (by kernel_rfl)) ?_
  have fB := AP aa;have fA := bf aa;obtain ⟨dL, dW, dN⟩ := Kd.zJ aA.out;subst dN;obtain ⟨dO, dP, eP⟩ := Kd.zJ aC.out;subst eP
  try go_wp2_with (first | ((with_reducible refine yw (f := 13) rfl ?_); refine gL (some 51) Try.func13 #[.agg #[.int .i64 av, .slice bq ah.length aX, .int .i64 ax, .int .i64 ay], .slice dL CB.length dW, .int .i64 (Int.tmod (wrap64 ((Int.tmod zn Es) + EG)) Et), .slice dO CF.length dP] ?_; (with_reducible refine (yV.calls k av _ _ ah ax ay _ _ CB (Int.tmod (wrap64 ((Int.tmod zn Es) + EG)) Et) _ _ CF au az bH _ ?yD ?yF ?zw ?zx ?Dy ?Dz A17.out).mono ?_); (case yD => exact H9 aj); (case yF => exact (Kd.zG aj.out).2.1); (case zw => exact G7 aA); (case zx => exact (Kd.yT aA.out).2.1); (case Dy => exact G7 aC); (case Dz => exact (Kd.yT aC.out).2.1); rintro e w150 ⟨rfl, hb⟩; refine ⟨_, rfl, ?_⟩; replace aj := EH aj hb; replace aA := BZ aA hb; replace aC := BZ aC hb; replace ae := bB ae hb; replace aa := bB aa hb; replace HB := bS HB hb; clear hb) | ((with_reducible refine yI (N := 11) rfl ?_); (try (refine Ab (by rfl) ?_; dsimp only)); refine yG rfl (N := 11) rfl (cs := #[.int .i64 0, .int .i64 0]) (t := 38) (by go_simp) ?_; intro ai hg w151 yJ hb; have af := yf.mk (yJ); have dR := bG (w := w) hg; have eG := bG (w := w) hg; have bQ := Co ae hg; have bN := Ar ae hg; have aW := Co aa hg; have aU := Ar aa hg; replace aj := EH aj hb; replace aA := BZ aA hb; replace aC := BZ aC hb; replace ae := bB ae hb; replace aa := bB aa hb; replace HB := bS HB hb; clear hb yJ hg; have a2V := bN.out; have a2W := bQ.out; have fF := aU.out; have eY := aW.out; have eX := bc2 af; have fu := bf af))
  go_ret
  exact ⟨by rfl, bO HB⟩
 rw [if_pos c18] at H;have NC := beq_iff_eq.mpr c18
 have Xd : (bH != 0) = false := bne_eq_false_iff_eq.mpr c18
 clear c18;have Nf := yf.mk H;clear H
 go_enter Try.func6, Try.ntmps6
 try go_wp2_with (first | ((with_reducible refine yI (N := 5) rfl ?_); (try (refine Ab (by rfl) ?_; dsimp only)); refine yG rfl (N := 5) rfl (cs := #[.int .i64 zn, .int .u16 zz]) (t := 25) (by go_simp) ?_; intro aK hg w20 yJ hb; have ae := yf.mk (yJ); have dz := bG (w := w) hg; have cO := bG (w := w) hg; replace HB := bS HB hb; clear hb yJ hg) | ((with_reducible refine yw (f := 9) rfl ?_); refine gL (some 19) Try.func9 #[] ?_; (with_reducible refine (zN.calls k  true _ A4.out).mono ?_); rintro e w21 ⟨rfl, hb⟩; refine ⟨_, rfl, ?_⟩; replace ae := bB ae hb; replace HB := bS HB hb; clear hb) | ((with_reducible refine yw (f := 10) rfl ?_); refine gL (some 25) Try.func10 #[.int .u16 a0] ?_; (with_reducible refine (zh.calls k a0 av ah ax ay _ A9.out).mono ?_); rintro e w22 ⟨v704, rfl, ho0, hb⟩; refine ⟨_, rfl, ?_⟩; have aj := yf.mk (Kd.Eu ho0 (yL (bO HB))); replace ae := bB ae hb; replace HB := bS HB hb; clear hb; clear ho0) | ((with_reducible refine yI (N := 7) rfl ?_); (try (refine Ab (by rfl) ?_; dsimp only)); refine yG rfl (N := 7) rfl (cs := #[.int .i64 0, .slice none 0 0, .int .i64 0, .int .i64 0]) (t := 31) (by go_simp) ?_; intro aI hg w23 yJ hb; have aa := yf.mk (yJ); have dJ := bG (w := w) hg; have dK := bG (w := w) hg; have aV := Co ae hg; have aT := Ar ae hg; replace aj := EH aj hb; replace ae := bB ae hb; replace HB := bS HB hb; clear hb yJ hg; have QQ := aT.out; have QR := aV.out; have KM := AP aa; have KN := bf aa; obtain ⟨DJ, Dt, SX⟩ := Kd.Eb aj.out; subst SX) | ((with_reducible refine yw (f := 11) rfl ?_); refine gL (some 28) Try.func11 #[.agg #[.int .i64 av, .slice DJ ah.length Dt, .int .i64 ax, .int .i64 ay], .slice A1 l1.length c1] ?_; (with_reducible refine (yK.calls k av _ _ ah ax ay _ _ l1 CB _ ?yD ?yF ?zw ?zx VJ.out).mono ?_); (case yD => refine (Kd.zG (e := 63) (base := w.heap.size) (ok := fun k_ => True) (n := ah.length) (c := Dt) ?_).2.2; exact (by (with_reducible repeat (apply Kd.Az)); exact (Kd.Bo (GA (g := aI) (Kd.AO aj.out aa.out (by decide)) (fun _ hk => hk.2)) (fun _ h_ => h_.1)))); (case yF => exact (Kd.zG aj.out).2.1); (case zw => exact Kd.Cg HR1.out (bO HB)); (case zx => exact GH.out); rintro e w27 ⟨v710, rfl, ho0, hb⟩; refine ⟨_, rfl, ?_⟩; replace aj := yf.mk (Kd.E9 (by (with_reducible repeat (apply Kd.Az)); exact (Kd.Bo (GA (g := aI) (Kd.AO aj.out aa.out (by decide)) (fun _ hk => hk.2)) (fun _ h_ => h_.1))) hb); have aA := yf.mk (Kd.Ay ho0 (yL (bO HB))); replace ae := yf.mk (yS (g := aK) (o := .cells #[.int .i64 zn, .int .u16 zz] 25 (0, 0)) (CJ ae rfl) hb); replace aa := yf.mk (yS (g := aI) (o := .cells #[.int .i64 av, .slice DJ ah.length Dt, .int .i64 ax, .int .i64 ay] 31 (0, 0)) (CJ aa rfl) hb); replace HB := bS HB hb; clear hb; clear ho0; have Ra := AP aa; have Rb := bf aa; have WT := bc2 ae; have WU := bf ae) | ((with_reducible refine yw (f := 12) rfl ?_); refine gL (some 34) Try.func12 #[.int .i64 av, .int .u16 zz] ?_; (with_reducible refine (zk.calls k av zz CF _ RP.out).mono ?_); rintro e w30 ⟨v713, rfl, ho0, hb⟩; refine ⟨_, rfl, ?_⟩; replace aj := EH aj hb; replace aA := BZ aA hb; have aC := yf.mk (Kd.Ay ho0 (yL (bO HB))); replace ae := bB ae hb; replace aa := bB aa hb; replace HB := bS HB hb; clear hb; clear ho0))
 replace aj := yf.mk (Kd.Ea aj.out);replace aA := yf.mk (Kd.AQ aA.out);replace aC := yf.mk (Kd.AQ aC.out);replace ae := yf.mk (yO ae.out);replace aa := yf.mk (yO aa.out);replace HB := yf.mk (za HB.out)
 refine Bc (n := 12) (S := fun w' => w'.cell? ⟨aK, 0, none⟩ = some (.int .i64 zn) ∧ w'.cell? ⟨aK, 1, none⟩ = some (.int .u16 zz) ∧ w'.cell? ⟨aI, 0, none⟩ = some (.int .i64 av) ∧ w'.cell? ⟨aI, 1, none⟩ = some (.slice DJ ah.length Dt) ∧ w'.cell? ⟨aI, 2, none⟩ = some (.int .i64 ax) ∧ w'.cell? ⟨aI, 3, none⟩ = some (.int .i64 ay)) (ds := []) (bz 12 0) (by kernel_rfl) rfl rfl (bb2 ae (AP aa)) (fun hHeld => ?_); refine zF yl.Xr yl.Rw (fun yz Bi => ?_)
 generalize w30.drew = w31 at aj aA aC ae aa HB hHeld ⊢;refine pU 0 35 12 1 yz ?_
 refine BO 1 36 12 3 yz Bi hHeld ?_
 refine BO 2 37 12 7 yz Bi hHeld ?_
 refine BO 5 40 12 39 yz Bi hHeld ?_
 refine BO 8 43 12 295 yz Bi hHeld ?_
 refine Ck (i := 3) (N := some 38) (bz 12 303) rfl rfl (Af yz.out (by kernel_rfl)) (by decide) (fun K hK => ?_)
 refine gO Try.func14 #[.agg #[.int .i64 av, .slice DJ ah.length Dt, .int .i64 ax, .int .i64 ay]] ?_
 with_reducible refine (zI.calls av _ _ ah ax ay Es _ ?yD ?yF ZL.out).mono ?_
 (case yD => exact H9 aj)
 (case yF => exact (Kd.zG aj.out).2.1)
 rintro e w32 ⟨rfl, hb⟩
 refine ⟨_, rfl, ?_⟩
 replace aj := EH aj hb;replace aA := BZ aA hb;replace aC := BZ aC hb;replace ae := bB ae hb;replace aa := bB aa hb;replace HB := bS HB hb;clear hb
 refine hK.out _ _ (bb2 ae (AP aa)) (fun hHeld => ?_)
 clear hK K
 refine AR (a' := ?_) ?_ ?_
 rotate_left
 ·
  show Act.put _ (some 38) _ = _
  simp only [pz]
  rfl
 refine pU 4 39 12 319 yz ?_
 refine Ck (i := 6) (N := some 41) (bz 12 383) rfl rfl (Af yz.out (by kernel_rfl)) (by decide) (fun K hK => ?_)
 refine gO Try.func14 #[.agg #[.int .i64 av, .slice DJ ah.length Dt, .int .i64 ax, .int .i64 ay]] ?_
 with_reducible refine (zI.calls av _ _ ah ax ay EG _ ?yD ?yF A14.out).mono ?_
 (case yD => exact H9 aj)
 (case yF => exact (Kd.zG aj.out).2.1)
 rintro e w33 ⟨rfl, hb⟩
 refine ⟨_, rfl, ?_⟩
 replace aj := EH aj hb;replace aA := BZ aA hb;replace aC := BZ aC hb;replace ae := bB ae hb;replace aa := bB aa hb;replace HB := bS HB hb;clear hb
 refine hK.out _ _ (bb2 ae (AP aa)) (fun hHeld => ?_)
 clear hK K
 refine AR (a' := ?_) ?_ ?_
 rotate_left
 ·
  show Act.put _ (some 41) _ = _
  simp only [pz]
  rfl
 refine pU 7 42 12 511 yz ?_
 refine Ck (i := 9) (N := some 44) (bz 12 1023) rfl rfl (Af yz.out (by kernel_rfl)) (by decide) (fun K hK => ?_)
 refine gO Try.func14 #[.agg #[.int .i64 av, .slice DJ ah.length Dt, .int .i64 ax, .int .i64 ay]] ?_
 with_reducible refine (zI.calls av _ _ ah ax ay Et _ ?yD ?yF QP.out).mono ?_
 (case yD => exact H9 aj)
 (case yF => exact (Kd.zG aj.out).2.1)
 rintro e w34 ⟨rfl, hb⟩
 refine ⟨_, rfl, ?_⟩
 replace aj := EH aj hb;replace aA := BZ aA hb;replace aC := BZ aC hb;replace ae := bB ae hb;replace aa := bB aa hb;replace HB := bS HB hb;clear hb
 refine hK.out _ _ (bb2 ae (AP aa)) (fun hHeld => ?_)
 clear hK K
 refine AR (a' := ?_) ?_ ?_
 rotate_left
 ·
  show Act.put _ (some 44) _ = _
  simp only [pz]
  rfl
 refine pU 10 45 12 2047 yz ?_;refine pU 11 10 12 4095 yz ?_
 refine BG (Al yz.out (by kernel_rfl)) ?_
 have OT := AP aa;have OU := bf aa;obtain ⟨FQ, FI, Xl⟩ := Kd.zJ aA.out;subst Xl;obtain ⟨Sm, Kl, a3T⟩ := Kd.zJ aC.out;subst a3T
 go_upto_region 12 with (first | ((with_reducible refine yw (f := 13) rfl ?_); refine gL (some 51) Try.func13 #[.agg #[.int .i64 av, .slice DJ ah.length Dt, .int .i64 ax, .int .i64 ay], .slice FQ CB.length FI, .int .i64 (Int.tmod (wrap64 ((Int.tmod zn Es) + EG)) Et), .slice Sm CF.length Kl] ?_; (with_reducible refine (yV.calls k av _ _ ah ax ay _ _ CB (Int.tmod (wrap64 ((Int.tmod zn Es) + EG)) Et) _ _ CF au az bH _ ?yD ?yF ?zw ?zx ?Dy ?Dz A17.out).mono ?_); (case yD => exact H9 aj); (case yF => exact (Kd.zG aj.out).2.1); (case zw => exact G7 aA); (case zx => exact (Kd.yT aA.out).2.1); (case Dy => exact G7 aC); (case Dz => exact (Kd.yT aC.out).2.1); rintro e w38 ⟨rfl, hb⟩; refine ⟨_, rfl, ?_⟩; replace aj := EH aj hb; replace aA := BZ aA hb; replace aC := BZ aC hb; replace ae := bB ae hb; replace aa := bB aa hb; replace HB := bS HB hb; clear hb) | ((with_reducible refine yI (N := 11) rfl ?_); (try (refine Ab (by rfl) ?_; dsimp only)); refine yG rfl (N := 11) rfl (cs := #[.int .i64 0, .int .i64 0]) (t := 38) (by go_simp) ?_; intro ai hg w39 yJ hb; have af := yf.mk (yJ); have dR := bG (w := w) hg; have eG := bG (w := w) hg; have bQ := Co ae hg; have bN := Ar ae hg; have aW := Co aa hg; have aU := Ar aa hg; replace aj := EH aj hb; replace aA := BZ aA hb; replace aC := BZ aC hb; replace ae := bB ae hb; replace aa := bB aa hb; replace HB := bS HB hb; clear hb yJ hg; have X3 := bN.out; have X4 := bQ.out; have a0I := aU.out; have a0J := aW.out; have Po := bc2 af; have Pp := bf af))
 (try simp only [pz])
 go_cut [81] (fun v81 wc => ∃ (kq : Nat) (bR : Bool), v81 = .bool bR ∧ yf (yl.j0 kq CB CF (Int.tmod (wrap64 ((Int.tmod zn Es) + EG)) Et) bR av ah ax ay au az = some r) ∧ yf (kq ≤ k) ∧ yf (Kd.R CS 47 wc w.heap.size (fun _ => True) (.slice FQ CB.length FI) CB) ∧ yf (Kd.R Kd.bool 4 wc w.heap.size (fun _ => True) (.slice Sm CF.length Kl) CF) ∧ yf (Kd.S (Kd.slice 3 (Kd.int .i64)) 63 wc w.heap.size (fun _ => True) (.slice DJ ah.length Dt) ah) ∧ yf (wc.heap[aK]? = some (.cells #[.int .i64 zn, .int .u16 zz] 25 (0, 0))) ∧ yf (wc.heap[aI]? = some (.cells #[.int .i64 av, (.slice DJ ah.length Dt), .int .i64 ax, .int .i64 ay] 31 (0, 0))) ∧ yf (wc.heap[ai]? = some (.cells #[.int .i64 au, .int .i64 az] 38 (0, 0))) ∧ yf (Below w.heap.size w wc))
 case first =>
  have H := Nf.out;clear Nf
  by_cases Kq : au < 0
  ·
   rw [if_pos Kq] at H;have OX := decide_eq_true Kq;clear Kq
   (skip)
   have H' := yf.mk H;clear H
   try go_wp2
   have BL : yf (Kd.S (Kd.slice 3 (Kd.int .i64)) 63 ((w39.setCell ⟨ai, 0, none⟩ (.int .i64 au)).setCell ⟨ai, 1, none⟩ (.int .i64 az)) w.heap.size (fun _ => True) (.slice DJ ah.length Dt) ah) := ⟨by (with_reducible repeat (apply Kd.Az)); exact Kd.Bo (GA (g := ai) (Kd.AO aj.out af.out (by decide)) (fun _ hk => hk.2)) (fun _ hk => trivial)⟩
   have BN : yf (Kd.R CS 47 ((w39.setCell ⟨ai, 0, none⟩ (.int .i64 au)).setCell ⟨ai, 1, none⟩ (.int .i64 az)) w.heap.size (fun _ => True) (.slice FQ CB.length FI) CB) := ⟨by (with_reducible repeat (apply Kd.yZ)); exact Kd.yX (F4 (g := ai) (Kd.Aw aA.out af.out (by decide)) (fun _ hk => hk.2)) (fun _ hk => trivial)⟩
   have BX : yf (Kd.R Kd.bool 4 ((w39.setCell ⟨ai, 0, none⟩ (.int .i64 au)).setCell ⟨ai, 1, none⟩ (.int .i64 az)) w.heap.size (fun _ => True) (.slice Sm CF.length Kl) CF) := ⟨by (with_reducible repeat (apply Kd.yZ)); exact Kd.yX (F4 (g := ai) (Kd.Aw aC.out af.out (by decide)) (fun _ hk => hk.2)) (fun _ hk => trivial)⟩
   have Cr : yf (((w39.setCell ⟨ai, 0, none⟩ (.int .i64 au)).setCell ⟨ai, 1, none⟩ (.int .i64 az)).heap[aK]? = some (.cells #[.int .i64 zn, .int .u16 zz] 25 (0, 0))) := bK ae rfl
   have CG : yf (((w39.setCell ⟨ai, 0, none⟩ (.int .i64 au)).setCell ⟨ai, 1, none⟩ (.int .i64 az)).heap[aI]? = some (.cells #[.int .i64 av, .slice DJ ah.length Dt, .int .i64 ax, .int .i64 ay] 31 (0, 0))) := bK aa rfl
   have CU : yf (((w39.setCell ⟨ai, 0, none⟩ (.int .i64 au)).setCell ⟨ai, 1, none⟩ (.int .i64 az)).heap[ai]? = some (.cells #[.int .i64 au, .int .i64 az] 38 (0, 0))) := bK af rfl
   have Eh : yf (Below w.heap.size w ((w39.setCell ⟨ai, 0, none⟩ (.int .i64 au)).setCell ⟨ai, 1, none⟩ (.int .i64 az))) := ⟨bO HB⟩
   clear aj aA aC ae aa af HB;generalize ((w39.setCell ⟨ai, 0, none⟩ (.int .i64 au)).setCell ⟨ai, 1, none⟩ (.int .i64 az)) = w44 at BL BN BX Cr CG CU Eh ⊢;have aj := BL;have aA := BN;have aC := BX;have ae := Cr;have aa := CG;have af := CU;have HB := Eh;clear BL BN BX Cr CG CU Eh;replace aj := yf.mk (Kd.Ea aj.out);replace aA := yf.mk (Kd.AQ aA.out);replace aC := yf.mk (Kd.AQ aC.out);replace ae := yf.mk (yO ae.out);replace aa := yf.mk (yO aa.out);replace af := yf.mk (yO af.out);replace HB := yf.mk (za HB.out)
   refine Bc (n := 24) (S := fun w' => w'.cell? ⟨ai, 0, none⟩ = some (.int .i64 au) ∧ w'.cell? ⟨ai, 1, none⟩ = some (.int .i64 az)) (ds := []) (bz 24 0) (by kernel_rfl) rfl rfl (bc2 af) (fun hHeld => ?_); refine zF yl.M6 yl.Jb (fun yz Bi => ?_)
   generalize w44.drew = w45 at aj aA aC ae aa af HB hHeld ⊢;refine pU 0 58 24 1 yz ?_
   refine BO 1 59 24 3 yz Bi hHeld ?_
   refine pU 2 60 24 7 yz ?_;refine pU 3 61 24 15 yz ?_;refine pN 4 62 24 31 yz ?_;refine pN 5 63 24 63 yz ?_;refine pN 6 64 24 127 yz ?_;refine pN 7 65 24 255 yz ?_;refine pN 8 66 24 511 yz ?_;refine pU 9 67 24 1023 yz ?_;refine pU 10 68 24 2047 yz ?_;refine pN 11 69 24 4095 yz ?_;refine pN 12 70 24 8191 yz ?_;refine pN 13 71 24 16383 yz ?_;refine pN 14 72 24 32767 yz ?_;refine pN 15 73 24 65535 yz ?_;refine pU 16 74 24 131071 yz ?_;refine pU 17 75 24 262143 yz ?_;refine pN 18 76 24 524287 yz ?_;refine pN 19 77 24 1048575 yz ?_;refine pN 20 78 24 2097151 yz ?_;refine pN 21 79 24 4194303 yz ?_;refine pN 22 80 24 8388607 yz ?_;refine pU 23 81 24 16777215 yz ?_
   refine BG (Al yz.out (by kernel_rfl)) ?_
   try go_wp2
   go_meet
   case rel => exact ⟨_, (true), (by rfl), H', ⟨by omega⟩, ⟨kR aA⟩, ⟨kR aC⟩, ⟨kS aj⟩, ⟨kk ae⟩, ⟨kk aa⟩, ⟨kk af⟩, ⟨bO HB⟩⟩
  rw [if_neg Kq] at H;have OX := decide_eq_false Kq;clear Kq
  (skip)
  by_cases c46 : au ≥ (CF.length : Int)
  ·
   rw [if_pos c46] at H;have Wp := decide_eq_true c46;clear c46;have H' := yf.mk H;clear H
   try go_wp2
   have BL : yf (Kd.S (Kd.slice 3 (Kd.int .i64)) 63 ((w39.setCell ⟨ai, 0, none⟩ (.int .i64 au)).setCell ⟨ai, 1, none⟩ (.int .i64 az)) w.heap.size (fun _ => True) (.slice DJ ah.length Dt) ah) := ⟨by (with_reducible repeat (apply Kd.Az)); exact Kd.Bo (GA (g := ai) (Kd.AO aj.out af.out (by decide)) (fun _ hk => hk.2)) (fun _ hk => trivial)⟩
   have BN : yf (Kd.R CS 47 ((w39.setCell ⟨ai, 0, none⟩ (.int .i64 au)).setCell ⟨ai, 1, none⟩ (.int .i64 az)) w.heap.size (fun _ => True) (.slice FQ CB.length FI) CB) := ⟨by (with_reducible repeat (apply Kd.yZ)); exact Kd.yX (F4 (g := ai) (Kd.Aw aA.out af.out (by decide)) (fun _ hk => hk.2)) (fun _ hk => trivial)⟩
   have BX : yf (Kd.R Kd.bool 4 ((w39.setCell ⟨ai, 0, none⟩ (.int .i64 au)).setCell ⟨ai, 1, none⟩ (.int .i64 az)) w.heap.size (fun _ => True) (.slice Sm CF.length Kl) CF) := ⟨by (with_reducible repeat (apply Kd.yZ)); exact Kd.yX (F4 (g := ai) (Kd.Aw aC.out af.out (by decide)) (fun _ hk => hk.2)) (fun _ hk => trivial)⟩
   have Cr : yf (((w39.setCell ⟨ai, 0, none⟩ (.int .i64 au)).setCell ⟨ai, 1, none⟩ (.int .i64 az)).heap[aK]? = some (.cells #[.int .i64 zn, .int .u16 zz] 25 (0, 0))) := bK ae rfl
   have CG : yf (((w39.setCell ⟨ai, 0, none⟩ (.int .i64 au)).setCell ⟨ai, 1, none⟩ (.int .i64 az)).heap[aI]? = some (.cells #[.int .i64 av, .slice DJ ah.length Dt, .int .i64 ax, .int .i64 ay] 31 (0, 0))) := bK aa rfl
   have CU : yf (((w39.setCell ⟨ai, 0, none⟩ (.int .i64 au)).setCell ⟨ai, 1, none⟩ (.int .i64 az)).heap[ai]? = some (.cells #[.int .i64 au, .int .i64 az] 38 (0, 0))) := bK af rfl
   have Eh : yf (Below w.heap.size w ((w39.setCell ⟨ai, 0, none⟩ (.int .i64 au)).setCell ⟨ai, 1, none⟩ (.int .i64 az))) := ⟨bO HB⟩
   clear aj aA aC ae aa af HB;generalize ((w39.setCell ⟨ai, 0, none⟩ (.int .i64 au)).setCell ⟨ai, 1, none⟩ (.int .i64 az)) = w47 at BL BN BX Cr CG CU Eh ⊢;have aj := BL;have aA := BN;have aC := BX;have ae := Cr;have aa := CG;have af := CU;have HB := Eh;clear BL BN BX Cr CG CU Eh;replace aj := yf.mk (Kd.Ea aj.out);replace aA := yf.mk (Kd.AQ aA.out);replace aC := yf.mk (Kd.AQ aC.out);replace ae := yf.mk (yO ae.out);replace aa := yf.mk (yO aa.out);replace af := yf.mk (yO af.out);replace HB := yf.mk (za HB.out)
   refine Bc (n := 24) (S := fun w' => w'.cell? ⟨ai, 0, none⟩ = some (.int .i64 au) ∧ w'.cell? ⟨ai, 1, none⟩ = some (.int .i64 az)) (ds := []) (bz 24 0) (by kernel_rfl) rfl rfl (bc2 af) (fun hHeld => ?_); refine zF yl.M6 yl.Jb (fun yz Bi => ?_)
   generalize w47.drew = w48 at aj aA aC ae aa af HB hHeld ⊢;refine pU 0 58 24 1 yz ?_
   refine BO 1 59 24 3 yz Bi hHeld ?_
   refine pU 2 60 24 7 yz ?_;refine pU 3 61 24 15 yz ?_;refine pU 4 62 24 31 yz ?_;refine pU 6 64 24 95 yz ?_;refine pU 7 65 24 223 yz ?_
   refine BO 5 63 24 255 yz Bi hHeld ?_
   refine pU 8 66 24 511 yz ?_;refine pU 9 67 24 1023 yz ?_;refine pU 10 68 24 2047 yz ?_;refine pN 11 69 24 4095 yz ?_;refine pN 12 70 24 8191 yz ?_;refine pN 13 71 24 16383 yz ?_;refine pN 14 72 24 32767 yz ?_;refine pN 15 73 24 65535 yz ?_;refine pU 16 74 24 131071 yz ?_;refine pU 17 75 24 262143 yz ?_;refine pN 18 76 24 524287 yz ?_;refine pN 19 77 24 1048575 yz ?_;refine pN 20 78 24 2097151 yz ?_;refine pN 21 79 24 4194303 yz ?_;refine pN 22 80 24 8388607 yz ?_;refine pU 23 81 24 16777215 yz ?_
   refine BG (Al yz.out (by kernel_rfl)) ?_
   try go_wp2
   go_meet
   case rel => exact ⟨_, (true), (by rfl), H', ⟨by omega⟩, ⟨kR aA⟩, ⟨kR aC⟩, ⟨kS aj⟩, ⟨kk ae⟩, ⟨kk aa⟩, ⟨kk af⟩, ⟨bO HB⟩⟩
  rw [if_neg c46] at H;have Wp := decide_eq_false c46;clear c46
  by_cases c49 : 0 ≤ au
  rotate_left
  ·
   rw [if_neg c49] at H;exact absurd H (by simp)
  rw [if_pos c49] at H;have a07 := decide_eq_true c49;clear c49
  by_cases Sv : au < (CF.length : Int)
  rotate_left
  ·
   rw [if_neg Sv] at H;exact absurd H (by simp)
  rw [if_pos Sv] at H;have a08 := decide_eq_true Sv;clear Sv;obtain ⟨dn, bY⟩ : ∃ b_ : Bool, b_ = (Ha false CF au) := ⟨_, rfl⟩
  replace H : (if dn = true then (yl.j0 k CB CF (Int.tmod (wrap64 ((Int.tmod zn Es) + EG)) Et) true av ah ax ay au az) else ((AA.f av ah ax ay).bind fun Sn => (yl.j0 k CB CF (Int.tmod (wrap64 ((Int.tmod zn Es) + EG)) Et) (decide (az < Sn)) av ah ax ay au az))) = some r := by rw [← bY] at H; exact H
  have cZ := yf.mk bY;clear bY
  by_cases Ye : dn = true
  ·
   subst Ye;rw [if_pos rfl] at H;have H' := yf.mk H;clear H
   try go_wp2
   have BL : yf (Kd.S (Kd.slice 3 (Kd.int .i64)) 63 ((w39.setCell ⟨ai, 0, none⟩ (.int .i64 au)).setCell ⟨ai, 1, none⟩ (.int .i64 az)) w.heap.size (fun _ => True) (.slice DJ ah.length Dt) ah) := ⟨by (with_reducible repeat (apply Kd.Az)); exact Kd.Bo (GA (g := ai) (Kd.AO aj.out af.out (by decide)) (fun _ hk => hk.2)) (fun _ hk => trivial)⟩
   have BN : yf (Kd.R CS 47 ((w39.setCell ⟨ai, 0, none⟩ (.int .i64 au)).setCell ⟨ai, 1, none⟩ (.int .i64 az)) w.heap.size (fun _ => True) (.slice FQ CB.length FI) CB) := ⟨by (with_reducible repeat (apply Kd.yZ)); exact Kd.yX (F4 (g := ai) (Kd.Aw aA.out af.out (by decide)) (fun _ hk => hk.2)) (fun _ hk => trivial)⟩
   have BX : yf (Kd.R Kd.bool 4 ((w39.setCell ⟨ai, 0, none⟩ (.int .i64 au)).setCell ⟨ai, 1, none⟩ (.int .i64 az)) w.heap.size (fun _ => True) (.slice Sm CF.length Kl) CF) := ⟨by (with_reducible repeat (apply Kd.yZ)); exact Kd.yX (F4 (g := ai) (Kd.Aw aC.out af.out (by decide)) (fun _ hk => hk.2)) (fun _ hk => trivial)⟩
   have Cr : yf (((w39.setCell ⟨ai, 0, none⟩ (.int .i64 au)).setCell ⟨ai, 1, none⟩ (.int .i64 az)).heap[aK]? = some (.cells #[.int .i64 zn, .int .u16 zz] 25 (0, 0))) := bK ae rfl
   have CG : yf (((w39.setCell ⟨ai, 0, none⟩ (.int .i64 au)).setCell ⟨ai, 1, none⟩ (.int .i64 az)).heap[aI]? = some (.cells #[.int .i64 av, .slice DJ ah.length Dt, .int .i64 ax, .int .i64 ay] 31 (0, 0))) := bK aa rfl
   have CU : yf (((w39.setCell ⟨ai, 0, none⟩ (.int .i64 au)).setCell ⟨ai, 1, none⟩ (.int .i64 az)).heap[ai]? = some (.cells #[.int .i64 au, .int .i64 az] 38 (0, 0))) := bK af rfl
   have Eh : yf (Below w.heap.size w ((w39.setCell ⟨ai, 0, none⟩ (.int .i64 au)).setCell ⟨ai, 1, none⟩ (.int .i64 az))) := ⟨bO HB⟩
   clear aj aA aC ae aa af HB;generalize ((w39.setCell ⟨ai, 0, none⟩ (.int .i64 au)).setCell ⟨ai, 1, none⟩ (.int .i64 az)) = w53 at BL BN BX Cr CG CU Eh ⊢;have aj := BL;have aA := BN;have aC := BX;have ae := Cr;have aa := CG;have af := CU;have HB := Eh;clear BL BN BX Cr CG CU Eh;replace aj := yf.mk (Kd.Ea aj.out);replace aA := yf.mk (Kd.AQ aA.out);replace aC := yf.mk (Kd.AQ aC.out);replace ae := yf.mk (yO ae.out);replace aa := yf.mk (yO aa.out);replace af := yf.mk (yO af.out);replace HB := yf.mk (za HB.out)
   have bF : 0 ≤ (au : Int) := of_decide_eq_true ‹_›
   have bu : au < (CF.length : Int) := of_decide_eq_true ‹_›
   obtain ⟨cz, bT, bv⟩ := Kd.Fq (Kd.yT aC.out).2.2 au bF bu
   (try rw [← cZ.out] at bv)
   cases bT;replace bF := eq_true bF;replace bu := eq_true bu
   refine Bc (n := 24) (S := fun w' => w'.cell? ⟨ai, 0, none⟩ = some (.int .i64 au) ∧ w'.cell? ⟨ai, 1, none⟩ = some (.int .i64 az) ∧ w'.cell? (cz.add (au).toNat) = some (.bool true)) (ds := []) (bz 24 0) (by kernel_rfl) rfl rfl ⟨(yA af.out 0).trans rfl, (yA af.out 1).trans rfl, bv⟩ (fun hHeld => ?_); refine zF yl.M6 yl.Jb (fun yz Bi => ?_)
   generalize w53.drew = w54 at aj aA aC ae aa af HB bv hHeld ⊢;refine pU 0 58 24 1 yz ?_
   refine BO 1 59 24 3 yz Bi hHeld ?_
   refine pU 2 60 24 7 yz ?_;refine pU 3 61 24 15 yz ?_;refine pU 4 62 24 31 yz ?_;refine pU 6 64 24 95 yz ?_;refine pU 7 65 24 223 yz ?_
   refine BO 5 63 24 255 yz Bi hHeld ?_
   refine pU 8 66 24 511 yz ?_;refine pU 9 67 24 1023 yz ?_;refine pU 10 68 24 2047 yz ?_;refine pU 11 69 24 4095 yz ?_;refine pU 12 70 24 8191 yz ?_
   refine BO 13 71 24 16383 yz Bi hHeld ?_
   refine pU 14 72 24 32767 yz ?_
   refine BO 15 73 24 65535 yz Bi hHeld ?_
   refine pU 16 74 24 131071 yz ?_;refine pU 17 75 24 262143 yz ?_;refine pN 18 76 24 524287 yz ?_;refine pN 19 77 24 1048575 yz ?_;refine pN 20 78 24 2097151 yz ?_;refine pN 21 79 24 4194303 yz ?_;refine pN 22 80 24 8388607 yz ?_;refine pU 23 81 24 16777215 yz ?_
   refine BG (Al yz.out (by kernel_rfl)) ?_
   try go_wp2
   go_meet
   case rel => exact ⟨_, (true), (by rfl), H', ⟨by omega⟩, ⟨kR aA⟩, ⟨kR aC⟩, ⟨kS aj⟩, ⟨kk ae⟩, ⟨kk aa⟩, ⟨kk af⟩, ⟨bO HB⟩⟩
  replace Ye := Bool.eq_false_iff.mpr Ye;subst Ye
  rw [if_neg (show ¬ (false = true) by decide)] at H
  obtain ⟨Sn, dY, H⟩ := bE H
  try dsimp only at H
  have H' := yf.mk H;clear H
  try go_wp2
  have BL : yf (Kd.S (Kd.slice 3 (Kd.int .i64)) 63 ((w39.setCell ⟨ai, 0, none⟩ (.int .i64 au)).setCell ⟨ai, 1, none⟩ (.int .i64 az)) w.heap.size (fun _ => True) (.slice DJ ah.length Dt) ah) := ⟨by (with_reducible repeat (apply Kd.Az)); exact Kd.Bo (GA (g := ai) (Kd.AO aj.out af.out (by decide)) (fun _ hk => hk.2)) (fun _ hk => trivial)⟩
  have BN : yf (Kd.R CS 47 ((w39.setCell ⟨ai, 0, none⟩ (.int .i64 au)).setCell ⟨ai, 1, none⟩ (.int .i64 az)) w.heap.size (fun _ => True) (.slice FQ CB.length FI) CB) := ⟨by (with_reducible repeat (apply Kd.yZ)); exact Kd.yX (F4 (g := ai) (Kd.Aw aA.out af.out (by decide)) (fun _ hk => hk.2)) (fun _ hk => trivial)⟩
  have BX : yf (Kd.R Kd.bool 4 ((w39.setCell ⟨ai, 0, none⟩ (.int .i64 au)).setCell ⟨ai, 1, none⟩ (.int .i64 az)) w.heap.size (fun _ => True) (.slice Sm CF.length Kl) CF) := ⟨by (with_reducible repeat (apply Kd.yZ)); exact Kd.yX (F4 (g := ai) (Kd.Aw aC.out af.out (by decide)) (fun _ hk => hk.2)) (fun _ hk => trivial)⟩
  have Cr : yf (((w39.setCell ⟨ai, 0, none⟩ (.int .i64 au)).setCell ⟨ai, 1, none⟩ (.int .i64 az)).heap[aK]? = some (.cells #[.int .i64 zn, .int .u16 zz] 25 (0, 0))) := bK ae rfl
  have CG : yf (((w39.setCell ⟨ai, 0, none⟩ (.int .i64 au)).setCell ⟨ai, 1, none⟩ (.int .i64 az)).heap[aI]? = some (.cells #[.int .i64 av, .slice DJ ah.length Dt, .int .i64 ax, .int .i64 ay] 31 (0, 0))) := bK aa rfl
  have CU : yf (((w39.setCell ⟨ai, 0, none⟩ (.int .i64 au)).setCell ⟨ai, 1, none⟩ (.int .i64 az)).heap[ai]? = some (.cells #[.int .i64 au, .int .i64 az] 38 (0, 0))) := bK af rfl
  have Eh : yf (Below w.heap.size w ((w39.setCell ⟨ai, 0, none⟩ (.int .i64 au)).setCell ⟨ai, 1, none⟩ (.int .i64 az))) := ⟨bO HB⟩
  clear aj aA aC ae aa af HB;generalize ((w39.setCell ⟨ai, 0, none⟩ (.int .i64 au)).setCell ⟨ai, 1, none⟩ (.int .i64 az)) = w56 at BL BN BX Cr CG CU Eh ⊢;have aj := BL;have aA := BN;have aC := BX;have ae := Cr;have aa := CG;have af := CU;have HB := Eh;clear BL BN BX Cr CG CU Eh;replace aj := yf.mk (Kd.Ea aj.out);replace aA := yf.mk (Kd.AQ aA.out);replace aC := yf.mk (Kd.AQ aC.out);replace ae := yf.mk (yO ae.out);replace aa := yf.mk (yO aa.out);replace af := yf.mk (yO af.out);replace HB := yf.mk (za HB.out)
  have bF : 0 ≤ (au : Int) := of_decide_eq_true ‹_›
  have bu : au < (CF.length : Int) := of_decide_eq_true ‹_›
  obtain ⟨cz, bT, bv⟩ := Kd.Fq (Kd.yT aC.out).2.2 au bF bu
  (try rw [← cZ.out] at bv)
  cases bT;replace bF := eq_true bF;replace bu := eq_true bu
  refine Bc (n := 24) (S := fun w' => w'.cell? ⟨ai, 0, none⟩ = some (.int .i64 au) ∧ w'.cell? ⟨ai, 1, none⟩ = some (.int .i64 az) ∧ w'.cell? ⟨aI, 0, none⟩ = some (.int .i64 av) ∧ w'.cell? ⟨aI, 1, none⟩ = some (.slice DJ ah.length Dt) ∧ w'.cell? ⟨aI, 2, none⟩ = some (.int .i64 ax) ∧ w'.cell? ⟨aI, 3, none⟩ = some (.int .i64 ay) ∧ w'.cell? (cz.add (au).toNat) = some (.bool false)) (ds := []) (bz 24 0) (by kernel_rfl) rfl rfl ⟨(yA af.out 0).trans rfl, (yA af.out 1).trans rfl, (yA aa.out 0).trans rfl, (yA aa.out 1).trans rfl, (yA aa.out 2).trans rfl, (yA aa.out 3).trans rfl, bv⟩ (fun hHeld => ?_); refine zF yl.M6 yl.Jb (fun yz Bi => ?_)
  generalize w56.drew = w57 at aj aA aC ae aa af HB bv hHeld ⊢;refine pU 0 58 24 1 yz ?_
  refine BO 1 59 24 3 yz Bi hHeld ?_
  refine pU 2 60 24 7 yz ?_;refine pU 3 61 24 15 yz ?_;refine pU 4 62 24 31 yz ?_;refine pU 6 64 24 95 yz ?_;refine pU 7 65 24 223 yz ?_
  refine BO 5 63 24 255 yz Bi hHeld ?_
  refine pU 8 66 24 511 yz ?_;refine pU 9 67 24 1023 yz ?_;refine pU 10 68 24 2047 yz ?_;refine pU 11 69 24 4095 yz ?_;refine pU 12 70 24 8191 yz ?_
  refine BO 13 71 24 16383 yz Bi hHeld ?_
  refine pU 14 72 24 32767 yz ?_
  refine BO 15 73 24 65535 yz Bi hHeld ?_
  refine pU 16 74 24 131071 yz ?_;refine pU 17 75 24 262143 yz ?_;refine pU 18 76 24 524287 yz ?_
  refine BO 19 77 24 1048575 yz Bi hHeld ?_
  refine BO 20 78 24 2097151 yz Bi hHeld ?_
  refine Ck (i := 21) (N := some 79) (bz 24 4194303) rfl rfl (Af yz.out (by kernel_rfl)) (by decide) (fun K hK => ?_)
  refine gO Try.func23 #[.agg #[.int .i64 av, .slice DJ ah.length Dt, .int .i64 ax, .int .i64 ay]] ?_
  with_reducible refine (AA.calls av _ _ ah ax ay Sn _ ?yD ?yF dY.out).mono ?_
  (case yD => exact H9 aj)
  (case yF => exact (Kd.zG aj.out).2.1)
  rintro e w58 ⟨rfl, hb⟩;have eB := (hb.cell (World.block_lt_of_cell? _ _ (hHeld.2.2.2.2.2.2))).trans (hHeld.2.2.2.2.2.2)
  refine ⟨_, rfl, ?_⟩
  replace aj := EH aj hb;replace aA := BZ aA hb;replace aC := BZ aC hb;replace ae := bB ae hb;replace aa := bB aa hb;replace af := bB af hb;replace HB := bS HB hb;clear hb
  refine hK.out _ _ ⟨(yA af.out 0).trans rfl, (yA af.out 1).trans rfl, (yA aa.out 0).trans rfl, (yA aa.out 1).trans rfl, (yA aa.out 2).trans rfl, (yA aa.out 3).trans rfl, eB⟩ (fun hHeld => ?_)
  clear hK K
  refine AR (a' := ?_) ?_ ?_
  rotate_left
  ·
   show Act.put _ (some 79) _ = _
   simp only [pz]
   rfl
  refine pU 22 80 24 8388607 yz ?_;refine pU 23 81 24 16777215 yz ?_
  refine BG (Al yz.out (by kernel_rfl)) ?_
  try go_wp2
  go_meet
  case rel => exact ⟨_, (decide (az < Sn)), (by rfl), H', ⟨by omega⟩, ⟨kR aA⟩, ⟨kR aC⟩, ⟨kS aj⟩, ⟨kk ae⟩, ⟨kk aa⟩, ⟨kk af⟩, ⟨bO HB⟩⟩
 case rest =>
 clear Nf;obtain ⟨kq, bR, rfl, HA, Hd, Aa, zT, ak, ae, aa, af, HB⟩ := hcut
 cases kq with
 | zero => exact absurd HA.out (by simp [yl.j0])
 | succ ME =>
  have H := HA.out;clear HA;simp only [yl.j0] at H
  by_cases c59 : bR = true
  ·
   subst c59;rw [if_pos rfl] at H;exact absurd H (by simp)
  ·
   replace c59 := Bool.eq_false_iff.mpr c59;subst c59
   rw [if_neg (show ¬ (false = true) by decide)] at H
   have H' := yf.mk H;clear H
   go_wp2
   go_loopg [13] ME (fun kq v13 w' => ∃ (BF : Int), v13 = .int .i64 BF ∧ yf (yl.l0 kq CB CF (Int.tmod (wrap64 ((Int.tmod zn Es) + EG)) Et) BF av ah ax ay au az = some r) ∧ yf (kq ≤ ME) ∧ yf (Kd.R CS 47 w' w.heap.size (fun _ => True) (.slice FQ CB.length FI) CB) ∧ yf (Kd.R Kd.bool 4 w' w.heap.size (fun _ => True) (.slice Sm CF.length Kl) CF) ∧ yf (Kd.S (Kd.slice 3 (Kd.int .i64)) 63 w' w.heap.size (fun _ => True) (.slice DJ ah.length Dt) ah) ∧ yf (w'.heap[aK]? = some (.cells #[.int .i64 zn, .int .u16 zz] 25 (0, 0))) ∧ yf (w'.heap[aI]? = some (.cells #[.int .i64 av, (.slice DJ ah.length Dt), .int .i64 ax, .int .i64 ay] 31 (0, 0))) ∧ yf (w'.heap[ai]? = some (.cells #[.int .i64 au, .int .i64 az] 38 (0, 0))) ∧ yf (Below w.heap.size w w'))
   case atStart => exact ⟨(0), (by rfl), H', ⟨Nat.le_refl _⟩, ⟨kR Aa⟩, ⟨kR zT⟩, ⟨kS ak⟩, ⟨kk ae⟩, ⟨kk aa⟩, ⟨kk af⟩, ⟨bO HB⟩⟩
   case round =>
    clear H';obtain ⟨BF, rfl, HA, D6, Aa, zT, ak, ae, aa, af, HB⟩ := hrel
    cases gk with
    | zero => exact absurd HA.out (by simp [yl.l0])
    | succ k2 =>
     have H := HA.out;clear HA;simp only [yl.l0] at H;obtain ⟨VE, Sy, H⟩ := bE H
     try dsimp only at H
     by_cases Vz : BF < VE
     ·
      rw [if_pos Vz] at H;have RJ := decide_eq_true Vz;clear Vz;obtain ⟨⟨aM, d9⟩, dh, H⟩ := bE H
      try dsimp only at H
      by_cases M9 : 0 ≤ aM
      ·
       rw [if_pos M9] at H;have Ud := decide_eq_true M9;clear M9
       by_cases c64 : aM < (CF.length : Int)
       ·
        rw [if_pos c64] at H;have La := decide_eq_true c64;clear c64;obtain ⟨dm, bU⟩ : ∃ b_ : Bool, b_ = (Ha false CF aM) := ⟨_, rfl⟩
        replace H : (if dm = true then ((zl.f k2 av ah ax ay CB (Int.tmod (wrap64 ((Int.tmod zn Es) + EG)) Et) BF au az).bind fun Lh => (if Lh.2 = 0 then ((Cs.f k2 av ah ax ay Lh.1).bind fun VF => (yl.j2 k2 CB CF (Int.tmod (wrap64 ((Int.tmod zn Es) + EG)) Et) BF Lh.1 (!VF) av ah ax ay au az)) else (yl.j2 k2 CB CF (Int.tmod (wrap64 ((Int.tmod zn Es) + EG)) Et) BF Lh.1 true av ah ax ay au az))) else (yl.l0 k2 CB CF (Int.tmod (wrap64 ((Int.tmod zn Es) + EG)) Et) (wrap64 (BF + 1)) av ah ax ay au az)) = some r := by rw [← bU] at H; exact H
        have dx := yf.mk bU;clear bU
        by_cases bP : dm = true
        ·
         subst bP;rw [if_pos rfl] at H;obtain ⟨⟨aJ, cu⟩, dI, H⟩ := bE H
         try dsimp only at H
         have bZ := yf.mk H;clear H;have a5J := aT.out;have a5K := aV.out;have a5L := aW.out;have a5M := aU.out;have Y0 := AP aa;have Y1 := bf aa
         go_upto_region 19 with (first | ((with_reducible refine yw (f := 24) rfl ?_); refine gL (some 84) Try.func24 #[.agg #[.int .i64 av, .slice DJ ah.length Dt, .int .i64 ax, .int .i64 ay]] ?_; (with_reducible refine (zi.calls av _ _ ah ax ay VE _ ?yD ?yF Sy.out).mono ?_); (case yD => exact H9 ak); (case yF => exact (Kd.zG ak.out).2.1); rintro e w72 ⟨rfl, hb⟩; refine ⟨_, rfl, ?_⟩; replace Aa := BZ Aa hb; replace zT := BZ zT hb; replace ak := EH ak hb; replace ae := bB ae hb; replace aa := bB aa hb; replace af := bB af hb; replace HB := bS HB hb; clear hb; have Y5 := AP aa; have Y6 := bf aa) | ((with_reducible refine yw (f := 22) rfl ?_); refine gL (some 93) Try.func22 #[.agg #[.int .i64 av, .slice DJ ah.length Dt, .int .i64 ax, .int .i64 ay], .slice FQ CB.length FI, .int .i64 (Int.tmod (wrap64 ((Int.tmod zn Es) + EG)) Et), .int .i64 BF] ?_; (with_reducible refine (zy.calls k2 av _ _ ah ax ay _ _ CB (Int.tmod (wrap64 ((Int.tmod zn Es) + EG)) Et) BF aM d9 _ ?yD ?yF ?zw ?zx dh.out).mono ?_); (case yD => exact H9 ak); (case yF => exact (Kd.zG ak.out).2.1); (case zw => exact G7 Aa); (case zx => exact (Kd.yT Aa.out).2.1); rintro e w74 ⟨rfl, hb⟩; refine ⟨_, rfl, ?_⟩; replace Aa := BZ Aa hb; replace zT := BZ zT hb; replace ak := EH ak hb; replace ae := bB ae hb; replace aa := bB aa hb; replace af := bB af hb; replace HB := bS HB hb; clear hb; have aY : 0 ≤ (aM : Int) := of_decide_eq_true ‹_›; have aZ : aM < (CF.length : Int) := of_decide_eq_true ‹_›; obtain ⟨bg, bX, bM⟩ := Kd.Fq (Kd.yT zT.out).2.2 aM aY aZ; (try rw [← dx.out] at bM); cases bX; replace aY := eq_true aY; replace aZ := eq_true aZ; have UG := AP aa; have UH := bf aa; have a1b := bN.out; have a1c := bQ.out; have Yc := bc2 af; have Yd := bf af) | ((with_reducible refine yw (f := 17) rfl ?_); refine gL (some 105) Try.func17 #[.agg #[.int .i64 av, .slice DJ ah.length Dt, .int .i64 ax, .int .i64 ay], .slice FQ CB.length FI, .agg #[.int .i64 (Int.tmod (wrap64 ((Int.tmod zn Es) + EG)) Et), .int .i64 BF, .int .i64 au, .int .i64 az]] ?_; (with_reducible refine (zl.calls k2 av _ _ ah ax ay _ _ CB (Int.tmod (wrap64 ((Int.tmod zn Es) + EG)) Et) BF au az aJ cu _ ?yD ?yF ?zw ?zx dI.out).mono ?_); (case yD => exact H9 ak); (case yF => exact (Kd.zG ak.out).2.1); (case zw => exact G7 Aa); (case zx => exact (Kd.yT Aa.out).2.1); rintro e w78 ⟨v729, rfl, ho0, hb⟩; refine ⟨_, rfl, ?_⟩; have bD := yf.mk (Kd.Ay (Kd.C8 ho0 (Kd.DV (kR Aa))) (yL (bO HB))); replace Aa := yf.mk (Kd.Bb (kR Aa) (Kd.Bh ho0) hb); replace zT := BZ zT hb; replace ak := EH ak hb; replace ae := bB ae hb; replace aa := bB aa hb; replace af := bB af hb; replace HB := bS HB hb; clear hb; clear ho0))
         (try simp only [pz])
         go_cut [115] (fun v115 wc => ∃ (kq : Nat) (bJ : Bool), v115 = .bool bJ ∧ yf (yl.j2 kq CB CF (Int.tmod (wrap64 ((Int.tmod zn Es) + EG)) Et) BF aJ bJ av ah ax ay au az = some r) ∧ yf (kq ≤ k2) ∧ yf (Kd.R CS 47 wc w.heap.size (fun k_ => some k_ ≠ (v729 : Value).ownBlock) (.slice FQ CB.length FI) CB) ∧ yf (Kd.R Kd.bool 4 wc w.heap.size (fun _ => True) (.slice (some bg) CF.length Kl) CF) ∧ yf (Kd.R CS 47 wc w.heap.size (fun k_ => some k_ ≠ ((.slice FQ CB.length FI) : Value).ownBlock) v729 aJ) ∧ yf (Kd.S (Kd.slice 3 (Kd.int .i64)) 63 wc w.heap.size (fun _ => True) (.slice DJ ah.length Dt) ah) ∧ yf (wc.heap[aK]? = some (.cells #[.int .i64 zn, .int .u16 zz] 25 (0, 0))) ∧ yf (wc.heap[aI]? = some (.cells #[.int .i64 av, (.slice DJ ah.length Dt), .int .i64 ax, .int .i64 ay] 31 (0, 0))) ∧ yf (wc.heap[ai]? = some (.cells #[.int .i64 au, .int .i64 az] 38 (0, 0))) ∧ yf (Below w.heap.size w wc))
         case first =>
          have H := bZ.out;clear bZ
          by_cases bC : cu = 0
          ·
           rw [if_pos bC] at H;have dG := beq_iff_eq.mpr bC
           have dH : (cu != 0) = false := bne_eq_false_iff_eq.mpr bC
           clear bC
           (skip)
           obtain ⟨VF, eD, H⟩ := bE H
           try dsimp only at H
           have H' := yf.mk H;clear H;have a5t := aT.out;have a5u := aV.out;have a4T := aW.out;have a4U := aU.out;have fI := AP aa;have fe := bf aa;obtain ⟨eZ, fC, dB⟩ := Kd.zJ bD.out;subst dB
           go_wp2_with ((go_at_call 25; (with_reducible refine (Cs.calls k2 av _ _ ah ax ay _ _ aJ VF _ ?yD ?yF ?zw ?zx eD.out).mono ?_); (case yD => exact H9 ak); (case yF => exact (Kd.zG ak.out).2.1); (case zw => exact G7 bD); (case zx => exact (Kd.yT bD.out).2.1); rintro e w85 ⟨rfl, hb⟩; replace Aa := BZ Aa hb; replace zT := BZ zT hb; replace ak := EH ak hb; replace bD := BZ bD hb; replace ae := bB ae hb; replace aa := bB aa hb; replace af := bB af hb; replace HB := bS HB hb; clear hb))
           go_meet
           case rel => exact ⟨_, (!VF), (by rfl), H', ⟨by have := Hd.out; have := D6.out; omega⟩, ⟨by (with_reducible repeat (apply Kd.yZ)); exact Kd.yX Aa.out (fun _ hk => hk.2)⟩, ⟨kR zT⟩, ⟨by (with_reducible repeat (apply Kd.yZ)); exact Kd.yX bD.out (fun _ hk => hk.2)⟩, ⟨kS ak⟩, ⟨kk ae⟩, ⟨kk aa⟩, ⟨kk af⟩, ⟨bO HB⟩⟩
          ·
           rw [if_neg bC] at H;have dG := beq_eq_false_iff_ne.mpr bC;have dH := bne_iff_ne.mpr bC
           (skip)
           have H' := yf.mk H;clear H
           go_wp2
           go_meet
           case rel => exact ⟨_, (true), (by rfl), H', ⟨by have := Hd.out; have := D6.out; omega⟩, ⟨by (with_reducible repeat (apply Kd.yZ)); exact Kd.yX Aa.out (fun _ hk => hk.2)⟩, ⟨kR zT⟩, ⟨by (with_reducible repeat (apply Kd.yZ)); exact Kd.yX bD.out (fun _ hk => hk.2)⟩, ⟨kS ak⟩, ⟨kk ae⟩, ⟨kk aa⟩, ⟨kk af⟩, ⟨bO HB⟩⟩
         case rest =>
          clear bZ RJ Ud La Y0 Y5 UG Yc Y1 Y6 UH Yd bM aY aZ;obtain ⟨kq, bJ, rfl, HA, bi, Aa, zT, Au, ak, ae, aa, af, HB⟩ := hcut
          cases kq with
          | zero => exact absurd HA.out (by simp [yl.j2])
          | succ dA =>
           have H := HA.out;clear HA;simp only [yl.j2] at H
           by_cases ZN : bJ = true
           ·
            subst ZN;rw [if_pos rfl] at H;exact absurd H (by simp)
           ·
            replace ZN := Bool.eq_false_iff.mpr ZN;subst ZN
            rw [if_neg (show ¬ (false = true) by decide)] at H
            have H' := yf.mk H;clear H
            go_wp2
            go_loopg [16] dA (fun kq v16 w' => ∃ (Fj : Int), v16 = .int .i64 Fj ∧ yf (yl.l1 kq CB CF (Int.tmod (wrap64 ((Int.tmod zn Es) + EG)) Et) BF aJ Fj av ah ax ay au az = some r) ∧ yf (kq ≤ dA) ∧ yf (Kd.R CS 47 w' w.heap.size (fun k_ => some k_ ≠ (v729 : Value).ownBlock) (.slice FQ CB.length FI) CB) ∧ yf (Kd.R Kd.bool 4 w' w.heap.size (fun _ => True) (.slice (some bg) CF.length Kl) CF) ∧ yf (Kd.R CS 47 w' w.heap.size (fun k_ => some k_ ≠ ((.slice FQ CB.length FI) : Value).ownBlock) v729 aJ) ∧ yf (Kd.S (Kd.slice 3 (Kd.int .i64)) 63 w' w.heap.size (fun _ => True) (.slice DJ ah.length Dt) ah) ∧ yf (w'.heap[aK]? = some (.cells #[.int .i64 zn, .int .u16 zz] 25 (0, 0))) ∧ yf (w'.heap[aI]? = some (.cells #[.int .i64 av, (.slice DJ ah.length Dt), .int .i64 ax, .int .i64 ay] 31 (0, 0))) ∧ yf (w'.heap[ai]? = some (.cells #[.int .i64 au, .int .i64 az] 38 (0, 0))) ∧ yf (Below w.heap.size w w'))
            case atStart => exact ⟨(0), (by rfl), H', ⟨Nat.le_refl _⟩, ⟨kR Aa⟩, ⟨kR zT⟩, ⟨kR Au⟩, ⟨kS ak⟩, ⟨kk ae⟩, ⟨kk aa⟩, ⟨kk af⟩, ⟨bO HB⟩⟩
            case round =>
             clear H';obtain ⟨Fj, rfl, HA, Ja, Aa, zT, Au, ak, ae, aa, af, HB⟩ := hrel
             cases gk with
             | zero => exact absurd HA.out (by simp [yl.l1])
             | succ k4 =>
              have H := HA.out;clear HA;simp only [yl.l1] at H;obtain ⟨YI, df, H⟩ := bE H
              try dsimp only at H
              by_cases bI : Fj < YI
              ·
               rw [if_pos bI] at H;have dZ := decide_eq_true bI;clear bI;obtain ⟨⟨aH, aG, bV⟩, dQ, H⟩ := bE H
               try dsimp only at H
               have bW := yf.mk H;clear H;have a5z := aT.out;have a5A := aV.out;have fG := aW.out;have fK := aU.out;have fM := AP aa;have fw := bf aa
               go_upto_region 25 with (first | ((with_reducible refine yw (f := 24) rfl ?_); refine gL (some 118) Try.func24 #[.agg #[.int .i64 av, .slice DJ ah.length Dt, .int .i64 ax, .int .i64 ay]] ?_; (with_reducible refine (zi.calls av _ _ ah ax ay YI _ ?yD ?yF df.out).mono ?_); (case yD => exact H9 ak); (case yF => exact (Kd.zG ak.out).2.1); rintro e w94 ⟨rfl, hb⟩; refine ⟨_, rfl, ?_⟩; replace Aa := BZ Aa hb; replace zT := BZ zT hb; replace Au := BZ Au hb; replace ak := EH ak hb; replace ae := bB ae hb; replace aa := bB aa hb; replace af := bB af hb; replace HB := bS HB hb; clear hb; have a5B := AP aa; have a5C := bf aa; obtain ⟨aQ, aN, ek⟩ := Kd.zJ Au.out; subst ek) | ((with_reducible refine yw (f := 20) rfl ?_); refine gL (some 127) Try.func20 #[.agg #[.int .i64 av, .slice DJ ah.length Dt, .int .i64 ax, .int .i64 ay], .slice aQ aJ.length aN, .int .i64 (Int.tmod (wrap64 ((Int.tmod zn Es) + EG)) Et), .int .i64 Fj] ?_; (with_reducible refine (Dg.calls k4 av _ _ ah ax ay _ _ aJ (Int.tmod (wrap64 ((Int.tmod zn Es) + EG)) Et) Fj aH aG bV _ ?yD ?yF ?zw ?zx dQ.out).mono ?_); (case yD => exact H9 ak); (case yF => exact (Kd.zG ak.out).2.1); (case zw => exact G7 Au); (case zx => exact (Kd.yT Au.out).2.1); rintro e w97 ⟨rfl, hb⟩; refine ⟨_, rfl, ?_⟩; replace Aa := BZ Aa hb; replace zT := BZ zT hb; replace Au := BZ Au hb; replace ak := EH ak hb; replace ae := bB ae hb; replace aa := bB aa hb; replace af := bB af hb; replace HB := bS HB hb; clear hb) | ((with_reducible refine yI (N := 17) rfl ?_); (try (refine Ab (by rfl) ?_; dsimp only)); refine yG rfl (N := 17) rfl (cs := #[.int .i64 0, .int .i64 0]) (t := 38) (by go_simp) ?_; intro ag hg w98 yJ hb; have aD := yf.mk (yJ); have fD := bG (w := w) hg; have fH := bG (w := w) hg; have dU := Co ae hg; have dC := Ar ae hg; have dS := Co aa hg; have dF := Ar aa hg; have dE := Co af hg; have dX := Ar af hg; replace Aa := BZ Aa hb; replace zT := BZ zT hb; replace Au := BZ Au hb; replace ak := EH ak hb; replace ae := bB ae hb; replace aa := bB aa hb; replace af := bB af hb; replace HB := bS HB hb; clear hb yJ hg; have a5D := dC.out; have a5E := dU.out; have a3U := dF.out; have a3V := dS.out; have XL := dX.out; have XM := dE.out; have a3W := bc2 aD; have a3X := bf aD))
               (try simp only [pz])
               go_cut [155] (fun v155 wc => ∃ (kq : Nat) (bL : Bool), v155 = .bool bL ∧ yf (yl.j4 kq CB CF (Int.tmod (wrap64 ((Int.tmod zn Es) + EG)) Et) BF aJ Fj bL av ah ax ay au az = some r) ∧ yf (kq ≤ k4) ∧ yf (Kd.R CS 47 wc w.heap.size (fun k_ => some k_ ≠ ((.slice aQ aJ.length aN) : Value).ownBlock) (.slice FQ CB.length FI) CB) ∧ yf (Kd.R Kd.bool 4 wc w.heap.size (fun _ => True) (.slice (some bg) CF.length Kl) CF) ∧ yf (Kd.R CS 47 wc w.heap.size (fun k_ => some k_ ≠ ((.slice FQ CB.length FI) : Value).ownBlock) (.slice aQ aJ.length aN) aJ) ∧ yf (Kd.S (Kd.slice 3 (Kd.int .i64)) 63 wc w.heap.size (fun _ => True) (.slice DJ ah.length Dt) ah) ∧ yf (wc.heap[aK]? = some (.cells #[.int .i64 zn, .int .u16 zz] 25 (0, 0))) ∧ yf (wc.heap[aI]? = some (.cells #[.int .i64 av, (.slice DJ ah.length Dt), .int .i64 ax, .int .i64 ay] 31 (0, 0))) ∧ yf (wc.heap[ai]? = some (.cells #[.int .i64 au, .int .i64 az] 38 (0, 0))) ∧ yf (wc.heap[ag]? = some (.cells #[.int .i64 aH, .int .i64 aG] 38 (0, 0))) ∧ yf (Below w.heap.size w wc))
               case first =>
                have H := bW.out;clear bW
                by_cases bA : bV = 0
                ·
                 rw [if_pos bA] at H;have ed := beq_iff_eq.mpr bA
                 have dV : (bV != 0) = false := bne_eq_false_iff_eq.mpr bA
                 clear bA
                 (skip)
                 by_cases bn : Fj = BF
                 ·
                  rw [if_pos bn] at H;have eH := beq_iff_eq.mpr bn
                  have eO : (Fj != BF) = false := bne_eq_false_iff_eq.mpr bn
                  clear bn
                  by_cases c105 : (!(aH == au) || (!(aG == az))) = true
                  ·
                   rw [if_pos c105] at H
                   have eF : (!(aH == au) || (!(aG == az))) = true := c105
                   clear c105;have H' := yf.mk H;clear H
                   try go_wp2
                   have BL : yf (Kd.R CS 47 ((w98.setCell ⟨ag, 0, none⟩ (.int .i64 aH)).setCell ⟨ag, 1, none⟩ (.int .i64 aG)) w.heap.size (fun k_ => some k_ ≠ (.slice aQ aJ.length aN : Value).ownBlock) (.slice FQ CB.length FI) CB) := ⟨by (with_reducible repeat (apply Kd.yZ)); exact Kd.yX (F4 (g := ag) (Kd.Aw Aa.out aD.out (by decide)) (fun _ hk => hk.2)) (fun _ hk => hk.1)⟩
                   have BN : yf (Kd.R Kd.bool 4 ((w98.setCell ⟨ag, 0, none⟩ (.int .i64 aH)).setCell ⟨ag, 1, none⟩ (.int .i64 aG)) w.heap.size (fun _ => True) (.slice (some bg) CF.length Kl) CF) := ⟨by (with_reducible repeat (apply Kd.yZ)); exact Kd.yX (F4 (g := ag) (Kd.Aw zT.out aD.out (by decide)) (fun _ hk => hk.2)) (fun _ hk => trivial)⟩
                   have BX : yf (Kd.R CS 47 ((w98.setCell ⟨ag, 0, none⟩ (.int .i64 aH)).setCell ⟨ag, 1, none⟩ (.int .i64 aG)) w.heap.size (fun k_ => some k_ ≠ (.slice FQ CB.length FI : Value).ownBlock) (.slice aQ aJ.length aN) aJ) := ⟨by (with_reducible repeat (apply Kd.yZ)); exact Kd.yX (F4 (g := ag) (Kd.Aw Au.out aD.out (by decide)) (fun _ hk => hk.2)) (fun _ hk => hk.1)⟩
                   have Cr : yf (Kd.S (Kd.slice 3 (Kd.int .i64)) 63 ((w98.setCell ⟨ag, 0, none⟩ (.int .i64 aH)).setCell ⟨ag, 1, none⟩ (.int .i64 aG)) w.heap.size (fun _ => True) (.slice DJ ah.length Dt) ah) := ⟨by (with_reducible repeat (apply Kd.Az)); exact Kd.Bo (GA (g := ag) (Kd.AO ak.out aD.out (by decide)) (fun _ hk => hk.2)) (fun _ hk => trivial)⟩
                   have CG : yf (((w98.setCell ⟨ag, 0, none⟩ (.int .i64 aH)).setCell ⟨ag, 1, none⟩ (.int .i64 aG)).heap[aK]? = some (.cells #[.int .i64 zn, .int .u16 zz] 25 (0, 0))) := bK ae rfl
                   have CU : yf (((w98.setCell ⟨ag, 0, none⟩ (.int .i64 aH)).setCell ⟨ag, 1, none⟩ (.int .i64 aG)).heap[aI]? = some (.cells #[.int .i64 av, .slice DJ ah.length Dt, .int .i64 ax, .int .i64 ay] 31 (0, 0))) := bK aa rfl
                   have Eh : yf (((w98.setCell ⟨ag, 0, none⟩ (.int .i64 aH)).setCell ⟨ag, 1, none⟩ (.int .i64 aG)).heap[ai]? = some (.cells #[.int .i64 au, .int .i64 az] 38 (0, 0))) := bK af rfl
                   have F7 : yf (((w98.setCell ⟨ag, 0, none⟩ (.int .i64 aH)).setCell ⟨ag, 1, none⟩ (.int .i64 aG)).heap[ag]? = some (.cells #[.int .i64 aH, .int .i64 aG] 38 (0, 0))) := bK aD rfl
                   have Gd : yf (Below w.heap.size w ((w98.setCell ⟨ag, 0, none⟩ (.int .i64 aH)).setCell ⟨ag, 1, none⟩ (.int .i64 aG))) := ⟨bO HB⟩
                   clear Aa zT Au ak ae aa af aD HB;generalize ((w98.setCell ⟨ag, 0, none⟩ (.int .i64 aH)).setCell ⟨ag, 1, none⟩ (.int .i64 aG)) = w106 at BL BN BX Cr CG CU Eh F7 Gd ⊢;have Aa := BL;have zT := BN;have Au := BX;have ak := Cr;have ae := CG;have aa := CU;have af := Eh;have aD := F7;have HB := Gd;clear BL BN BX Cr CG CU Eh F7 Gd;replace Aa := yf.mk (Kd.AQ Aa.out);replace zT := yf.mk (Kd.AQ zT.out);replace Au := yf.mk (Kd.AQ Au.out);replace ak := yf.mk (Kd.Ea ak.out);replace ae := yf.mk (yO ae.out);replace aa := yf.mk (yO aa.out);replace af := yf.mk (yO af.out);replace aD := yf.mk (yO aD.out);replace HB := yf.mk (za HB.out)
                   refine Bc (n := 26) (S := fun w' => w'.cell? ⟨ag, 0, none⟩ = some (.int .i64 aH) ∧ w'.cell? ⟨ag, 1, none⟩ = some (.int .i64 aG) ∧ w'.cell? ⟨ai, 0, none⟩ = some (.int .i64 au) ∧ w'.cell? ⟨ai, 1, none⟩ = some (.int .i64 az)) (ds := []) (bz 26 0) (by kernel_rfl) rfl rfl (bb2 aD (bc2 af)) (fun hHeld => ?_); refine zF yl.UN yl.Qs (fun yz Bi => ?_)
                   generalize w106.drew = w107 at Aa zT Au ak ae aa af aD HB hHeld ⊢;refine pU 0 130 26 1 yz ?_;refine pU 1 131 26 3 yz ?_;refine pU 2 132 26 7 yz ?_;refine pU 3 133 26 15 yz ?_;refine pU 4 134 26 31 yz ?_;refine pU 5 135 26 63 yz ?_;refine pU 6 136 26 127 yz ?_
                   refine BO 7 137 26 255 yz Bi hHeld ?_
                   refine BO 8 138 26 511 yz Bi hHeld ?_
                   refine pU 9 139 26 1023 yz ?_;refine pU 10 140 26 2047 yz ?_;refine pU 11 141 26 4095 yz ?_;refine pU 12 142 26 8191 yz ?_;refine pN 13 143 26 16383 yz ?_;refine pN 14 144 26 32767 yz ?_;refine pN 15 145 26 65535 yz ?_;refine pN 16 146 26 131071 yz ?_;refine pN 17 147 26 262143 yz ?_;refine pN 18 148 26 524287 yz ?_;refine pN 19 149 26 1048575 yz ?_;refine pN 20 150 26 2097151 yz ?_;refine pN 21 151 26 4194303 yz ?_;refine pN 22 152 26 8388607 yz ?_;refine pN 23 153 26 16777215 yz ?_;refine pN 24 154 26 33554431 yz ?_;refine pU 25 155 26 67108863 yz ?_
                   refine BG (Al yz.out (by kernel_rfl)) ?_
                   try go_wp2
                   go_meet
                   case rel => exact ⟨_, (true), (by rfl), H', ⟨by have := Hd.out; have := D6.out; have := bi.out; have := Ja.out; omega⟩, ⟨kR Aa⟩, ⟨kR zT⟩, ⟨kR Au⟩, ⟨kS ak⟩, ⟨kk ae⟩, ⟨kk aa⟩, ⟨kk af⟩, ⟨kk aD⟩, ⟨bO HB⟩⟩
                  ·
                   rw [if_neg c105] at H
                   have eF : (!(aH == au) || (!(aG == az))) = false := by simpa using c105
                   clear c105;have H' := yf.mk H;clear H
                   try go_wp2
                   have BL : yf (Kd.R CS 47 ((w98.setCell ⟨ag, 0, none⟩ (.int .i64 aH)).setCell ⟨ag, 1, none⟩ (.int .i64 aG)) w.heap.size (fun k_ => some k_ ≠ (.slice aQ aJ.length aN : Value).ownBlock) (.slice FQ CB.length FI) CB) := ⟨by (with_reducible repeat (apply Kd.yZ)); exact Kd.yX (F4 (g := ag) (Kd.Aw Aa.out aD.out (by decide)) (fun _ hk => hk.2)) (fun _ hk => hk.1)⟩
                   have BN : yf (Kd.R Kd.bool 4 ((w98.setCell ⟨ag, 0, none⟩ (.int .i64 aH)).setCell ⟨ag, 1, none⟩ (.int .i64 aG)) w.heap.size (fun _ => True) (.slice (some bg) CF.length Kl) CF) := ⟨by (with_reducible repeat (apply Kd.yZ)); exact Kd.yX (F4 (g := ag) (Kd.Aw zT.out aD.out (by decide)) (fun _ hk => hk.2)) (fun _ hk => trivial)⟩
                   have BX : yf (Kd.R CS 47 ((w98.setCell ⟨ag, 0, none⟩ (.int .i64 aH)).setCell ⟨ag, 1, none⟩ (.int .i64 aG)) w.heap.size (fun k_ => some k_ ≠ (.slice FQ CB.length FI : Value).ownBlock) (.slice aQ aJ.length aN) aJ) := ⟨by (with_reducible repeat (apply Kd.yZ)); exact Kd.yX (F4 (g := ag) (Kd.Aw Au.out aD.out (by decide)) (fun _ hk => hk.2)) (fun _ hk => hk.1)⟩
                   have Cr : yf (Kd.S (Kd.slice 3 (Kd.int .i64)) 63 ((w98.setCell ⟨ag, 0, none⟩ (.int .i64 aH)).setCell ⟨ag, 1, none⟩ (.int .i64 aG)) w.heap.size (fun _ => True) (.slice DJ ah.length Dt) ah) := ⟨by (with_reducible repeat (apply Kd.Az)); exact Kd.Bo (GA (g := ag) (Kd.AO ak.out aD.out (by decide)) (fun _ hk => hk.2)) (fun _ hk => trivial)⟩
                   have CG : yf (((w98.setCell ⟨ag, 0, none⟩ (.int .i64 aH)).setCell ⟨ag, 1, none⟩ (.int .i64 aG)).heap[aK]? = some (.cells #[.int .i64 zn, .int .u16 zz] 25 (0, 0))) := bK ae rfl
                   have CU : yf (((w98.setCell ⟨ag, 0, none⟩ (.int .i64 aH)).setCell ⟨ag, 1, none⟩ (.int .i64 aG)).heap[aI]? = some (.cells #[.int .i64 av, .slice DJ ah.length Dt, .int .i64 ax, .int .i64 ay] 31 (0, 0))) := bK aa rfl
                   have Eh : yf (((w98.setCell ⟨ag, 0, none⟩ (.int .i64 aH)).setCell ⟨ag, 1, none⟩ (.int .i64 aG)).heap[ai]? = some (.cells #[.int .i64 au, .int .i64 az] 38 (0, 0))) := bK af rfl
                   have F7 : yf (((w98.setCell ⟨ag, 0, none⟩ (.int .i64 aH)).setCell ⟨ag, 1, none⟩ (.int .i64 aG)).heap[ag]? = some (.cells #[.int .i64 aH, .int .i64 aG] 38 (0, 0))) := bK aD rfl
                   have Gd : yf (Below w.heap.size w ((w98.setCell ⟨ag, 0, none⟩ (.int .i64 aH)).setCell ⟨ag, 1, none⟩ (.int .i64 aG))) := ⟨bO HB⟩
                   clear Aa zT Au ak ae aa af aD HB;generalize ((w98.setCell ⟨ag, 0, none⟩ (.int .i64 aH)).setCell ⟨ag, 1, none⟩ (.int .i64 aG)) = w108 at BL BN BX Cr CG CU Eh F7 Gd ⊢;have Aa := BL;have zT := BN;have Au := BX;have ak := Cr;have ae := CG;have aa := CU;have af := Eh;have aD := F7;have HB := Gd;clear BL BN BX Cr CG CU Eh F7 Gd;replace Aa := yf.mk (Kd.AQ Aa.out);replace zT := yf.mk (Kd.AQ zT.out);replace Au := yf.mk (Kd.AQ Au.out);replace ak := yf.mk (Kd.Ea ak.out);replace ae := yf.mk (yO ae.out);replace aa := yf.mk (yO aa.out);replace af := yf.mk (yO af.out);replace aD := yf.mk (yO aD.out);replace HB := yf.mk (za HB.out)
                   refine Bc (n := 26) (S := fun w' => w'.cell? ⟨ag, 0, none⟩ = some (.int .i64 aH) ∧ w'.cell? ⟨ag, 1, none⟩ = some (.int .i64 aG) ∧ w'.cell? ⟨ai, 0, none⟩ = some (.int .i64 au) ∧ w'.cell? ⟨ai, 1, none⟩ = some (.int .i64 az)) (ds := []) (bz 26 0) (by kernel_rfl) rfl rfl (bb2 aD (bc2 af)) (fun hHeld => ?_); refine zF yl.UN yl.Qs (fun yz Bi => ?_)
                   generalize w108.drew = w109 at Aa zT Au ak ae aa af aD HB hHeld ⊢;refine pU 0 130 26 1 yz ?_;refine pU 1 131 26 3 yz ?_;refine pU 2 132 26 7 yz ?_;refine pU 3 133 26 15 yz ?_;refine pU 4 134 26 31 yz ?_;refine pU 5 135 26 63 yz ?_;refine pU 6 136 26 127 yz ?_
                   refine BO 7 137 26 255 yz Bi hHeld ?_
                   refine BO 8 138 26 511 yz Bi hHeld ?_
                   refine pU 9 139 26 1023 yz ?_;refine pU 10 140 26 2047 yz ?_;refine pU 11 141 26 4095 yz ?_;refine pU 12 142 26 8191 yz ?_;refine pU 13 143 26 16383 yz ?_;refine pU 14 144 26 32767 yz ?_;refine pU 15 145 26 65535 yz ?_;refine pU 16 146 26 131071 yz ?_;refine pN 17 147 26 262143 yz ?_;refine pN 18 148 26 524287 yz ?_;refine pN 19 149 26 1048575 yz ?_;refine pN 20 150 26 2097151 yz ?_;refine pN 21 151 26 4194303 yz ?_;refine pN 22 152 26 8388607 yz ?_;refine pN 23 153 26 16777215 yz ?_;refine pU 24 154 26 33554431 yz ?_;refine pU 25 155 26 67108863 yz ?_
                   refine BG (Al yz.out (by kernel_rfl)) ?_
                   try go_wp2
                   go_meet
                   case rel => exact ⟨_, (false), (by rfl), H', ⟨by have := Hd.out; have := D6.out; have := bi.out; have := Ja.out; omega⟩, ⟨kR Aa⟩, ⟨kR zT⟩, ⟨kR Au⟩, ⟨kS ak⟩, ⟨kk ae⟩, ⟨kk aa⟩, ⟨kk af⟩, ⟨kk aD⟩, ⟨bO HB⟩⟩
                 ·
                  rw [if_neg bn] at H;have eH := beq_eq_false_iff_ne.mpr bn;have eO := bne_iff_ne.mpr bn;obtain ⟨⟨dw, di⟩, eu, H⟩ := bE H
                  try dsimp only at H
                  have H' := yf.mk H;clear H
                  try go_wp2
                  have BL : yf (Kd.R CS 47 ((w98.setCell ⟨ag, 0, none⟩ (.int .i64 aH)).setCell ⟨ag, 1, none⟩ (.int .i64 aG)) w.heap.size (fun k_ => some k_ ≠ (.slice aQ aJ.length aN : Value).ownBlock) (.slice FQ CB.length FI) CB) := ⟨by (with_reducible repeat (apply Kd.yZ)); exact Kd.yX (F4 (g := ag) (Kd.Aw Aa.out aD.out (by decide)) (fun _ hk => hk.2)) (fun _ hk => hk.1)⟩
                  have BN : yf (Kd.R Kd.bool 4 ((w98.setCell ⟨ag, 0, none⟩ (.int .i64 aH)).setCell ⟨ag, 1, none⟩ (.int .i64 aG)) w.heap.size (fun _ => True) (.slice (some bg) CF.length Kl) CF) := ⟨by (with_reducible repeat (apply Kd.yZ)); exact Kd.yX (F4 (g := ag) (Kd.Aw zT.out aD.out (by decide)) (fun _ hk => hk.2)) (fun _ hk => trivial)⟩
                  have BX : yf (Kd.R CS 47 ((w98.setCell ⟨ag, 0, none⟩ (.int .i64 aH)).setCell ⟨ag, 1, none⟩ (.int .i64 aG)) w.heap.size (fun k_ => some k_ ≠ (.slice FQ CB.length FI : Value).ownBlock) (.slice aQ aJ.length aN) aJ) := ⟨by (with_reducible repeat (apply Kd.yZ)); exact Kd.yX (F4 (g := ag) (Kd.Aw Au.out aD.out (by decide)) (fun _ hk => hk.2)) (fun _ hk => hk.1)⟩
                  have Cr : yf (Kd.S (Kd.slice 3 (Kd.int .i64)) 63 ((w98.setCell ⟨ag, 0, none⟩ (.int .i64 aH)).setCell ⟨ag, 1, none⟩ (.int .i64 aG)) w.heap.size (fun _ => True) (.slice DJ ah.length Dt) ah) := ⟨by (with_reducible repeat (apply Kd.Az)); exact Kd.Bo (GA (g := ag) (Kd.AO ak.out aD.out (by decide)) (fun _ hk => hk.2)) (fun _ hk => trivial)⟩
                  have CG : yf (((w98.setCell ⟨ag, 0, none⟩ (.int .i64 aH)).setCell ⟨ag, 1, none⟩ (.int .i64 aG)).heap[aK]? = some (.cells #[.int .i64 zn, .int .u16 zz] 25 (0, 0))) := bK ae rfl
                  have CU : yf (((w98.setCell ⟨ag, 0, none⟩ (.int .i64 aH)).setCell ⟨ag, 1, none⟩ (.int .i64 aG)).heap[aI]? = some (.cells #[.int .i64 av, .slice DJ ah.length Dt, .int .i64 ax, .int .i64 ay] 31 (0, 0))) := bK aa rfl
                  have Eh : yf (((w98.setCell ⟨ag, 0, none⟩ (.int .i64 aH)).setCell ⟨ag, 1, none⟩ (.int .i64 aG)).heap[ai]? = some (.cells #[.int .i64 au, .int .i64 az] 38 (0, 0))) := bK af rfl
                  have F7 : yf (((w98.setCell ⟨ag, 0, none⟩ (.int .i64 aH)).setCell ⟨ag, 1, none⟩ (.int .i64 aG)).heap[ag]? = some (.cells #[.int .i64 aH, .int .i64 aG] 38 (0, 0))) := bK aD rfl
                  have Gd : yf (Below w.heap.size w ((w98.setCell ⟨ag, 0, none⟩ (.int .i64 aH)).setCell ⟨ag, 1, none⟩ (.int .i64 aG))) := ⟨bO HB⟩
                  clear Aa zT Au ak ae aa af aD HB;generalize ((w98.setCell ⟨ag, 0, none⟩ (.int .i64 aH)).setCell ⟨ag, 1, none⟩ (.int .i64 aG)) = w111 at BL BN BX Cr CG CU Eh F7 Gd ⊢;have Aa := BL;have zT := BN;have Au := BX;have ak := Cr;have ae := CG;have aa := CU;have af := Eh;have aD := F7;have HB := Gd;clear BL BN BX Cr CG CU Eh F7 Gd;replace Aa := yf.mk (Kd.AQ Aa.out);replace zT := yf.mk (Kd.AQ zT.out);replace Au := yf.mk (Kd.AQ Au.out);replace ak := yf.mk (Kd.Ea ak.out);replace ae := yf.mk (yO ae.out);replace aa := yf.mk (yO aa.out);replace af := yf.mk (yO af.out);replace aD := yf.mk (yO aD.out);replace HB := yf.mk (za HB.out)
                  refine Bc (n := 26) (S := fun w' => w'.cell? ⟨ag, 0, none⟩ = some (.int .i64 aH) ∧ w'.cell? ⟨ag, 1, none⟩ = some (.int .i64 aG) ∧ w'.cell? ⟨aI, 0, none⟩ = some (.int .i64 av) ∧ w'.cell? ⟨aI, 1, none⟩ = some (.slice DJ ah.length Dt) ∧ w'.cell? ⟨aI, 2, none⟩ = some (.int .i64 ax) ∧ w'.cell? ⟨aI, 3, none⟩ = some (.int .i64 ay)) (ds := []) (bz 26 0) (by kernel_rfl) rfl rfl (bb2 aD (AP aa)) (fun hHeld => ?_); refine zF yl.UN yl.Qs (fun yz Bi => ?_)
                  generalize w111.drew = w112 at Aa zT Au ak ae aa af aD HB hHeld ⊢;refine pU 0 130 26 1 yz ?_;refine pU 1 131 26 3 yz ?_;refine pU 2 132 26 7 yz ?_;refine pU 3 133 26 15 yz ?_;refine pU 4 134 26 31 yz ?_;refine pU 5 135 26 63 yz ?_;refine pU 6 136 26 127 yz ?_;refine pN 7 137 26 255 yz ?_;refine pN 8 138 26 511 yz ?_;refine pN 9 139 26 1023 yz ?_;refine pU 10 140 26 2047 yz ?_;refine pU 11 141 26 4095 yz ?_;refine pU 12 142 26 8191 yz ?_;refine pU 13 143 26 16383 yz ?_;refine pU 14 144 26 32767 yz ?_;refine pU 15 145 26 65535 yz ?_;refine pU 16 146 26 131071 yz ?_;refine pU 19 149 26 655359 yz ?_;refine pU 20 150 26 1703935 yz ?_;refine pU 21 151 26 3801087 yz ?_
                  refine BO 17 147 26 3932159 yz Bi hHeld ?_
                  refine BO 18 148 26 4194303 yz Bi hHeld ?_
                  refine Ck (i := 22) (N := some 152) (bz 26 8388607) rfl rfl (Af yz.out (by kernel_rfl)) (by decide) (fun K hK => ?_)
                  refine gO Try.func22 #[.agg #[.int .i64 av, .slice DJ ah.length Dt, .int .i64 ax, .int .i64 ay], .slice FQ CB.length FI, .int .i64 (Int.tmod (wrap64 ((Int.tmod zn Es) + EG)) Et), .int .i64 Fj] ?_
                  with_reducible refine (zy.calls k4 av _ _ ah ax ay _ _ CB (Int.tmod (wrap64 ((Int.tmod zn Es) + EG)) Et) Fj dw di _ ?yD ?yF ?zw ?zx eu.out).mono ?_
                  (case yD => exact H9 ak)
                  (case yF => exact (Kd.zG ak.out).2.1)
                  (case zw => exact G7 Aa)
                  (case zx => exact (Kd.yT Aa.out).2.1)
                  rintro e w113 ⟨rfl, hb⟩
                  refine ⟨_, rfl, ?_⟩
                  replace Aa := BZ Aa hb;replace zT := BZ zT hb;replace Au := BZ Au hb;replace ak := EH ak hb;replace ae := bB ae hb;replace aa := bB aa hb;replace af := bB af hb;replace aD := bB aD hb;replace HB := bS HB hb;clear hb
                  refine hK.out _ _ (bb2 aD (AP aa)) (fun hHeld => ?_)
                  clear hK K
                  refine AR (a' := ?_) ?_ ?_
                  rotate_left
                  ·
                   show Act.put _ (some 152) _ = _
                   simp only [pz]
                   rfl
                  refine pU 23 153 26 16777215 yz ?_;refine pU 24 154 26 33554431 yz ?_;refine pU 25 155 26 67108863 yz ?_
                  refine BG (Al yz.out (by kernel_rfl)) ?_
                  try go_wp2
                  go_meet
                  case rel => exact ⟨_, ((!(aH == dw) || (!(aG == di)))), (by rfl), H', ⟨by have := Hd.out; have := D6.out; have := bi.out; have := Ja.out; omega⟩, ⟨kR Aa⟩, ⟨kR zT⟩, ⟨kR Au⟩, ⟨kS ak⟩, ⟨kk ae⟩, ⟨kk aa⟩, ⟨kk af⟩, ⟨kk aD⟩, ⟨bO HB⟩⟩
                ·
                 rw [if_neg bA] at H;have ed := beq_eq_false_iff_ne.mpr bA;have dV := bne_iff_ne.mpr bA
                 (skip)
                 have H' := yf.mk H;clear H
                 try go_wp2
                 have BL : yf (Kd.R CS 47 ((w98.setCell ⟨ag, 0, none⟩ (.int .i64 aH)).setCell ⟨ag, 1, none⟩ (.int .i64 aG)) w.heap.size (fun k_ => some k_ ≠ (.slice aQ aJ.length aN : Value).ownBlock) (.slice FQ CB.length FI) CB) := ⟨by (with_reducible repeat (apply Kd.yZ)); exact Kd.yX (F4 (g := ag) (Kd.Aw Aa.out aD.out (by decide)) (fun _ hk => hk.2)) (fun _ hk => hk.1)⟩
                 have BN : yf (Kd.R Kd.bool 4 ((w98.setCell ⟨ag, 0, none⟩ (.int .i64 aH)).setCell ⟨ag, 1, none⟩ (.int .i64 aG)) w.heap.size (fun _ => True) (.slice (some bg) CF.length Kl) CF) := ⟨by (with_reducible repeat (apply Kd.yZ)); exact Kd.yX (F4 (g := ag) (Kd.Aw zT.out aD.out (by decide)) (fun _ hk => hk.2)) (fun _ hk => trivial)⟩
                 have BX : yf (Kd.R CS 47 ((w98.setCell ⟨ag, 0, none⟩ (.int .i64 aH)).setCell ⟨ag, 1, none⟩ (.int .i64 aG)) w.heap.size (fun k_ => some k_ ≠ (.slice FQ CB.length FI : Value).ownBlock) (.slice aQ aJ.length aN) aJ) := ⟨by (with_reducible repeat (apply Kd.yZ)); exact Kd.yX (F4 (g := ag) (Kd.Aw Au.out aD.out (by decide)) (fun _ hk => hk.2)) (fun _ hk => hk.1)⟩
                 have Cr : yf (Kd.S (Kd.slice 3 (Kd.int .i64)) 63 ((w98.setCell ⟨ag, 0, none⟩ (.int .i64 aH)).setCell ⟨ag, 1, none⟩ (.int .i64 aG)) w.heap.size (fun _ => True) (.slice DJ ah.length Dt) ah) := ⟨by (with_reducible repeat (apply Kd.Az)); exact Kd.Bo (GA (g := ag) (Kd.AO ak.out aD.out (by decide)) (fun _ hk => hk.2)) (fun _ hk => trivial)⟩
                 have CG : yf (((w98.setCell ⟨ag, 0, none⟩ (.int .i64 aH)).setCell ⟨ag, 1, none⟩ (.int .i64 aG)).heap[aK]? = some (.cells #[.int .i64 zn, .int .u16 zz] 25 (0, 0))) := bK ae rfl
                 have CU : yf (((w98.setCell ⟨ag, 0, none⟩ (.int .i64 aH)).setCell ⟨ag, 1, none⟩ (.int .i64 aG)).heap[aI]? = some (.cells #[.int .i64 av, .slice DJ ah.length Dt, .int .i64 ax, .int .i64 ay] 31 (0, 0))) := bK aa rfl
                 have Eh : yf (((w98.setCell ⟨ag, 0, none⟩ (.int .i64 aH)).setCell ⟨ag, 1, none⟩ (.int .i64 aG)).heap[ai]? = some (.cells #[.int .i64 au, .int .i64 az] 38 (0, 0))) := bK af rfl
                 have F7 : yf (((w98.setCell ⟨ag, 0, none⟩ (.int .i64 aH)).setCell ⟨ag, 1, none⟩ (.int .i64 aG)).heap[ag]? = some (.cells #[.int .i64 aH, .int .i64 aG] 38 (0, 0))) := bK aD rfl
                 have Gd : yf (Below w.heap.size w ((w98.setCell ⟨ag, 0, none⟩ (.int .i64 aH)).setCell ⟨ag, 1, none⟩ (.int .i64 aG))) := ⟨bO HB⟩
                 clear Aa zT Au ak ae aa af aD HB;generalize ((w98.setCell ⟨ag, 0, none⟩ (.int .i64 aH)).setCell ⟨ag, 1, none⟩ (.int .i64 aG)) = w114 at BL BN BX Cr CG CU Eh F7 Gd ⊢;have Aa := BL;have zT := BN;have Au := BX;have ak := Cr;have ae := CG;have aa := CU;have af := Eh;have aD := F7;have HB := Gd;clear BL BN BX Cr CG CU Eh F7 Gd;replace Aa := yf.mk (Kd.AQ Aa.out);replace zT := yf.mk (Kd.AQ zT.out);replace Au := yf.mk (Kd.AQ Au.out);replace ak := yf.mk (Kd.Ea ak.out);replace ae := yf.mk (yO ae.out);replace aa := yf.mk (yO aa.out);replace af := yf.mk (yO af.out);replace aD := yf.mk (yO aD.out);replace HB := yf.mk (za HB.out)
                 refine Bc (n := 26) (S := fun w' => True) (ds := []) (bz 26 0) (by kernel_rfl) rfl rfl trivial (fun hHeld => ?_); refine zF yl.UN yl.Qs (fun yz Bi => ?_)
                 generalize w114.drew = w115 at Aa zT Au ak ae aa af aD HB hHeld ⊢;refine pU 0 130 26 1 yz ?_;refine pU 1 131 26 3 yz ?_;refine pU 2 132 26 7 yz ?_;refine pN 3 133 26 15 yz ?_;refine pN 4 134 26 31 yz ?_;refine pN 5 135 26 63 yz ?_;refine pN 6 136 26 127 yz ?_;refine pN 7 137 26 255 yz ?_;refine pN 8 138 26 511 yz ?_;refine pN 9 139 26 1023 yz ?_;refine pN 10 140 26 2047 yz ?_;refine pU 11 141 26 4095 yz ?_;refine pU 12 142 26 8191 yz ?_;refine pN 13 143 26 16383 yz ?_;refine pN 14 144 26 32767 yz ?_;refine pN 15 145 26 65535 yz ?_;refine pN 16 146 26 131071 yz ?_;refine pN 17 147 26 262143 yz ?_;refine pN 18 148 26 524287 yz ?_;refine pN 19 149 26 1048575 yz ?_;refine pN 20 150 26 2097151 yz ?_;refine pN 21 151 26 4194303 yz ?_;refine pN 22 152 26 8388607 yz ?_;refine pN 23 153 26 16777215 yz ?_;refine pN 24 154 26 33554431 yz ?_;refine pU 25 155 26 67108863 yz ?_
                 refine BG (Al yz.out (by kernel_rfl)) ?_
                 try go_wp2
                 go_meet
                 case rel => exact ⟨_, (true), (by rfl), H', ⟨by have := Hd.out; have := D6.out; have := bi.out; have := Ja.out; omega⟩, ⟨kR Aa⟩, ⟨kR zT⟩, ⟨kR Au⟩, ⟨kS ak⟩, ⟨kk ae⟩, ⟨kk aa⟩, ⟨kk af⟩, ⟨kk aD⟩, ⟨bO HB⟩⟩
               case rest =>
                clear bW;obtain ⟨kq, bL, rfl, HA, cK, Aa, zT, Au, ak, ae, aa, af, aD, HB⟩ := hcut
                cases kq with
                | zero => exact absurd HA.out (by simp [yl.j4])
                | succ dD =>
                 have H := HA.out;clear HA;simp only [yl.j4] at H
                 by_cases c116 : bL = true
                 ·
                  subst c116;rw [if_pos rfl] at H;exact absurd H (by simp)
                 ·
                  replace c116 := Bool.eq_false_iff.mpr c116;subst c116
                  rw [if_neg (show ¬ (false = true) by decide)] at H
                  have H' := yf.mk H;clear H
                  go_wp2
                  go_roundg dD
                  case measure => have := Hd.out; have := D6.out; have := bi.out; have := Ja.out; have := cK.out; omega
                  case rel => exact ⟨(wrap64 (Fj + 1)), (by rfl), H', ⟨by have := Hd.out; have := D6.out; have := bi.out; have := Ja.out; have := cK.out; omega⟩, ⟨kR Aa⟩, ⟨kR zT⟩, ⟨kR Au⟩, ⟨kS ak⟩, ⟨kk ae⟩, ⟨kk aa⟩, ⟨kk af⟩, ⟨bO HB⟩⟩
              ·
               rw [if_neg bI] at H;have dZ := decide_eq_false bI;clear bI;have H' := yf.mk H;clear H;have a2X := aT.out;have a2Y := aV.out;have a2Z := aW.out;have a3a := aU.out;have a3b := AP aa;have a3c := bf aa
               go_wp2_with (((with_reducible refine yw (f := 24) rfl ?_); refine gL (some 118) Try.func24 #[.agg #[.int .i64 av, .slice DJ ah.length Dt, .int .i64 ax, .int .i64 ay]] ?_; (with_reducible refine (zi.calls av _ _ ah ax ay YI _ ?yD ?yF df.out).mono ?_); (case yD => exact H9 ak); (case yF => exact (Kd.zG ak.out).2.1); rintro e w120 ⟨rfl, hb⟩; refine ⟨_, rfl, ?_⟩; replace Aa := BZ Aa hb; replace zT := BZ zT hb; replace Au := BZ Au hb; replace ak := EH ak hb; replace ae := bB ae hb; replace aa := bB aa hb; replace af := bB af hb; replace HB := bS HB hb; clear hb))
               go_roundg k4
               case measure => have := Hd.out; have := D6.out; have := bi.out; have := Ja.out; omega
               case rel => exact ⟨(wrap64 (BF + 1)), (by rfl), H', ⟨by have := Hd.out; have := D6.out; have := bi.out; have := Ja.out; omega⟩, ⟨by (with_reducible repeat (apply Kd.yZ)); exact Kd.yX Aa.out (fun _ hk => trivial)⟩, ⟨kR zT⟩, ⟨kS ak⟩, ⟨kk ae⟩, ⟨kk aa⟩, ⟨kk af⟩, ⟨bO HB⟩⟩
        ·
         replace bP := Bool.eq_false_iff.mpr bP;subst bP
         rw [if_neg (show ¬ (false = true) by decide)] at H
         have H' := yf.mk H;clear H;have a3d := aT.out;have a3e := aV.out;have a3f := aW.out;have a3g := aU.out;have a3h := AP aa;have a3i := bf aa
         go_wp2_with (first | ((with_reducible refine yw (f := 24) rfl ?_); refine gL (some 84) Try.func24 #[.agg #[.int .i64 av, .slice DJ ah.length Dt, .int .i64 ax, .int .i64 ay]] ?_; (with_reducible refine (zi.calls av _ _ ah ax ay VE _ ?yD ?yF Sy.out).mono ?_); (case yD => exact H9 ak); (case yF => exact (Kd.zG ak.out).2.1); rintro e w124 ⟨rfl, hb⟩; refine ⟨_, rfl, ?_⟩; replace Aa := BZ Aa hb; replace zT := BZ zT hb; replace ak := EH ak hb; replace ae := bB ae hb; replace aa := bB aa hb; replace af := bB af hb; replace HB := bS HB hb; clear hb; have fo := AP aa; have fJ := bf aa) | ((with_reducible refine yw (f := 22) rfl ?_); refine gL (some 93) Try.func22 #[.agg #[.int .i64 av, .slice DJ ah.length Dt, .int .i64 ax, .int .i64 ay], .slice FQ CB.length FI, .int .i64 (Int.tmod (wrap64 ((Int.tmod zn Es) + EG)) Et), .int .i64 BF] ?_; (with_reducible refine (zy.calls k2 av _ _ ah ax ay _ _ CB (Int.tmod (wrap64 ((Int.tmod zn Es) + EG)) Et) BF aM d9 _ ?yD ?yF ?zw ?zx dh.out).mono ?_); (case yD => exact H9 ak); (case yF => exact (Kd.zG ak.out).2.1); (case zw => exact G7 Aa); (case zx => exact (Kd.yT Aa.out).2.1); rintro e w126 ⟨rfl, hb⟩; refine ⟨_, rfl, ?_⟩; replace Aa := BZ Aa hb; replace zT := BZ zT hb; replace ak := EH ak hb; replace ae := bB ae hb; replace aa := bB aa hb; replace af := bB af hb; replace HB := bS HB hb; clear hb; have aY : 0 ≤ (aM : Int) := of_decide_eq_true ‹_›; have aZ : aM < (CF.length : Int) := of_decide_eq_true ‹_›; obtain ⟨bg, bX, bM⟩ := Kd.Fq (Kd.yT zT.out).2.2 aM aY aZ; (try rw [← dx.out] at bM); cases bX; replace aY := eq_true aY; replace aZ := eq_true aZ))
         go_roundg k2
         case measure => have := Hd.out; have := D6.out; omega
         case rel => exact ⟨(wrap64 (BF + 1)), (by rfl), H', ⟨by have := Hd.out; have := D6.out; omega⟩, ⟨kR Aa⟩, ⟨kR zT⟩, ⟨kS ak⟩, ⟨kk ae⟩, ⟨kk aa⟩, ⟨kk af⟩, ⟨bO HB⟩⟩
       ·
        rw [if_neg c64] at H;exact absurd H (by simp)
      ·
       rw [if_neg M9] at H;exact absurd H (by simp)
     ·
      rw [if_neg Vz] at H;have RJ := decide_eq_false Vz;clear Vz;obtain rfl := Option.some.inj H;have a3L := aT.out;have a3M := aV.out;have a3N := aW.out;have a3O := aU.out;have a3P := AP aa;have a3Q := bf aa
      go_wp2_with (((with_reducible refine yw (f := 24) rfl ?_); refine gL (some 84) Try.func24 #[.agg #[.int .i64 av, .slice DJ ah.length Dt, .int .i64 ax, .int .i64 ay]] ?_; (with_reducible refine (zi.calls av _ _ ah ax ay VE _ ?yD ?yF Sy.out).mono ?_); (case yD => exact H9 ak); (case yF => exact (Kd.zG ak.out).2.1); rintro e w130 ⟨rfl, hb⟩; refine ⟨_, rfl, ?_⟩; replace Aa := BZ Aa hb; replace zT := BZ zT hb; replace ak := EH ak hb; replace ae := bB ae hb; replace aa := bB aa hb; replace af := bB af hb; replace HB := bS HB hb; clear hb))
      go_ret
      exact ⟨by rfl, bO HB⟩
end Go.Proofs.Ytjonnfmoocijlaa.P
