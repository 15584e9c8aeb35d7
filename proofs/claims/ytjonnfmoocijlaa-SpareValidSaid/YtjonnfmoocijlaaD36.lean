/- Texts of a claim, packed. -/
import Derived.Test.YtjonnfmoocijlaaD35
set_option linter.all false
namespace Go.Proofs.Ytjonnfmoocijlaa.P
open Go.RowKit Go.Proofs.YtjonnfmoocijlaaKW.PrintWords Go.Proofs.YtjonnfmoocijlaaKW.PrintLast Go.Proofs.YtjonnfmoocijlaaKW.PrintMore
attribute [local go_sem] zz zA zS zT zn zo zB zC
attribute [local go_sem high] RU
def Ce.f (k : Nat)  : Option (Bool) := (ym.f k 5 4).bind fun Ep => ((yN.f k Ep.1 Ep.2 1 2 ([] : List (AY)) 0 (([true, false, false, false, false] : List Bool))).bind fun I7 => ((yN.f k Ep.1 Ep.2 1 2 ([] : List (AY)) 0 (([false, false, false, false, true] : List Bool))).bind fun M7 => ((zi.f k Ep.1 Ep.2 1 2 ([] : List (AY)) 0 2 4 4).bind fun EL => ((Cc.f k Ep.1 Ep.2 1 2 EL.1 4).bind fun I8 => ((yN.f k Ep.1 Ep.2 1 2 EL.1 1 (([true, false, false, false, false] : List Bool))).bind fun EM => (if I7.2.2 = 0 then (if (I7.1 == 4 && (I7.2.1 == 4)) = true then (if M7.2.2 = 11 then (if EL.2 = 0 then (if (EL.1.length : Int) = 1 then (if I8.2 = 0 then ((zy.f k I8.1 (([4] : List Int))).bind fun JQ => (if JQ = true then (if EM.2.2 = 0 then (if (EM.1 == 3 && (EM.2.1 == 4)) = true then (some true) else (none)) else (none)) else (none))) else (none)) else (none)) else (none)) else (none)) else (none)) else (none)))))))
set_option maxHeartbeats 8000000 in
set_option maxRecDepth 100000 in
theorem Ce.calls (k : Nat)  (r : Bool) (w : World) (h : Ce.f k  = some r) :
  Calls Try.prog 9 #[] w fun e w' => e = .returned (.bool r) ∧ Below w.heap.size w w' := by
 have FB := Try.underlying31;have Lv := Try.underlying38;have Pf := Try.underlying47;have HB := yf.mk (Below.refl w.heap.size w)
 have H : ((ym.f k 5 4).bind fun Ep => ((yN.f k Ep.1 Ep.2 1 2 ([] : List (AY)) 0 (([true, false, false, false, false] : List Bool))).bind fun I7 => ((yN.f k Ep.1 Ep.2 1 2 ([] : List (AY)) 0 (([false, false, false, false, true] : List Bool))).bind fun M7 => ((zi.f k Ep.1 Ep.2 1 2 ([] : List (AY)) 0 2 4 4).bind fun EL => ((Cc.f k Ep.1 Ep.2 1 2 EL.1 4).bind fun I8 => ((yN.f k Ep.1 Ep.2 1 2 EL.1 1 (([true, false, false, false, false] : List Bool))).bind fun EM => (if I7.2.2 = 0 then (if (I7.1 == 4 && (I7.2.1 == 4)) = true then (if M7.2.2 = 11 then (if EL.2 = 0 then (if (EL.1.length : Int) = 1 then (if I8.2 = 0 then ((zy.f k I8.1 (([4] : List Int))).bind fun JQ => (if JQ = true then (if EM.2.2 = 0 then (if (EM.1 == 3 && (EM.2.1 == 4)) = true then (some true) else (none)) else (none)) else (none))) else (none)) else (none)) else (none)) else (none)) else (none)) else (none)))))))) = some r := h
 clear h;obtain ⟨⟨ai, ah⟩, A1, H⟩ := bE H
 try dsimp only at H
 obtain ⟨bi, bg⟩ : ∃ y_ : List Bool, y_ = (([true, false, false, false, false] : List Bool)) := ⟨_, rfl⟩
 replace H : ((yN.f k ai ah 1 2 ([] : List (AY)) 0 bi).bind fun I7 => ((yN.f k ai ah 1 2 ([] : List (AY)) 0 (([false, false, false, false, true] : List Bool))).bind fun M7 => ((zi.f k ai ah 1 2 ([] : List (AY)) 0 2 4 4).bind fun EL => ((Cc.f k ai ah 1 2 EL.1 4).bind fun I8 => ((yN.f k ai ah 1 2 EL.1 1 (([true, false, false, false, false] : List Bool))).bind fun EM => (if I7.2.2 = 0 then (if (I7.1 == 4 && (I7.2.1 == 4)) = true then (if M7.2.2 = 11 then (if EL.2 = 0 then (if (EL.1.length : Int) = 1 then (if I8.2 = 0 then ((zy.f k I8.1 (([4] : List Int))).bind fun JQ => (if JQ = true then (if EM.2.2 = 0 then (if (EM.1 == 3 && (EM.2.1 == 4)) = true then (some true) else (none)) else (none)) else (none))) else (none)) else (none)) else (none)) else (none)) else (none)) else (none))))))) = some r := by (rw [bg]; with_reducible exact H)
 have bN := yf.mk bg;clear bg;obtain ⟨⟨az, ay, aQ⟩, A2, H⟩ := bE H
 try dsimp only at H
 obtain ⟨bD, bu⟩ : ∃ y_ : List Bool, y_ = (([false, false, false, false, true] : List Bool)) := ⟨_, rfl⟩
 replace H : ((yN.f k ai ah 1 2 ([] : List (AY)) 0 bD).bind fun M7 => ((zi.f k ai ah 1 2 ([] : List (AY)) 0 2 4 4).bind fun EL => ((Cc.f k ai ah 1 2 EL.1 4).bind fun I8 => ((yN.f k ai ah 1 2 EL.1 1 (([true, false, false, false, false] : List Bool))).bind fun EM => (if aQ = 0 then (if (az == 4 && (ay == 4)) = true then (if M7.2.2 = 11 then (if EL.2 = 0 then (if (EL.1.length : Int) = 1 then (if I8.2 = 0 then ((zy.f k I8.1 (([4] : List Int))).bind fun JQ => (if JQ = true then (if EM.2.2 = 0 then (if (EM.1 == 3 && (EM.2.1 == 4)) = true then (some true) else (none)) else (none)) else (none))) else (none)) else (none)) else (none)) else (none)) else (none)) else (none)))))) = some r := by (rw [bu]; with_reducible exact H)
 have bM := yf.mk bu;clear bu;obtain ⟨⟨bv, bq, aY⟩, A3, H⟩ := bE H
 try dsimp only at H
 obtain ⟨⟨aC, aV⟩, A4, H⟩ := bE H
 try dsimp only at H
 obtain ⟨⟨aX, aW⟩, A5, H⟩ := bE H
 try dsimp only at H
 obtain ⟨bA, aZ⟩ : ∃ y_ : List Bool, y_ = (([true, false, false, false, false] : List Bool)) := ⟨_, rfl⟩
 replace H : ((yN.f k ai ah 1 2 aC 1 bA).bind fun EM => (if aQ = 0 then (if (az == 4 && (ay == 4)) = true then (if aY = 11 then (if aV = 0 then (if (aC.length : Int) = 1 then (if aW = 0 then ((zy.f k aX (([4] : List Int))).bind fun JQ => (if JQ = true then (if EM.2.2 = 0 then (if (EM.1 == 3 && (EM.2.1 == 4)) = true then (some true) else (none)) else (none)) else (none))) else (none)) else (none)) else (none)) else (none)) else (none)) else (none))) = some r := by (rw [aZ]; with_reducible exact H)
 have bR := yf.mk aZ;clear aZ;obtain ⟨⟨aH, aG, aT⟩, A6, H⟩ := bE H
 try dsimp only at H
 by_cases c7 : aQ = 0
 rotate_left
 ·
  rw [if_neg c7] at H;exact absurd H (by simp)
 rw [if_pos c7] at H;have FR := beq_iff_eq.mpr c7
 have Mo : (aQ != 0) = false := bne_eq_false_iff_eq.mpr c7
 clear c7
 by_cases c8 : (az == 4 && (ay == 4)) = true
 rotate_left
 ·
  rw [if_neg c8] at H;exact absurd H (by simp)
 rw [if_pos c8] at H
 have Gl : (az == 4 && (ay == 4)) = true := c8
 (try (have Mq : decide (az = 4 && (ay == 4)) = true := by simpa using c8))
 (try (have dm : (az == 4 && (ay == 4)) = true := by simpa using c8))
 clear c8
 by_cases c9 : aY = 11
 rotate_left
 ·
  rw [if_neg c9] at H;exact absurd H (by simp)
 rw [if_pos c9] at H;have Hr := beq_iff_eq.mpr c9
 have OB : (aY != 11) = false := bne_eq_false_iff_eq.mpr c9
 clear c9
 by_cases c10 : aV = 0
 rotate_left
 ·
  rw [if_neg c10] at H;exact absurd H (by simp)
 rw [if_pos c10] at H;have Fv := beq_iff_eq.mpr c10
 have MR : (aV != 0) = false := bne_eq_false_iff_eq.mpr c10
 clear c10
 by_cases c11 : (aC.length : Int) = 1
 rotate_left
 ·
  rw [if_neg c11] at H;exact absurd H (by simp)
 rw [if_pos c11] at H;have Gv := beq_iff_eq.mpr c11
 have Uk : ((aC.length : Int) != 1) = false := bne_eq_false_iff_eq.mpr c11
 clear c11
 by_cases c12 : aW = 0
 rotate_left
 ·
  rw [if_neg c12] at H;exact absurd H (by simp)
 rw [if_pos c12] at H;have Jg := beq_iff_eq.mpr c12
 have a15 : (aW != 0) = false := bne_eq_false_iff_eq.mpr c12
 clear c12;obtain ⟨bF, bC⟩ : ∃ y_ : List Int, y_ = (([4] : List Int)) := ⟨_, rfl⟩
 replace H : ((zy.f k aX bF).bind fun JQ => (if JQ = true then (if aT = 0 then (if (aH == 3 && (aG == 4)) = true then (some true) else (none)) else (none)) else (none))) = some r := by (rw [bC]; with_reducible exact H)
 have bW := yf.mk bC;clear bC;obtain ⟨JQ, A13, H⟩ := bE H
 try dsimp only at H
 by_cases c14 : JQ = true
 rotate_left
 ·
  replace c14 := Bool.eq_false_iff.mpr c14;subst c14
  rw [if_neg (show ¬ (false = true) by decide)] at H
  exact absurd H (by simp)
 subst c14;rw [if_pos rfl] at H
 by_cases c15 : aT = 0
 rotate_left
 ·
  rw [if_neg c15] at H;exact absurd H (by simp)
 rw [if_pos c15] at H;have GY := beq_iff_eq.mpr c15
 have a2t : (aT != 0) = false := bne_eq_false_iff_eq.mpr c15
 clear c15
 by_cases c16 : (aH == 3 && (aG == 4)) = true
 rotate_left
 ·
  rw [if_neg c16] at H;exact absurd H (by simp)
 rw [if_pos c16] at H
 have G8 : (aH == 3 && (aG == 4)) = true := c16
 (try (have Vb : decide (aH = 3 && (aG == 4)) = true := by simpa using c16))
 (try (have dA : (aH == 3 && (aG == 4)) = true := by simpa using c16))
 clear c16;obtain rfl := Option.some.inj H
 go_enter Try.func9, Try.ntmps9
 go_wp2_with (first | ((with_reducible refine yB (f := 30) rfl ?_); refine gL (some 12) Try.func30 #[.int .i64 5, .int .i64 4] ?_; (with_reducible refine (ym.calls k 5 4 ai ah _ A1.out).mono ?_); rintro e w17 ⟨v397, rfl, ho0, hb⟩; refine ⟨_, rfl, ?_⟩; have ae := yf.mk (Kd.Fy ho0 (yJ (bO HB))); replace HB := bS HB hb; clear hb; clear ho0; obtain ⟨HZ, GN, Vj⟩ := Kd.Es ae.out; subst Vj) | ((with_reducible refine yK (N := 1) rfl ?_); (try (refine BH (by rfl) ?_; dsimp only)); refine yE rfl (N := 1) rfl (cs := #[.int .i64 0, .slice none 0 0, .int .i64 0, .int .i64 0]) (t := 31) (by go_simp) ?_; intro aK hg w19 yG hb; replace ae := H9 ae hb; have aa := yf.mk (yG); have dh := bG (w := w) hg; have dx := bG (w := w) hg; replace HB := bS HB hb; clear hb yG hg; have UC := AR aa; have UD := bf aa) | ((with_reducible refine yK (N := 16) rfl ?_); (try (refine BH (by rfl) ?_; dsimp only)); refine Kd.Hf Kd.bool _ 4 ?hg (N := 16) ?hd (xs := ([true, false, false, false, false] : List Bool)) (inner := [.bool true, .bool false, .bool false, .bool false, .bool false]) (ok := fun _ => True) (okp := fun _ => True) ?hr ?hp (fun _ hk => hk) trivial (Below.refl _ _) (Nat.le_refl _) (by simp) ?_; (case hd => rfl); (case hg => rfl); (case hr => go_simp); (case hp => exact (Bo.one (show Kd.M Kd.bool _ _ _ true [.bool true] from rfl) (Bo.one (show Kd.M Kd.bool _ _ _ false [.bool false] from rfl) (Bo.one (show Kd.M Kd.bool _ _ _ false [.bool false] from rfl) (Bo.one (show Kd.M Kd.bool _ _ _ false [.bool false] from rfl) (Bo.one (show Kd.M Kd.bool _ _ _ false [.bool false] from rfl) (Bo.none _ _))))))); intro v401 w21 NP hb H5 CG; clear H5 CG; (rw [← bN.out] at NP); replace ae := yf.mk (Kd.EI (by (with_reducible repeat (apply Kd.Bb)); exact (Kd.Bw (Lc (g := aK) (Kd.BD ae.out aa.out (by decide)) (fun _ hk => hk.2)) (fun _ h_ => h_.1))) hb); have ag := yf.mk (Kd.AL NP (yJ (bO HB))); replace aa := yf.mk (yX (g := aK) (o := .cells #[.int .i64 ai, .slice HZ ah.length GN, .int .i64 1, .int .i64 2] 31 (0, 0)) (CF aa rfl) hb); replace HB := bS HB hb; clear hb NP; obtain ⟨Xa, Xb, QU⟩ := Kd.zX ag.out; subst QU) | ((with_reducible refine yB (f := 13) rfl ?_); refine gL (some 17) Try.func13 #[.agg #[.int .i64 ai, .slice HZ ah.length GN, .int .i64 1, .int .i64 2], .slice none 0 0, .int .i64 0, .slice Xa bi.length Xb] ?_; (refine (yN.calls k ai _ _ ah 1 2 _ _ ([] : List (AY)) 0 _ _ bi az ay aQ _ ?yF ?yM ?zI ?zJ ?CO ?CP A2.out).mono ?_); (case yF => exact Ra ae); (case yM => exact (Kd.Ca ae.out).2.1); (case zI => exact Kd.Gs _ _); (case zJ => exact Nat.le_refl _); (case CO => exact Kz ag); (case CP => exact (Kd.zt ag.out).2.1); rintro e w24 ⟨rfl, hb⟩; refine ⟨_, rfl, ?_⟩; replace ae := H9 ae hb; replace ag := BN ag hb; replace aa := bB aa hb; replace HB := bS HB hb; clear hb) | ((with_reducible refine yK (N := 2) rfl ?_); (try (refine BH (by rfl) ?_; dsimp only)); refine yE rfl (N := 2) rfl (cs := #[.int .i64 0, .int .i64 0]) (t := 38) (by go_simp) ?_; intro aI hg w25 yG hb; have af := yf.mk (yG); have dz := bG (w := w) hg; have cZ := bG (w := w) hg; have bL := BL aa hg; have bT := Ag aa hg; replace ae := H9 ae hb; replace ag := BN ag hb; replace aa := bB aa hb; replace HB := bS HB hb; clear hb yG hg; have UQ := bT.out; have UR := bL.out; have Hu := bc2 af; have Hw := bf af; have UW := AR aa; have UX := bf aa) | ((with_reducible refine yK (N := 22) rfl ?_); (try (refine BH (by rfl) ?_; dsimp only)); refine Kd.Hf Kd.bool _ 4 ?hg (N := 22) ?hd (xs := ([false, false, false, false, true] : List Bool)) (inner := [.bool false, .bool false, .bool false, .bool false, .bool true]) (ok := fun _ => True) (okp := fun _ => True) ?hr ?hp (fun _ hk => hk) trivial (Below.refl _ _) (Nat.le_refl _) (by simp) ?_; (case hd => rfl); (case hg => rfl); (case hr => go_simp); (case hp => exact (Bo.one (show Kd.M Kd.bool _ _ _ false [.bool false] from rfl) (Bo.one (show Kd.M Kd.bool _ _ _ false [.bool false] from rfl) (Bo.one (show Kd.M Kd.bool _ _ _ false [.bool false] from rfl) (Bo.one (show Kd.M Kd.bool _ _ _ false [.bool false] from rfl) (Bo.one (show Kd.M Kd.bool _ _ _ true [.bool true] from rfl) (Bo.none _ _))))))); intro v408 w29 aU hb H5 CG; clear H5 CG; (rw [← bM.out] at aU); have Bt := yf.mk (Kd.EI (by (with_reducible repeat (apply Kd.Bb)); exact (Kd.Bw (Lc (g := aI) (Kd.BD ae.out af.out (by decide)) (fun _ hk => hk.2)) (fun _ h_ => h_.1))) hb); have Bu := yf.mk (Kd.Bf (by (with_reducible repeat (apply Kd.zl)); exact (Kd.zb (GG (g := aI) (Kd.AU ag.out af.out (by decide)) (fun _ hk => hk.2)) (fun _ h_ => h_.1))) (Kd.AO aU) hb); have BJ := yf.mk (Kd.AL (Kd.CE aU (Kd.Em (by (with_reducible repeat (apply Kd.zl)); exact (Kd.zb (GG (g := aI) (Kd.AU ag.out af.out (by decide)) (fun _ hk => hk.2)) (fun _ h_ => h_.1))))) (yJ (bO HB))); have Cs := yf.mk (yX (g := aK) (o := .cells #[.int .i64 ai, .slice HZ ah.length GN, .int .i64 1, .int .i64 2] 31 (0, 0)) (CF aa rfl) hb); have CJ := yf.mk (yX (g := aI) (o := .cells #[.int .i64 az, .int .i64 ay] 38 (0, 0)) (CF af rfl) hb); have Db := bS HB hb; clear ae; clear ag; clear aa; clear af; clear HB; have ae := Bt; have ag := Bu; have ak := BJ; have aa := Cs; have af := CJ; have HB := Db; clear Bt Bu BJ Cs CJ Db; clear hb aU; obtain ⟨cu, bH, cK⟩ := Kd.zX ak.out; subst cK) | ((with_reducible refine yB (f := 13) rfl ?_); refine gL (some 23) Try.func13 #[.agg #[.int .i64 ai, .slice HZ ah.length GN, .int .i64 1, .int .i64 2], .slice none 0 0, .int .i64 0, .slice cu bD.length bH] ?_; (refine (yN.calls k ai _ _ ah 1 2 _ _ ([] : List (AY)) 0 _ _ bD bv bq aY _ ?yF ?yM ?zI ?zJ ?CO ?CP A3.out).mono ?_); (case yF => exact Ra ae); (case yM => exact (Kd.Ca ae.out).2.1); (case zI => exact Kd.Gs _ _); (case zJ => exact Nat.le_refl _); (case CO => exact Kz ak); (case CP => exact (Kd.zt ak.out).2.1); rintro e w32 ⟨rfl, hb⟩; refine ⟨_, rfl, ?_⟩; replace ae := H9 ae hb; replace ag := BN ag hb; replace ak := BN ak hb; replace aa := bB aa hb; replace af := bB af hb; replace HB := bS HB hb; clear hb) | ((with_reducible refine yK (N := 4) rfl ?_); (try (refine BH (by rfl) ?_; dsimp only)); refine yE rfl (N := 4) rfl (cs := #[.int .i64 0, .int .i64 0]) (t := 38) (by go_simp) ?_; intro aJ hg w33 yG hb; have aj := yf.mk (yG); have dB := bG (w := w) hg; have dn := bG (w := w) hg; have cO := BL aa hg; have bJ := Ag aa hg; have cz := BL af hg; have bV := Ag af hg; replace ae := H9 ae hb; replace ag := BN ag hb; replace ak := BN ak hb; replace aa := bB aa hb; replace af := bB af hb; replace HB := bS HB hb; clear hb yG hg; have Uc := bJ.out; have Ud := cO.out; have a1O := bV.out; have a1P := cz.out; have Rf := bc2 aj; have Rh := bf aj; have Kg := AR aa; have Kh := bf aa) | ((with_reducible refine yB (f := 17) rfl ?_); refine gL (some 30) Try.func17 #[.agg #[.int .i64 ai, .slice HZ ah.length GN, .int .i64 1, .int .i64 2], .slice none 0 0, .agg #[.int .i64 0, .int .i64 2, .int .i64 4, .int .i64 4]] ?_; (refine (zi.calls k ai _ _ ah 1 2 _ _ ([] : List (AY)) 0 2 4 4 aC aV _ ?yF ?yM ?zI ?zJ A4.out).mono ?_); (case yF => refine (Kd.Ca (e := 63) (base := w.heap.size) (ok := fun k_ => True) (n := ah.length) (c := GN) ?_).2.2; exact (by (with_reducible repeat (apply Kd.Bb)); exact (Kd.Bw (Lc (g := aJ) (Kd.BD ae.out aj.out (by decide)) (fun _ hk => hk.2)) (fun _ h_ => h_.1)))); (case yM => exact (Kd.Ca ae.out).2.1); (case zI => exact Kd.Gs _ _); (case zJ => exact Nat.le_refl _); rintro e w38 ⟨v415, rfl, ho0, hb⟩; refine ⟨_, rfl, ?_⟩; replace ae := yf.mk (Kd.EI (by (with_reducible repeat (apply Kd.Bb)); exact (Kd.Bw (Lc (g := aJ) (Kd.BD ae.out aj.out (by decide)) (fun _ hk => hk.2)) (fun _ h_ => h_.1))) hb); replace ag := yf.mk (Kd.Bh (by (with_reducible repeat (apply Kd.zl)); exact (Kd.zb (GG (g := aJ) (Kd.AU ag.out aj.out (by decide)) (fun _ hk => hk.2)) (fun _ h_ => h_.1))) hb); replace ak := yf.mk (Kd.Bh (by (with_reducible repeat (apply Kd.zl)); exact (Kd.zb (GG (g := aJ) (Kd.AU ak.out aj.out (by decide)) (fun _ hk => hk.2)) (fun _ h_ => h_.1))) hb); have au := yf.mk (Kd.AL ho0 (yJ (bO HB))); replace aa := yf.mk (yX (g := aK) (o := .cells #[.int .i64 ai, .slice HZ ah.length GN, .int .i64 1, .int .i64 2] 31 (0, 0)) (CF aa rfl) hb); replace af := yf.mk (yX (g := aI) (o := .cells #[.int .i64 az, .int .i64 ay] 38 (0, 0)) (CF af rfl) hb); replace aj := yf.mk (yX (g := aJ) (o := .cells #[.int .i64 bv, .int .i64 bq] 38 (0, 0)) (CF aj rfl) hb); replace HB := bS HB hb; clear hb; clear ho0; have XL := AR aa; have XM := bf aa; obtain ⟨Qk, Ql, UG⟩ := Kd.zX au.out; subst UG) | ((with_reducible refine yB (f := 29) rfl ?_); refine gL (some 36) Try.func29 #[.agg #[.int .i64 ai, .slice HZ ah.length GN, .int .i64 1, .int .i64 2], .slice Qk aC.length Ql, .int .i64 4] ?_; (with_reducible refine (Cc.calls k ai _ _ ah 1 2 _ _ aC 4 aX aW _ ?yF ?yM ?zI ?zJ A5.out).mono ?_); (case yF => exact Ra ae); (case yM => exact (Kd.Ca ae.out).2.1); (case zI => exact Kz au); (case zJ => exact (Kd.zt au.out).2.1); rintro e w41 ⟨v419, rfl, ho0, hb⟩; refine ⟨_, rfl, ?_⟩; replace ae := yf.mk (Kd.Jd (kS ae) (Kd.AO ho0) hb); replace ag := BN ag hb; replace ak := BN ak hb; replace au := BN au hb; have ax := yf.mk (Kd.AL ho0 (yJ (bO HB))); replace aa := bB aa hb; replace af := bB af hb; replace aj := bB aj hb; replace HB := bS HB hb; clear hb; clear ho0; have Yd := AR aa; have Ye := bf aa) | ((with_reducible refine yK (N := 42) rfl ?_); (try (refine BH (by rfl) ?_; dsimp only)); refine Kd.Hf Kd.bool _ 4 ?hg (N := 42) ?hd (xs := ([true, false, false, false, false] : List Bool)) (inner := [.bool true, .bool false, .bool false, .bool false, .bool false]) (ok := fun _ => True) (okp := fun _ => True) ?hr ?hp (fun _ hk => hk) trivial (Below.refl _ _) (Nat.le_refl _) (by simp) ?_; (case hd => rfl); (case hg => rfl); (case hr => go_simp); (case hp => exact (Bo.one (show Kd.M Kd.bool _ _ _ true [.bool true] from rfl) (Bo.one (show Kd.M Kd.bool _ _ _ false [.bool false] from rfl) (Bo.one (show Kd.M Kd.bool _ _ _ false [.bool false] from rfl) (Bo.one (show Kd.M Kd.bool _ _ _ false [.bool false] from rfl) (Bo.one (show Kd.M Kd.bool _ _ _ false [.bool false] from rfl) (Bo.none _ _))))))); intro v423 w43 aM hb H5 CG; clear H5 CG; (rw [← bR.out] at aM); have aA := yf.mk (Kd.AL (Kd.CE (Kd.CE aM (Kd.Em (kR ag))) (Kd.Em (kR ak))) (yJ (bO HB))); replace ae := H9 ae hb; replace ag := yf.mk (Kd.Bf (kR ag) (Kd.AO aM) hb); replace ak := yf.mk (Kd.Bf (kR ak) (Kd.AO aM) hb); replace au := BN au hb; replace ax := BN ax hb; replace aa := bB aa hb; replace af := bB af hb; replace aj := bB aj hb; replace HB := bS HB hb; clear hb aM; obtain ⟨WR, Uu, Uv⟩ := Kd.zX aA.out; subst Uv) | ((with_reducible refine yB (f := 13) rfl ?_); refine gL (some 43) Try.func13 #[.agg #[.int .i64 ai, .slice HZ ah.length GN, .int .i64 1, .int .i64 2], .slice Qk aC.length Ql, .int .i64 1, .slice WR bA.length Uu] ?_; (with_reducible refine (yN.calls k ai _ _ ah 1 2 _ _ aC 1 _ _ bA aH aG aT _ ?yF ?yM ?zI ?zJ ?CO ?CP A6.out).mono ?_); (case yF => exact Ra ae); (case yM => exact (Kd.Ca ae.out).2.1); (case zI => exact Kz au); (case zJ => exact (Kd.zt au.out).2.1); (case CO => exact Kz aA); (case CP => exact (Kd.zt aA.out).2.1); rintro e w46 ⟨rfl, hb⟩; refine ⟨_, rfl, ?_⟩; replace ae := H9 ae hb; replace ag := BN ag hb; replace ak := BN ak hb; replace au := BN au hb; replace ax := BN ax hb; replace aA := BN aA hb; replace aa := bB aa hb; replace af := bB af hb; replace aj := bB aj hb; replace HB := bS HB hb; clear hb) | ((with_reducible refine yK (N := 10) rfl ?_); (try (refine BH (by rfl) ?_; dsimp only)); refine yE rfl (N := 10) rfl (cs := #[.int .i64 0, .int .i64 0]) (t := 38) (by go_simp) ?_; intro aD hg w47 yG hb; have av := yf.mk (yG); have d9 := bG (w := w) hg; have di := bG (w := w) hg; have bZ := BL aa hg; have bX := Ag aa hg; have bP := BL af hg; have bQ := Ag af hg; have bI := BL aj hg; have bU := Ag aj hg; replace ae := H9 ae hb; replace ag := BN ag hb; replace ak := BN ak hb; replace au := BN au hb; replace ax := BN ax hb; replace aA := BN aA hb; replace aa := bB aa hb; replace af := bB af hb; replace aj := bB aj hb; replace HB := bS HB hb; clear hb yG hg; have Us := bX.out; have Ut := bZ.out; have XP := bQ.out; have XQ := bP.out; have V4 := bU.out; have V5 := bI.out; have XR := bc2 av; have XT := bf av; have RF := bc2 af; have RG := bf af) | ((with_reducible refine yK (N := 72) rfl ?_); (try (refine BH (by rfl) ?_; dsimp only)); refine Kd.Hf (Kd.int .i64) _ 3 ?hg (N := 72) ?hd (xs := ([4] : List Int)) (inner := [.int .i64 4]) (ok := fun _ => True) (okp := fun _ => True) ?hr ?hp (fun _ hk => hk) trivial (Below.refl _ _) (Nat.le_refl _) (by simp) ?_; (case hd => rfl); (case hg => rfl); (case hr => go_simp); (case hp => exact (Bo.one (show Kd.M (Kd.int .i64) _ _ _ 4 [.int .i64 4] from rfl) (Bo.none _ _))); intro v430 w53 aN hb H5 CG; clear H5 CG; (rw [← bW.out] at aN); have Bt := yf.mk (Kd.Jd (by (with_reducible repeat (apply Kd.Bb)); exact (Kd.Bw (Lc (g := aD) (Kd.BD ae.out av.out (by decide)) (fun _ hk => hk.2)) (fun _ h_ => h_.1))) (Kd.AO aN) hb); have Bu := yf.mk (Kd.Bh (by (with_reducible repeat (apply Kd.zl)); exact (Kd.zb (GG (g := aD) (Kd.AU ag.out av.out (by decide)) (fun _ hk => hk.2)) (fun _ h_ => h_.1))) hb); have BJ := yf.mk (Kd.Bh (by (with_reducible repeat (apply Kd.zl)); exact (Kd.zb (GG (g := aD) (Kd.AU ak.out av.out (by decide)) (fun _ hk => hk.2)) (fun _ h_ => h_.1))) hb); have Cs := yf.mk (Kd.Bh (by (with_reducible repeat (apply Kd.zl)); exact (Kd.zb (GG (g := aD) (Kd.AU au.out av.out (by decide)) (fun _ hk => hk.2)) (fun _ h_ => h_.1))) hb); have CJ := yf.mk (Kd.Bf (by (with_reducible repeat (apply Kd.zl)); exact (Kd.zb (GG (g := aD) (Kd.AU ax.out av.out (by decide)) (fun _ hk => hk.2)) (fun _ h_ => h_.1))) (Kd.AO aN) hb); have Db := yf.mk (Kd.Bh (by (with_reducible repeat (apply Kd.zl)); exact (Kd.zb (GG (g := aD) (Kd.AU aA.out av.out (by decide)) (fun _ hk => hk.2)) (fun _ h_ => h_.1))) hb); have Ec := yf.mk (Kd.AL (Kd.CE aN (Kd.Em (by (with_reducible repeat (apply Kd.zl)); exact (Kd.zb (GG (g := aD) (Kd.AU ax.out av.out (by decide)) (fun _ hk => hk.2)) (fun _ h_ => h_.1))))) (yJ (bO HB))); have En := yf.mk (yX (g := aK) (o := .cells #[.int .i64 ai, .slice HZ ah.length GN, .int .i64 1, .int .i64 2] 31 (0, 0)) (CF aa rfl) hb); have EB := yf.mk (yX (g := aI) (o := .cells #[.int .i64 az, .int .i64 ay] 38 (0, 0)) (CF af rfl) hb); have EC := yf.mk (yX (g := aJ) (o := .cells #[.int .i64 bv, .int .i64 bq] 38 (0, 0)) (CF aj rfl) hb); have Ct := yf.mk (yX (g := aD) (o := .cells #[.int .i64 aH, .int .i64 aG] 38 (0, 0)) (CF av rfl) hb); have CL := bS HB hb; clear ae; clear ag; clear ak; clear au; clear ax; clear aA; clear aa; clear af; clear aj; clear av; clear HB; have ae := Bt; have ag := Bu; have ak := BJ; have au := Cs; have ax := CJ; have aA := Db; have bn := Ec; have aa := En; have af := EB; have aj := EC; have av := Ct; have HB := CL; clear Bt Bu BJ Cs CJ Db Ec En EB EC Ct CL; clear hb aN; obtain ⟨a2T, a2U, Zu⟩ := Kd.zX ax.out; subst Zu; obtain ⟨dw, df, bY⟩ := Kd.zX bn.out; subst bY) | (go_at_call 31; (with_reducible refine (zy.calls k _ _ aX _ _ bF true _ ?yF ?yM ?zI ?zJ A13.out).mono ?_); (case yF => exact Kz ax); (case yM => exact (Kd.zt ax.out).2.1); (case zI => exact Kz bn); (case zJ => exact (Kd.zt bn.out).2.1); rintro e w' ⟨rfl, ⟨nd, rfl⟩⟩; have a2u := bc2 av; have a2v := bf av))
 go_ret
 exact ⟨by rfl, bO HB⟩
end Go.Proofs.Ytjonnfmoocijlaa.P
namespace Go.Proofs.Ytjonnfmoocijlaa.P
open Go.RowKit Go.Proofs.YtjonnfmoocijlaaKW.PrintWords
set_option maxRecDepth 1000000
theorem YL : Lo 5 ds0 4 5 4 1 2 := ⟨a1x, by decide, by decide⟩
theorem Pz (l : List Int) (hl : l.length ≤ 1000) : Ev (fun k => zy.f k l l) true := by
 have h0 : ∀ t j : Nat, l.length - j = t → j ≤ l.length → Ev (fun k => zy.l0 k l l (j : Int)) true := by
  intro t
  induction t with
  | zero =>
   intro j ht hj
   exact evs (fun k => by rw [zy.l0]) (C8 (by omega) (Ev.now _))
  | succ t ih =>
   intro j ht hj
   have hstep := ih (j + 1) (by omega) (by omega)
   refine evs (fun k => by rw [zy.l0]) (AP (by omega) (AP (by omega) (AP (by omega) (AP rfl ?_))))
   rw [vv j (by omega)]
   exact hstep
 unfold zy.f
 exact AP rfl (h0 _ 0 rfl (Nat.zero_le _))
theorem Su {α : Type} {F : Nat → Option α} {a b : α} (h : Ev F a) (e : a = b) : Ev F b := e ▸ h
theorem VZ : Ev (fun k => Ce.f k) true := by
 have hm : JP 5 ds0 4 5 4 1 2 [] ⟨0, 2, ⟨4, 4⟩⟩ = ([⟨0, 2, ⟨4, 4⟩⟩], 0) := by kernel_rfl
 have hv : VM 5 ds0 4 5 4 1 2 [⟨0, 2, ⟨4, 4⟩⟩] := of_decide_eq_true (by kernel_rfl)
 have e1 : Ev (fun k => yN.f k 5 ds0 1 2 [] 0 [true, false, false, false, false]) (4, 4, 0) := Su (YL.KT [] (by decide) YL.QK 0 [true, false, false, false, false] rfl) (by kernel_rfl)
 have e2 : Ev (fun k => yN.f k 5 ds0 1 2 [] 0 [false, false, false, false, true]) (0, 0, 11) := Su (YL.KT [] (by decide) YL.QK 0 [false, false, false, false, true] rfl) (by kernel_rfl)
 have e3 : Ev (fun k => zi.f k 5 ds0 1 2 [] 0 2 4 4) ([⟨0, 2, ⟨4, 4⟩⟩], 0) := Su (YL.VV [] (by decide) YL.QK ⟨0, 2, ⟨4, 4⟩⟩) hm
 have e4 : Ev (fun k => yN.f k 5 ds0 1 2 [⟨0, 2, ⟨4, 4⟩⟩] 1 [true, false, false, false, false]) (3, 4, 0) := Su (YL.KT [⟨0, 2, ⟨4, 4⟩⟩] (by decide) hv 1 [true, false, false, false, false] rfl) (by kernel_rfl)
 have e5 : Ev (fun k => Cc.f k 5 ds0 1 2 [⟨0, 2, ⟨4, 4⟩⟩] 4) ([4], 0) := by
  unfold Cc.f
  refine DL (YL.check [⟨0, 2, ⟨4, 4⟩⟩] (by decide)) ?_
  rw [if_pos hv]
  exact AP rfl (C8 (by decide) (C8 (by decide) (DL (Jt [⟨0, 2, ⟨4, 4⟩⟩] (by decide) _ _ _ _ _ _ _) (Ev.now _))))
 unfold Ce.f
 refine DL (MJ (fun k => ym.mono _ _ k) cmp0) ?_
 refine DL e1 (DL e2 (DL e3 (DL e5 (DL e4 ?_))))
 exact AP rfl (AP rfl (AP rfl (AP rfl (AP rfl (AP rfl (DL (Pz [4] (by decide)) (AP rfl (AP rfl (AP rfl (Ev.now _))))))))))
end Go.Proofs.Ytjonnfmoocijlaa.P
