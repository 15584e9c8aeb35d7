/- Texts of a claim, packed. -/
import Derived.Test.YtjonnfmoocijlaaC42
import Derived.Test.YtjonnfmoocijlaaC46
set_option linter.all false
namespace Go.Proofs.Ytjonnfmoocijlaa.P
open Go.RowKit Go.Proofs.YtjonnfmoocijlaaKW.PrintWords Go.Proofs.YtjonnfmoocijlaaKW.PrintLast Go.Proofs.YtjonnfmoocijlaaKW.PrintMore
attribute [local go_sem] zO zP Aj Ak zC zD zQ zR
attribute [local go_sem high] Mr
mutual
def yt.j1 : Nat → List (AX) → List (AX) → Int → Int → Int → Int → Int → Int → List (List Int) → Int → Int → Int → Int → Int → Int → Option (Bool)
 | 0, _, _, _, _, _, _, _, _, _, _, _, _, _, _, _ => none
 | k + 1, x8, x9, F5, ai, ah, ay, ax, ag, af, aa, ae, au, av, aj, ak => if F5 = 0 then (yt.l1 k x8 x9 ([] : List (AX)) 0 ai ah ay ax ag af aa ae au av aj ak) else (none)
def yt.l1 : Nat → List (AX) → List (AX) → List (AX) → Int → Int → Int → Int → Int → Int → List (List Int) → Int → Int → Int → Int → Int → Int → Option (Bool)
 | 0, _, _, _, _, _, _, _, _, _, _, _, _, _, _, _, _ => none
 | k + 1, x8, x9, IG, Ig, ai, ah, ay, ax, ag, af, aa, ae, au, av, aj, ak => if Ig < (x8.length : Int) then (if 0 ≤ Ig then (if ((yg x8 Ig).f0) = ai then (if ((yg x8 Ig).f1) = ah then (yt.l1 k x8 x9 IG (wrap64 (Ig + 1)) ai ah ay ax ag af aa ae au av aj ak) else (if IG.length < 4398046511104 then (yt.l1 k x8 x9 (IG ++ [(⟨(yg x8 Ig).f0, (yg x8 Ig).f1, (⟨(yg x8 Ig).f2.f0, (yg x8 Ig).f2.f1⟩ : GU)⟩ : AX)]) (wrap64 (Ig + 1)) ai ah ay ax ag af aa ae au av aj ak) else (none))) else (if IG.length < 4398046511104 then (yt.l1 k x8 x9 (IG ++ [(⟨(yg x8 Ig).f0, (yg x8 Ig).f1, (⟨(yg x8 Ig).f2.f0, (yg x8 Ig).f2.f1⟩ : GU)⟩ : AX)]) (wrap64 (Ig + 1)) ai ah ay ax ag af aa ae au av aj ak) else (none))) else (none)) else ((Dg.f k ag af aa ae x9 ai ah).bind fun aA => ((zl.f k ag af aa ae x9 au av aj ak).bind fun aD => ((Am.f k x9 IG).bind fun a3Y => (if a3Y = true then (if aA.2.2 = 0 then ((yU.f k ag af aa ae ai ah).bind fun aC => (if (aA.1 == aC.1 && (aA.2.1 == aC.2)) = true then (if aD.2 = 9 then (some true) else (none)) else (none))) else (none)) else (none)))))
def yt.l0 : Nat → List (AX) → List (AX) → Bool → Int → Int → Int → Int → Int → Int → List (List Int) → Int → Int → Int → Int → Int → Int → Option (Bool)
 | 0, _, _, _, _, _, _, _, _, _, _, _, _, _, _, _, _ => none
 | k + 1, x8, x9, Ga, F6, ai, ah, ay, ax, ag, af, aa, ae, au, av, aj, ak => (zi.f ag af aa ae).bind fun Sr => (if F6 < Sr then (if Ga = true then (yt.l0 k x8 x9 true (wrap64 (F6 + 1)) ai ah ay ax ag af aa ae au av aj ak) else (if F6 = ah then (yt.l0 k x8 x9 false (wrap64 (F6 + 1)) ai ah ay ax ag af aa ae au av aj ak) else ((zy.f k ag af aa ae x9 ai F6).bind fun aH => ((yU.f k ag af aa ae ai ah).bind fun aG => (yt.l0 k x8 x9 (aH.1 == aG.1) (wrap64 (F6 + 1)) ai ah ay ax ag af aa ae au av aj ak))))) else ((zl.f k ag af aa ae x9 au av aj ak).bind fun az => (if Ga = true then (if az.2 = 1 then (if (az.1.length : Int) = 0 then (some true) else (none)) else (none)) else (yt.j1 k x8 az.1 az.2 ai ah ay ax ag af aa ae au av aj ak))))
end
def yt.f (k : Nat) (a0 : Int) (l1 : List Int) (zn : Int) (zz : Int) (Bq : Int) (AZ : Int) : Option (Bool) := (zN.f k).bind fun YK => (if YK = true then (if (l1.length : Int) > 20 then (some true) else ((zh.f k a0).bind fun E5 => ((yK.f k E5.1 E5.2.1 E5.2.2.1 E5.2.2.2 l1).bind fun BI => ((zl.f k E5.1 E5.2.1 E5.2.2.1 E5.2.2.2 BI zn zz Bq AZ).bind fun Jz => (if Jz.2 = 0 then (if Bq = (-1) then (yt.j1 k BI Jz.1 Jz.2 zn zz Bq AZ E5.1 E5.2.1 E5.2.2.1 E5.2.2.2 zn zz (-1) AZ) else (yt.l0 k BI Jz.1 false 0 zn zz Bq AZ E5.1 E5.2.1 E5.2.2.1 E5.2.2.2 zn zz (-1) AZ)) else (if (Jz.1.length : Int) = 0 then (some true) else (none))))))) else (none))
def yt.T16 : Bool × List (List Nat × List Nat) := (true, [([], []), ([0], [0]), ([1], [1]), ([1], [1]), ([3, 1], [1, 3]), ([2, 4, 1], [1, 2, 4]), ([5, 1, 1], [1, 5]), ([6], [6]), ([6], [6]), ([6], [6]), ([9, 6], [6, 9]), ([6], [6]), ([7, 8, 10, 11, 6, 6], [6, 7, 8, 10, 11]), ([12, 6], [6, 12]), ([6], [6]), ([6], [6]), ([15, 6], [6, 15]), ([6], [6]), ([17, 6], [6, 17]), ([14, 16, 18, 12, 6], [6, 14, 16, 18]), ([19, 6], [6, 19]), ([13, 20, 6], [6, 13, 20]), ([6, 21, 1], [1, 6, 21]), ([1, 22], [1, 22]), ([23, 19, 0, 1, 2, 3, 4, 5, 6, 7, 8, 9, 10, 11, 12, 13, 14, 15, 16, 17, 18, 19, 20, 21, 22, 23], [0, 23])])
def yt.B16 : List Nat := [0, 1, 3, 3, 11, 31, 63, 127, 127, 127, 639, 127, 4095, 8191, 127, 127, 32895, 127, 131199, 516095, 1040383, 2097151, 4194303, 8388607, 16777215]
theorem yt.YL : CZ .any (opsOf Try.f7 16) = yt.T16 := by kernel_rfl
theorem yt.TW : BD yt.T16.2 yt.B16 = true := by kernel_rfl
def yt.T26 : Bool × List (List Nat × List Nat) := (true, [([], []), ([], []), ([0, 1], [0, 1]), ([2], [2]), ([3], [3]), ([], []), ([5], [5]), ([4, 6], [4, 6]), ([7], [7]), ([8], [8]), ([8], [8]), ([9, 10, 8], [8, 9, 10]), ([11, 8], [8, 11]), ([12, 8], [8, 12]), ([8], [8]), ([14, 8], [8, 14]), ([13, 15, 8], [8, 13, 15]), ([8, 16], [8, 16])])
def yt.B26 : List Nat := [0, 0, 3, 7, 15, 0, 32, 127, 255, 511, 511, 2047, 4095, 8191, 511, 16895, 65535, 131071]
theorem yt.PD : CZ .any (opsOf Try.f7 26) = yt.T26 := by kernel_rfl
theorem yt.LK : BD yt.T26.2 yt.B26 = true := by kernel_rfl
def yt.T30 : Bool × List (List Nat × List Nat) := (true, [([], []), ([], []), ([0, 1], [0, 1]), ([2, 2], [2]), ([3], [3]), ([4, 3], [3, 4]), ([3, 5], [3, 5]), ([6, 3], [6]), ([7], [7]), ([7], [7]), ([7], [7]), ([10, 7], [7, 10]), ([7], [7]), ([12, 7], [7, 12]), ([9, 11, 13, 7, 7], [7, 9, 11, 13]), ([8, 14, 7], [7, 8, 14]), ([7, 15], [7, 15]), ([16, 14], [16]), ([17], [17]), ([18, 17], [17, 18]), ([17, 19], [17, 19]), ([20, 17, 0, 1, 2, 3, 4, 5, 6, 7, 8, 9, 10, 11, 12, 13, 14, 15, 16, 17, 18, 19, 20], [20])])
def yt.B30 : List Nat := [0, 0, 3, 7, 15, 31, 63, 127, 255, 255, 255, 1279, 255, 4351, 16127, 32767, 65535, 131071, 262143, 524287, 1048575, 2097151]
theorem yt.a6j : CZ .any (opsOf Try.f7 30) = yt.T30 := by kernel_rfl
theorem yt.a3Z : BD yt.T30.2 yt.B30 = true := by kernel_rfl
set_option maxHeartbeats 8000000 in
set_option maxRecDepth 100000 in
theorem yt.calls (k : Nat) (a0 : Int) (A1 : Option Addr) (c1 : Nat) (l1 : List Int) (zn : Int) (zz : Int) (Bq : Int) (AZ : Int) (r : Bool) (w : World) (hr1 : Kd.C (Kd.int .u8) w A1 l1.length l1) (hc1 : l1.length ≤ c1) (h : yt.f k a0 l1 zn zz Bq AZ = some r) :
  Calls Try.prog 7 #[.int .u16 a0, .slice A1 l1.length c1, .agg #[.int .i64 zn, .int .i64 zz, .int .i64 Bq, .int .i64 AZ]] w fun e w' => e = .returned (.bool r) ∧ Below w.heap.size w w' := by
 have LC := Try.underlying47;have FH := Try.underlying31;have Jd := Try.underlying38
 have Qm : ∀ (x0 x1 : Value) (W : World), (Instr.field 38 (.agg #[x0, x1]) 0).run Try.prog W = .ok (x0) W := fun x0 x1 W => by rfl
 have HR1 := yf.mk hr1;have GH := yf.mk hc1;clear hr1 hc1;have HB := yf.mk (Below.refl w.heap.size w)
 have H : ((zN.f k).bind fun YK => (if YK = true then (if (l1.length : Int) > 20 then (some true) else ((zh.f k a0).bind fun E5 => ((yK.f k E5.1 E5.2.1 E5.2.2.1 E5.2.2.2 l1).bind fun BI => ((zl.f k E5.1 E5.2.1 E5.2.2.1 E5.2.2.2 BI zn zz Bq AZ).bind fun Jz => (if Jz.2 = 0 then (if Bq = (-1) then (yt.j1 k BI Jz.1 Jz.2 zn zz Bq AZ E5.1 E5.2.1 E5.2.2.1 E5.2.2.2 zn zz (-1) AZ) else (yt.l0 k BI Jz.1 false 0 zn zz Bq AZ E5.1 E5.2.1 E5.2.2.1 E5.2.2.2 zn zz (-1) AZ)) else (if (Jz.1.length : Int) = 0 then (some true) else (none))))))) else (none))) = some r := h
 clear h;obtain ⟨YK, A4, H⟩ := bE H
 try dsimp only at H
 by_cases c5 : YK = true
 rotate_left
 ·
  replace c5 := Bool.eq_false_iff.mpr c5;subst c5
  rw [if_neg (show ¬ (false = true) by decide)] at H
  exact absurd H (by simp)
 subst c5;rw [if_pos rfl] at H
 by_cases c6 : (l1.length : Int) > 20
 ·
  rw [if_pos c6] at H;have EJ := decide_eq_true c6
  have IX : decide (20 < l1.length) = true := decide_eq_true (by omega)
  clear c6;obtain rfl := Option.some.inj H
  go_enter Try.func7, Try.ntmps7
  go_wp2_with (first | ((with_reducible refine yI (N := 5) rfl ?_); (try (refine Ab (by rfl) ?_; dsimp only)); refine yG rfl (N := 5) rfl (cs := #[.int .i64 zn, .int .i64 zz, .int .i64 Bq, .int .i64 AZ]) (t := 47) (by go_simp) ?_; intro aj hg w7 yJ hb; have aa := yf.mk (yJ); have dC := bG (w := w) hg; have dA := bG (w := w) hg; replace HB := bS HB hb; clear hb yJ hg) | ((with_reducible refine yw (f := 9) rfl ?_); refine gL (some 20) Try.func9 #[] ?_; (with_reducible refine (zN.calls k  true _ A4.out).mono ?_); rintro e w8 ⟨rfl, hb⟩; refine ⟨_, rfl, ?_⟩; replace aa := bB aa hb; replace HB := bS HB hb; clear hb))
  go_ret
  exact ⟨by rfl, bO HB⟩
 rw [if_neg c6] at H;have EJ := decide_eq_false c6
 have IX : decide (20 < l1.length) = false := decide_eq_false (by omega)
 clear c6;obtain ⟨⟨av, ai, ak, au⟩, A9, H⟩ := bE H
 try dsimp only at H
 obtain ⟨BI, VJ, H⟩ := bE H
 try dsimp only at H
 obtain ⟨⟨aH, bP⟩, RP, H⟩ := bE H
 try dsimp only at H
 by_cases c12 : bP = 0
 rotate_left
 ·
  rw [if_neg c12] at H;have Gh := beq_eq_false_iff_ne.mpr c12;have NA := bne_iff_ne.mpr c12
  by_cases bR : (aH.length : Int) = 0
  rotate_left
  ·
   rw [if_neg bR] at H;exact absurd H (by simp)
  rw [if_pos bR] at H;have fT := beq_iff_eq.mpr bR
  have gF : ((aH.length : Int) != 0) = false := bne_eq_false_iff_eq.mpr bR
  clear bR;obtain rfl := Option.some.inj H
  go_enter Try.func7, Try.ntmps7
  go_wp2_with (first | ((with_reducible refine yI (N := 5) rfl ?_); (try (refine Ab (by rfl) ?_; dsimp only)); refine yG rfl (N := 5) rfl (cs := #[.int .i64 zn, .int .i64 zz, .int .i64 Bq, .int .i64 AZ]) (t := 47) (by go_simp) ?_; intro aj hg w119 yJ hb; have aa := yf.mk (yJ); have dC := bG (w := w) hg; have dA := bG (w := w) hg; replace HB := bS HB hb; clear hb yJ hg) | ((with_reducible refine yw (f := 9) rfl ?_); refine gL (some 20) Try.func9 #[] ?_; (with_reducible refine (zN.calls k  true _ A4.out).mono ?_); rintro e w120 ⟨rfl, hb⟩; refine ⟨_, rfl, ?_⟩; replace aa := bB aa hb; replace HB := bS HB hb; clear hb) | ((with_reducible refine yw (f := 10) rfl ?_); refine gL (some 26) Try.func10 #[.int .u16 a0] ?_; (with_reducible refine (zh.calls k a0 av ai ak au _ A9.out).mono ?_); rintro e w121 ⟨v744, rfl, ho0, hb⟩; refine ⟨_, rfl, ?_⟩; have az := yf.mk (Kd.Eu ho0 (yL (bO HB))); replace aa := bB aa hb; replace HB := bS HB hb; clear hb; clear ho0) | ((with_reducible refine yI (N := 7) rfl ?_); (try (refine Ab (by rfl) ?_; dsimp only)); refine yG rfl (N := 7) rfl (cs := #[.int .i64 0, .slice none 0 0, .int .i64 0, .int .i64 0]) (t := 31) (by go_simp) ?_; intro aC hg w122 yJ hb; have af := yf.mk (yJ); have ed := bG (w := w) hg; have eX := bG (w := w) hg; have aU := Co aa hg; have aT := Ar aa hg; replace az := EH az hb; replace aa := bB aa hb; replace HB := bS HB hb; clear hb yJ hg; have fK := aT.out; have gJ := aU.out; have fM := AP af; have fU := bf af; obtain ⟨dh, bU, eG⟩ := Kd.Eb az.out; subst eG) | ((with_reducible refine yw (f := 11) rfl ?_); refine gL (some 29) Try.func11 #[.agg #[.int .i64 av, .slice dh ai.length bU, .int .i64 ak, .int .i64 au], .slice A1 l1.length c1] ?_; (with_reducible refine (yK.calls k av _ _ ai ak au _ _ l1 BI _ ?yD ?yF ?zw ?zx VJ.out).mono ?_); (case yD => refine (Kd.zG (e := 63) (base := w.heap.size) (ok := fun k_ => True) (n := ai.length) (c := bU) ?_).2.2; exact (by (with_reducible repeat (apply Kd.Az)); exact (Kd.Bo (GA (g := aC) (Kd.AO az.out af.out (by decide)) (fun _ hk => hk.2)) (fun _ h_ => h_.1)))); (case yF => exact (Kd.zG az.out).2.1); (case zw => exact Kd.Cg HR1.out (bO HB)); (case zx => exact GH.out); rintro e w126 ⟨v750, rfl, ho0, hb⟩; refine ⟨_, rfl, ?_⟩; replace az := yf.mk (Kd.E9 (by (with_reducible repeat (apply Kd.Az)); exact (Kd.Bo (GA (g := aC) (Kd.AO az.out af.out (by decide)) (fun _ hk => hk.2)) (fun _ h_ => h_.1))) hb); have aD := yf.mk (Kd.Ay (Kd.ED ho0 (g := aj) (o := .cells #[.int .i64 zn, .int .i64 zz, .int .i64 Bq, .int .i64 AZ] 47 (0, 0)) (CJ aa rfl)) (yL (bO HB))); replace aa := yf.mk (yS (g := aj) (o := .cells #[.int .i64 zn, .int .i64 zz, .int .i64 Bq, .int .i64 AZ] 47 (0, 0)) (CJ aa rfl) hb); replace af := yf.mk (yS (g := aC) (o := .cells #[.int .i64 av, .slice dh ai.length bU, .int .i64 ak, .int .i64 au] 31 (0, 0)) (CJ af rfl) hb); replace HB := bS HB hb; clear hb; clear ho0; have a3l := AP af; have a3m := bf af; have fH := AP aa; have gN := bf aa; obtain ⟨dG, fB, fC⟩ := Kd.zJ aD.out; subst fC) | ((with_reducible refine yw (f := 17) rfl ?_); refine gL (some 34) Try.func17 #[.agg #[.int .i64 av, .slice dh ai.length bU, .int .i64 ak, .int .i64 au], .slice dG BI.length fB, .agg #[.int .i64 zn, .int .i64 zz, .int .i64 Bq, .int .i64 AZ]] ?_; (with_reducible refine (zl.calls k av _ _ ai ak au _ _ BI zn zz Bq AZ aH bP _ ?yD ?yF ?zw ?zx RP.out).mono ?_); (case yD => exact H9 az); (case yF => exact (Kd.zG az.out).2.1); (case zw => exact G7 aD); (case zx => exact (Kd.yT aD.out).2.1); rintro e w130 ⟨v753, rfl, ho0, hb⟩; refine ⟨_, rfl, ?_⟩; have bC := yf.mk (Kd.Ay (Kd.ED (Kd.C8 ho0 (Kd.DV (kR aD))) (g := aj) (o := .cells #[.int .i64 zn, .int .i64 zz, .int .i64 Bq, .int .i64 AZ] 47 (0, 0)) (kk aa)) (yL (bO HB))); replace az := EH az hb; replace aD := yf.mk (Kd.Bb (kR aD) (Kd.Bh ho0) hb); replace aa := bB aa hb; replace af := bB af hb; replace HB := bS HB hb; clear hb; clear ho0; obtain ⟨gM, fD, dY⟩ := Kd.zJ bC.out; subst dY))
  go_ret
  exact ⟨by rfl, bO HB⟩
 rw [if_pos c12] at H;have Gh := beq_iff_eq.mpr c12
 have NA : (bP != 0) = false := bne_eq_false_iff_eq.mpr c12
 clear c12;have TS := yf.mk H;clear H
 go_enter Try.func7, Try.ntmps7
 go_upto_if 54 with (first | ((with_reducible refine yI (N := 5) rfl ?_); (try (refine Ab (by rfl) ?_; dsimp only)); refine yG rfl (N := 5) rfl (cs := #[.int .i64 zn, .int .i64 zz, .int .i64 Bq, .int .i64 AZ]) (t := 47) (by go_simp) ?_; intro aj hg w14 yJ hb; have aa := yf.mk (yJ); have dC := bG (w := w) hg; have dA := bG (w := w) hg; replace HB := bS HB hb; clear hb yJ hg) | ((with_reducible refine yw (f := 9) rfl ?_); refine gL (some 20) Try.func9 #[] ?_; (with_reducible refine (zN.calls k  true _ A4.out).mono ?_); rintro e w15 ⟨rfl, hb⟩; refine ⟨_, rfl, ?_⟩; replace aa := bB aa hb; replace HB := bS HB hb; clear hb) | ((with_reducible refine yw (f := 10) rfl ?_); refine gL (some 26) Try.func10 #[.int .u16 a0] ?_; (with_reducible refine (zh.calls k a0 av ai ak au _ A9.out).mono ?_); rintro e w16 ⟨v744, rfl, ho0, hb⟩; refine ⟨_, rfl, ?_⟩; have az := yf.mk (Kd.Eu ho0 (yL (bO HB))); replace aa := bB aa hb; replace HB := bS HB hb; clear hb; clear ho0) | ((with_reducible refine yI (N := 7) rfl ?_); (try (refine Ab (by rfl) ?_; dsimp only)); refine yG rfl (N := 7) rfl (cs := #[.int .i64 0, .slice none 0 0, .int .i64 0, .int .i64 0]) (t := 31) (by go_simp) ?_; intro aC hg w17 yJ hb; have af := yf.mk (yJ); have ed := bG (w := w) hg; have eX := bG (w := w) hg; have aU := Co aa hg; have aT := Ar aa hg; replace az := EH az hb; replace aa := bB aa hb; replace HB := bS HB hb; clear hb yJ hg; have Ux := aT.out; have Uy := aU.out; have Uz := AP af; have UA := bf af; obtain ⟨DX, Dn, Q3⟩ := Kd.Eb az.out; subst Q3) | ((with_reducible refine yw (f := 11) rfl ?_); refine gL (some 29) Try.func11 #[.agg #[.int .i64 av, .slice DX ai.length Dn, .int .i64 ak, .int .i64 au], .slice A1 l1.length c1] ?_; (with_reducible refine (yK.calls k av _ _ ai ak au _ _ l1 BI _ ?yD ?yF ?zw ?zx VJ.out).mono ?_); (case yD => refine (Kd.zG (e := 63) (base := w.heap.size) (ok := fun k_ => True) (n := ai.length) (c := Dn) ?_).2.2; exact (by (with_reducible repeat (apply Kd.Az)); exact (Kd.Bo (GA (g := aC) (Kd.AO az.out af.out (by decide)) (fun _ hk => hk.2)) (fun _ h_ => h_.1)))); (case yF => exact (Kd.zG az.out).2.1); (case zw => exact Kd.Cg HR1.out (bO HB)); (case zx => exact GH.out); rintro e w21 ⟨v750, rfl, ho0, hb⟩; refine ⟨_, rfl, ?_⟩; replace az := yf.mk (Kd.E9 (by (with_reducible repeat (apply Kd.Az)); exact (Kd.Bo (GA (g := aC) (Kd.AO az.out af.out (by decide)) (fun _ hk => hk.2)) (fun _ h_ => h_.1))) hb); have aD := yf.mk (Kd.Ay (Kd.ED ho0 (g := aj) (o := .cells #[.int .i64 zn, .int .i64 zz, .int .i64 Bq, .int .i64 AZ] 47 (0, 0)) (CJ aa rfl)) (yL (bO HB))); replace aa := yf.mk (yS (g := aj) (o := .cells #[.int .i64 zn, .int .i64 zz, .int .i64 Bq, .int .i64 AZ] 47 (0, 0)) (CJ aa rfl) hb); replace af := yf.mk (yS (g := aC) (o := .cells #[.int .i64 av, .slice DX ai.length Dn, .int .i64 ak, .int .i64 au] 31 (0, 0)) (CJ af rfl) hb); replace HB := bS HB hb; clear hb; clear ho0; have KU := AP af; have KV := bf af; have Ro := AP aa; have Rp := bf aa; obtain ⟨IC, Fv, a2e⟩ := Kd.zJ aD.out; subst a2e) | ((with_reducible refine yw (f := 17) rfl ?_); refine gL (some 34) Try.func17 #[.agg #[.int .i64 av, .slice DX ai.length Dn, .int .i64 ak, .int .i64 au], .slice IC BI.length Fv, .agg #[.int .i64 zn, .int .i64 zz, .int .i64 Bq, .int .i64 AZ]] ?_; (with_reducible refine (zl.calls k av _ _ ai ak au _ _ BI zn zz Bq AZ aH bP _ ?yD ?yF ?zw ?zx RP.out).mono ?_); (case yD => exact H9 az); (case yF => exact (Kd.zG az.out).2.1); (case zw => exact G7 aD); (case zx => exact (Kd.yT aD.out).2.1); rintro e w25 ⟨v753, rfl, ho0, hb⟩; refine ⟨_, rfl, ?_⟩; have bC := yf.mk (Kd.Ay (Kd.ED (Kd.C8 ho0 (Kd.DV (kR aD))) (g := aj) (o := .cells #[.int .i64 zn, .int .i64 zz, .int .i64 Bq, .int .i64 AZ] 47 (0, 0)) (kk aa)) (yL (bO HB))); replace az := EH az hb; replace aD := yf.mk (Kd.Bb (kR aD) (Kd.Bh ho0) hb); replace aa := bB aa hb; replace af := bB af hb; replace HB := bS HB hb; clear hb; clear ho0; have Pq := AP aa; have Ps := bf aa) | ((with_reducible refine yI (N := 11) rfl ?_); (try (refine Ab (by rfl) ?_; dsimp only)); refine yG rfl (N := 11) rfl (cs := #[.int .i64 0, .int .i64 0, .int .i64 0, .int .i64 0]) (t := 47) (by go_simp) ?_; intro ay hg w27 yJ hb; have ah := yf.mk (yJ); have fV := bG (w := w) hg; have fF := bG (w := w) hg; have bX := Co aa hg; have bW := Ar aa hg; have bq := Co af hg; have bu := Ar af hg; replace az := EH az hb; replace aD := yf.mk (Kd.CP (Kd.Ib (kR aD) ay (Nat.le_of_eq hg.symm)) hb); replace bC := yf.mk (Kd.CP (Kd.Ib (kR bC) ay (Nat.le_of_eq hg.symm)) hb); replace aa := bB aa hb; replace af := bB af hb; replace HB := bS HB hb; clear hb yJ hg; have a0n := bW.out; have a0o := bX.out; have Ri := bu.out; have Rj := bq.out; have RN := AP ah; have RO := bf ah; have Pb := AP aa; have Pd := bf aa))
 (try simp only [pz])
 go_cut [9, 10] (fun v9 v10 wc => ∃ (kq : Nat) (aG : List (AX)) (bM : Int), v10 = .int .i64 bM ∧ yf (yt.j1 kq BI aG bM zn zz Bq AZ av ai ak au zn zz (-1) AZ = some r) ∧ yf (kq ≤ k) ∧ yf (Kd.R CS 47 wc w.heap.size (fun k_ => some k_ ≠ (v9 : Value).ownBlock ∧ k_ ≠ aj ∧ k_ ≠ ay) (.slice IC BI.length Fv) BI) ∧ yf (Kd.R CS 47 wc w.heap.size (fun k_ => some k_ ≠ ((.slice IC BI.length Fv) : Value).ownBlock ∧ k_ ≠ aj ∧ k_ ≠ ay) v9 aG) ∧ yf (Kd.S (Kd.slice 3 (Kd.int .i64)) 63 wc w.heap.size (fun _ => True) (.slice DX ai.length Dn) ai) ∧ yf (wc.heap[aj]? = some (.cells #[.int .i64 zn, .int .i64 zz, .int .i64 Bq, .int .i64 AZ] 47 (0, 0))) ∧ yf (wc.heap[aC]? = some (.cells #[.int .i64 av, (.slice DX ai.length Dn), .int .i64 ak, .int .i64 au] 31 (0, 0))) ∧ yf (wc.heap[ay]? = some (.cells #[.int .i64 zn, .int .i64 zz, .int .i64 (-1), .int .i64 AZ] 47 (0, 0))) ∧ yf (Below w.heap.size w wc))
 case first =>
  have H := TS.out;clear TS
  by_cases c32 : Bq = (-1)
  ·
   rw [if_pos c32] at H;have M4 := beq_iff_eq.mpr c32
   have QG : (Bq != (-1)) = false := bne_eq_false_iff_eq.mpr c32
   clear c32
   (skip)
   have H' := yf.mk H;clear H
   go_wp2
   go_meet
   case rel => exact ⟨_, (aH), (bP), (by rfl), H', ⟨by omega⟩, ⟨by (with_reducible repeat (apply Kd.yZ)); exact Kd.yX (F4 (g := ay) (Kd.yX aD.out (fun k_ hk => (⟨hk, hk.2⟩ : _ ∧ k_ ≠ ay))) (fun _ hk => hk.2)) (fun _ hk => ⟨hk.1.1.2, ⟨hk.1.1.1.2, hk.1.2⟩⟩)⟩, ⟨by (with_reducible repeat (apply Kd.yZ)); exact Kd.yX (F4 (g := ay) (Kd.yX bC.out (fun k_ hk => (⟨hk, hk.2⟩ : _ ∧ k_ ≠ ay))) (fun _ hk => hk.2)) (fun _ hk => ⟨hk.1.1.1.2, ⟨hk.1.1.2, hk.1.2⟩⟩)⟩, ⟨by (with_reducible repeat (apply Kd.Az)); exact Kd.Bo (GA (g := ay) (Kd.AO az.out ah.out (by decide)) (fun _ hk => hk.2)) (fun _ hk => trivial)⟩, bK aa rfl, bK af rfl, bK ah rfl, ⟨bO HB⟩⟩
  rw [if_neg c32] at H;have M4 := beq_eq_false_iff_ne.mpr c32;have QG := bne_iff_ne.mpr c32
  (skip)
  have H' := yf.mk H;clear H
  go_wp2
  (try simp only [QG])
  go_loopg [12, 13] k (fun kq v12 v13 w' => ∃ (Bv : Bool) (Dl : Int), v12 = .bool Bv ∧ v13 = .int .i64 Dl ∧ yf (yt.l0 kq BI aH Bv Dl zn zz Bq AZ av ai ak au zn zz (-1) AZ = some r) ∧ yf (kq ≤ k) ∧ yf (Kd.R CS 47 w' w.heap.size (fun k_ => some k_ ≠ (v753 : Value).ownBlock ∧ k_ ≠ aj ∧ k_ ≠ ay) (.slice IC BI.length Fv) BI) ∧ yf (Kd.R CS 47 w' w.heap.size (fun k_ => some k_ ≠ ((.slice IC BI.length Fv) : Value).ownBlock ∧ k_ ≠ aj ∧ k_ ≠ ay) v753 aH) ∧ yf (Kd.S (Kd.slice 3 (Kd.int .i64)) 63 w' w.heap.size (fun _ => True) (.slice DX ai.length Dn) ai) ∧ yf (w'.heap[aj]? = some (.cells #[.int .i64 zn, .int .i64 zz, .int .i64 Bq, .int .i64 AZ] 47 (0, 0))) ∧ yf (w'.heap[aC]? = some (.cells #[.int .i64 av, (.slice DX ai.length Dn), .int .i64 ak, .int .i64 au] 31 (0, 0))) ∧ yf (w'.heap[ay]? = some (.cells #[.int .i64 zn, .int .i64 zz, .int .i64 (-1), .int .i64 AZ] 47 (0, 0))) ∧ yf (Below w.heap.size w w'))
  case atStart => exact ⟨(false), (0), (by rfl), (by rfl), H', ⟨Nat.le_refl _⟩, ⟨by (with_reducible repeat (apply Kd.yZ)); exact Kd.yX (F4 (g := ay) (Kd.yX aD.out (fun k_ hk => (⟨hk, hk.2⟩ : _ ∧ k_ ≠ ay))) (fun _ hk => hk.2)) (fun _ hk => ⟨hk.1.1.2, ⟨hk.1.1.1.2, hk.1.2⟩⟩)⟩, ⟨by (with_reducible repeat (apply Kd.yZ)); exact Kd.yX (F4 (g := ay) (Kd.yX bC.out (fun k_ hk => (⟨hk, hk.2⟩ : _ ∧ k_ ≠ ay))) (fun _ hk => hk.2)) (fun _ hk => ⟨hk.1.1.1.2, ⟨hk.1.1.2, hk.1.2⟩⟩)⟩, ⟨by (with_reducible repeat (apply Kd.Az)); exact Kd.Bo (GA (g := ay) (Kd.AO az.out ah.out (by decide)) (fun _ hk => hk.2)) (fun _ hk => trivial)⟩, bK aa rfl, bK af rfl, bK ah rfl, ⟨bO HB⟩⟩
  case round =>
  clear H' EJ IX Gh NA c32 M4 QG Uz KU Ro Pq RN Pb UA KV Rp Ps RO Pd;obtain ⟨Bv, Dl, rfl, rfl, HA, BJ, Aa, zT, ag, aa, af, ah, HB⟩ := hrel
  cases gk with
  | zero => exact absurd HA.out (by simp [yt.l0])
  | succ k1 =>
  have H := HA.out;clear HA;simp only [yt.l0] at H;obtain ⟨Sr, A33, H⟩ := bE H
  try dsimp only at H
  by_cases c34 : Dl < Sr
  rotate_left
  ·
   rw [if_neg c34] at H;have YB := decide_eq_false c34;clear c34;obtain ⟨⟨bJ, bH⟩, A57, H⟩ := bE H
   try dsimp only at H
   by_cases Ov : Bv = true
   rotate_left
   ·
    replace Ov := Bool.eq_false_iff.mpr Ov;subst Ov
    rw [if_neg (show ¬ (false = true) by decide)] at H
    have H' := yf.mk H;clear H;have a15 := aT.out;have a18 := aU.out;have XI := bq.out;have XJ := bu.out;have Y5 := AP af;have Y6 := bf af
    go_wp2_with (first | ((with_reducible refine yw (f := 24) rfl ?_); refine gL (some 57) Try.func24 #[.agg #[.int .i64 av, .slice DX ai.length Dn, .int .i64 ak, .int .i64 au]] ?_; (with_reducible refine (zi.calls av _ _ ai ak au Sr _ ?yD ?yF A33.out).mono ?_); (case yD => exact H9 ag); (case yF => exact (Kd.zG ag.out).2.1); rintro e w74 ⟨rfl, hb⟩; refine ⟨_, rfl, ?_⟩; replace Aa := BZ Aa hb; replace zT := BZ zT hb; replace ag := EH ag hb; replace aa := bB aa hb; replace af := bB af hb; replace ah := bB ah hb; replace HB := bS HB hb; clear hb; have UG := AP af; have UH := bf af; have a1b := bW.out; have a1c := bX.out; have Yc := AP ah; have Yd := bf ah; obtain ⟨eF, eY, dI⟩ := Kd.zJ zT.out; subst dI) | ((with_reducible refine yw (f := 17) rfl ?_); refine gL (some 89) Try.func17 #[.agg #[.int .i64 av, .slice DX ai.length Dn, .int .i64 ak, .int .i64 au], .slice eF aH.length eY, .agg #[.int .i64 zn, .int .i64 zz, .int .i64 (-1), .int .i64 AZ]] ?_; (with_reducible refine (zl.calls k1 av _ _ ai ak au _ _ aH zn zz (-1) AZ bJ bH _ ?yD ?yF ?zw ?zx A57.out).mono ?_); (case yD => exact H9 ag); (case yF => exact (Kd.zG ag.out).2.1); (case zw => exact G7 zT); (case zx => exact (Kd.yT zT.out).2.1); rintro e w79 ⟨v763, rfl, ho0, hb⟩; refine ⟨_, rfl, ?_⟩; have dx := yf.mk (Kd.Ay (Kd.ED (Kd.ED (Kd.C8 (Kd.C8 ho0 (Kd.DV (kR Aa))) (Kd.DV (kR zT))) (g := aj) (o := .cells #[.int .i64 zn, .int .i64 zz, .int .i64 Bq, .int .i64 AZ] 47 (0, 0)) (kk aa)) (g := ay) (o := .cells #[.int .i64 zn, .int .i64 zz, .int .i64 (-1), .int .i64 AZ] 47 (0, 0)) (kk ah)) (yL (bO HB))); replace Aa := yf.mk (Kd.Bb (kR Aa) (Kd.Bh ho0) hb); replace zT := yf.mk (Kd.Bb (kR zT) (Kd.Bh ho0) hb); replace ag := EH ag hb; replace aa := bB aa hb; replace af := bB af hb; replace ah := bB ah hb; replace HB := bS HB hb; clear hb; clear ho0))
    go_meet
    case rel => exact ⟨_, (bJ), (bH), (by rfl), H', ⟨by have := BJ.out; omega⟩, ⟨by (with_reducible repeat (apply Kd.yZ)); exact Kd.yX Aa.out (fun _ hk => ⟨hk.2, ⟨hk.1.2.1, hk.1.2.2⟩⟩)⟩, ⟨by (with_reducible repeat (apply Kd.yZ)); exact Kd.yX dx.out (fun _ hk => ⟨hk.1.1.1.2, ⟨hk.1.2, hk.2⟩⟩)⟩, ⟨kS ag⟩, ⟨kk aa⟩, ⟨kk af⟩, ⟨kk ah⟩, ⟨bO HB⟩⟩
   subst Ov;rw [if_pos rfl] at H
   by_cases c59 : bH = 1
   rotate_left
   ·
    rw [if_neg c59] at H;exact absurd H (by simp)
   rw [if_pos c59] at H;have a1t := beq_iff_eq.mpr c59
   have fG : (bH != 1) = false := bne_eq_false_iff_eq.mpr c59
   clear c59
   by_cases RD : (bJ.length : Int) = 0
   rotate_left
   ·
    rw [if_neg RD] at H;exact absurd H (by simp)
   rw [if_pos RD] at H;have a0W := beq_iff_eq.mpr RD
   have gP : ((bJ.length : Int) != 0) = false := bne_eq_false_iff_eq.mpr RD
   clear RD;obtain rfl := Option.some.inj H;have a0x := aT.out;have a0y := aU.out;have a0X := bq.out;have a0Y := bu.out;have gD := AP af;have gG := bf af
   go_wp2_with (first | ((with_reducible refine yw (f := 24) rfl ?_); refine gL (some 57) Try.func24 #[.agg #[.int .i64 av, .slice DX ai.length Dn, .int .i64 ak, .int .i64 au]] ?_; (with_reducible refine (zi.calls av _ _ ai ak au Sr _ ?yD ?yF A33.out).mono ?_); (case yD => exact H9 ag); (case yF => exact (Kd.zG ag.out).2.1); rintro e w64 ⟨rfl, hb⟩; refine ⟨_, rfl, ?_⟩; replace Aa := BZ Aa hb; replace zT := BZ zT hb; replace ag := EH ag hb; replace aa := bB aa hb; replace af := bB af hb; replace ah := bB ah hb; replace HB := bS HB hb; clear hb; have a5l := AP af; have a5m := bf af; have XG := bW.out; have XH := bX.out; have XY := AP ah; have XZ := bf ah; obtain ⟨TP, S9, a3G⟩ := Kd.zJ zT.out; subst a3G) | ((with_reducible refine yw (f := 17) rfl ?_); refine gL (some 89) Try.func17 #[.agg #[.int .i64 av, .slice DX ai.length Dn, .int .i64 ak, .int .i64 au], .slice TP aH.length S9, .agg #[.int .i64 zn, .int .i64 zz, .int .i64 (-1), .int .i64 AZ]] ?_; (with_reducible refine (zl.calls k1 av _ _ ai ak au _ _ aH zn zz (-1) AZ bJ bH _ ?yD ?yF ?zw ?zx A57.out).mono ?_); (case yD => exact H9 ag); (case yF => exact (Kd.zG ag.out).2.1); (case zw => exact G7 zT); (case zx => exact (Kd.yT zT.out).2.1); rintro e w69 ⟨v763, rfl, ho0, hb⟩; refine ⟨_, rfl, ?_⟩; have dx := yf.mk (Kd.Ay (Kd.ED (Kd.ED (Kd.C8 (Kd.C8 ho0 (Kd.DV (kR Aa))) (Kd.DV (kR zT))) (g := aj) (o := .cells #[.int .i64 zn, .int .i64 zz, .int .i64 Bq, .int .i64 AZ] 47 (0, 0)) (kk aa)) (g := ay) (o := .cells #[.int .i64 zn, .int .i64 zz, .int .i64 (-1), .int .i64 AZ] 47 (0, 0)) (kk ah)) (yL (bO HB))); replace Aa := yf.mk (Kd.Bb (kR Aa) (Kd.Bh ho0) hb); replace zT := yf.mk (Kd.Bb (kR zT) (Kd.Bh ho0) hb); replace ag := EH ag hb; replace aa := bB aa hb; replace af := bB af hb; replace ah := bB ah hb; replace HB := bS HB hb; clear hb; clear ho0; obtain ⟨a7c, a7d, a3v⟩ := Kd.zJ dx.out; subst a3v))
   go_ret
   exact ⟨by rfl, bO HB⟩
  rw [if_pos c34] at H;have YB := decide_eq_true c34;clear c34
  by_cases Ko : Bv = true
  ·
   subst Ko;rw [if_pos rfl] at H;have H' := yf.mk H;clear H;have Rk := aT.out;have Rl := aU.out;have a6g := bq.out;have a6h := bu.out;have a0K := AP af;have a0L := bf af
   try go_wp2_with (((with_reducible refine yw (f := 24) rfl ?_); refine gL (some 57) Try.func24 #[.agg #[.int .i64 av, .slice DX ai.length Dn, .int .i64 ak, .int .i64 au]] ?_; (with_reducible refine (zi.calls av _ _ ai ak au Sr _ ?yD ?yF A33.out).mono ?_); (case yD => exact H9 ag); (case yF => exact (Kd.zG ag.out).2.1); rintro e w39 ⟨rfl, hb⟩; refine ⟨_, rfl, ?_⟩; replace Aa := BZ Aa hb; replace zT := BZ zT hb; replace ag := EH ag hb; replace aa := bB aa hb; replace af := bB af hb; replace ah := bB ah hb; replace HB := bS HB hb; clear hb))
   replace Aa := yf.mk (Kd.AQ Aa.out);replace zT := yf.mk (Kd.AQ zT.out);replace ag := yf.mk (Kd.Ea ag.out);replace aa := yf.mk (yO aa.out);replace af := yf.mk (yO af.out);replace ah := yf.mk (yO ah.out);replace HB := yf.mk (za HB.out)
   refine Bc (n := 25) (S := fun w' => True) (ds := []) (bz 25 0) (by kernel_rfl) rfl rfl trivial (fun hHeld => ?_); refine zF yt.YL yt.TW (fun yz Bi => ?_)
   generalize w39.drew = w40 at Aa zT ag aa af ah HB hHeld ⊢;refine pU 0 61 25 1 yz ?_;refine pU 1 62 25 3 yz ?_;refine pN 2 63 25 7 yz ?_;refine pN 3 64 25 15 yz ?_;refine pN 4 65 25 31 yz ?_;refine pN 5 66 25 63 yz ?_;refine pN 6 67 25 127 yz ?_;refine pN 7 68 25 255 yz ?_;refine pN 8 69 25 511 yz ?_;refine pN 9 70 25 1023 yz ?_;refine pN 10 71 25 2047 yz ?_;refine pN 11 72 25 4095 yz ?_;refine pN 12 73 25 8191 yz ?_;refine pN 13 74 25 16383 yz ?_;refine pN 14 75 25 32767 yz ?_;refine pN 15 76 25 65535 yz ?_;refine pN 16 77 25 131071 yz ?_;refine pN 17 78 25 262143 yz ?_;refine pN 18 79 25 524287 yz ?_;refine pN 19 80 25 1048575 yz ?_;refine pN 20 81 25 2097151 yz ?_;refine pN 21 82 25 4194303 yz ?_;refine pN 22 83 25 8388607 yz ?_;refine pU 23 84 25 16777215 yz ?_;refine pU 24 12 25 33554431 yz ?_
   refine BG (Al yz.out (by kernel_rfl)) ?_
   try go_wp2
   go_roundg k1
   case measure => have := BJ.out; omega
   case rel => exact ⟨(true), (wrap64 (Dl + 1)), (by rfl), (by rfl), H', ⟨by have := BJ.out; omega⟩, ⟨kR Aa⟩, ⟨kR zT⟩, ⟨kS ag⟩, ⟨kk aa⟩, ⟨kk af⟩, ⟨kk ah⟩, ⟨bO HB⟩⟩
  replace Ko := Bool.eq_false_iff.mpr Ko;subst Ko
  rw [if_neg (show ¬ (false = true) by decide)] at H
  by_cases JH : Dl = zz
  ·
   rw [if_pos JH] at H;have UE := beq_iff_eq.mpr JH
   have eP : (Dl != zz) = false := bne_eq_false_iff_eq.mpr JH
   clear JH;have H' := yf.mk H;clear H;have a0c := aT.out;have a0d := aU.out;have XW := bq.out;have XX := bu.out;have UJ := AP af;have UK := bf af
   try go_wp2_with (((with_reducible refine yw (f := 24) rfl ?_); refine gL (some 57) Try.func24 #[.agg #[.int .i64 av, .slice DX ai.length Dn, .int .i64 ak, .int .i64 au]] ?_; (with_reducible refine (zi.calls av _ _ ai ak au Sr _ ?yD ?yF A33.out).mono ?_); (case yD => exact H9 ag); (case yF => exact (Kd.zG ag.out).2.1); rintro e w45 ⟨rfl, hb⟩; refine ⟨_, rfl, ?_⟩; replace Aa := BZ Aa hb; replace zT := BZ zT hb; replace ag := EH ag hb; replace aa := bB aa hb; replace af := bB af hb; replace ah := bB ah hb; replace HB := bS HB hb; clear hb))
   replace Aa := yf.mk (Kd.AQ Aa.out);replace zT := yf.mk (Kd.AQ zT.out);replace ag := yf.mk (Kd.Ea ag.out);replace aa := yf.mk (yO aa.out);replace af := yf.mk (yO af.out);replace ah := yf.mk (yO ah.out);replace HB := yf.mk (za HB.out)
   refine Bc (n := 25) (S := fun w' => w'.cell? ⟨aj, 0, none⟩ = some (.int .i64 zn) ∧ w'.cell? ⟨aj, 1, none⟩ = some (.int .i64 zz) ∧ w'.cell? ⟨aj, 2, none⟩ = some (.int .i64 Bq) ∧ w'.cell? ⟨aj, 3, none⟩ = some (.int .i64 AZ)) (ds := []) (bz 25 0) (by kernel_rfl) rfl rfl (AP aa) (fun hHeld => ?_); refine zF yt.YL yt.TW (fun yz Bi => ?_)
   generalize w45.drew = w46 at Aa zT ag aa af ah HB hHeld ⊢;refine pU 0 61 25 1 yz ?_;refine pU 1 62 25 3 yz ?_;refine pU 2 63 25 7 yz ?_;refine pU 3 64 25 15 yz ?_
   refine BO 4 65 25 31 yz Bi hHeld ?_
   refine pU 5 66 25 63 yz ?_;refine pU 6 67 25 127 yz ?_;refine pN 7 68 25 255 yz ?_;refine pN 8 69 25 511 yz ?_;refine pN 9 70 25 1023 yz ?_;refine pN 10 71 25 2047 yz ?_;refine pN 11 72 25 4095 yz ?_;refine pN 12 73 25 8191 yz ?_;refine pN 13 74 25 16383 yz ?_;refine pN 14 75 25 32767 yz ?_;refine pN 15 76 25 65535 yz ?_;refine pN 16 77 25 131071 yz ?_;refine pN 17 78 25 262143 yz ?_;refine pN 18 79 25 524287 yz ?_;refine pN 19 80 25 1048575 yz ?_;refine pN 20 81 25 2097151 yz ?_;refine pN 21 82 25 4194303 yz ?_;refine pU 22 83 25 8388607 yz ?_;refine pU 23 84 25 16777215 yz ?_;refine pU 24 12 25 33554431 yz ?_
   refine BG (Al yz.out (by kernel_rfl)) ?_
   try go_wp2
   go_roundg k1
   case measure => have := BJ.out; omega
   case rel => exact ⟨(false), (wrap64 (Dl + 1)), (by rfl), (by rfl), H', ⟨by have := BJ.out; omega⟩, ⟨kR Aa⟩, ⟨kR zT⟩, ⟨kS ag⟩, ⟨kk aa⟩, ⟨kk af⟩, ⟨kk ah⟩, ⟨bO HB⟩⟩
  rw [if_neg JH] at H;have UE := beq_eq_false_iff_ne.mpr JH;have eP := bne_iff_ne.mpr JH;obtain ⟨⟨dD, dJ⟩, A47, H⟩ := bE H
  try dsimp only at H
  obtain ⟨⟨dF, dP⟩, A48, H⟩ := bE H
  try dsimp only at H
  have H' := yf.mk H;clear H;have Ui := aT.out;have Uj := aU.out;have Pj := bq.out;have Pm := bu.out;have Uk := AP af;have Ul := bf af
  try go_wp2_with (((with_reducible refine yw (f := 24) rfl ?_); refine gL (some 57) Try.func24 #[.agg #[.int .i64 av, .slice DX ai.length Dn, .int .i64 ak, .int .i64 au]] ?_; (with_reducible refine (zi.calls av _ _ ai ak au Sr _ ?yD ?yF A33.out).mono ?_); (case yD => exact H9 ag); (case yF => exact (Kd.zG ag.out).2.1); rintro e w52 ⟨rfl, hb⟩; refine ⟨_, rfl, ?_⟩; replace Aa := BZ Aa hb; replace zT := BZ zT hb; replace ag := EH ag hb; replace aa := bB aa hb; replace af := bB af hb; replace ah := bB ah hb; replace HB := bS HB hb; clear hb))
  replace Aa := yf.mk (Kd.AQ Aa.out);replace zT := yf.mk (Kd.AQ zT.out);replace ag := yf.mk (Kd.Ea ag.out);replace aa := yf.mk (yO aa.out);replace af := yf.mk (yO af.out);replace ah := yf.mk (yO ah.out);replace HB := yf.mk (za HB.out);obtain ⟨Ww, Wx, Q8⟩ := Kd.zJ zT.out
  (subst Q8)
  refine Bc (n := 25) (S := fun w' => w'.cell? ⟨aj, 0, none⟩ = some (.int .i64 zn) ∧ w'.cell? ⟨aj, 1, none⟩ = some (.int .i64 zz) ∧ w'.cell? ⟨aj, 2, none⟩ = some (.int .i64 Bq) ∧ w'.cell? ⟨aj, 3, none⟩ = some (.int .i64 AZ) ∧ w'.cell? ⟨aC, 0, none⟩ = some (.int .i64 av) ∧ w'.cell? ⟨aC, 1, none⟩ = some (.slice DX ai.length Dn) ∧ w'.cell? ⟨aC, 2, none⟩ = some (.int .i64 ak) ∧ w'.cell? ⟨aC, 3, none⟩ = some (.int .i64 au)) (ds := []) (bz 25 0) (by kernel_rfl) rfl rfl (K6 aa (AP af)) (fun hHeld => ?_); refine zF yt.YL yt.TW (fun yz Bi => ?_)
  generalize w52.drew = w53 at Aa zT ag aa af ah HB hHeld ⊢;refine pU 0 61 25 1 yz ?_;refine pU 1 62 25 3 yz ?_;refine pU 2 63 25 7 yz ?_;refine pU 3 64 25 15 yz ?_
  refine BO 4 65 25 31 yz Bi hHeld ?_
  refine pU 5 66 25 63 yz ?_;refine pU 6 67 25 127 yz ?_;refine pU 8 69 25 383 yz ?_;refine pU 9 70 25 895 yz ?_;refine pU 11 72 25 2943 yz ?_;refine pU 15 76 25 35711 yz ?_;refine pU 17 78 25 166783 yz ?_
  refine BO 7 68 25 166911 yz Bi hHeld ?_
  refine BO 10 71 25 167935 yz Bi hHeld ?_
  refine BO 14 75 25 184319 yz Bi hHeld ?_
  refine BO 16 77 25 249855 yz Bi hHeld ?_
  refine BO 18 79 25 511999 yz Bi hHeld ?_
  refine Ck (i := 12) (N := some 73) (bz 25 516095) rfl rfl (Af yz.out (by kernel_rfl)) (by decide) (fun K hK => ?_)
  refine gO Try.func22 #[.agg #[.int .i64 av, .slice DX ai.length Dn, .int .i64 ak, .int .i64 au], .slice Ww aH.length Wx, .int .i64 zn, .int .i64 Dl] ?_
  with_reducible refine (zy.calls k1 av _ _ ai ak au _ _ aH zn Dl dD dJ _ ?yD ?yF ?zw ?zx A47.out).mono ?_
  (case yD => exact H9 ag)
  (case yF => exact (Kd.zG ag.out).2.1)
  (case zw => exact G7 zT)
  (case zx => exact (Kd.yT zT.out).2.1)
  rintro e w55 ⟨rfl, hb⟩
  refine ⟨_, rfl, ?_⟩
  replace Aa := BZ Aa hb;replace zT := BZ zT hb;replace ag := EH ag hb;replace aa := bB aa hb;replace af := bB af hb;replace ah := bB ah hb;replace HB := bS HB hb;clear hb
  refine hK.out _ _ (K6 aa (AP af)) (fun hHeld => ?_)
  clear hK K
  refine AR (a' := ?_) ?_ ?_
  rotate_left
  ·
   show Act.put _ (some 73) _ = _
   simp only [pz]
   rfl
  refine pU 13 74 25 524287 yz ?_
  refine Ck (i := 19) (N := some 80) (bz 25 1048575) rfl rfl (Af yz.out (by kernel_rfl)) (by decide) (fun K hK => ?_)
  refine gO Try.func26 #[.agg #[.int .i64 av, .slice DX ai.length Dn, .int .i64 ak, .int .i64 au], .int .i64 zn, .int .i64 zz] ?_
  with_reducible refine (yU.calls k1 av _ _ ai ak au zn zz dF dP _ ?yD ?yF A48.out).mono ?_
  (case yD => exact H9 ag)
  (case yF => exact (Kd.zG ag.out).2.1)
  rintro e w56 ⟨rfl, hb⟩
  refine ⟨_, rfl, ?_⟩
  replace Aa := BZ Aa hb;replace zT := BZ zT hb;replace ag := EH ag hb;replace aa := bB aa hb;replace af := bB af hb;replace ah := bB ah hb;replace HB := bS HB hb;clear hb
  refine hK.out _ _ (K6 aa (AP af)) (fun hHeld => ?_)
  clear hK K
  refine AR (a' := ?_) ?_ ?_
  rotate_left
  ·
   show Act.put _ (some 80) _ = _
   simp only [pz]
   rfl
  refine pU 20 81 25 2097151 yz ?_;refine pU 21 82 25 4194303 yz ?_;refine pU 22 83 25 8388607 yz ?_;refine pU 23 84 25 16777215 yz ?_;refine pU 24 12 25 33554431 yz ?_
  refine BG (Al yz.out (by kernel_rfl)) ?_
  try go_wp2
  go_roundg k1
  case measure => have := BJ.out; omega
  case rel => exact ⟨((dD == dF)), (wrap64 (Dl + 1)), (by rfl), (by rfl), H', ⟨by have := BJ.out; omega⟩, ⟨kR Aa⟩, ⟨kR zT⟩, ⟨kS ag⟩, ⟨kk aa⟩, ⟨kk af⟩, ⟨kk ah⟩, ⟨bO HB⟩⟩
 case rest =>
 clear TS;obtain ⟨kq, aG, bM, rfl, HA, TT, Aa, zT, ag, aa, af, ah, HB⟩ := hcut
 cases kq with
 | zero => exact absurd HA.out (by simp [yt.j1])
 | succ YC =>
  have H := HA.out;clear HA;simp only [yt.j1] at H
  by_cases c80 : bM = 0
  ·
   rw [if_pos c80] at H;have a0F := beq_iff_eq.mpr c80
   have a0G : (bM != 0) = false := bne_eq_false_iff_eq.mpr c80
   clear c80;have H' := yf.mk H;clear H
   go_wp2
   go_loopg [14, 15] YC (fun kq v14 v15 w' => ∃ (Ef : List (AX)) (ae : Int), v15 = .int .i64 ae ∧ yf (yt.l1 kq BI aG Ef ae zn zz Bq AZ av ai ak au zn zz (-1) AZ = some r) ∧ yf (kq ≤ YC) ∧ yf (Kd.R CS 47 w' w.heap.size (fun k_ => some k_ ≠ (u9 : Value).ownBlock ∧ some k_ ≠ (v14 : Value).ownBlock ∧ k_ ≠ aj ∧ k_ ≠ ay) (.slice IC BI.length Fv) BI) ∧ yf (Kd.R CS 47 w' w.heap.size (fun k_ => some k_ ≠ ((.slice IC BI.length Fv) : Value).ownBlock ∧ some k_ ≠ (v14 : Value).ownBlock ∧ k_ ≠ aj ∧ k_ ≠ ay) u9 aG) ∧ yf (Kd.R CS 47 w' w.heap.size (fun k_ => some k_ ≠ ((.slice IC BI.length Fv) : Value).ownBlock ∧ some k_ ≠ (u9 : Value).ownBlock ∧ k_ ≠ aj ∧ k_ ≠ ay) v14 Ef) ∧ yf (Kd.S (Kd.slice 3 (Kd.int .i64)) 63 w' w.heap.size (fun _ => True) (.slice DX ai.length Dn) ai) ∧ yf (w'.heap[aj]? = some (.cells #[.int .i64 zn, .int .i64 zz, .int .i64 Bq, .int .i64 AZ] 47 (0, 0))) ∧ yf (w'.heap[aC]? = some (.cells #[.int .i64 av, (.slice DX ai.length Dn), .int .i64 ak, .int .i64 au] 31 (0, 0))) ∧ yf (w'.heap[ay]? = some (.cells #[.int .i64 zn, .int .i64 zz, .int .i64 (-1), .int .i64 AZ] 47 (0, 0))) ∧ yf (Below w.heap.size w w'))
   case atStart => exact ⟨(([] : List (AX))), (0), (by rfl), H', ⟨Nat.le_refl _⟩, ⟨by (with_reducible repeat (apply Kd.yZ)); exact Kd.yX Aa.out (fun _ hk => ⟨hk.1, ⟨(by simp [Value.ownBlock]), ⟨hk.2.1, hk.2.2⟩⟩⟩)⟩, ⟨by (with_reducible repeat (apply Kd.yZ)); exact Kd.yX zT.out (fun _ hk => ⟨hk.1, ⟨(by simp [Value.ownBlock]), ⟨hk.2.1, hk.2.2⟩⟩⟩)⟩, ⟨by exact Kd.Er _ _ _ _ _⟩, ⟨kS ag⟩, ⟨kk aa⟩, ⟨kk af⟩, ⟨kk ah⟩, ⟨bO HB⟩⟩
   case round =>
    clear H' a0F a0G;obtain ⟨Ef, ae, rfl, HA, D6, Aa, zT, Au, ag, aa, af, ah, HB⟩ := hrel
    cases gk with
    | zero => exact absurd HA.out (by simp [yt.l1])
    | succ k2 =>
     have H := HA.out;clear HA;simp only [yt.l1] at H
     by_cases VI : ae < (BI.length : Int)
     ·
      rw [if_pos VI] at H;have a0H := decide_eq_true VI;clear VI
      by_cases bV : 0 ≤ ae
      ·
       rw [if_pos bV] at H;have fZ := decide_eq_true bV;clear bV
       by_cases UI : ((yg BI ae).f0) = zn
       ·
        rw [if_pos UI] at H;have XK := beq_iff_eq.mpr UI
        have eQ : (((yg BI ae).f0) != zn) = false := bne_eq_false_iff_eq.mpr UI
        clear UI
        by_cases bv : ((yg BI ae).f1) = zz
        ·
         rw [if_pos bv] at H;have dZ := beq_iff_eq.mpr bv
         have dR : (((yg BI ae).f1) != zz) = false := bne_eq_false_iff_eq.mpr bv
         clear bv;have H' := yf.mk H;clear H
         try go_wp2
         replace Aa := yf.mk (Kd.AQ Aa.out);replace zT := yf.mk (Kd.AQ zT.out);replace Au := yf.mk (Kd.AQ Au.out);replace ag := yf.mk (Kd.Ea ag.out);replace aa := yf.mk (yO aa.out);replace af := yf.mk (yO af.out);replace ah := yf.mk (yO ah.out);replace HB := yf.mk (za HB.out)
         have aN : 0 ≤ (ae : Int) := of_decide_eq_true ‹_›
         have aM : ae < (BI.length : Int) := of_decide_eq_true ‹_›
         obtain ⟨ax, bN, aZ, aY, aX, bg⟩ := BU (Kd.yT Aa.out).2.2 ae aN aM;cases bN;replace aN := eq_true aN;replace aM := eq_true aM
         have bn : 0 ≤ (ae : Int) := of_decide_eq_true ‹_›
         have bA : ae < (BI.length : Int) := of_decide_eq_true ‹_›
         obtain ⟨df, d9, bL, bQ, bT, bI⟩ := BU (Kd.yT Aa.out).2.2 ae bn bA;obtain rfl : ax = df := (by injection d9);replace bn := eq_true bn;replace bA := eq_true bA
         refine Bc (n := 18) (S := fun w' => w'.cell? ⟨aj, 0, none⟩ = some (.int .i64 zn) ∧ w'.cell? ⟨aj, 1, none⟩ = some (.int .i64 zz) ∧ w'.cell? ⟨aj, 2, none⟩ = some (.int .i64 Bq) ∧ w'.cell? ⟨aj, 3, none⟩ = some (.int .i64 AZ) ∧ w'.cell? (ax.add ((ae).toNat * 4)) = some (.int .i64 ((yg BI ae).f0)) ∧ w'.cell? ⟨(ax.add ((ae).toNat * 4)).block, (ax.add ((ae).toNat * 4)).off + 1, none⟩ = some (.int .i64 ((yg BI ae).f1)) ∧ w'.cell? ⟨(ax.add ((ae).toNat * 4)).block, (ax.add ((ae).toNat * 4)).off + 2, none⟩ = some (.int .i64 ((yg BI ae).f2.f0)) ∧ w'.cell? ⟨(ax.add ((ae).toNat * 4)).block, (ax.add ((ae).toNat * 4)).off + 3, none⟩ = some (.int .i64 ((yg BI ae).f2.f1)) ∧ w'.cell? (ax.add ((ae).toNat * 4)) = some (.int .i64 ((yg BI ae).f0)) ∧ w'.cell? ⟨(ax.add ((ae).toNat * 4)).block, (ax.add ((ae).toNat * 4)).off + 1, none⟩ = some (.int .i64 ((yg BI ae).f1)) ∧ w'.cell? ⟨(ax.add ((ae).toNat * 4)).block, (ax.add ((ae).toNat * 4)).off + 2, none⟩ = some (.int .i64 ((yg BI ae).f2.f0)) ∧ w'.cell? ⟨(ax.add ((ae).toNat * 4)).block, (ax.add ((ae).toNat * 4)).off + 3, none⟩ = some (.int .i64 ((yg BI ae).f2.f1))) (ds := []) (bz 18 0) (by kernel_rfl) rfl rfl ⟨(yA aa.out 0).trans rfl, (yA aa.out 1).trans rfl, (yA aa.out 2).trans rfl, (yA aa.out 3).trans rfl, aZ, aY, aX, bg, bL, bQ, bT, bI⟩ (fun hHeld => ?_); refine zF yt.PD yt.LK (fun yz Bi => ?_)
         generalize wr.drew = w85 at Aa zT Au ag aa af ah HB aZ aY aX bg bL bQ bT bI hHeld ⊢;refine pU 0 108 18 1 yz ?_;refine pU 1 109 18 3 yz ?_;refine pU 2 110 18 7 yz ?_;refine pU 3 111 18 15 yz ?_;refine pU 5 113 18 47 yz ?_
         refine BO 4 112 18 63 yz Bi hHeld ?_
         refine BO 6 114 18 127 yz Bi hHeld ?_
         refine pU 7 115 18 255 yz ?_;refine pU 8 116 18 511 yz ?_;refine pU 9 117 18 1023 yz ?_;refine pU 10 118 18 2047 yz ?_;refine pU 11 119 18 4095 yz ?_;refine pU 12 120 18 8191 yz ?_;refine pU 14 122 18 24575 yz ?_
         refine BO 13 121 18 32767 yz Bi hHeld ?_
         refine BO 15 123 18 65535 yz Bi hHeld ?_
         refine pU 16 124 18 131071 yz ?_;refine pU 17 125 18 262143 yz ?_
         refine BG (Al yz.out (by kernel_rfl)) ?_
         try go_wp2
         go_roundg k2
         case measure => have := TT.out; have := D6.out; omega
         case rel => exact ⟨(Ef), (wrap64 (ae + 1)), (by rfl), H', ⟨by have := TT.out; have := D6.out; omega⟩, ⟨kR Aa⟩, ⟨kR zT⟩, ⟨kR Au⟩, ⟨kS ag⟩, ⟨kk aa⟩, ⟨kk af⟩, ⟨kk ah⟩, ⟨bO HB⟩⟩
        ·
         rw [if_neg bv] at H;have dZ := beq_eq_false_iff_ne.mpr bv;have dR := bne_iff_ne.mpr bv
         by_cases ZN : Ef.length < 4398046511104
         ·
          rw [if_pos ZN] at H;have fA := yf.mk ZN;clear ZN;obtain ⟨dB, cZ⟩ : ∃ y_ : List (AX), y_ = (Ef ++ [(⟨(yg BI ae).f0, (yg BI ae).f1, (⟨(yg BI ae).f2.f0, (yg BI ae).f2.f1⟩ : GU)⟩ : AX)]) := ⟨_, rfl⟩
          replace H : (yt.l1 k2 BI aG dB (wrap64 (ae + 1)) zn zz Bq AZ av ai ak au zn zz (-1) AZ) = some r := by (rw [cZ]; with_reducible exact H)
          have dL := yf.mk cZ;clear cZ;have H' := yf.mk H;clear H
          try go_wp2
          replace Aa := yf.mk (Kd.AQ Aa.out);replace zT := yf.mk (Kd.AQ zT.out);replace Au := yf.mk (Kd.AQ Au.out);replace ag := yf.mk (Kd.Ea ag.out);replace aa := yf.mk (yO aa.out);replace af := yf.mk (yO af.out);replace ah := yf.mk (yO ah.out);replace HB := yf.mk (za HB.out)
          have aN : 0 ≤ (ae : Int) := of_decide_eq_true ‹_›
          have aM : ae < (BI.length : Int) := of_decide_eq_true ‹_›
          obtain ⟨ax, bN, aZ, aY, aX, bg⟩ := BU (Kd.yT Aa.out).2.2 ae aN aM;cases bN;replace aN := eq_true aN;replace aM := eq_true aM
          have bn : 0 ≤ (ae : Int) := of_decide_eq_true ‹_›
          have bA : ae < (BI.length : Int) := of_decide_eq_true ‹_›
          obtain ⟨df, d9, bL, bQ, bT, bI⟩ := BU (Kd.yT Aa.out).2.2 ae bn bA;obtain rfl : ax = df := (by injection d9);replace bn := eq_true bn;replace bA := eq_true bA
          refine Bc (n := 18) (S := fun w' => w'.cell? ⟨aj, 0, none⟩ = some (.int .i64 zn) ∧ w'.cell? ⟨aj, 1, none⟩ = some (.int .i64 zz) ∧ w'.cell? ⟨aj, 2, none⟩ = some (.int .i64 Bq) ∧ w'.cell? ⟨aj, 3, none⟩ = some (.int .i64 AZ) ∧ w'.cell? (ax.add ((ae).toNat * 4)) = some (.int .i64 ((yg BI ae).f0)) ∧ w'.cell? ⟨(ax.add ((ae).toNat * 4)).block, (ax.add ((ae).toNat * 4)).off + 1, none⟩ = some (.int .i64 ((yg BI ae).f1)) ∧ w'.cell? ⟨(ax.add ((ae).toNat * 4)).block, (ax.add ((ae).toNat * 4)).off + 2, none⟩ = some (.int .i64 ((yg BI ae).f2.f0)) ∧ w'.cell? ⟨(ax.add ((ae).toNat * 4)).block, (ax.add ((ae).toNat * 4)).off + 3, none⟩ = some (.int .i64 ((yg BI ae).f2.f1)) ∧ w'.cell? (ax.add ((ae).toNat * 4)) = some (.int .i64 ((yg BI ae).f0)) ∧ w'.cell? ⟨(ax.add ((ae).toNat * 4)).block, (ax.add ((ae).toNat * 4)).off + 1, none⟩ = some (.int .i64 ((yg BI ae).f1)) ∧ w'.cell? ⟨(ax.add ((ae).toNat * 4)).block, (ax.add ((ae).toNat * 4)).off + 2, none⟩ = some (.int .i64 ((yg BI ae).f2.f0)) ∧ w'.cell? ⟨(ax.add ((ae).toNat * 4)).block, (ax.add ((ae).toNat * 4)).off + 3, none⟩ = some (.int .i64 ((yg BI ae).f2.f1))) (ds := []) (bz 18 0) (by kernel_rfl) rfl rfl ⟨(yA aa.out 0).trans rfl, (yA aa.out 1).trans rfl, (yA aa.out 2).trans rfl, (yA aa.out 3).trans rfl, aZ, aY, aX, bg, bL, bQ, bT, bI⟩ (fun hHeld => ?_); refine zF yt.PD yt.LK (fun yz Bi => ?_)
          generalize wr.drew = w87 at Aa zT Au ag aa af ah HB aZ aY aX bg bL bQ bT bI hHeld ⊢;refine pU 0 108 18 1 yz ?_;refine pU 1 109 18 3 yz ?_;refine pU 2 110 18 7 yz ?_;refine pU 3 111 18 15 yz ?_;refine pU 5 113 18 47 yz ?_
          refine BO 4 112 18 63 yz Bi hHeld ?_
          refine BO 6 114 18 127 yz Bi hHeld ?_
          refine pU 7 115 18 255 yz ?_;refine pU 8 116 18 511 yz ?_;refine pU 9 117 18 1023 yz ?_;refine pU 10 118 18 2047 yz ?_;refine pU 11 119 18 4095 yz ?_;refine pU 12 120 18 8191 yz ?_;refine pU 14 122 18 24575 yz ?_
          refine BO 13 121 18 32767 yz Bi hHeld ?_
          refine BO 15 123 18 65535 yz Bi hHeld ?_
          refine pU 16 124 18 131071 yz ?_;refine pU 17 125 18 262143 yz ?_
          refine BG (Al yz.out (by kernel_rfl)) ?_
          have cO : 0 ≤ (ae : Int) := of_decide_eq_true ‹_›
          have dz : ae < (BI.length : Int) := of_decide_eq_true ‹_›
          obtain ⟨eZ, dQ, fJ, gH, fQ, fP⟩ := BU (Kd.yT Aa.out).2.2 ae cO dz;obtain rfl : ax = eZ := (by injection dQ);replace cO := eq_true cO;replace dz := eq_true dz
          try go_wp2_with (((with_reducible refine BH (b := .append) (xs := #[.tmp 126, .tmp 131]) rfl ?_); (try (refine Ab (by rfl) ?_; dsimp only)); at_builtin; refine Kd.El CS (w0 := w) w.heap.size rfl (.tmp 126) (.tmp 131) 33 47 (.agg #[(.int .i64 0), (.int .i64 0), (.int .i64 0), (.int .i64 0)]) 32 rfl Try.underlying33 GY rfl (by decide) (by omega) u14 Ef (⟨(yg BI ae).f0, (yg BI ae).f1, (⟨(yg BI ae).f2.f0, (yg BI ae).f2.f1⟩ : GU)⟩ : AX) [.int .i64 ((yg BI ae).f0), .int .i64 ((yg BI ae).f1), .int .i64 ((yg BI ae).f2.f0), .int .i64 ((yg BI ae).f2.f1)] (fun k_ => some k_ ≠ (.slice (some ax) BI.length Fv : Value).ownBlock ∧ some k_ ≠ (u9 : Value).ownBlock ∧ k_ ≠ aj ∧ k_ ≠ ay) (fun _ => False) rfl rfl ?aP (fun _ hk => hk.elim) ?aF ?aO ?aB ?aS ?aL ?_; (case aP => exact GL _ _ _ (⟨(yg BI ae).f0, (yg BI ae).f1, (⟨(yg BI ae).f2.f0, (yg BI ae).f2.f1⟩ : GU)⟩ : AX)); (case aB => exact (bO HB)); (case aF => exact (fun k_ hk => ⟨Kd.fresh' (Kd.DV (kR Aa)) k_ hk, Kd.fresh' (Kd.DV (kR zT)) k_ hk, Kd.Bj (g := aj) (o := .cells #[.int .i64 zn, .int .i64 zz, .int .i64 Bq, .int .i64 AZ] 47 (0, 0)) (kk aa) k_ hk, Kd.Bj (g := ay) (o := .cells #[.int .i64 zn, .int .i64 zz, .int .i64 (-1), .int .i64 AZ] 47 (0, 0)) (kk ah) k_ hk⟩)); (case aO => exact (kR Au)); (case aS => exact (yL (bO HB))); (case aL => have := fA.out; omega); intro v770 w88 ho hb hg hat; rw [← dL.out] at ho; have BL := yf.mk (Kd.Iy (ok := (fun k_ => some k_ ≠ (u9 : Value).ownBlock ∧ k_ ≠ aj ∧ k_ ≠ ay)) (by (with_reducible repeat (apply Kd.yZ)); exact Kd.yX Aa.out (fun _ hk => ⟨⟨hk.1, ⟨hk.2.2.1, hk.2.2.2⟩⟩, hk.2.1⟩)) hg hat); have BN := yf.mk (Kd.Iy (ok := (fun k_ => some k_ ≠ (.slice (some ax) BI.length Fv : Value).ownBlock ∧ k_ ≠ aj ∧ k_ ≠ ay)) (by (with_reducible repeat (apply Kd.yZ)); exact Kd.yX zT.out (fun _ hk => ⟨⟨hk.1, ⟨hk.2.2.1, hk.2.2.2⟩⟩, hk.2.1⟩)) hg hat); have BX := yf.mk (Kd.U7 (kS ag) (Kd.IB (kR Au)) (by decide) hg); have Cr := yf.mk (zY (g := aj) (o := .cells #[.int .i64 zn, .int .i64 zz, .int .i64 Bq, .int .i64 AZ] 47 (0, 0)) (kk aa) hg (Kd.Ff Au.out (fun _ hk => hk.2.2.1))); have CG := yf.mk (zY (g := aC) (o := .cells #[.int .i64 av, .slice DX ai.length Dn, .int .i64 ak, .int .i64 au] 31 (0, 0)) (kk af) hg (Kd.EI Au.out af.out (by decide))); have CU := yf.mk (zY (g := ay) (o := .cells #[.int .i64 zn, .int .i64 zz, .int .i64 (-1), .int .i64 AZ] 47 (0, 0)) (kk ah) hg (Kd.Ff Au.out (fun _ hk => hk.2.2.2))); have Eh := yf.mk (hb); have F7 := yf.mk (ho); clear Aa; clear zT; clear ag; clear aa; clear af; clear ah; clear HB; clear Au; have Aa := BL; have zT := BN; have ag := BX; have aa := Cr; have af := CG; have ah := CU; have HB := Eh; have fu := F7; clear BL BN BX Cr CG CU Eh F7; clear ho hb hg hat))
          go_roundg k2
          case measure => have := TT.out; have := D6.out; omega
          case rel => exact ⟨(dB), (wrap64 (ae + 1)), (by rfl), H', ⟨by have := TT.out; have := D6.out; omega⟩, ⟨by (with_reducible repeat (apply Kd.yZ)); exact Kd.yX Aa.out (fun _ hk => ⟨hk.1.1, ⟨hk.2, ⟨hk.1.2.1, hk.1.2.2⟩⟩⟩)⟩, ⟨by (with_reducible repeat (apply Kd.yZ)); exact Kd.yX zT.out (fun _ hk => ⟨hk.1.1, ⟨hk.2, ⟨hk.1.2.1, hk.1.2.2⟩⟩⟩)⟩, ⟨kR fu⟩, ⟨kS ag⟩, ⟨kk aa⟩, ⟨kk af⟩, ⟨kk ah⟩, ⟨bO HB⟩⟩
         ·
          rw [if_neg ZN] at H;exact absurd H (by simp)
       ·
        rw [if_neg UI] at H;have XK := beq_eq_false_iff_ne.mpr UI;have eQ := bne_iff_ne.mpr UI
        by_cases bZ : Ef.length < 4398046511104
        ·
         rw [if_pos bZ] at H;have dN := yf.mk bZ;clear bZ;obtain ⟨dE, di⟩ : ∃ y_ : List (AX), y_ = (Ef ++ [(⟨(yg BI ae).f0, (yg BI ae).f1, (⟨(yg BI ae).f2.f0, (yg BI ae).f2.f1⟩ : GU)⟩ : AX)]) := ⟨_, rfl⟩
         replace H : (yt.l1 k2 BI aG dE (wrap64 (ae + 1)) zn zz Bq AZ av ai ak au zn zz (-1) AZ) = some r := by (rw [di]; with_reducible exact H)
         have dU := yf.mk di;clear di;have H' := yf.mk H;clear H
         try go_wp2
         replace Aa := yf.mk (Kd.AQ Aa.out);replace zT := yf.mk (Kd.AQ zT.out);replace Au := yf.mk (Kd.AQ Au.out);replace ag := yf.mk (Kd.Ea ag.out);replace aa := yf.mk (yO aa.out);replace af := yf.mk (yO af.out);replace ah := yf.mk (yO ah.out);replace HB := yf.mk (za HB.out)
         have aN : 0 ≤ (ae : Int) := of_decide_eq_true ‹_›
         have aM : ae < (BI.length : Int) := of_decide_eq_true ‹_›
         obtain ⟨ax, bN, aZ, aY, aX, bg⟩ := BU (Kd.yT Aa.out).2.2 ae aN aM;cases bN;replace aN := eq_true aN;replace aM := eq_true aM
         refine Bc (n := 18) (S := fun w' => w'.cell? ⟨aj, 0, none⟩ = some (.int .i64 zn) ∧ w'.cell? ⟨aj, 1, none⟩ = some (.int .i64 zz) ∧ w'.cell? ⟨aj, 2, none⟩ = some (.int .i64 Bq) ∧ w'.cell? ⟨aj, 3, none⟩ = some (.int .i64 AZ) ∧ w'.cell? (ax.add ((ae).toNat * 4)) = some (.int .i64 ((yg BI ae).f0)) ∧ w'.cell? ⟨(ax.add ((ae).toNat * 4)).block, (ax.add ((ae).toNat * 4)).off + 1, none⟩ = some (.int .i64 ((yg BI ae).f1)) ∧ w'.cell? ⟨(ax.add ((ae).toNat * 4)).block, (ax.add ((ae).toNat * 4)).off + 2, none⟩ = some (.int .i64 ((yg BI ae).f2.f0)) ∧ w'.cell? ⟨(ax.add ((ae).toNat * 4)).block, (ax.add ((ae).toNat * 4)).off + 3, none⟩ = some (.int .i64 ((yg BI ae).f2.f1))) (ds := []) (bz 18 0) (by kernel_rfl) rfl rfl ⟨(yA aa.out 0).trans rfl, (yA aa.out 1).trans rfl, (yA aa.out 2).trans rfl, (yA aa.out 3).trans rfl, aZ, aY, aX, bg⟩ (fun hHeld => ?_); refine zF yt.PD yt.LK (fun yz Bi => ?_)
         generalize wr.drew = w90 at Aa zT Au ag aa af ah HB aZ aY aX bg hHeld ⊢;refine pU 0 108 18 1 yz ?_;refine pU 1 109 18 3 yz ?_;refine pU 2 110 18 7 yz ?_;refine pU 3 111 18 15 yz ?_;refine pU 5 113 18 47 yz ?_
         refine BO 4 112 18 63 yz Bi hHeld ?_
         refine BO 6 114 18 127 yz Bi hHeld ?_
         refine pU 7 115 18 255 yz ?_;refine pU 8 116 18 511 yz ?_;refine pN 9 117 18 1023 yz ?_;refine pN 10 118 18 2047 yz ?_;refine pN 11 119 18 4095 yz ?_;refine pN 12 120 18 8191 yz ?_;refine pN 13 121 18 16383 yz ?_;refine pN 14 122 18 32767 yz ?_;refine pN 15 123 18 65535 yz ?_;refine pN 16 124 18 131071 yz ?_;refine pU 17 125 18 262143 yz ?_
         refine BG (Al yz.out (by kernel_rfl)) ?_
         have cz : 0 ≤ (ae : Int) := of_decide_eq_true ‹_›
         have dn : ae < (BI.length : Int) := of_decide_eq_true ‹_›
         obtain ⟨fo, eO, gI, gK, fO, gz⟩ := BU (Kd.yT Aa.out).2.2 ae cz dn;obtain rfl : ax = fo := (by injection eO);replace cz := eq_true cz;replace dn := eq_true dn
         try go_wp2_with (((with_reducible refine BH (b := .append) (xs := #[.tmp 126, .tmp 131]) rfl ?_); (try (refine Ab (by rfl) ?_; dsimp only)); at_builtin; refine Kd.El CS (w0 := w) w.heap.size rfl (.tmp 126) (.tmp 131) 33 47 (.agg #[(.int .i64 0), (.int .i64 0), (.int .i64 0), (.int .i64 0)]) 32 rfl Try.underlying33 GY rfl (by decide) (by omega) u14 Ef (⟨(yg BI ae).f0, (yg BI ae).f1, (⟨(yg BI ae).f2.f0, (yg BI ae).f2.f1⟩ : GU)⟩ : AX) [.int .i64 ((yg BI ae).f0), .int .i64 ((yg BI ae).f1), .int .i64 ((yg BI ae).f2.f0), .int .i64 ((yg BI ae).f2.f1)] (fun k_ => some k_ ≠ (.slice (some ax) BI.length Fv : Value).ownBlock ∧ some k_ ≠ (u9 : Value).ownBlock ∧ k_ ≠ aj ∧ k_ ≠ ay) (fun _ => False) rfl rfl ?aP (fun _ hk => hk.elim) ?aF ?aO ?aB ?aS ?aL ?_; (case aP => exact GL _ _ _ (⟨(yg BI ae).f0, (yg BI ae).f1, (⟨(yg BI ae).f2.f0, (yg BI ae).f2.f1⟩ : GU)⟩ : AX)); (case aB => exact (bO HB)); (case aF => exact (fun k_ hk => ⟨Kd.fresh' (Kd.DV (kR Aa)) k_ hk, Kd.fresh' (Kd.DV (kR zT)) k_ hk, Kd.Bj (g := aj) (o := .cells #[.int .i64 zn, .int .i64 zz, .int .i64 Bq, .int .i64 AZ] 47 (0, 0)) (kk aa) k_ hk, Kd.Bj (g := ay) (o := .cells #[.int .i64 zn, .int .i64 zz, .int .i64 (-1), .int .i64 AZ] 47 (0, 0)) (kk ah) k_ hk⟩)); (case aO => exact (kR Au)); (case aS => exact (yL (bO HB))); (case aL => have := dN.out; omega); intro v774 w91 ho hb hg hat; rw [← dU.out] at ho; have BL := yf.mk (Kd.Iy (ok := (fun k_ => some k_ ≠ (u9 : Value).ownBlock ∧ k_ ≠ aj ∧ k_ ≠ ay)) (by (with_reducible repeat (apply Kd.yZ)); exact Kd.yX Aa.out (fun _ hk => ⟨⟨hk.1, ⟨hk.2.2.1, hk.2.2.2⟩⟩, hk.2.1⟩)) hg hat); have BN := yf.mk (Kd.Iy (ok := (fun k_ => some k_ ≠ (.slice (some ax) BI.length Fv : Value).ownBlock ∧ k_ ≠ aj ∧ k_ ≠ ay)) (by (with_reducible repeat (apply Kd.yZ)); exact Kd.yX zT.out (fun _ hk => ⟨⟨hk.1, ⟨hk.2.2.1, hk.2.2.2⟩⟩, hk.2.1⟩)) hg hat); have BX := yf.mk (Kd.U7 (kS ag) (Kd.IB (kR Au)) (by decide) hg); have Cr := yf.mk (zY (g := aj) (o := .cells #[.int .i64 zn, .int .i64 zz, .int .i64 Bq, .int .i64 AZ] 47 (0, 0)) (kk aa) hg (Kd.Ff Au.out (fun _ hk => hk.2.2.1))); have CG := yf.mk (zY (g := aC) (o := .cells #[.int .i64 av, .slice DX ai.length Dn, .int .i64 ak, .int .i64 au] 31 (0, 0)) (kk af) hg (Kd.EI Au.out af.out (by decide))); have CU := yf.mk (zY (g := ay) (o := .cells #[.int .i64 zn, .int .i64 zz, .int .i64 (-1), .int .i64 AZ] 47 (0, 0)) (kk ah) hg (Kd.Ff Au.out (fun _ hk => hk.2.2.2))); have Eh := yf.mk (hb); have F7 := yf.mk (ho); clear Aa; clear zT; clear ag; clear aa; clear af; clear ah; clear HB; clear Au; have Aa := BL; have zT := BN; have ag := BX; have aa := Cr; have af := CG; have ah := CU; have HB := Eh; have ek := F7; clear BL BN BX Cr CG CU Eh F7; clear ho hb hg hat))
         go_roundg k2
         case measure => have := TT.out; have := D6.out; omega
         case rel => exact ⟨(dE), (wrap64 (ae + 1)), (by rfl), H', ⟨by have := TT.out; have := D6.out; omega⟩, ⟨by (with_reducible repeat (apply Kd.yZ)); exact Kd.yX Aa.out (fun _ hk => ⟨hk.1.1, ⟨hk.2, ⟨hk.1.2.1, hk.1.2.2⟩⟩⟩)⟩, ⟨by (with_reducible repeat (apply Kd.yZ)); exact Kd.yX zT.out (fun _ hk => ⟨hk.1.1, ⟨hk.2, ⟨hk.1.2.1, hk.1.2.2⟩⟩⟩)⟩, ⟨kR ek⟩, ⟨kS ag⟩, ⟨kk aa⟩, ⟨kk af⟩, ⟨kk ah⟩, ⟨bO HB⟩⟩
        ·
         rw [if_neg bZ] at H;exact absurd H (by simp)
      ·
       rw [if_neg bV] at H;exact absurd H (by simp)
     ·
      rw [if_neg VI] at H;have a0H := decide_eq_false VI;clear VI;obtain ⟨⟨aJ, aQ, dw⟩, dW, H⟩ := bE H
      try dsimp only at H
      obtain ⟨⟨eD, cK⟩, dS, H⟩ := bE H
      try dsimp only at H
      obtain ⟨a3Y, dV, H⟩ := bE H
      try dsimp only at H
      by_cases cu : a3Y = true
      ·
       subst cu;rw [if_pos rfl] at H
       by_cases bi : dw = 0
       ·
        rw [if_pos bi] at H;have eU := beq_iff_eq.mpr bi
        have eH : (dw != 0) = false := bne_eq_false_iff_eq.mpr bi
        clear bi;obtain ⟨⟨aV, aW⟩, dX, H⟩ := bE H
        try dsimp only at H
        by_cases aK : (aJ == aV && (aQ == aW)) = true
        ·
         rw [if_pos aK] at H
         have fq : (aJ == aV && (aQ == aW)) = true := aK
         (try (have dO : decide (aJ = aV && (aQ == aW)) = true := by simpa using aK))
         (try (have eB : (aJ == aV && (aQ == aW)) = true := by simpa using aK))
         clear aK
         by_cases bF : cK = 9
         ·
          rw [if_pos bF] at H;have gy := beq_iff_eq.mpr bF
          have fE : (cK != 9) = false := bne_eq_false_iff_eq.mpr bF
          clear bF;obtain rfl := Option.some.inj H;have a3U := aT.out;have a3V := aU.out;have XL := bq.out;have XM := bu.out;have a3W := AP af;have a3X := bf af;have XN := bX.out;have XO := bW.out;have a3p := AP aa;have a3q := bf aa;obtain ⟨dm, bY, dK⟩ := Kd.zJ zT.out;subst dK
          try go_wp2_with (first | ((with_reducible refine yw (f := 20) rfl ?_); refine gL (some 140) Try.func20 #[.agg #[.int .i64 av, .slice DX ai.length Dn, .int .i64 ak, .int .i64 au], .slice dm aG.length bY, .int .i64 zn, .int .i64 zz] ?_; (with_reducible refine (Dg.calls k2 av _ _ ai ak au _ _ aG zn zz aJ aQ dw _ ?yD ?yF ?zw ?zx dW.out).mono ?_); (case yD => exact H9 ag); (case yF => exact (Kd.zG ag.out).2.1); (case zw => exact G7 zT); (case zx => exact (Kd.yT zT.out).2.1); rintro e w106 ⟨rfl, hb⟩; refine ⟨_, rfl, ?_⟩; replace Aa := BZ Aa hb; replace zT := BZ zT hb; replace Au := BZ Au hb; replace ag := EH ag hb; replace aa := bB aa hb; replace af := bB af hb; replace ah := bB ah hb; replace HB := bS HB hb; clear hb) | ((with_reducible refine yI (N := 16) rfl ?_); (try (refine Ab (by rfl) ?_; dsimp only)); refine yG rfl (N := 16) rfl (cs := #[.int .i64 0, .int .i64 0]) (t := 38) (by go_simp) ?_; intro aI hg w107 yJ hb; have aA := yf.mk (yJ); have gB := bG (w := w) hg; have gq := bG (w := w) hg; have dH := Co aa hg; have eT := Ar aa hg; have fe := Co af hg; have fw := Ar af hg; have eu := Co ah hg; have dM := Ar ah hg; replace Aa := BZ Aa hb; replace zT := BZ zT hb; replace Au := BZ Au hb; replace ag := EH ag hb; replace aa := bB aa hb; replace af := bB af hb; replace ah := bB ah hb; replace HB := bS HB hb; clear hb yJ hg; have a3H := eT.out; have a3I := dH.out; have a3r := fw.out; have a3s := fe.out; have XP := dM.out; have XQ := eu.out; have a3J := bc2 aA; have a3K := bf aA; have gu := AP af; have fI := bf af; have a3t := AP ah; have a3u := bf ah) | ((with_reducible refine yw (f := 17) rfl ?_); refine gL (some 147) Try.func17 #[.agg #[.int .i64 av, .slice DX ai.length Dn, .int .i64 ak, .int .i64 au], .slice dm aG.length bY, .agg #[.int .i64 zn, .int .i64 zz, .int .i64 (-1), .int .i64 AZ]] ?_; (with_reducible refine (zl.calls k2 av _ _ ai ak au _ _ aG zn zz (-1) AZ eD cK _ ?yD ?yF ?zw ?zx dS.out).mono ?_); (case yD => refine (Kd.zG (e := 63) (base := w.heap.size) (ok := fun k_ => True) (n := ai.length) (c := Dn) ?_).2.2; exact (by (with_reducible repeat (apply Kd.Az)); exact (Kd.Bo (GA (g := aI) (Kd.AO ag.out aA.out (by decide)) (fun _ hk => hk.2)) (fun _ h_ => h_.1)))); (case yF => exact (Kd.zG ag.out).2.1); (case zw => refine (Kd.yT (e := 47) (base := w.heap.size) (ok := fun k_ => (some k_ ≠ (.slice IC BI.length Fv : Value).ownBlock ∧ (some k_ ≠ (u14 : Value).ownBlock ∧ (k_ ≠ aj ∧ k_ ≠ ay)))) (n := aG.length) (c := bY) ?_).2.2; exact (by (with_reducible repeat (apply Kd.yZ)); exact (Kd.yX (F4 (g := aI) (Kd.Aw zT.out aA.out (by decide)) (fun _ hk => hk.2)) (fun _ h_ => h_.1)))); (case zx => exact (Kd.yT zT.out).2.1); rintro e w114 ⟨v781, rfl, ho0, hb⟩; refine ⟨_, rfl, ?_⟩; have BL := yf.mk (Kd.Bb (by (with_reducible repeat (apply Kd.yZ)); exact (Kd.yX (F4 (g := aI) (Kd.Aw Aa.out aA.out (by decide)) (fun _ hk => hk.2)) (fun _ h_ => h_.1))) (Kd.Bh ho0) hb); have BN := yf.mk (Kd.Bb (by (with_reducible repeat (apply Kd.yZ)); exact (Kd.yX (F4 (g := aI) (Kd.Aw zT.out aA.out (by decide)) (fun _ hk => hk.2)) (fun _ h_ => h_.1))) (Kd.Bh ho0) hb); have BX := yf.mk (Kd.Bb (by (with_reducible repeat (apply Kd.yZ)); exact (Kd.yX (F4 (g := aI) (Kd.Aw Au.out aA.out (by decide)) (fun _ hk => hk.2)) (fun _ h_ => h_.1))) (Kd.Bh ho0) hb); have Cr := yf.mk (Kd.E9 (by (with_reducible repeat (apply Kd.Az)); exact (Kd.Bo (GA (g := aI) (Kd.AO ag.out aA.out (by decide)) (fun _ hk => hk.2)) (fun _ h_ => h_.1))) hb); have CG := yf.mk (Kd.Ay (Kd.ED (Kd.ED (Kd.C8 (Kd.C8 (Kd.C8 ho0 (Kd.DV (by (with_reducible repeat (apply Kd.yZ)); exact (Kd.yX (F4 (g := aI) (Kd.Aw Aa.out aA.out (by decide)) (fun _ hk => hk.2)) (fun _ h_ => h_.1))))) (Kd.DV (by (with_reducible repeat (apply Kd.yZ)); exact (Kd.yX (F4 (g := aI) (Kd.Aw zT.out aA.out (by decide)) (fun _ hk => hk.2)) (fun _ h_ => h_.1))))) (Kd.DV (by (with_reducible repeat (apply Kd.yZ)); exact (Kd.yX (F4 (g := aI) (Kd.Aw Au.out aA.out (by decide)) (fun _ hk => hk.2)) (fun _ h_ => h_.1))))) (g := aj) (o := .cells #[.int .i64 zn, .int .i64 zz, .int .i64 Bq, .int .i64 AZ] 47 (0, 0)) (CJ aa rfl)) (g := ay) (o := .cells #[.int .i64 zn, .int .i64 zz, .int .i64 (-1), .int .i64 AZ] 47 (0, 0)) (CJ ah rfl)) (yL (bO HB))); have CU := yf.mk (yS (g := aj) (o := .cells #[.int .i64 zn, .int .i64 zz, .int .i64 Bq, .int .i64 AZ] 47 (0, 0)) (CJ aa rfl) hb); have Eh := yf.mk (yS (g := aC) (o := .cells #[.int .i64 av, .slice DX ai.length Dn, .int .i64 ak, .int .i64 au] 31 (0, 0)) (CJ af rfl) hb); have F7 := yf.mk (yS (g := ay) (o := .cells #[.int .i64 zn, .int .i64 zz, .int .i64 (-1), .int .i64 AZ] 47 (0, 0)) (CJ ah rfl) hb); have Gd := yf.mk (yS (g := aI) (o := .cells #[.int .i64 aJ, .int .i64 aQ] 38 (0, 0)) (CJ aA rfl) hb); have IU := bS HB hb; clear Aa; clear zT; clear Au; clear ag; clear aa; clear af; clear ah; clear aA; clear HB; have Aa := BL; have zT := BN; have Au := BX; have ag := Cr; have bD := CG; have aa := CU; have af := Eh; have ah := F7; have aA := Gd; have HB := IU; clear BL BN BX Cr CG CU Eh F7 Gd IU; clear hb; clear ho0))
          replace Aa := yf.mk (Kd.AQ Aa.out);replace zT := yf.mk (Kd.AQ zT.out);replace Au := yf.mk (Kd.AQ Au.out);replace ag := yf.mk (Kd.Ea ag.out);replace bD := yf.mk (Kd.AQ bD.out);replace aa := yf.mk (yO aa.out);replace af := yf.mk (yO af.out);replace ah := yf.mk (yO ah.out);replace aA := yf.mk (yO aA.out);replace HB := yf.mk (za HB.out);obtain ⟨O9, Mx, Yx⟩ := Kd.zJ Au.out
          (subst Yx)
          refine Bc (n := 22) (S := fun w' => w'.cell? ⟨aI, 0, none⟩ = some (.int .i64 aJ) ∧ w'.cell? ⟨aI, 1, none⟩ = some (.int .i64 aQ) ∧ w'.cell? ⟨aC, 0, none⟩ = some (.int .i64 av) ∧ w'.cell? ⟨aC, 1, none⟩ = some (.slice DX ai.length Dn) ∧ w'.cell? ⟨aC, 2, none⟩ = some (.int .i64 ak) ∧ w'.cell? ⟨aC, 3, none⟩ = some (.int .i64 au) ∧ w'.cell? ⟨aj, 0, none⟩ = some (.int .i64 zn) ∧ w'.cell? ⟨aj, 1, none⟩ = some (.int .i64 zz) ∧ w'.cell? ⟨aj, 2, none⟩ = some (.int .i64 Bq) ∧ w'.cell? ⟨aj, 3, none⟩ = some (.int .i64 AZ)) (ds := []) (bz 22 0) (by kernel_rfl) rfl rfl (bb2 aA (K6 af (AP aa))) (fun hHeld => ?_); refine zF yt.a6j yt.a3Z (fun yz Bi => ?_)
          generalize w114.drew = w115 at Aa zT Au ag bD aa af ah aA HB hHeld ⊢;refine pU 0 150 22 1 yz ?_;refine pU 1 151 22 3 yz ?_
          refine Ck (i := 2) (N := some 152) (bz 22 7) rfl rfl (Af yz.out (by kernel_rfl)) (by decide) (fun K hK => ?_)
          refine gO Try.func19 #[.slice dm aG.length bY, .slice O9 Ef.length Mx] ?_
          with_reducible refine (Am.calls k2 _ _ aG _ _ Ef true _ ?yD ?yF ?zw ?zx dV.out).mono ?_
          (case yD => exact G7 zT)
          (case yF => exact (Kd.yT zT.out).2.1)
          (case zw => exact G7 Au)
          (case zx => exact (Kd.yT Au.out).2.1)
          rintro e w' ⟨rfl, ⟨nd, rfl⟩⟩
          refine ⟨_, rfl, ?_⟩
          refine hK.out _ _ (bb2 aA (K6 af (AP aa))) (fun hHeld => ?_)
          clear hK K
          refine AR (a' := ?_) ?_ ?_
          rotate_left
          ·
           show Act.put _ (some 152) _ = _
           simp only [pz]
           rfl
          refine pU 3 153 22 15 yz ?_;refine pU 4 154 22 31 yz ?_;refine pU 5 155 22 63 yz ?_;refine pU 6 156 22 127 yz ?_;refine pU 7 157 22 255 yz ?_;refine pU 10 160 22 1279 yz ?_;refine pU 12 162 22 5375 yz ?_
          refine BO 8 158 22 5631 yz Bi hHeld ?_
          refine BO 9 159 22 6143 yz Bi hHeld ?_
          refine BO 11 161 22 8191 yz Bi hHeld ?_
          refine BO 13 163 22 16383 yz Bi hHeld ?_
          refine Ck (i := 14) (N := some 164) (bz 22 32767) rfl rfl (Af yz.out (by kernel_rfl)) (by decide) (fun K hK => ?_)
          refine gO Try.func26 #[.agg #[.int .i64 av, .slice DX ai.length Dn, .int .i64 ak, .int .i64 au], .int .i64 zn, .int .i64 zz] ?_
          with_reducible refine (yU.calls k2 av _ _ ai ak au zn zz aV aW _ ?yD ?yF dX.out).mono ?_
          (case yD => exact H9 ag)
          (case yF => exact (Kd.zG ag.out).2.1)
          rintro e w117 ⟨rfl, hb⟩
          refine ⟨_, rfl, ?_⟩
          replace Aa := BZ Aa hb;replace zT := BZ zT hb;replace Au := BZ Au hb;replace ag := EH ag hb;replace bD := BZ bD hb;replace aa := bB aa hb;replace af := bB af hb;replace ah := bB ah hb;replace aA := bB aA hb;replace HB := bS HB hb;clear hb
          refine hK.out _ _ (bb2 aA (K6 af (AP aa))) (fun hHeld => ?_)
          clear hK K
          refine AR (a' := ?_) ?_ ?_
          rotate_left
          ·
           show Act.put _ (some 164) _ = _
           simp only [pz]
           rfl
          refine pU 15 165 22 65535 yz ?_;refine pU 16 166 22 131071 yz ?_;refine pU 17 167 22 262143 yz ?_;refine pU 18 168 22 524287 yz ?_;refine pU 19 169 22 1048575 yz ?_;refine pU 20 170 22 2097151 yz ?_;refine pU 21 6 22 4194303 yz ?_
          refine BG (Al yz.out (by kernel_rfl)) ?_
          try go_wp2
          go_ret
          exact ⟨by rfl, bO HB⟩
         ·
          rw [if_neg bF] at H;exact absurd H (by simp)
        ·
         rw [if_neg aK] at H
         have fq : (aJ == aV && (aQ == aW)) = false := by simpa using aK
         (try (have dO : decide (aJ = aV && (aQ == aW)) = false := by simpa using aK))
         (try (have eB : (aJ == aV && (aQ == aW)) = false := by simpa using aK))
         (try (have gp : ¬ (aJ = aV && (aQ == aW)) := by simpa using aK))
         clear aK;exact absurd H (by simp)
       ·
        rw [if_neg bi] at H;have eU := beq_eq_false_iff_ne.mpr bi;have eH := bne_iff_ne.mpr bi;exact absurd H (by simp)
      ·
       replace cu := Bool.eq_false_iff.mpr cu;subst cu
       rw [if_neg (show ¬ (false = true) by decide)] at H
       exact absurd H (by simp)
  ·
   rw [if_neg c80] at H;exact absurd H (by simp)
end Go.Proofs.Ytjonnfmoocijlaa.P
