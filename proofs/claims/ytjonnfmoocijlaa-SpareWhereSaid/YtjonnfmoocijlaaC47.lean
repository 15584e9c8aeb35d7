/- Texts of a claim, packed. -/
import Derived.Test.YtjonnfmoocijlaaC43
import Derived.Test.YtjonnfmoocijlaaC46
set_option linter.all false
namespace Go.Proofs.Ytjonnfmoocijlaa.P
open Go.RowKit Go.Proofs.YtjonnfmoocijlaaKW.PrintWords Go.Proofs.YtjonnfmoocijlaaKW.PrintLast Go.Proofs.YtjonnfmoocijlaaKW.PrintMore
attribute [local go_sem] zO zP Aj Ak zC zD zQ zR
attribute [local go_sem high] Mr
def AC.f (k : Nat) (a0 : Int) (l1 : List Int) (zn : Int) (zz : Int) : Option (Bool) := (zN.f k).bind fun YD => (if YD = true then (if (l1.length : Int) > 20 then (some true) else ((zh.f k a0).bind fun DY => ((yK.f k DY.1 DY.2.1 DY.2.2.1 DY.2.2.2 l1).bind fun Lf => ((Dg.f k DY.1 DY.2.1 DY.2.2.1 DY.2.2.2 Lf zn zz).bind fun Iw => ((Bz.f DY.1 DY.2.1 DY.2.2.1 DY.2.2.2 zn zz).bind fun YE => (if YE = true then (if Iw.2.2 = 0 then ((zy.f k DY.1 DY.2.1 DY.2.2.1 DY.2.2.2 Lf zn zz).bind fun Sj => (if (Iw.1 == Sj.1 && (Iw.2.1 == Sj.2)) = true then (some true) else (none))) else (none)) else (if Iw.2.2 = 2 then (if (Iw.1 == 0 && (Iw.2.1 == 0)) = true then (some true) else (none)) else (none)))))))) else (none))
def AC.T10 : Bool × List (List Nat × List Nat) := (true, [([], []), ([0], [0]), ([1], [1]), ([2], [2]), ([2], [2]), ([2], [2]), ([2], [2]), ([6, 2], [2, 6]), ([2], [2]), ([8, 2], [2, 8]), ([4, 5, 7, 9, 2, 2], [2, 4, 5, 7, 9]), ([3, 10, 2], [2, 3, 10]), ([2, 11], [2, 11]), ([12, 10, 0, 1, 2, 3, 4, 5, 6, 7, 8, 9, 10, 11, 12], [12])])
def AC.B10 : List Nat := [0, 1, 3, 7, 7, 7, 7, 71, 7, 263, 1015, 2047, 4095, 8191]
theorem AC.a6i : CZ .any (opsOf Try.f5 10) = AC.T10 := by kernel_rfl
theorem AC.a3R : BD AC.T10.2 AC.B10 = true := by kernel_rfl
set_option maxHeartbeats 8000000 in
set_option maxRecDepth 100000 in
theorem AC.calls (k : Nat) (a0 : Int) (A1 : Option Addr) (c1 : Nat) (l1 : List Int) (zn : Int) (zz : Int) (r : Bool) (w : World) (hr1 : Kd.C (Kd.int .u8) w A1 l1.length l1) (hc1 : l1.length ≤ c1) (h : AC.f k a0 l1 zn zz = some r) :
  Calls Try.prog 5 #[.int .u16 a0, .slice A1 l1.length c1, .agg #[.int .i64 zn, .int .i64 zz]] w fun e w' => e = .returned (.bool r) ∧ Below w.heap.size w w' := by
 have bg := Try.underlying53;have FH := Try.underlying31;have Jd := Try.underlying38;have HR1 := yf.mk hr1;have GH := yf.mk hc1;clear hr1 hc1;have HB := yf.mk (Below.refl w.heap.size w)
 have H : ((zN.f k).bind fun YD => (if YD = true then (if (l1.length : Int) > 20 then (some true) else ((zh.f k a0).bind fun DY => ((yK.f k DY.1 DY.2.1 DY.2.2.1 DY.2.2.2 l1).bind fun Lf => ((Dg.f k DY.1 DY.2.1 DY.2.2.1 DY.2.2.2 Lf zn zz).bind fun Iw => ((Bz.f DY.1 DY.2.1 DY.2.2.1 DY.2.2.2 zn zz).bind fun YE => (if YE = true then (if Iw.2.2 = 0 then ((zy.f k DY.1 DY.2.1 DY.2.2.1 DY.2.2.2 Lf zn zz).bind fun Sj => (if (Iw.1 == Sj.1 && (Iw.2.1 == Sj.2)) = true then (some true) else (none))) else (none)) else (if Iw.2.2 = 2 then (if (Iw.1 == 0 && (Iw.2.1 == 0)) = true then (some true) else (none)) else (none)))))))) else (none))) = some r := h
 clear h;obtain ⟨YD, A4, H⟩ := bE H
 try dsimp only at H
 by_cases c5 : YD = true
 rotate_left
 ·
  replace c5 := Bool.eq_false_iff.mpr c5;subst c5
  rw [if_neg (show ¬ (false = true) by decide)] at H
  exact absurd H (by simp)
 subst c5;rw [if_pos rfl] at H
 by_cases c6 : (l1.length : Int) > 20
 ·
  rw [if_pos c6] at H;have EJ := decide_eq_true c6
  have IX : decide (20 < l1.length) = true := decide_eq_true (by omega)
  clear c6;obtain rfl := Option.some.inj H
  go_enter Try.func5, Try.ntmps5
  go_wp2_with (first | ((with_reducible refine yI (N := 5) rfl ?_); refine yG rfl (N := 5) rfl (cs := #[.int .i64 zn, .int .i64 zz]) (t := 53) (by go_simp) ?_; intro aA hg w7 yJ hb; have aa := yf.mk (yJ); have aT := bG (w := w) hg; have aQ := bG (w := w) hg; replace HB := bS HB hb; clear hb yJ hg) | ((with_reducible refine yw (f := 9) rfl ?_); refine gL (some 11) Try.func9 #[] ?_; (with_reducible refine (zN.calls k  true _ A4.out).mono ?_); rintro e w8 ⟨rfl, hb⟩; refine ⟨_, rfl, ?_⟩; replace aa := bB aa hb; replace HB := bS HB hb; clear hb))
  go_ret
  exact ⟨by rfl, bO HB⟩
 rw [if_neg c6] at H;have EJ := decide_eq_false c6
 have IX : decide (20 < l1.length) = false := decide_eq_false (by omega)
 clear c6;obtain ⟨⟨ak, ah, au, aj⟩, A9, H⟩ := bE H
 try dsimp only at H
 obtain ⟨Lf, VJ, H⟩ := bE H
 try dsimp only at H
 obtain ⟨⟨ax, ay, aC⟩, RP, H⟩ := bE H
 try dsimp only at H
 obtain ⟨YE, ZL, H⟩ := bE H
 try dsimp only at H
 by_cases c13 : YE = true
 rotate_left
 ·
  replace c13 := Bool.eq_false_iff.mpr c13;subst c13
  rw [if_neg (show ¬ (false = true) by decide)] at H
  by_cases Km : aC = 2
  rotate_left
  ·
   rw [if_neg Km] at H;exact absurd H (by simp)
  rw [if_pos Km] at H;have Ng := beq_iff_eq.mpr Km
  have a0b : (aC != 2) = false := bne_eq_false_iff_eq.mpr Km
  clear Km
  by_cases K7 : (ax == 0 && (ay == 0)) = true
  rotate_left
  ·
   rw [if_neg K7] at H;exact absurd H (by simp)
  rw [if_pos K7] at H
  have OW : (ax == 0 && (ay == 0)) = true := K7
  (try (have a06 : decide (ax = 0 && (ay == 0)) = true := by simpa using K7))
  (try (have bq : (ax == 0 && (ay == 0)) = true := by simpa using K7))
  clear K7;obtain rfl := Option.some.inj H
  go_enter Try.func5, Try.ntmps5
  go_wp2_with (first | ((with_reducible refine yI (N := 5) rfl ?_); refine yG rfl (N := 5) rfl (cs := #[.int .i64 zn, .int .i64 zz]) (t := 53) (by go_simp) ?_; intro aA hg w40 yJ hb; have aa := yf.mk (yJ); have aT := bG (w := w) hg; have aQ := bG (w := w) hg; replace HB := bS HB hb; clear hb yJ hg) | ((with_reducible refine yw (f := 9) rfl ?_); refine gL (some 11) Try.func9 #[] ?_; (with_reducible refine (zN.calls k  true _ A4.out).mono ?_); rintro e w41 ⟨rfl, hb⟩; refine ⟨_, rfl, ?_⟩; replace aa := bB aa hb; replace HB := bS HB hb; clear hb) | ((with_reducible refine yw (f := 10) rfl ?_); refine gL (some 17) Try.func10 #[.int .u16 a0] ?_; (with_reducible refine (zh.calls k a0 ak ah au aj _ A9.out).mono ?_); rintro e w42 ⟨v685, rfl, ho0, hb⟩; refine ⟨_, rfl, ?_⟩; have af := yf.mk (Kd.Eu ho0 (yL (bO HB))); replace aa := bB aa hb; replace HB := bS HB hb; clear hb; clear ho0) | ((with_reducible refine yI (N := 7) rfl ?_); refine yG rfl (N := 7) rfl (cs := #[.int .i64 0, .slice none 0 0, .int .i64 0, .int .i64 0]) (t := 31) (by go_simp) ?_; intro av hg w43 yJ hb; have ae := yf.mk (yJ); have aW := bG (w := w) hg; have aX := bG (w := w) hg; have aH := Co aa hg; have aN := Ar aa hg; replace af := EH af hb; replace aa := bB aa hb; replace HB := bS HB hb; clear hb yJ hg; have a1j := aN.out; have a1k := aH.out; have bi := AP ae; have bn := bf ae; obtain ⟨Tf, Q9, a2q⟩ := Kd.Eb af.out; subst a2q) | ((with_reducible refine yw (f := 11) rfl ?_); refine gL (some 20) Try.func11 #[.agg #[.int .i64 ak, .slice Tf ah.length Q9, .int .i64 au, .int .i64 aj], .slice A1 l1.length c1] ?_; (with_reducible refine (yK.calls k ak _ _ ah au aj _ _ l1 Lf _ ?yD ?yF ?zw ?zx VJ.out).mono ?_); (case yD => refine (Kd.zG (e := 63) (base := w.heap.size) (ok := fun k_ => True) (n := ah.length) (c := Q9) ?_).2.2; exact (by (with_reducible repeat (apply Kd.Az)); exact (Kd.Bo (GA (g := av) (Kd.AO af.out ae.out (by decide)) (fun _ hk => hk.2)) (fun _ h_ => h_.1)))); (case yF => exact (Kd.zG af.out).2.1); (case zw => exact Kd.Cg HR1.out (bO HB)); (case zx => exact GH.out); rintro e w47 ⟨v691, rfl, ho0, hb⟩; refine ⟨_, rfl, ?_⟩; replace af := yf.mk (Kd.E9 (by (with_reducible repeat (apply Kd.Az)); exact (Kd.Bo (GA (g := av) (Kd.AO af.out ae.out (by decide)) (fun _ hk => hk.2)) (fun _ h_ => h_.1))) hb); have ag := yf.mk (Kd.Ay ho0 (yL (bO HB))); replace aa := yf.mk (yS (g := aA) (o := .cells #[.int .i64 zn, .int .i64 zz] 53 (0, 0)) (CJ aa rfl) hb); replace ae := yf.mk (yS (g := av) (o := .cells #[.int .i64 ak, .slice Tf ah.length Q9, .int .i64 au, .int .i64 aj] 31 (0, 0)) (CJ ae rfl) hb); replace HB := bS HB hb; clear hb; clear ho0; have QZ := AP ae; have R3 := bf ae; have WG := bc2 aa; have WH := bf aa; obtain ⟨a4Z, a5a, a2G⟩ := Kd.zJ ag.out; subst a2G) | ((with_reducible refine yw (f := 20) rfl ?_); refine gL (some 28) Try.func20 #[.agg #[.int .i64 ak, .slice Tf ah.length Q9, .int .i64 au, .int .i64 aj], .slice a4Z Lf.length a5a, .int .i64 zn, .int .i64 zz] ?_; (with_reducible refine (Dg.calls k ak _ _ ah au aj _ _ Lf zn zz ax ay aC _ ?yD ?yF ?zw ?zx RP.out).mono ?_); (case yD => exact H9 af); (case yF => exact (Kd.zG af.out).2.1); (case zw => exact G7 ag); (case zx => exact (Kd.yT ag.out).2.1); rintro e w51 ⟨rfl, hb⟩; refine ⟨_, rfl, ?_⟩; replace af := EH af hb; replace ag := BZ ag hb; replace aa := bB aa hb; replace ae := bB ae hb; replace HB := bS HB hb; clear hb) | ((with_reducible refine yI (N := 9) rfl ?_); refine yG rfl (N := 9) rfl (cs := #[.int .i64 0, .int .i64 0]) (t := 38) (by go_simp) ?_; intro az hg w52 yJ hb; have ai := yf.mk (yJ); have aV := bG (w := w) hg; have aU := bG (w := w) hg; have aI := Co aa hg; have aJ := Ar aa hg; have aK := Co ae hg; have aM := Ar ae hg; replace af := EH af hb; replace ag := BZ ag hb; replace aa := bB aa hb; replace ae := bB ae hb; replace HB := bS HB hb; clear hb yJ hg; have X5 := aJ.out; have X6 := aI.out; have a1l := aM.out; have a1m := aK.out; have a1n := bc2 ai; have a1o := bf ai; have aZ := AP ae; have aY := bf ae; have a1x := bc2 aa; have a1y := bf aa) | ((with_reducible refine yw (f := 21) rfl ?_); refine gL (some 36) Try.func21 #[.agg #[.int .i64 ak, .slice Tf ah.length Q9, .int .i64 au, .int .i64 aj], .int .i64 zn, .int .i64 zz] ?_; (with_reducible refine (Bz.calls ak _ _ ah au aj zn zz false _ ?yD ?yF ZL.out).mono ?_); (case yD => refine (Kd.zG (e := 63) (base := w.heap.size) (ok := fun k_ => True) (n := ah.length) (c := Q9) ?_).2.2; exact (by (with_reducible repeat (apply Kd.Az)); exact (Kd.Bo (GA (g := az) (Kd.AO af.out ai.out (by decide)) (fun _ hk => hk.2)) (fun _ h_ => h_.1)))); (case yF => exact (Kd.zG af.out).2.1); rintro e w58 ⟨rfl, hb⟩; refine ⟨_, rfl, ?_⟩; replace af := yf.mk (Kd.E9 (by (with_reducible repeat (apply Kd.Az)); exact (Kd.Bo (GA (g := az) (Kd.AO af.out ai.out (by decide)) (fun _ hk => hk.2)) (fun _ h_ => h_.1))) hb); replace ag := yf.mk (Kd.CP (by (with_reducible repeat (apply Kd.yZ)); exact (Kd.yX (F4 (g := az) (Kd.Aw ag.out ai.out (by decide)) (fun _ hk => hk.2)) (fun _ h_ => h_.1))) hb); replace aa := yf.mk (yS (g := aA) (o := .cells #[.int .i64 zn, .int .i64 zz] 53 (0, 0)) (CJ aa rfl) hb); replace ae := yf.mk (yS (g := av) (o := .cells #[.int .i64 ak, .slice Tf ah.length Q9, .int .i64 au, .int .i64 aj] 31 (0, 0)) (CJ ae rfl) hb); replace ai := yf.mk (yS (g := az) (o := .cells #[.int .i64 ax, .int .i64 ay] 38 (0, 0)) (CJ ai rfl) hb); replace HB := bS HB hb; clear hb; have a0U := bc2 ai; have a0V := bf ai))
  go_ret
  exact ⟨by rfl, bO HB⟩
 subst c13;rw [if_pos rfl] at H
 by_cases c14 : aC = 0
 rotate_left
 ·
  rw [if_neg c14] at H;have Jc := beq_eq_false_iff_ne.mpr c14;have JW := bne_iff_ne.mpr c14;exact absurd H (by simp)
 rw [if_pos c14] at H;have Jc := beq_iff_eq.mpr c14
 have JW : (aC != 0) = false := bne_eq_false_iff_eq.mpr c14
 clear c14;obtain ⟨⟨aD, aG⟩, QP, H⟩ := bE H
 try dsimp only at H
 by_cases c16 : (ax == aD && (ay == aG)) = true
 rotate_left
 ·
  rw [if_neg c16] at H;exact absurd H (by simp)
 rw [if_pos c16] at H
 have Fy : (ax == aD && (ay == aG)) = true := c16
 (try (have Pn : decide (ax = aD && (ay == aG)) = true := by simpa using c16))
 (try (have a6b : (ax == aD && (ay == aG)) = true := by simpa using c16))
 clear c16;obtain rfl := Option.some.inj H
 go_enter Try.func5, Try.ntmps5
 try go_wp2_with (first | ((with_reducible refine yI (N := 5) rfl ?_); refine yG rfl (N := 5) rfl (cs := #[.int .i64 zn, .int .i64 zz]) (t := 53) (by go_simp) ?_; intro aA hg w17 yJ hb; have aa := yf.mk (yJ); have aT := bG (w := w) hg; have aQ := bG (w := w) hg; replace HB := bS HB hb; clear hb yJ hg) | ((with_reducible refine yw (f := 9) rfl ?_); refine gL (some 11) Try.func9 #[] ?_; (with_reducible refine (zN.calls k  true _ A4.out).mono ?_); rintro e w18 ⟨rfl, hb⟩; refine ⟨_, rfl, ?_⟩; replace aa := bB aa hb; replace HB := bS HB hb; clear hb) | ((with_reducible refine yw (f := 10) rfl ?_); refine gL (some 17) Try.func10 #[.int .u16 a0] ?_; (with_reducible refine (zh.calls k a0 ak ah au aj _ A9.out).mono ?_); rintro e w19 ⟨v685, rfl, ho0, hb⟩; refine ⟨_, rfl, ?_⟩; have af := yf.mk (Kd.Eu ho0 (yL (bO HB))); replace aa := bB aa hb; replace HB := bS HB hb; clear hb; clear ho0) | ((with_reducible refine yI (N := 7) rfl ?_); refine yG rfl (N := 7) rfl (cs := #[.int .i64 0, .slice none 0 0, .int .i64 0, .int .i64 0]) (t := 31) (by go_simp) ?_; intro av hg w20 yJ hb; have ae := yf.mk (yJ); have aW := bG (w := w) hg; have aX := bG (w := w) hg; have aH := Co aa hg; have aN := Ar aa hg; replace af := EH af hb; replace aa := bB aa hb; replace HB := bS HB hb; clear hb yJ hg; have a5Y := aN.out; have a5Z := aH.out; have KU := AP ae; have KV := bf ae; obtain ⟨OE, MJ, Yz⟩ := Kd.Eb af.out; subst Yz) | ((with_reducible refine yw (f := 11) rfl ?_); refine gL (some 20) Try.func11 #[.agg #[.int .i64 ak, .slice OE ah.length MJ, .int .i64 au, .int .i64 aj], .slice A1 l1.length c1] ?_; (with_reducible refine (yK.calls k ak _ _ ah au aj _ _ l1 Lf _ ?yD ?yF ?zw ?zx VJ.out).mono ?_); (case yD => refine (Kd.zG (e := 63) (base := w.heap.size) (ok := fun k_ => True) (n := ah.length) (c := MJ) ?_).2.2; exact (by (with_reducible repeat (apply Kd.Az)); exact (Kd.Bo (GA (g := av) (Kd.AO af.out ae.out (by decide)) (fun _ hk => hk.2)) (fun _ h_ => h_.1)))); (case yF => exact (Kd.zG af.out).2.1); (case zw => exact Kd.Cg HR1.out (bO HB)); (case zx => exact GH.out); rintro e w24 ⟨v691, rfl, ho0, hb⟩; refine ⟨_, rfl, ?_⟩; replace af := yf.mk (Kd.E9 (by (with_reducible repeat (apply Kd.Az)); exact (Kd.Bo (GA (g := av) (Kd.AO af.out ae.out (by decide)) (fun _ hk => hk.2)) (fun _ h_ => h_.1))) hb); have ag := yf.mk (Kd.Ay ho0 (yL (bO HB))); replace aa := yf.mk (yS (g := aA) (o := .cells #[.int .i64 zn, .int .i64 zz] 53 (0, 0)) (CJ aa rfl) hb); replace ae := yf.mk (yS (g := av) (o := .cells #[.int .i64 ak, .slice OE ah.length MJ, .int .i64 au, .int .i64 aj] 31 (0, 0)) (CJ ae rfl) hb); replace HB := bS HB hb; clear hb; clear ho0; have KM := AP ae; have KN := bf ae; have Pq := bc2 aa; have Ps := bf aa; obtain ⟨Gv, Gw, Q0⟩ := Kd.zJ ag.out; subst Q0) | ((with_reducible refine yw (f := 20) rfl ?_); refine gL (some 28) Try.func20 #[.agg #[.int .i64 ak, .slice OE ah.length MJ, .int .i64 au, .int .i64 aj], .slice Gv Lf.length Gw, .int .i64 zn, .int .i64 zz] ?_; (with_reducible refine (Dg.calls k ak _ _ ah au aj _ _ Lf zn zz ax ay aC _ ?yD ?yF ?zw ?zx RP.out).mono ?_); (case yD => exact H9 af); (case yF => exact (Kd.zG af.out).2.1); (case zw => exact G7 ag); (case zx => exact (Kd.yT ag.out).2.1); rintro e w28 ⟨rfl, hb⟩; refine ⟨_, rfl, ?_⟩; replace af := EH af hb; replace ag := BZ ag hb; replace aa := bB aa hb; replace ae := bB ae hb; replace HB := bS HB hb; clear hb) | ((with_reducible refine yI (N := 9) rfl ?_); refine yG rfl (N := 9) rfl (cs := #[.int .i64 0, .int .i64 0]) (t := 38) (by go_simp) ?_; intro az hg w29 yJ hb; have ai := yf.mk (yJ); have aV := bG (w := w) hg; have aU := bG (w := w) hg; have aI := Co aa hg; have aJ := Ar aa hg; have aK := Co ae hg; have aM := Ar ae hg; replace af := EH af hb; replace ag := BZ ag hb; replace aa := bB aa hb; replace ae := bB ae hb; replace HB := bS HB hb; clear hb yJ hg; have R4 := aJ.out; have R5 := aI.out; have QT := aM.out; have QU := aK.out; have a4y := bc2 ai; have a4z := bf ai; have Je := AP ae; have Jf := bf ae; have Ns := bc2 aa; have Nt := bf aa) | ((with_reducible refine yw (f := 21) rfl ?_); refine gL (some 36) Try.func21 #[.agg #[.int .i64 ak, .slice OE ah.length MJ, .int .i64 au, .int .i64 aj], .int .i64 zn, .int .i64 zz] ?_; (with_reducible refine (Bz.calls ak _ _ ah au aj zn zz true _ ?yD ?yF ZL.out).mono ?_); (case yD => refine (Kd.zG (e := 63) (base := w.heap.size) (ok := fun k_ => True) (n := ah.length) (c := MJ) ?_).2.2; exact (by (with_reducible repeat (apply Kd.Az)); exact (Kd.Bo (GA (g := az) (Kd.AO af.out ai.out (by decide)) (fun _ hk => hk.2)) (fun _ h_ => h_.1)))); (case yF => exact (Kd.zG af.out).2.1); rintro e w35 ⟨rfl, hb⟩; refine ⟨_, rfl, ?_⟩; replace af := yf.mk (Kd.E9 (by (with_reducible repeat (apply Kd.Az)); exact (Kd.Bo (GA (g := az) (Kd.AO af.out ai.out (by decide)) (fun _ hk => hk.2)) (fun _ h_ => h_.1))) hb); replace ag := yf.mk (Kd.CP (by (with_reducible repeat (apply Kd.yZ)); exact (Kd.yX (F4 (g := az) (Kd.Aw ag.out ai.out (by decide)) (fun _ hk => hk.2)) (fun _ h_ => h_.1))) hb); replace aa := yf.mk (yS (g := aA) (o := .cells #[.int .i64 zn, .int .i64 zz] 53 (0, 0)) (CJ aa rfl) hb); replace ae := yf.mk (yS (g := av) (o := .cells #[.int .i64 ak, .slice OE ah.length MJ, .int .i64 au, .int .i64 aj] 31 (0, 0)) (CJ ae rfl) hb); replace ai := yf.mk (yS (g := az) (o := .cells #[.int .i64 ax, .int .i64 ay] 38 (0, 0)) (CJ ai rfl) hb); replace HB := bS HB hb; clear hb))
 replace af := yf.mk (Kd.Ea af.out);replace ag := yf.mk (Kd.AQ ag.out);replace aa := yf.mk (yO aa.out);replace ae := yf.mk (yO ae.out);replace ai := yf.mk (yO ai.out);replace HB := yf.mk (za HB.out)
 refine Bc (n := 14) (S := fun w' => w'.cell? ⟨az, 0, none⟩ = some (.int .i64 ax) ∧ w'.cell? ⟨az, 1, none⟩ = some (.int .i64 ay) ∧ w'.cell? ⟨av, 0, none⟩ = some (.int .i64 ak) ∧ w'.cell? ⟨av, 1, none⟩ = some (.slice OE ah.length MJ) ∧ w'.cell? ⟨av, 2, none⟩ = some (.int .i64 au) ∧ w'.cell? ⟨av, 3, none⟩ = some (.int .i64 aj) ∧ w'.cell? ⟨aA, 0, none⟩ = some (.int .i64 zn) ∧ w'.cell? ⟨aA, 1, none⟩ = some (.int .i64 zz)) (ds := []) (bz 14 0) (by kernel_rfl) rfl rfl (bb2 ai (K6 ae (bc2 aa))) (fun hHeld => ?_); refine zF AC.a6i AC.a3R (fun yz Bi => ?_)
 generalize w35.drew = w36 at af ag aa ae ai HB hHeld ⊢;refine pU 0 45 14 1 yz ?_;refine pU 1 46 14 3 yz ?_;refine pU 2 47 14 7 yz ?_;refine pU 5 50 14 39 yz ?_;refine pU 6 51 14 103 yz ?_;refine pU 8 53 14 359 yz ?_
 refine BO 3 48 14 367 yz Bi hHeld ?_
 refine BO 4 49 14 383 yz Bi hHeld ?_
 refine BO 7 52 14 511 yz Bi hHeld ?_
 refine BO 9 54 14 1023 yz Bi hHeld ?_
 refine Ck (i := 10) (N := some 55) (bz 14 2047) rfl rfl (Af yz.out (by kernel_rfl)) (by decide) (fun K hK => ?_)
 refine gO Try.func22 #[.agg #[.int .i64 ak, .slice OE ah.length MJ, .int .i64 au, .int .i64 aj], .slice Gv Lf.length Gw, .int .i64 zn, .int .i64 zz] ?_
 with_reducible refine (zy.calls k ak _ _ ah au aj _ _ Lf zn zz aD aG _ ?yD ?yF ?zw ?zx QP.out).mono ?_
 (case yD => exact H9 af)
 (case yF => exact (Kd.zG af.out).2.1)
 (case zw => exact G7 ag)
 (case zx => exact (Kd.yT ag.out).2.1)
 rintro e w37 ⟨rfl, hb⟩
 refine ⟨_, rfl, ?_⟩
 replace af := EH af hb;replace ag := BZ ag hb;replace aa := bB aa hb;replace ae := bB ae hb;replace ai := bB ai hb;replace HB := bS HB hb;clear hb
 refine hK.out _ _ (bb2 ai (K6 ae (bc2 aa))) (fun hHeld => ?_)
 clear hK K
 refine AR (a' := ?_) ?_ ?_
 rotate_left
 ·
  show Act.put _ (some 55) _ = _
  simp only [pz]
  rfl
 refine pU 11 56 14 4095 yz ?_;refine pU 12 57 14 8191 yz ?_;refine pU 13 6 14 16383 yz ?_
 refine BG (Al yz.out (by kernel_rfl)) ?_
 try go_wp2
 go_ret
 exact ⟨by rfl, bO HB⟩
end Go.Proofs.Ytjonnfmoocijlaa.P
namespace Go.Proofs.Ytjonnfmoocijlaa.P
open Go.RowKit Go.Proofs.YtjonnfmoocijlaaKW.PrintWords
theorem OG (x : Int) (raw : List Int) (g i : Int) (h0 : 0 ≤ x) (h1 : x < 65536) (hraw : ∀ b ∈ raw, 0 ≤ b ∧ b < 256) : Ev (fun k => AC.f k x raw g i) true := by
  unfold AC.f
  refine DN Jy (AJ rfl ?_)
  by_cases hl : (raw.length : Int) > 20
  · exact AJ hl (Ev.now _)
  refine BQ hl ?_
  obtain ⟨d, L, w, n, r, T, S, hs, H⟩ := Jo x h0 h1
  refine DN hs ?_
  obtain ⟨ms, hm, hv, hml⟩ := H.NZ raw hraw (by omega)
  refine DN hm ?_
  have hms : ms.length ≤ 1000 := by omega
  refine DN (H.TU ms hms hv g i) (GJ (H.is g i) ?_)
  by_cases hc : 0 ≤ g ∧ g < T * n ∧ 0 ≤ i ∧ i < (w : Int)
  · rw [decide_eq_true hc, if_pos hc]
    exact AJ rfl (AJ rfl (DN (H.K9 ms hms g i hc.1 hc.2.1 hc.2.2.1 hc.2.2.2) (AJ (by simp) (Ev.now _))))
  · rw [decide_eq_false hc, if_neg hc]
    exact BQ (show ¬ (false = true) by decide) (AJ rfl (AJ rfl (Ev.now _)))
end Go.Proofs.Ytjonnfmoocijlaa.P
