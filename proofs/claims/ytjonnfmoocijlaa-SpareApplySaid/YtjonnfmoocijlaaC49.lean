/- Texts of a claim, packed. -/
import Derived.Test.YtjonnfmoocijlaaC43
set_option linter.all false
namespace Go.Proofs.Ytjonnfmoocijlaa.P
open Go.RowKit Go.Proofs.YtjonnfmoocijlaaKW.PrintWords Go.Proofs.YtjonnfmoocijlaaKW.PrintLast Go.Proofs.YtjonnfmoocijlaaKW.PrintMore
attribute [local go_sem] zO zP Aj Ak zC zD zQ zR
def Dq.f (l0 : List (AX)) : Option ((List (AX))) := (some (([] : List (AX)) : List (AX))).bind fun Oc => (if Oc.length + l0.length < 4398046511104 then (some (Oc ++ l0)) else (none))
set_option maxHeartbeats 8000000 in
set_option maxRecDepth 100000 in
theorem Dq.calls (A0 : Option Addr) (c0 : Nat) (l0 : List (AX)) (r : List (AX)) (w : World) (hr0 : Kd.C CS w A0 l0.length l0) (hc0 : l0.length ≤ c0) (h : Dq.f l0 = some r) :
  Calls Try.prog 16 #[.slice A0 l0.length c0] w fun e w' => ∃ GG : Value, e = .returned (GG) ∧ Kd.R CS 47 w' w.heap.size (fun _ => True) GG r ∧ Below w.heap.size w w' := by
 have Li := yf.mk hr0;have Ws := yf.mk hc0;clear hr0 hc0;have HB := yf.mk (Below.refl w.heap.size w)
 have H : ((some (([] : List (AX)) : List (AX))).bind fun Oc => (if Oc.length + l0.length < 4398046511104 then (some (Oc ++ l0)) else (none))) = some r := h
 clear h;obtain ⟨Oc, ae⟩ : ∃ y_ : List (AX), y_ = (([] : List (AX))) := ⟨_, rfl⟩
 replace H : (if Oc.length + l0.length < 4398046511104 then (some (Oc ++ l0)) else (none)) = some r := by (have H2_ := (Option.bind_some _ _).symm.trans H; rw [ae]; with_reducible exact H2_)
 have ah := yf.mk ae;clear ae
 by_cases c2 : Oc.length + l0.length < 4398046511104
 rotate_left
 ·
  rw [if_neg c2] at H;exact absurd H (by simp)
 rw [if_pos c2] at H;have ak := yf.mk c2;clear c2;obtain ⟨aj, aa⟩ : ∃ y_ : List (AX), y_ = (Oc ++ l0) := ⟨_, rfl⟩
 replace H : (some aj) = some r := by (rw [aa]; with_reducible exact H)
 have ag := yf.mk aa;clear aa;obtain rfl := Option.some.inj H
 go_enter Try.func16, Try.ntmps16
 go_wp2_with (first | ((with_reducible refine yI (N := 3) rfl ?_); refine Kd.J4 CS _ 47 ?hg (N := 3) ?hd (xs := ([] : List (AX))) (inner := []) (ok := fun _ => True) (okp := fun _ => True) ?hr ?hp (fun _ hk => hk) trivial (Below.refl _ _) (Nat.le_refl _) (by simp) ?_; (case hd => rfl); (case hg => rfl); (case hr => go_simp); (case hp => exact (Cj.none _ _)); intro v619 w3 ho4 hb JN DW; clear JN DW; (rw [← ah.out] at ho4); have af := yf.mk (Kd.Ay ho4 (yL (bO HB))); replace HB := bS HB hb; clear hb ho4) | ((with_reducible refine BH (b := .append) (xs := #[.tmp 3, .tmp 4]) rfl ?_); at_builtin; refine Kd.Gc CS (w0 := w) w.heap.size rfl (.tmp 3) (.tmp 4) 33 47 (.agg #[(.int .i64 0), (.int .i64 0), (.int .i64 0), (.int .i64 0)]) 32 rfl Try.underlying33 GY rfl (by decide) (by omega) v619 Oc l0 _ _ _ (fun _ => True) (fun _ => False) rfl rfl ?aO ?aR (fun _ _ h => h) (fun _ h => h.elim) ?aF ?aB ?aS ?aL ?_; (case aR => repeat (exact (Kd.Cg Li.out HB.out))); (case aB => exact (bO HB)); (case aF => exact (fun _ _ => trivial)); (case aO => exact (kR af)); (case aS => exact (yL (bO HB))); (case aL => have := ak.out; omega); intro v622 w5 ho hb hg hat; rw [← ag.out] at ho; have BL := yf.mk (hb); have BN := yf.mk (ho); clear HB; clear af; have HB := BL; have ai := BN; clear BL BN; clear ho hb hg hat))
 go_ret
 exact ⟨_, by rfl, by (with_reducible repeat (apply Kd.yZ)); exact ai.out, bO HB⟩
def Da.f (k : Nat) (a0 : Int) (l1 : List Int) (zn : Int) (zz : Int) (Bq : Int) (AZ : Int) : Option (Bool) := (zN.f k).bind fun YF => (if YF = true then (if (l1.length : Int) > 20 then (some true) else ((zh.f k a0).bind fun EN => ((yK.f k EN.1 EN.2.1 EN.2.2.1 EN.2.2.2 l1).bind fun Lg => ((Dq.f Lg).bind fun OH => ((zl.f k EN.1 EN.2.1 EN.2.2.1 EN.2.2.2 OH zn zz Bq AZ).bind fun Sk => ((Aq.f k EN.1 EN.2.1 EN.2.2.1 EN.2.2.2 Lg zn zz Bq AZ).bind fun Sl => (if Sk.2 = Sl.2 then ((Am.f k Sk.1 Sl.1).bind fun YG => (if YG = true then ((Am.f k OH Lg).bind fun YH => (if YH = true then (some true) else (none))) else (none))) else (none)))))))) else (none))
set_option maxHeartbeats 8000000 in
set_option maxRecDepth 100000 in
theorem Da.calls (k : Nat) (a0 : Int) (A1 : Option Addr) (c1 : Nat) (l1 : List Int) (zn : Int) (zz : Int) (Bq : Int) (AZ : Int) (r : Bool) (w : World) (hr1 : Kd.C (Kd.int .u8) w A1 l1.length l1) (hc1 : l1.length ≤ c1) (h : Da.f k a0 l1 zn zz Bq AZ = some r) :
  Calls Try.prog 4 #[.int .u16 a0, .slice A1 l1.length c1, .agg #[.int .i64 zn, .int .i64 zz, .int .i64 Bq, .int .i64 AZ]] w fun e w' => e = .returned (.bool r) ∧ Below w.heap.size w w' := by
 have LC := Try.underlying47;have FH := Try.underlying31;have HR1 := yf.mk hr1;have GH := yf.mk hc1;clear hr1 hc1;have HB := yf.mk (Below.refl w.heap.size w)
 have H : ((zN.f k).bind fun YF => (if YF = true then (if (l1.length : Int) > 20 then (some true) else ((zh.f k a0).bind fun EN => ((yK.f k EN.1 EN.2.1 EN.2.2.1 EN.2.2.2 l1).bind fun Lg => ((Dq.f Lg).bind fun OH => ((zl.f k EN.1 EN.2.1 EN.2.2.1 EN.2.2.2 OH zn zz Bq AZ).bind fun Sk => ((Aq.f k EN.1 EN.2.1 EN.2.2.1 EN.2.2.2 Lg zn zz Bq AZ).bind fun Sl => (if Sk.2 = Sl.2 then ((Am.f k Sk.1 Sl.1).bind fun YG => (if YG = true then ((Am.f k OH Lg).bind fun YH => (if YH = true then (some true) else (none))) else (none))) else (none)))))))) else (none))) = some r := h
 clear h;obtain ⟨YF, A4, H⟩ := bE H
 try dsimp only at H
 by_cases c5 : YF = true
 rotate_left
 ·
  replace c5 := Bool.eq_false_iff.mpr c5;subst c5
  rw [if_neg (show ¬ (false = true) by decide)] at H
  exact absurd H (by simp)
 subst c5;rw [if_pos rfl] at H
 by_cases c6 : (l1.length : Int) > 20
 ·
  rw [if_pos c6] at H;have EJ := decide_eq_true c6
  have IX : decide (20 < l1.length) = true := decide_eq_true (by omega)
  clear c6;obtain rfl := Option.some.inj H
  go_enter Try.func4, Try.ntmps4
  go_wp2_with (first | ((with_reducible refine yI (N := 5) rfl ?_); refine yG rfl (N := 5) rfl (cs := #[.int .i64 zn, .int .i64 zz, .int .i64 Bq, .int .i64 AZ]) (t := 47) (by go_simp) ?_; intro ax hg w7 yJ hb; have aa := yf.mk (yJ); have aK := bG (w := w) hg; have aJ := bG (w := w) hg; replace HB := bS HB hb; clear hb yJ hg) | ((with_reducible refine yw (f := 9) rfl ?_); refine gL (some 14) Try.func9 #[] ?_; (with_reducible refine (zN.calls k  true _ A4.out).mono ?_); rintro e w8 ⟨rfl, hb⟩; refine ⟨_, rfl, ?_⟩; replace aa := bB aa hb; replace HB := bS HB hb; clear hb))
  go_ret
  exact ⟨by rfl, bO HB⟩
 rw [if_neg c6] at H;have EJ := decide_eq_false c6
 have IX : decide (20 < l1.length) = false := decide_eq_false (by omega)
 clear c6;obtain ⟨⟨au, ai, ak, aj⟩, A9, H⟩ := bE H
 try dsimp only at H
 obtain ⟨Lg, VJ, H⟩ := bE H
 try dsimp only at H
 obtain ⟨OH, RP, H⟩ := bE H
 try dsimp only at H
 obtain ⟨⟨aG, ay⟩, ZL, H⟩ := bE H
 try dsimp only at H
 obtain ⟨⟨aD, az⟩, A13, H⟩ := bE H
 try dsimp only at H
 by_cases c14 : ay = az
 rotate_left
 ·
  rw [if_neg c14] at H;exact absurd H (by simp)
 rw [if_pos c14] at H;have Jc := beq_iff_eq.mpr c14
 have JW : (ay != az) = false := bne_eq_false_iff_eq.mpr c14
 clear c14;obtain ⟨YG, QP, H⟩ := bE H
 try dsimp only at H
 by_cases c16 : YG = true
 rotate_left
 ·
  replace c16 := Bool.eq_false_iff.mpr c16;subst c16
  rw [if_neg (show ¬ (false = true) by decide)] at H
  exact absurd H (by simp)
 subst c16;rw [if_pos rfl] at H;obtain ⟨YH, A17, H⟩ := bE H
 try dsimp only at H
 by_cases c18 : YH = true
 ·
  subst c18;rw [if_pos rfl] at H;obtain rfl := Option.some.inj H
  go_enter Try.func4, Try.ntmps4
  go_wp2_with (first | ((with_reducible refine yI (N := 5) rfl ?_); refine yG rfl (N := 5) rfl (cs := #[.int .i64 zn, .int .i64 zz, .int .i64 Bq, .int .i64 AZ]) (t := 47) (by go_simp) ?_; intro ax hg w19 yJ hb; have aa := yf.mk (yJ); have aK := bG (w := w) hg; have aJ := bG (w := w) hg; replace HB := bS HB hb; clear hb yJ hg) | ((with_reducible refine yw (f := 9) rfl ?_); refine gL (some 14) Try.func9 #[] ?_; (with_reducible refine (zN.calls k  true _ A4.out).mono ?_); rintro e w20 ⟨rfl, hb⟩; refine ⟨_, rfl, ?_⟩; replace aa := bB aa hb; replace HB := bS HB hb; clear hb) | ((with_reducible refine yw (f := 10) rfl ?_); refine gL (some 20) Try.func10 #[.int .u16 a0] ?_; (with_reducible refine (zh.calls k a0 au ai ak aj _ A9.out).mono ?_); rintro e w21 ⟨v630, rfl, ho0, hb⟩; refine ⟨_, rfl, ?_⟩; have ae := yf.mk (Kd.Eu ho0 (yL (bO HB))); replace aa := bB aa hb; replace HB := bS HB hb; clear hb; clear ho0) | ((with_reducible refine yI (N := 7) rfl ?_); refine yG rfl (N := 7) rfl (cs := #[.int .i64 0, .slice none 0 0, .int .i64 0, .int .i64 0]) (t := 31) (by go_simp) ?_; intro aA hg w22 yJ hb; have ag := yf.mk (yJ); have aN := bG (w := w) hg; have aM := bG (w := w) hg; have aH := Co aa hg; have aI := Ar aa hg; replace ae := EH ae hb; replace aa := bB aa hb; replace HB := bS HB hb; clear hb yJ hg; have a1d := aI.out; have a1e := aH.out; have NK := AP ag; have NL := bf ag; obtain ⟨LQ, JP, a3F⟩ := Kd.Eb ae.out; subst a3F) | ((with_reducible refine yw (f := 11) rfl ?_); refine gL (some 23) Try.func11 #[.agg #[.int .i64 au, .slice LQ ai.length JP, .int .i64 ak, .int .i64 aj], .slice A1 l1.length c1] ?_; (with_reducible refine (yK.calls k au _ _ ai ak aj _ _ l1 Lg _ ?yD ?yF ?zw ?zx VJ.out).mono ?_); (case yD => refine (Kd.zG (e := 63) (base := w.heap.size) (ok := fun k_ => True) (n := ai.length) (c := JP) ?_).2.2; exact (by (with_reducible repeat (apply Kd.Az)); exact (Kd.Bo (GA (g := aA) (Kd.AO ae.out ag.out (by decide)) (fun _ hk => hk.2)) (fun _ h_ => h_.1)))); (case yF => exact (Kd.zG ae.out).2.1); (case zw => exact Kd.Cg HR1.out (bO HB)); (case zx => exact GH.out); rintro e w26 ⟨v636, rfl, ho0, hb⟩; refine ⟨_, rfl, ?_⟩; replace ae := yf.mk (Kd.E9 (by (with_reducible repeat (apply Kd.Az)); exact (Kd.Bo (GA (g := aA) (Kd.AO ae.out ag.out (by decide)) (fun _ hk => hk.2)) (fun _ h_ => h_.1))) hb); have af := yf.mk (Kd.Ay (Kd.ED ho0 (g := ax) (o := .cells #[.int .i64 zn, .int .i64 zz, .int .i64 Bq, .int .i64 AZ] 47 (0, 0)) (CJ aa rfl)) (yL (bO HB))); replace aa := yf.mk (yS (g := ax) (o := .cells #[.int .i64 zn, .int .i64 zz, .int .i64 Bq, .int .i64 AZ] 47 (0, 0)) (CJ aa rfl) hb); replace ag := yf.mk (yS (g := aA) (o := .cells #[.int .i64 au, .slice LQ ai.length JP, .int .i64 ak, .int .i64 aj] 31 (0, 0)) (CJ ag rfl) hb); replace HB := bS HB hb; clear hb; clear ho0; obtain ⟨Gv, Gw, Q0⟩ := Kd.zJ af.out; subst Q0) | ((with_reducible refine yw (f := 16) rfl ?_); refine gL (some 25) Try.func16 #[.slice Gv Lg.length Gw] ?_; (with_reducible refine (Dq.calls _ _ Lg OH _ ?yD ?yF RP.out).mono ?_); (case yD => exact G7 af); (case yF => exact (Kd.yT af.out).2.1); rintro e w28 ⟨v639, rfl, ho0, hb⟩; refine ⟨_, rfl, ?_⟩; have ah := yf.mk (Kd.Ay (Kd.ED (Kd.C8 ho0 (Kd.DV (kR af))) (g := ax) (o := .cells #[.int .i64 zn, .int .i64 zz, .int .i64 Bq, .int .i64 AZ] 47 (0, 0)) (kk aa)) (yL (bO HB))); replace ae := EH ae hb; replace af := yf.mk (Kd.Bb (kR af) (Kd.Bh ho0) hb); replace aa := bB aa hb; replace ag := bB ag hb; replace HB := bS HB hb; clear hb; clear ho0; have WT := AP ag; have WU := bf ag; have RN := AP aa; have RO := bf aa; obtain ⟨Yg, Yh, Yi⟩ := Kd.zJ ah.out; subst Yi) | ((with_reducible refine yw (f := 17) rfl ?_); refine gL (some 30) Try.func17 #[.agg #[.int .i64 au, .slice LQ ai.length JP, .int .i64 ak, .int .i64 aj], .slice Yg OH.length Yh, .agg #[.int .i64 zn, .int .i64 zz, .int .i64 Bq, .int .i64 AZ]] ?_; (with_reducible refine (zl.calls k au _ _ ai ak aj _ _ OH zn zz Bq AZ aG ay _ ?yD ?yF ?zw ?zx ZL.out).mono ?_); (case yD => exact H9 ae); (case yF => exact (Kd.zG ae.out).2.1); (case zw => exact G7 ah); (case zx => exact (Kd.yT ah.out).2.1); rintro e w32 ⟨v642, rfl, ho0, hb⟩; refine ⟨_, rfl, ?_⟩; have av := yf.mk (Kd.Ay (Kd.ED (Kd.C8 (Kd.C8 ho0 (Kd.DV (kR af))) (Kd.DV (kR ah))) (g := ax) (o := .cells #[.int .i64 zn, .int .i64 zz, .int .i64 Bq, .int .i64 AZ] 47 (0, 0)) (kk aa)) (yL (bO HB))); replace ae := EH ae hb; replace af := yf.mk (Kd.Bb (kR af) (Kd.Bh ho0) hb); replace ah := yf.mk (Kd.Bb (kR ah) (Kd.Bh ho0) hb); replace aa := bB aa hb; replace ag := bB ag hb; replace HB := bS HB hb; clear hb; clear ho0; have Je := AP ag; have Jf := bf ag; have Ns := AP aa; have Nt := bf aa) | ((with_reducible refine yw (f := 18) rfl ?_); refine gL (some 37) Try.func18 #[.agg #[.int .i64 au, .slice LQ ai.length JP, .int .i64 ak, .int .i64 aj], .slice Gv Lg.length Gw, .agg #[.int .i64 zn, .int .i64 zz, .int .i64 Bq, .int .i64 AZ]] ?_; (with_reducible refine (Aq.calls k au _ _ ai ak aj _ _ Lg zn zz Bq AZ aD az _ ?yD ?yF ?zw ?zx A13.out).mono ?_); (case yD => exact H9 ae); (case yF => exact (Kd.zG ae.out).2.1); (case zw => exact G7 af); (case zx => exact (Kd.yT af.out).2.1); rintro e w35 ⟨v646, rfl, ho0, hb⟩; refine ⟨_, rfl, ?_⟩; have aC := yf.mk (Kd.Ay (Kd.ED (Kd.C8 (Kd.C8 (Kd.C8 ho0 (Kd.DV (kR af))) (Kd.DV (kR ah))) (Kd.DV (kR av))) (g := ax) (o := .cells #[.int .i64 zn, .int .i64 zz, .int .i64 Bq, .int .i64 AZ] 47 (0, 0)) (kk aa)) (yL (bO HB))); replace ae := EH ae hb; replace af := yf.mk (Kd.Bb (kR af) (Kd.Bh ho0) hb); replace ah := yf.mk (Kd.Bb (kR ah) (Kd.Bh ho0) hb); replace av := yf.mk (Kd.Bb (kR av) (Kd.Bh ho0) hb); replace aa := bB aa hb; replace ag := bB ag hb; replace HB := bS HB hb; clear hb; clear ho0; obtain ⟨FQ, FI, Xl⟩ := Kd.zJ av.out; subst Xl; obtain ⟨Sm, Kl, a3T⟩ := Kd.zJ aC.out; subst a3T) | (go_at_call 19; (with_reducible refine (Am.calls k _ _ aG _ _ aD true _ ?yD ?yF ?zw ?zx QP.out).mono ?_); (case yD => exact G7 av); (case yF => exact (Kd.yT av.out).2.1); (case zw => exact G7 aC); (case zx => exact (Kd.yT aC.out).2.1); rintro e w' ⟨rfl, ⟨nd, rfl⟩⟩) | (go_at_call 19; (with_reducible refine (Am.calls k _ _ OH _ _ Lg true _ ?yD ?yF ?zw ?zx A17.out).mono ?_); (case yD => exact G7 ah); (case yF => exact (Kd.yT ah.out).2.1); (case zw => exact G7 af); (case zx => exact (Kd.yT af.out).2.1); rintro e w' ⟨rfl, ⟨nd, rfl⟩⟩))
  go_ret
  exact ⟨by rfl, bO HB⟩
 replace c18 := Bool.eq_false_iff.mpr c18;subst c18
 rw [if_neg (show ¬ (false = true) by decide)] at H
 exact absurd H (by simp)
end Go.Proofs.Ytjonnfmoocijlaa.P
namespace Go.Proofs.Ytjonnfmoocijlaa.P
open Go.RowKit Go.Proofs.YtjonnfmoocijlaaKW.PrintWords
theorem OI (x : Int) (raw : List Int) (a b c e : Int) (h0 : 0 ≤ x) (h1 : x < 65536) (hraw : ∀ b ∈ raw, 0 ≤ b ∧ b < 256) : Ev (fun k => Da.f k x raw a b c e) true := by
  unfold Da.f
  refine DN Jy (AJ rfl ?_)
  by_cases hl : (raw.length : Int) > 20
  · exact AJ hl (Ev.now _)
  refine BQ hl ?_
  obtain ⟨d, L, w, n, r, T, S, hs, H⟩ := Jo x h0 h1
  refine DN hs ?_
  obtain ⟨ms, hm, hv, hml⟩ := H.NZ raw hraw (by omega)
  refine DN hm (GJ (a := ms) ?_ ?_)
  · unfold Dq.f
    rw [Option.bind_some, if_pos (by rw [List.length_nil]; omega), List.nil_append]
  have hms : ms.length ≤ 900 := by omega
  have hlen := H.TR ms ⟨a, b, ⟨c, e⟩⟩
  refine DN (H.LU ms hms hv ⟨a, b, ⟨c, e⟩⟩) (DN (H.Yp ms hms ⟨a, b, ⟨c, e⟩⟩) (AJ rfl (DN (Qr _ (by omega)) (AJ rfl (DN (Qr ms (by omega)) (AJ rfl (Ev.now _)))))))
end Go.Proofs.Ytjonnfmoocijlaa.P
