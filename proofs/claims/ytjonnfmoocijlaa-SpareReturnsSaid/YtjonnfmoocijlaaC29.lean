/- Texts of a claim, packed. -/
import Derived.Test.YtjonnfmoocijlaaC28
set_option linter.all false
namespace Go.Proofs.Ytjonnfmoocijlaa.P
open Go.RowKit Go.Proofs.YtjonnfmoocijlaaKW.PrintWords Go.Proofs.YtjonnfmoocijlaaKW.PrintLast Go.Proofs.YtjonnfmoocijlaaKW.PrintMore
attribute [local go_sem] zO zP Aj Ak zC zD zQ zR
mutual
def yV.j0 : Nat → Int → List Bool → Bool → Int → List (List Int) → Int → Int → Int → List (List Int) → Int → Int → List (AX) → Int → Int → Option (Int × Int × Int)
 | 0, _, _, _, _, _, _, _, _, _, _, _, _, _, _ => none
 | k + 1, x2, x3, x26, av, ay, ax, au, aj, ai, af, ag, ak, ae, ah => if x26 = true then (some (0, 0, 1)) else (if x2 < 0 then (some (0, 0, 2)) else ((CL.f k av ay ax au).bind fun Ql => (if x2 ≥ Ql then (some (0, 0, 2)) else ((yP.f k aj ai af ag ak ae ah x2).bind fun Js => (yV.l0 k x3 Js (-1) au av 0 aj ai af ag ak ae ah)))))
def yV.l0 : Nat → List Bool → List Int → Int → Int → Int → Int → Int → List (List Int) → Int → Int → List (AX) → Int → Int → Option (Int × Int × Int)
 | 0, _, _, _, _, _, _, _, _, _, _, _, _, _ => none
 | k + 1, x3, Ga, F6, IG, x55, aa, aj, ai, af, ag, ak, ae, ah => if aa < x55 then ((zU.f k aj ai af ag ak ae ah aa).bind fun Ka => (if 0 ≤ aa then (if aa < (x3.length : Int) then (if Ha false x3 aa = true then (yV.j2 k x3 Ga F6 IG aa (Ka.length : Int) x55 aa false aj ai af ag ak ae ah) else ((slices_Contains_int.f k Ga aa).bind fun XT => (if XT = true then (yV.j2 k x3 Ga F6 IG aa (Ka.length : Int) x55 aa false aj ai af ag ak ae ah) else (yV.j2 k x3 Ga F6 IG aa (Ka.length : Int) x55 aa (decide ((Ka.length : Int) < IG)) aj ai af ag ak ae ah)))) else (none)) else (none))) else (if F6 < 0 then (some (0, 0, 11)) else ((zU.f k aj ai af ag ak ae ah F6).bind fun IZ => (yV.l1 k F6 ae IZ (IZ.length : Int) 0)))
def yV.j2 : Nat → List Bool → List Int → Int → Int → Int → Int → Int → Int → Bool → Int → List (List Int) → Int → Int → List (AX) → Int → Int → Option (Int × Int × Int)
 | 0, _, _, _, _, _, _, _, _, _, _, _, _, _, _, _, _ => none
 | k + 1, x3, Ga, F6, IG, Ig, KI, x55, aa, az, aj, ai, af, ag, ak, ae, ah => if az = true then (yV.l0 k x3 Ga Ig KI x55 (wrap64 (aa + 1)) aj ai af ag ak ae ah) else (yV.l0 k x3 Ga F6 IG x55 (wrap64 (aa + 1)) aj ai af ag ak ae ah)
def yV.l1 : Nat → Int → Int → List Int → Int → Int → Option (Int × Int × Int)
 | 0, _, _, _, _, _ => none
 | k + 1, F6, ZA, x89, x90, x91 => if x91 < x90 then (if 0 ≤ x91 then (if x91 < (x89.length : Int) then (if (rd x89 x91) = ZA then (yV.l1 k F6 (wrap64 (ZA + 1)) x89 x90 (wrap64 (x91 + 1))) else (yV.l1 k F6 ZA x89 x90 (wrap64 (x91 + 1)))) else (none)) else (none)) else (some (F6, ZA, 0))
end
def yV.f (k : Nat) (yn : Int) (yh : List (List Int)) (yo : Int) (yu : Int) (l1 : List (AX)) (a2 : Int) (l3 : List Bool) : Option (Int × Int × Int) := (zb.f k yn yh yo yu l1).bind fun Ee => (if Ee.2.2.2.2.2.2.2 = true then (yV.j0 k a2 l3 ((l3.length : Int) != yn) yn yh yo yu Ee.1 Ee.2.1 Ee.2.2.1 Ee.2.2.2.1 Ee.2.2.2.2.1 Ee.2.2.2.2.2.1 Ee.2.2.2.2.2.2.1) else (yV.j0 k a2 l3 true yn yh yo yu Ee.1 Ee.2.1 Ee.2.2.1 Ee.2.2.2.1 Ee.2.2.2.2.1 Ee.2.2.2.2.2.1 Ee.2.2.2.2.2.2.1))
set_option maxHeartbeats 8000000 in
set_option maxRecDepth 100000 in
theorem yV.calls (k : Nat) (yn : Int) (yQ : Option Addr) (yM : Nat) (yh : List (List Int)) (yo : Int) (yu : Int) (A1 : Option Addr) (c1 : Nat) (l1 : List (AX)) (a2 : Int) (A3 : Option Addr) (c3 : Nat) (l3 : List Bool) (r1 : Int) (r2 : Int) (r3 : Int) (w : World) (Ah : Kd.C (Kd.slice 3 (Kd.int .i64)) w yQ yh.length yh) (Ai : yh.length ≤ yM) (hr1 : Kd.C CS w A1 l1.length l1) (hc1 : l1.length ≤ c1) (hr3 : Kd.C Kd.bool w A3 l3.length l3) (hc3 : l3.length ≤ c3) (h : yV.f k yn yh yo yu l1 a2 l3 = some (r1, r2, r3)) :
  Calls Try.prog 13 #[.agg #[.int .i64 yn, .slice yQ yh.length yM, .int .i64 yo, .int .i64 yu], .slice A1 l1.length c1, .int .i64 a2, .slice A3 l3.length c3] w fun e w' => e = .returned (.tuple #[.agg #[.int .i64 r1, .int .i64 r2], .int .i64 r3]) ∧ Below w.heap.size w w' := by
 have FH := Try.underlying31;have Jd := Try.underlying38;have NS := Try.underlying71;have zA := yf.mk Ah;have zK := yf.mk Ai;clear Ah Ai;have HR1 := yf.mk hr1;have GH := yf.mk hc1;clear hr1 hc1;have HR3 := yf.mk hr3;have HC3 := yf.mk hc3;clear hr3 hc3;have HB := yf.mk (Below.refl w.heap.size w)
 have H : ((zb.f k yn yh yo yu l1).bind fun Ee => (if Ee.2.2.2.2.2.2.2 = true then (yV.j0 k a2 l3 ((l3.length : Int) != yn) yn yh yo yu Ee.1 Ee.2.1 Ee.2.2.1 Ee.2.2.2.1 Ee.2.2.2.2.1 Ee.2.2.2.2.2.1 Ee.2.2.2.2.2.2.1) else (yV.j0 k a2 l3 true yn yh yo yu Ee.1 Ee.2.1 Ee.2.2.1 Ee.2.2.2.1 Ee.2.2.2.2.1 Ee.2.2.2.2.2.1 Ee.2.2.2.2.2.2.1))) = some (r1, r2, r3) := h
 clear h;obtain ⟨⟨aA, ak, aC, az, aj, ax, ay, bU⟩, A5, H⟩ := bE H
 try dsimp only at H
 have bL := yf.mk H;clear H
 go_enter Try.func13, Try.ntmps13
 go_upto_region 2 with (first | ((with_reducible refine yI (N := 4) rfl ?_); (try (refine Ab (by rfl) ?_; dsimp only)); refine yG rfl (N := 4) rfl (cs := #[.int .i64 yn, .slice yQ yh.length yM, .int .i64 yo, .int .i64 yu]) (t := 31) (by go_simp) ?_; intro Fe hg w7 yJ hb; have BA := yf.mk (yJ); have Mq := bG (w := w) hg; have UD := bG (w := w) hg; replace HB := bS HB hb; clear hb yJ hg) | ((with_reducible refine yI (N := 8) rfl ?_); (try (refine Ab (by rfl) ?_; dsimp only)); refine yG rfl (N := 8) rfl (cs := #[.int .i64 0, .int .i64 0]) (t := 38) (by go_simp) ?_; intro av hg w8 yJ hb; have aa := yf.mk (yJ); have bH := bG (w := w) hg; have dx := bG (w := w) hg; have aU := Co BA hg; have aQ := Ar BA hg; replace BA := bB BA hb; replace HB := bS HB hb; clear hb yJ hg; have a5G := aU.out; have a5H := aQ.out; have KW := AP BA; have KX := bf BA) | (go_at_call 33; (with_reducible refine (zb.calls k yn (fun k_ => k_ < w.heap.size) _ _ yh yo yu (fun k_ => k_ < w.heap.size) _ _ l1 aA ak aC az aj ax ay bU _ ?yD ?yF A5.out).mono ?_); (case yD => exact Kd.GK zK.out (Kd.CE (Kd.Nb (Kd.D5 3 (Kd.Dj .i64)) zA.out) (bO HB))); (case yF => exact Kd.GK GH.out (Kd.CE (Kd.Nb FN HR1.out) (bO HB))); rintro e w11 ⟨v239, v244, rfl, ho0, ho1, hb⟩; have bu := yf.mk (Kd.Cc (Kd.z8 (ok' := fun k_ => k_ ≠ Fe ∧ k_ ≠ av) ho0 (fun k_ E8 => ⟨Or.elim E8 (fun hs_ => Or.elim hs_ (fun hs_ => fun e_ => Nat.not_le.2 hs_ (by rw [e_]; exact Mq.out)) (fun hs_ => fun e_ => Nat.not_le.2 hs_ (by rw [e_]; exact Mq.out))) (fun DC => (Kd.Bj (g := Fe) (o := .cells #[.int .i64 yn, .slice yQ yh.length yM, .int .i64 yo, .int .i64 yu] 31 (0, 0)) (kk BA) k_ DC)), Or.elim E8 (fun hs_ => Or.elim hs_ (fun hs_ => fun e_ => Nat.not_le.2 hs_ (by rw [e_]; exact bH.out)) (fun hs_ => fun e_ => Nat.not_le.2 hs_ (by rw [e_]; exact bH.out))) (fun DC => (Kd.Bj (g := av) (o := .cells #[.int .i64 0, .int .i64 0] 38 (0, 0)) (kk aa) k_ DC))⟩)) (yL (bO HB))); have bv := yf.mk (Kd.Cc (Kd.z8 (ok' := fun k_ => k_ ≠ Fe ∧ k_ ≠ av) ho1 (fun k_ E8 => ⟨Or.elim E8 (fun hs_ => Or.elim hs_ (fun hs_ => fun e_ => Nat.not_le.2 hs_ (by rw [e_]; exact Mq.out)) (fun hs_ => fun e_ => Nat.not_le.2 hs_ (by rw [e_]; exact Mq.out))) (fun DC => (Kd.Bj (g := Fe) (o := .cells #[.int .i64 yn, .slice yQ yh.length yM, .int .i64 yo, .int .i64 yu] 31 (0, 0)) (kk BA) k_ DC)), Or.elim E8 (fun hs_ => Or.elim hs_ (fun hs_ => fun e_ => Nat.not_le.2 hs_ (by rw [e_]; exact bH.out)) (fun hs_ => fun e_ => Nat.not_le.2 hs_ (by rw [e_]; exact bH.out))) (fun DC => (Kd.Bj (g := av) (o := .cells #[.int .i64 0, .int .i64 0] 38 (0, 0)) (kk aa) k_ DC))⟩)) (yL (bO HB))); replace BA := bB BA hb; replace aa := bB aa hb; replace HB := bS HB hb; clear hb; clear ho0; clear ho1) | ((with_reducible refine yI (N := 10) rfl ?_); (try (refine Ab (by rfl) ?_; dsimp only)); refine yG rfl (N := 10) rfl (cs := #[.int .i64 0, .slice none 0 0, .int .i64 0, .int .i64 0, .slice none 0 0, .int .i64 0, .int .i64 0]) (t := 71) (by go_simp) ?_; intro au hg w12 yJ hb; have ae := yf.mk (yJ); have df := bG (w := w) hg; have dA := bG (w := w) hg; have bi := Co BA hg; have bg := Ar BA hg; have aH := Co aa hg; have aG := Ar aa hg; replace bu := yf.mk (Kd.Ao (Kd.Bf (kV bu) au (Nat.le_of_eq hg.symm)) hb); replace bv := yf.mk (Kd.Ao (Kd.Bf (kV bv) au (Nat.le_of_eq hg.symm)) hb); replace BA := bB BA hb; replace aa := bB aa hb; replace HB := bS HB hb; clear hb yJ hg; have Xz := bg.out; have XA := bi.out; have a5g := aG.out; have a5h := aH.out; have R8 := Gt ae; have R9 := bf ae; obtain ⟨Q4, Q5, a2h⟩ := Kd.Cb bu.out; subst a2h; obtain ⟨Q6, Q7, a2i⟩ := Kd.Cb bv.out; subst a2i))
 repeat (go_quiet (((with_reducible refine yI (N := 4) rfl ?_); (try (refine Ab (by rfl) ?_; dsimp only)); refine yG rfl (N := 4) rfl (cs := #[.int .i64 yn, .slice yQ yh.length yM, .int .i64 yo, .int .i64 yu]) (t := 31) (by go_simp) ?_; intro Fe hg w7 yJ hb; have BA := yf.mk (yJ); have Mq := bG (w := w) hg; have UD := bG (w := w) hg; replace HB := bS HB hb; clear hb yJ hg)); go_upto_region 2 with (((with_reducible refine yI (N := 4) rfl ?_); (try (refine Ab (by rfl) ?_; dsimp only)); refine yG rfl (N := 4) rfl (cs := #[.int .i64 yn, .slice yQ yh.length yM, .int .i64 yo, .int .i64 yu]) (t := 31) (by go_simp) ?_; intro Fe hg w7 yJ hb; have BA := yf.mk (yJ); have Mq := bG (w := w) hg; have UD := bG (w := w) hg; replace HB := bS HB hb; clear hb yJ hg)))
 (try simp only [pz])
 go_cut [26] (fun v26 wc => ∃ (kq : Nat) (bJ : Bool), v26 = .bool bJ ∧ yf (yV.j0 kq a2 l3 bJ yn yh yo yu aA ak aC az aj ax ay = some (r1, r2, r3)) ∧ yf (kq ≤ k) ∧ yf (Kd.V (Kd.slice 3 (Kd.int .i64)) 63 wc w.heap.size (fun k_ => k_ ≠ Fe ∧ k_ ≠ av ∧ k_ ≠ au) (.slice Q4 ak.length Q5) ak) ∧ yf (Kd.V CS 47 wc w.heap.size (fun k_ => k_ ≠ Fe ∧ k_ ≠ av ∧ k_ ≠ au) (.slice Q6 aj.length Q7) aj) ∧ yf (wc.heap[Fe]? = some (.cells #[.int .i64 yn, (.slice yQ yh.length yM), .int .i64 yo, .int .i64 yu] 31 (0, 0))) ∧ yf (wc.heap[av]? = some (.cells #[.int .i64 0, .int .i64 0] 38 (0, 0))) ∧ yf (wc.heap[au]? = some (.cells #[.int .i64 aA, (.slice Q4 ak.length Q5), .int .i64 aC, .int .i64 az, (.slice Q6 aj.length Q7), .int .i64 ax, .int .i64 ay] 71 (0, 0))) ∧ yf (Below w.heap.size w wc))
 case first =>
  have H := bL.out;clear bL
  by_cases c18 : bU = true
  rotate_left
  ·
   replace c18 := Bool.eq_false_iff.mpr c18;subst c18
   rw [if_neg (show ¬ (false = true) by decide)] at H
   have H' := yf.mk H;clear H
   go_wp2
   repeat (go_quiet (fail); try go_wp2)
   go_meet
   case rel => exact ⟨_, (true), (by rfl), H', ⟨by omega⟩, ⟨by (with_reducible repeat (apply Kd.Ap)); exact Kd.z8 (FZ (g := au) (Kd.z8 bu.out (fun k_ hk => (⟨hk, hk.2⟩ : _ ∧ k_ ≠ au))) (fun _ hk => hk.2)) (fun _ hk => ⟨hk.1.1.1, ⟨hk.1.1.2, hk.1.2⟩⟩)⟩, ⟨by (with_reducible repeat (apply Kd.Ap)); exact Kd.z8 (FZ (g := au) (Kd.z8 bv.out (fun k_ hk => (⟨hk, hk.2⟩ : _ ∧ k_ ≠ au))) (fun _ hk => hk.2)) (fun _ hk => ⟨hk.1.1.1, ⟨hk.1.1.2, hk.1.2⟩⟩)⟩, bK BA rfl, bK aa rfl, bK ae rfl, ⟨bO HB⟩⟩
  subst c18;rw [if_pos rfl] at H;have H' := yf.mk H;clear H;have a0R := aU.out;have a0S := aQ.out;have XU := bi.out;have XV := bg.out;have ND := AP BA;have NE := bf BA
  go_wp2
  repeat (go_quiet (fail); try go_wp2)
  go_meet
  case rel => exact ⟨_, (((l3.length : Int) != yn)), (by rfl), H', ⟨by omega⟩, ⟨by (with_reducible repeat (apply Kd.Ap)); exact Kd.z8 (FZ (g := au) (Kd.z8 bu.out (fun k_ hk => (⟨hk, hk.2⟩ : _ ∧ k_ ≠ au))) (fun _ hk => hk.2)) (fun _ hk => ⟨hk.1.1.1, ⟨hk.1.1.2, hk.1.2⟩⟩)⟩, ⟨by (with_reducible repeat (apply Kd.Ap)); exact Kd.z8 (FZ (g := au) (Kd.z8 bv.out (fun k_ hk => (⟨hk, hk.2⟩ : _ ∧ k_ ≠ au))) (fun _ hk => hk.2)) (fun _ hk => ⟨hk.1.1.1, ⟨hk.1.1.2, hk.1.2⟩⟩)⟩, bK BA rfl, bK aa rfl, bK ae rfl, ⟨bO HB⟩⟩
 case rest =>
 clear bL KW R8 KX R9;obtain ⟨kq, bJ, rfl, HA, aI, ag, af, BA, aa, ae, HB⟩ := hcut
 cases kq with
 | zero => exact absurd HA.out (by simp [yV.j0])
 | succ aN =>
  have H := HA.out;clear HA;simp only [yV.j0] at H
  by_cases Ih : bJ = true
  ·
   subst Ih;rw [if_pos rfl] at H;simp only [Option.some.injEq, Prod.mk.injEq] at H;obtain ⟨rfl, rfl, rfl⟩ := H;have a1d := aQ.out;have a1e := aU.out;have QQ := aH.out;have QR := aG.out;have KM := bc2 aa;have KN := bf aa
   go_wp2
   repeat (go_quiet (fail); try go_wp2)
   refine bodyPost_ret (BS rfl _ _ av 38 #[.int .i64 0, .int .i64 0] (0, 0) _ rfl (CJ aa rfl) Try.underlying38 rfl (by kernel_rfl)) rfl ?_
   exact ⟨by rfl, bO HB⟩
  ·
   replace Ih := Bool.eq_false_iff.mpr Ih;subst Ih
   rw [if_neg (show ¬ (false = true) by decide)] at H
   by_cases Qu : a2 < 0
   ·
    rw [if_pos Qu] at H;have Uo := decide_eq_true Qu;clear Qu;simp only [Option.some.injEq, Prod.mk.injEq] at H;obtain ⟨rfl, rfl, rfl⟩ := H;have a5d := aQ.out;have a5e := aU.out;have a0n := aH.out;have a0o := aG.out;have WT := bc2 aa;have WU := bf aa
    go_wp2
    repeat (go_quiet (fail); try go_wp2)
    refine bodyPost_ret (BS rfl _ _ av 38 #[.int .i64 0, .int .i64 0] (0, 0) _ rfl (CJ aa rfl) Try.underlying38 rfl (by kernel_rfl)) rfl ?_
    exact ⟨by rfl, bO HB⟩
   ·
    rw [if_neg Qu] at H;have Uo := decide_eq_false Qu;clear Qu;obtain ⟨Ql, A30, H⟩ := bE H
    try dsimp only at H
    by_cases c31 : a2 ≥ Ql
    ·
     rw [if_pos c31] at H;have OQ := decide_eq_true c31;clear c31;simp only [Option.some.injEq, Prod.mk.injEq] at H;obtain ⟨rfl, rfl, rfl⟩ := H;have P8 := aU.out;have P9 := aQ.out;have WZ := bi.out;have X0 := bg.out;have Ns := AP BA;have Nt := bf BA
     go_wp2_with ((go_at_call 34; (with_reducible refine (CL.calls aN yn _ _ yh yo yu Ql _ ?yD ?yF A30.out).mono ?_); (case yD => exact Di zA); (case yF => exact zK.out); rintro e w35 ⟨rfl, hb⟩; replace ag := Om ag hb; replace af := Om af hb; replace BA := bB BA hb; replace aa := bB aa hb; replace ae := bB ae hb; replace HB := bS HB hb; clear hb; have Rk := aH.out; have Rl := aG.out; have KS := bc2 aa; have KT := bf aa))
     repeat (go_quiet ((go_at_call 34; (with_reducible refine (CL.calls aN yn _ _ yh yo yu Ql _ ?yD ?yF A30.out).mono ?_); (case yD => exact Di zA); (case yF => exact zK.out); rintro e w35 ⟨rfl, hb⟩; replace ag := Om ag hb; replace af := Om af hb; replace BA := bB BA hb; replace aa := bB aa hb; replace ae := bB ae hb; replace HB := bS HB hb; have Rk := aH.out; have Rl := aG.out; have KS := bc2 aa; have KT := bf aa)); try go_wp2_with ((go_at_call 34; (with_reducible refine (CL.calls aN yn _ _ yh yo yu Ql _ ?yD ?yF A30.out).mono ?_); (case yD => exact Di zA); (case yF => exact zK.out); rintro e w35 ⟨rfl, hb⟩; replace ag := Om ag hb; replace af := Om af hb; replace BA := bB BA hb; replace aa := bB aa hb; replace ae := bB ae hb; replace HB := bS HB hb; have Rk := aH.out; have Rl := aG.out; have KS := bc2 aa; have KT := bf aa)))
     refine bodyPost_ret (BS rfl _ _ av 38 #[.int .i64 0, .int .i64 0] (0, 0) _ rfl (CJ aa rfl) Try.underlying38 rfl (by kernel_rfl)) rfl ?_
     exact ⟨by rfl, bO HB⟩
    ·
     rw [if_neg c31] at H;have OQ := decide_eq_false c31;clear c31;obtain ⟨Js, cK, H⟩ := bE H
     try dsimp only at H
     have H' := yf.mk H;clear H;have a0t := aU.out;have a0u := aQ.out;have X3 := bi.out;have X4 := bg.out;have P6 := AP BA;have P7 := bf BA
     go_wp2_with (first | (go_at_call 34; (with_reducible refine (CL.calls aN yn _ _ yh yo yu Ql _ ?yD ?yF A30.out).mono ?_); (case yD => exact Di zA); (case yF => exact zK.out); rintro e w42 ⟨rfl, hb⟩; replace ag := Om ag hb; replace af := Om af hb; replace BA := bB BA hb; replace aa := bB aa hb; replace ae := bB ae hb; replace HB := bS HB hb; clear hb; have XW := aG.out; have XX := aH.out; have UJ := Gt ae; have UK := bf ae) | (go_at_call 35; (with_reducible refine (yP.calls aN aA _ _ ak aC az _ _ aj ax ay a2 Js _ ?yD ?yF ?zw ?zx cK.out).mono ?_); (case yD => exact Oo ag); (case yF => exact (Kd.zW ag.out).2.1); (case zw => exact Oo af); (case zx => exact (Kd.zW af.out).2.1); rintro e w45 ⟨v252, rfl, ho0, hb⟩; replace ag := yf.mk (Kd.Dk (kV ag) (Kd.Bh ho0) hb); replace af := yf.mk (Kd.Dk (kV af) (Kd.Bh ho0) hb); have bZ := yf.mk (Kd.Ay ho0 (yL (bO HB))); replace BA := bB BA hb; replace aa := bB aa hb; replace ae := bB ae hb; replace HB := bS HB hb; clear hb; clear ho0; have QX := AP BA; have QY := bf BA))
     repeat (go_quiet ((go_at_call 34; (with_reducible refine (CL.calls aN yn _ _ yh yo yu Ql _ ?yD ?yF A30.out).mono ?_); (case yD => exact Di zA); (case yF => exact zK.out); rintro e w42 ⟨rfl, hb⟩; replace ag := Om ag hb; replace af := Om af hb; replace BA := bB BA hb; replace aa := bB aa hb; replace ae := bB ae hb; replace HB := bS HB hb; have XW := aG.out; have XX := aH.out; have UJ := Gt ae; have UK := bf ae)); try go_wp2_with ((go_at_call 34; (with_reducible refine (CL.calls aN yn _ _ yh yo yu Ql _ ?yD ?yF A30.out).mono ?_); (case yD => exact Di zA); (case yF => exact zK.out); rintro e w42 ⟨rfl, hb⟩; replace ag := Om ag hb; replace af := Om af hb; replace BA := bB BA hb; replace aa := bB aa hb; replace ae := bB ae hb; replace HB := bS HB hb; have XW := aG.out; have XX := aH.out; have UJ := Gt ae; have UK := bf ae)))
     go_loopg [13, 14, 56] aN (fun kq v13 v14 v56 w' => ∃ (BF : Int) (Ef : Int) (ai : Int), v13 = .int .i64 BF ∧ v14 = .int .i64 Ef ∧ v56 = .int .i64 ai ∧ yf (yV.l0 kq l3 Js BF Ef yn ai aA ak aC az aj ax ay = some (r1, r2, r3)) ∧ yf (kq ≤ aN) ∧ yf (Kd.R (Kd.int .i64) 3 w' w.heap.size (fun _ => True) v252 Js) ∧ yf (Kd.V (Kd.slice 3 (Kd.int .i64)) 63 w' w.heap.size (fun k_ => some k_ ≠ (v252 : Value).ownBlock ∧ k_ ≠ Fe ∧ k_ ≠ av ∧ k_ ≠ au) (.slice Q4 ak.length Q5) ak) ∧ yf (Kd.V CS 47 w' w.heap.size (fun k_ => some k_ ≠ (v252 : Value).ownBlock ∧ k_ ≠ Fe ∧ k_ ≠ av ∧ k_ ≠ au) (.slice Q6 aj.length Q7) aj) ∧ yf (w'.heap[Fe]? = some (.cells #[.int .i64 yn, (.slice yQ yh.length yM), .int .i64 yo, .int .i64 yu] 31 (0, 0))) ∧ yf (w'.heap[av]? = some (.cells #[.int .i64 0, .int .i64 0] 38 (0, 0))) ∧ yf (w'.heap[au]? = some (.cells #[.int .i64 aA, (.slice Q4 ak.length Q5), .int .i64 aC, .int .i64 az, (.slice Q6 aj.length Q7), .int .i64 ax, .int .i64 ay] 71 (0, 0))) ∧ yf (Below w.heap.size w w'))
     case atStart => exact ⟨((-1)), (yu), (0), (by rfl), (by rfl), (by rfl), H', ⟨Nat.le_refl _⟩, ⟨kR bZ⟩, ⟨by (with_reducible repeat (apply Kd.JG)); exact Kd.z8 ag.out (fun _ hk => ⟨hk.2, ⟨hk.1.1, ⟨hk.1.2.1, hk.1.2.2⟩⟩⟩)⟩, ⟨by (with_reducible repeat (apply Kd.JG)); exact Kd.z8 af.out (fun _ hk => ⟨hk.2, ⟨hk.1.1, ⟨hk.1.2.1, hk.1.2.2⟩⟩⟩)⟩, ⟨kk BA⟩, ⟨kk aa⟩, ⟨kk ae⟩, ⟨bO HB⟩⟩
     case round =>
      clear H' Uo OQ P6 UJ QX P7 UK QY;obtain ⟨BF, Ef, ai, rfl, rfl, rfl, HA, D6, ah, ag, af, BA, aa, ae, HB⟩ := hrel
      cases gk with
      | zero => exact absurd HA.out (by simp [yV.l0])
      | succ k2 =>
       have H := HA.out;clear HA;simp only [yV.l0] at H
       by_cases J2 : ai < yn
       ·
        rw [if_pos J2] at H;have KF := decide_eq_true J2;clear J2;obtain ⟨Ka, A48, H⟩ := bE H
        try dsimp only at H
        have bN := yf.mk H;clear H;have Pj := bg.out;have Pm := bi.out;have Ut := aG.out;have Uu := aH.out;have Rm := Gt ae;have Rn := bf ae
        go_upto_region 12 with ((go_at_call 36; (with_reducible refine (zU.calls k2 aA _ _ ak aC az _ _ aj ax ay ai Ka _ ?yD ?yF ?zw ?zx A48.out).mono ?_); (case yD => exact Oo ag); (case yF => exact (Kd.zW ag.out).2.1); (case zw => exact Oo af); (case zx => exact (Kd.zW af.out).2.1); rintro e w53 ⟨v255, rfl, ho0, hb⟩; have bq := yf.mk (Kd.Ay (Kd.C8 ho0 (Kd.DV (kR ah))) (yL (bO HB))); replace ah := yf.mk (Kd.Bb (kR ah) (Kd.Bh ho0) hb); replace ag := yf.mk (Kd.Dk (kV ag) (Kd.Bh ho0) hb); replace af := yf.mk (Kd.Dk (kV af) (Kd.Bh ho0) hb); replace BA := bB BA hb; replace aa := bB aa hb; replace ae := bB ae hb; replace HB := bS HB hb; clear hb; clear ho0; obtain ⟨Ww, Wx, Q8⟩ := Kd.zJ bq.out; subst Q8))
        repeat (go_quiet ((go_at_call 36; (with_reducible refine (zU.calls k2 aA _ _ ak aC az _ _ aj ax ay ai Ka _ ?yD ?yF ?zw ?zx A48.out).mono ?_); (case yD => exact Oo ag); (case yF => exact (Kd.zW ag.out).2.1); (case zw => exact Oo af); (case zx => exact (Kd.zW af.out).2.1); rintro e w53 ⟨v255, rfl, ho0, hb⟩; have bq := yf.mk (Kd.Ay (Kd.C8 ho0 (Kd.DV (kR ah))) (yL (bO HB))); replace ah := yf.mk (Kd.Bb (kR ah) (Kd.Bh ho0) hb); replace ag := yf.mk (Kd.Dk (kV ag) (Kd.Bh ho0) hb); replace af := yf.mk (Kd.Dk (kV af) (Kd.Bh ho0) hb); replace BA := bB BA hb; replace aa := bB aa hb; replace ae := bB ae hb; replace HB := bS HB hb; obtain ⟨Ww, Wx, Q8⟩ := Kd.zJ bq.out; subst Q8)); go_upto_region 12 with ((go_at_call 36; (with_reducible refine (zU.calls k2 aA _ _ ak aC az _ _ aj ax ay ai Ka _ ?yD ?yF ?zw ?zx A48.out).mono ?_); (case yD => exact Oo ag); (case yF => exact (Kd.zW ag.out).2.1); (case zw => exact Oo af); (case zx => exact (Kd.zW af.out).2.1); rintro e w53 ⟨v255, rfl, ho0, hb⟩; have bq := yf.mk (Kd.Ay (Kd.C8 ho0 (Kd.DV (kR ah))) (yL (bO HB))); replace ah := yf.mk (Kd.Bb (kR ah) (Kd.Bh ho0) hb); replace ag := yf.mk (Kd.Dk (kV ag) (Kd.Bh ho0) hb); replace af := yf.mk (Kd.Dk (kV af) (Kd.Bh ho0) hb); replace BA := bB BA hb; replace aa := bB aa hb; replace ae := bB ae hb; replace HB := bS HB hb; obtain ⟨Ww, Wx, Q8⟩ := Kd.zJ bq.out; subst Q8)))
        (try simp only [pz])
        go_cut [78] (fun v78 wc => ∃ (kq : Nat) (bF : Bool), v78 = .bool bF ∧ yf (yV.j2 kq l3 Js BF Ef ai (Ka.length : Int) yn ai bF aA ak aC az aj ax ay = some (r1, r2, r3)) ∧ yf (kq ≤ k2) ∧ yf (Kd.R (Kd.int .i64) 3 wc w.heap.size (fun _ => True) v252 Js) ∧ yf (Kd.V (Kd.slice 3 (Kd.int .i64)) 63 wc w.heap.size (fun k_ => some k_ ≠ (v252 : Value).ownBlock ∧ k_ ≠ Fe ∧ k_ ≠ av ∧ k_ ≠ au) (.slice Q4 ak.length Q5) ak) ∧ yf (Kd.V CS 47 wc w.heap.size (fun k_ => some k_ ≠ (v252 : Value).ownBlock ∧ k_ ≠ Fe ∧ k_ ≠ av ∧ k_ ≠ au) (.slice Q6 aj.length Q7) aj) ∧ yf (wc.heap[Fe]? = some (.cells #[.int .i64 yn, (.slice yQ yh.length yM), .int .i64 yo, .int .i64 yu] 31 (0, 0))) ∧ yf (wc.heap[av]? = some (.cells #[.int .i64 0, .int .i64 0] 38 (0, 0))) ∧ yf (wc.heap[au]? = some (.cells #[.int .i64 aA, (.slice Q4 ak.length Q5), .int .i64 aC, .int .i64 az, (.slice Q6 aj.length Q7), .int .i64 ax, .int .i64 ay] 71 (0, 0))) ∧ yf (Below w.heap.size w wc))
        case first =>
         have H := bN.out;clear bN
         by_cases Oy : 0 ≤ ai
         ·
          rw [if_pos Oy] at H;have a1g := decide_eq_true Oy;clear Oy
          (skip)
          by_cases ZB : ai < (l3.length : Int)
          ·
           rw [if_pos ZB] at H;have d9 := decide_eq_true ZB;clear ZB;obtain ⟨bT, bM⟩ : ∃ b_ : Bool, b_ = (Ha false l3 ai) := ⟨_, rfl⟩
           replace H : (if bT = true then (yV.j2 k2 l3 Js BF Ef ai (Ka.length : Int) yn ai false aA ak aC az aj ax ay) else ((slices_Contains_int.f k2 Js ai).bind fun XT => (if XT = true then (yV.j2 k2 l3 Js BF Ef ai (Ka.length : Int) yn ai false aA ak aC az aj ax ay) else (yV.j2 k2 l3 Js BF Ef ai (Ka.length : Int) yn ai (decide ((Ka.length : Int) < Ef)) aA ak aC az aj ax ay)))) = some (r1, r2, r3) := by rw [← bM] at H; exact H
           have bP := yf.mk bM;clear bM
           by_cases Ov : bT = true
           ·
            subst Ov;rw [if_pos rfl] at H;have H' := yf.mk H;clear H
            have aM : 0 ≤ (ai : Int) := of_decide_eq_true ‹_›
            have aK : ai < (l3.length : Int) := of_decide_eq_true ‹_›
            obtain ⟨bR, e257, aJ⟩ := Kd.Fq HR3.out ai aM aK
            (try rw [← bP.out] at aJ)
            cases e257;replace aJ := cB HB aJ;replace aM := eq_true aM;replace aK := eq_true aK
            go_wp2
            repeat (go_quiet (fail); try go_wp2)
            go_meet
            case rel => exact ⟨_, (false), (by rfl), H', ⟨by have := aI.out; have := D6.out; omega⟩, ⟨by (with_reducible repeat (apply Kd.yZ)); exact Kd.yX ah.out (fun _ hk => trivial)⟩, ⟨by (with_reducible repeat (apply Kd.Ap)); exact Kd.z8 ag.out (fun _ hk => ⟨hk.1.1, ⟨hk.1.2.1, ⟨hk.1.2.2.1, hk.1.2.2.2⟩⟩⟩)⟩, ⟨by (with_reducible repeat (apply Kd.Ap)); exact Kd.z8 af.out (fun _ hk => ⟨hk.1.1, ⟨hk.1.2.1, ⟨hk.1.2.2.1, hk.1.2.2.2⟩⟩⟩)⟩, ⟨kk BA⟩, ⟨kk aa⟩, ⟨kk ae⟩, ⟨bO HB⟩⟩
           ·
            replace Ov := Bool.eq_false_iff.mpr Ov;subst Ov
            rw [if_neg (show ¬ (false = true) by decide)] at H
            obtain ⟨XT, Vv, H⟩ := bE H
            try dsimp only at H
            by_cases RD : XT = true
            ·
             subst RD;rw [if_pos rfl] at H;have H' := yf.mk H;clear H
             have aM : 0 ≤ (ai : Int) := of_decide_eq_true ‹_›
             have aK : ai < (l3.length : Int) := of_decide_eq_true ‹_›
             obtain ⟨bR, e257, aJ⟩ := Kd.Fq HR3.out ai aM aK
             (try rw [← bP.out] at aJ)
             cases e257;replace aJ := cB HB aJ;replace aM := eq_true aM;replace aK := eq_true aK;obtain ⟨dz, dh, cu⟩ := Kd.zJ ah.out;subst cu
             go_wp2_with ((go_at_call 37; (with_reducible refine (slices_Contains_int.calls k2 _ _ Js ai true _ ?yD ?yF Vv.out).mono ?_); (case yD => exact G7 ah); (case yF => exact (Kd.yT ah.out).2.1); rintro e w' ⟨rfl, ⟨nd, rfl⟩⟩; (try exact ⟨rfl, _, World.drewN_drewN _ _ _⟩)))
             repeat (go_quiet ((go_at_call 37; (with_reducible refine (slices_Contains_int.calls k2 _ _ Js ai true _ ?yD ?yF Vv.out).mono ?_); (case yD => exact G7 ah); (case yF => exact (Kd.yT ah.out).2.1); rintro e w' ⟨rfl, ⟨nd, rfl⟩⟩; (try exact ⟨rfl, _, World.drewN_drewN _ _ _⟩))); try go_wp2_with ((go_at_call 37; (with_reducible refine (slices_Contains_int.calls k2 _ _ Js ai true _ ?yD ?yF Vv.out).mono ?_); (case yD => exact G7 ah); (case yF => exact (Kd.yT ah.out).2.1); rintro e w' ⟨rfl, ⟨nd, rfl⟩⟩; (try exact ⟨rfl, _, World.drewN_drewN _ _ _⟩))))
             go_meet
             case rel => exact ⟨_, (false), (by rfl), H', ⟨by have := aI.out; have := D6.out; omega⟩, ⟨by (with_reducible repeat (apply Kd.U1)); exact Kd.yX ah.out (fun _ hk => trivial)⟩, ⟨by (with_reducible repeat (apply Kd.JG)); exact Kd.z8 ag.out (fun _ hk => ⟨hk.1.1, ⟨hk.1.2.1, ⟨hk.1.2.2.1, hk.1.2.2.2⟩⟩⟩)⟩, ⟨by (with_reducible repeat (apply Kd.JG)); exact Kd.z8 af.out (fun _ hk => ⟨hk.1.1, ⟨hk.1.2.1, ⟨hk.1.2.2.1, hk.1.2.2.2⟩⟩⟩)⟩, ⟨kk BA⟩, ⟨kk aa⟩, ⟨kk ae⟩, ⟨bO HB⟩⟩
            ·
             replace RD := Bool.eq_false_iff.mpr RD;subst RD
             rw [if_neg (show ¬ (false = true) by decide)] at H
             have H' := yf.mk H;clear H
             have aM : 0 ≤ (ai : Int) := of_decide_eq_true ‹_›
             have aK : ai < (l3.length : Int) := of_decide_eq_true ‹_›
             obtain ⟨bR, e257, aJ⟩ := Kd.Fq HR3.out ai aM aK
             (try rw [← bP.out] at aJ)
             cases e257;replace aJ := cB HB aJ;replace aM := eq_true aM;replace aK := eq_true aK;obtain ⟨cZ, dm, cO⟩ := Kd.zJ ah.out;subst cO
             go_wp2_with ((go_at_call 37; (with_reducible refine (slices_Contains_int.calls k2 _ _ Js ai false _ ?yD ?yF Vv.out).mono ?_); (case yD => exact G7 ah); (case yF => exact (Kd.yT ah.out).2.1); rintro e w' ⟨rfl, ⟨nd, rfl⟩⟩; (try exact ⟨rfl, _, World.drewN_drewN _ _ _⟩)))
             repeat (go_quiet ((go_at_call 37; (with_reducible refine (slices_Contains_int.calls k2 _ _ Js ai false _ ?yD ?yF Vv.out).mono ?_); (case yD => exact G7 ah); (case yF => exact (Kd.yT ah.out).2.1); rintro e w' ⟨rfl, ⟨nd, rfl⟩⟩; (try exact ⟨rfl, _, World.drewN_drewN _ _ _⟩))); try go_wp2_with ((go_at_call 37; (with_reducible refine (slices_Contains_int.calls k2 _ _ Js ai false _ ?yD ?yF Vv.out).mono ?_); (case yD => exact G7 ah); (case yF => exact (Kd.yT ah.out).2.1); rintro e w' ⟨rfl, ⟨nd, rfl⟩⟩; (try exact ⟨rfl, _, World.drewN_drewN _ _ _⟩))))
             go_meet
             case rel => exact ⟨_, (decide ((Ka.length : Int) < Ef)), (by rfl), H', ⟨by have := aI.out; have := D6.out; omega⟩, ⟨by (with_reducible repeat (apply Kd.U1)); exact Kd.yX ah.out (fun _ hk => trivial)⟩, ⟨by (with_reducible repeat (apply Kd.JG)); exact Kd.z8 ag.out (fun _ hk => ⟨hk.1.1, ⟨hk.1.2.1, ⟨hk.1.2.2.1, hk.1.2.2.2⟩⟩⟩)⟩, ⟨by (with_reducible repeat (apply Kd.JG)); exact Kd.z8 af.out (fun _ hk => ⟨hk.1.1, ⟨hk.1.2.1, ⟨hk.1.2.2.1, hk.1.2.2.2⟩⟩⟩)⟩, ⟨kk BA⟩, ⟨kk aa⟩, ⟨kk ae⟩, ⟨bO HB⟩⟩
          ·
           rw [if_neg ZB] at H;exact absurd H (by simp)
         ·
          rw [if_neg Oy] at H;exact absurd H (by simp)
        case rest =>
         clear bN KF Rm Rn;obtain ⟨kq, bF, rfl, HA, bD, ah, ag, af, BA, aa, ae, HB⟩ := hcut
         cases kq with
         | zero => exact absurd HA.out (by simp [yV.j2])
         | succ bQ =>
          have H := HA.out;clear HA;simp only [yV.j2] at H
          by_cases M9 : bF = true
          ·
           subst M9;rw [if_pos rfl] at H;have H' := yf.mk H;clear H
           go_wp2
           repeat (go_quiet (fail); try go_wp2)
           go_roundg bQ
           case measure => have := aI.out; have := D6.out; have := bD.out; omega
           case rel => exact ⟨(ai), ((Ka.length : Int)), (wrap64 (ai + 1)), (by rfl), (by rfl), (by rfl), H', ⟨by have := aI.out; have := D6.out; have := bD.out; omega⟩, ⟨kR ah⟩, ⟨kV ag⟩, ⟨kV af⟩, ⟨kk BA⟩, ⟨kk aa⟩, ⟨kk ae⟩, ⟨bO HB⟩⟩
          ·
           replace M9 := Bool.eq_false_iff.mpr M9;subst M9
           rw [if_neg (show ¬ (false = true) by decide)] at H
           have H' := yf.mk H;clear H
           go_wp2
           repeat (go_quiet (fail); try go_wp2)
           go_roundg bQ
           case measure => have := aI.out; have := D6.out; have := bD.out; omega
           case rel => exact ⟨(BF), (Ef), (wrap64 (ai + 1)), (by rfl), (by rfl), (by rfl), H', ⟨by have := aI.out; have := D6.out; have := bD.out; omega⟩, ⟨kR ah⟩, ⟨kV ag⟩, ⟨kV af⟩, ⟨kk BA⟩, ⟨kk aa⟩, ⟨kk ae⟩, ⟨bO HB⟩⟩
       ·
        rw [if_neg J2] at H;have KF := decide_eq_false J2;clear J2
        by_cases c64 : BF < 0
        ·
         rw [if_pos c64] at H;have La := decide_eq_true c64;clear c64;simp only [Option.some.injEq, Prod.mk.injEq] at H;obtain ⟨rfl, rfl, rfl⟩ := H;have a1h := aQ.out;have a1i := aU.out;have XG := aH.out;have XH := aG.out;have XY := bc2 aa;have XZ := bf aa
         go_wp2
         repeat (go_quiet (fail); try go_wp2)
         refine bodyPost_ret (BS rfl _ _ av 38 #[.int .i64 0, .int .i64 0] (0, 0) _ rfl (CJ aa rfl) Try.underlying38 rfl (by kernel_rfl)) rfl ?_
         exact ⟨by rfl, bO HB⟩
        ·
         rw [if_neg c64] at H;have La := decide_eq_false c64;clear c64;obtain ⟨IZ, A68, H⟩ := bE H
         try dsimp only at H
         have H' := yf.mk H;clear H;have a5J := bg.out;have a5K := bi.out;have a5L := aG.out;have a5M := aH.out;have Y0 := Gt ae;have Y1 := bf ae
         go_wp2_with ((go_at_call 36; (with_reducible refine (zU.calls k2 aA _ _ ak aC az _ _ aj ax ay BF IZ _ ?yD ?yF ?zw ?zx A68.out).mono ?_); (case yD => exact Oo ag); (case yF => exact (Kd.zW ag.out).2.1); (case zw => exact Oo af); (case zx => exact (Kd.zW af.out).2.1); rintro e w72 ⟨v260, rfl, ho0, hb⟩; have aZ := yf.mk (Kd.Ay (Kd.C8 ho0 (Kd.DV (kR ah))) (yL (bO HB))); replace ah := yf.mk (Kd.Bb (kR ah) (Kd.Bh ho0) hb); replace ag := yf.mk (Kd.Dk (kV ag) (Kd.Bh ho0) hb); replace af := yf.mk (Kd.Dk (kV af) (Kd.Bh ho0) hb); replace BA := bB BA hb; replace aa := bB aa hb; replace ae := bB ae hb; replace HB := bS HB hb; clear hb; clear ho0; obtain ⟨bC, bA, bn⟩ := Kd.zJ aZ.out; subst bn))
         repeat (go_quiet ((go_at_call 36; (with_reducible refine (zU.calls k2 aA _ _ ak aC az _ _ aj ax ay BF IZ _ ?yD ?yF ?zw ?zx A68.out).mono ?_); (case yD => exact Oo ag); (case yF => exact (Kd.zW ag.out).2.1); (case zw => exact Oo af); (case zx => exact (Kd.zW af.out).2.1); rintro e w72 ⟨v260, rfl, ho0, hb⟩; have aZ := yf.mk (Kd.Ay (Kd.C8 ho0 (Kd.DV (kR ah))) (yL (bO HB))); replace ah := yf.mk (Kd.Bb (kR ah) (Kd.Bh ho0) hb); replace ag := yf.mk (Kd.Dk (kV ag) (Kd.Bh ho0) hb); replace af := yf.mk (Kd.Dk (kV af) (Kd.Bh ho0) hb); replace BA := bB BA hb; replace aa := bB aa hb; replace ae := bB ae hb; replace HB := bS HB hb; obtain ⟨bC, bA, bn⟩ := Kd.zJ aZ.out; subst bn)); try go_wp2_with ((go_at_call 36; (with_reducible refine (zU.calls k2 aA _ _ ak aC az _ _ aj ax ay BF IZ _ ?yD ?yF ?zw ?zx A68.out).mono ?_); (case yD => exact Oo ag); (case yF => exact (Kd.zW ag.out).2.1); (case zw => exact Oo af); (case zx => exact (Kd.zW af.out).2.1); rintro e w72 ⟨v260, rfl, ho0, hb⟩; have aZ := yf.mk (Kd.Ay (Kd.C8 ho0 (Kd.DV (kR ah))) (yL (bO HB))); replace ah := yf.mk (Kd.Bb (kR ah) (Kd.Bh ho0) hb); replace ag := yf.mk (Kd.Dk (kV ag) (Kd.Bh ho0) hb); replace af := yf.mk (Kd.Dk (kV af) (Kd.Bh ho0) hb); replace BA := bB BA hb; replace aa := bB aa hb; replace ae := bB ae hb; replace HB := bS HB hb; obtain ⟨bC, bA, bn⟩ := Kd.zJ aZ.out; subst bn)))
         go_loopg [17, 91] k2 (fun kq v17 v91 w' => ∃ (aT : Int) (aD : Int), v17 = .int .i64 aT ∧ v91 = .int .i64 aD ∧ yf (yV.l1 kq BF aT IZ (IZ.length : Int) aD = some (r1, r2, r3)) ∧ yf (kq ≤ k2) ∧ yf (Kd.R (Kd.int .i64) 3 w' w.heap.size (fun _ => True) (.slice bC IZ.length bA) IZ) ∧ yf (Kd.V (Kd.slice 3 (Kd.int .i64)) 63 w' w.heap.size (fun k_ => some k_ ≠ ((.slice bC IZ.length bA) : Value).ownBlock ∧ k_ ≠ Fe ∧ k_ ≠ av ∧ k_ ≠ au) (.slice Q4 ak.length Q5) ak) ∧ yf (Kd.V CS 47 w' w.heap.size (fun k_ => some k_ ≠ ((.slice bC IZ.length bA) : Value).ownBlock ∧ k_ ≠ Fe ∧ k_ ≠ av ∧ k_ ≠ au) (.slice Q6 aj.length Q7) aj) ∧ yf (w'.heap[Fe]? = some (.cells #[.int .i64 yn, (.slice yQ yh.length yM), .int .i64 yo, .int .i64 yu] 31 (0, 0))) ∧ yf (w'.heap[av]? = some (.cells #[.int .i64 0, .int .i64 0] 38 (0, 0))) ∧ yf (w'.heap[au]? = some (.cells #[.int .i64 aA, (.slice Q4 ak.length Q5), .int .i64 aC, .int .i64 az, (.slice Q6 aj.length Q7), .int .i64 ax, .int .i64 ay] 71 (0, 0))) ∧ yf (Below w.heap.size w w'))
         case atStart => exact ⟨(ax), (0), (by rfl), (by rfl), H', ⟨Nat.le_refl _⟩, ⟨by (with_reducible repeat (apply Kd.yZ)); exact Kd.yX aZ.out (fun _ hk => trivial)⟩, ⟨by (with_reducible repeat (apply Kd.Ap)); exact Kd.z8 ag.out (fun _ hk => ⟨hk.2, ⟨hk.1.2.1, ⟨hk.1.2.2.1, hk.1.2.2.2⟩⟩⟩)⟩, ⟨by (with_reducible repeat (apply Kd.Ap)); exact Kd.z8 af.out (fun _ hk => ⟨hk.2, ⟨hk.1.2.1, ⟨hk.1.2.2.1, hk.1.2.2.2⟩⟩⟩)⟩, ⟨kk BA⟩, ⟨kk aa⟩, ⟨kk ae⟩, ⟨bO HB⟩⟩
         case round =>
          clear H' KF La Y0 Y1;obtain ⟨aT, aD, rfl, rfl, HA, GV, bI, ag, af, BA, aa, ae, HB⟩ := hrel
          cases gk with
          | zero => exact absurd HA.out (by simp [yV.l1])
          | succ k3 =>
           have H := HA.out;clear HA;simp only [yV.l1] at H
           by_cases aY : aD < (IZ.length : Int)
           ·
            rw [if_pos aY] at H;have bW := decide_eq_true aY;clear aY
            by_cases c75 : 0 ≤ aD
            ·
             rw [if_pos c75] at H;have dw := decide_eq_true c75;clear c75
             by_cases c76 : aD < (IZ.length : Int)
             ·
              rw [if_pos c76] at H;have dn := decide_eq_true c76;clear c76
              by_cases aV : (rd IZ aD) = aT
              ·
               rw [if_pos aV] at H;have bX := beq_iff_eq.mpr aV
               have cz : ((rd IZ aD) != aT) = false := bne_eq_false_iff_eq.mpr aV
               clear aV;have H' := yf.mk H;clear H
               have aW : 0 ≤ (aD : Int) := of_decide_eq_true ‹_›
               have aX : aD < (IZ.length : Int) := of_decide_eq_true ‹_›
               obtain ⟨bV, e262, bY⟩ := Kd.C9 (Kd.yT bI.out).2.2 aD aW aX;cases e262;replace aW := eq_true aW;replace aX := eq_true aX
               go_wp2
               repeat (go_quiet (fail); try go_wp2)
               go_roundg k3
               case measure => have := aI.out; have := D6.out; have := GV.out; omega
               case rel => exact ⟨(wrap64 (aT + 1)), (wrap64 (aD + 1)), (by rfl), (by rfl), H', ⟨by have := aI.out; have := D6.out; have := GV.out; omega⟩, ⟨kR bI⟩, ⟨kV ag⟩, ⟨kV af⟩, ⟨kk BA⟩, ⟨kk aa⟩, ⟨kk ae⟩, ⟨bO HB⟩⟩
              ·
               rw [if_neg aV] at H;have bX := beq_eq_false_iff_ne.mpr aV;have cz := bne_iff_ne.mpr aV;have H' := yf.mk H;clear H
               have aW : 0 ≤ (aD : Int) := of_decide_eq_true ‹_›
               have aX : aD < (IZ.length : Int) := of_decide_eq_true ‹_›
               obtain ⟨bV, e262, bY⟩ := Kd.C9 (Kd.yT bI.out).2.2 aD aW aX;cases e262;replace aW := eq_true aW;replace aX := eq_true aX
               go_wp2
               repeat (go_quiet (fail); try go_wp2)
               go_roundg k3
               case measure => have := aI.out; have := D6.out; have := GV.out; omega
               case rel => exact ⟨(aT), (wrap64 (aD + 1)), (by rfl), (by rfl), H', ⟨by have := aI.out; have := D6.out; have := GV.out; omega⟩, ⟨kR bI⟩, ⟨kV ag⟩, ⟨kV af⟩, ⟨kk BA⟩, ⟨kk aa⟩, ⟨kk ae⟩, ⟨bO HB⟩⟩
             ·
              rw [if_neg c76] at H;exact absurd H (by simp)
            ·
             rw [if_neg c75] at H;exact absurd H (by simp)
           ·
            rw [if_neg aY] at H;have bW := decide_eq_false aY;clear aY;simp only [Option.some.injEq, Prod.mk.injEq] at H;obtain ⟨rfl, rfl, rfl⟩ := H;have Xb := aQ.out;have Xc := aU.out;have a5N := aH.out;have a5O := aG.out;have di := bc2 aa;have dB := bf aa
            go_wp2
            repeat (go_quiet (fail); try go_wp2)
            refine bodyPost_ret (BS rfl _ _ av 38 #[.int .i64 BF, .int .i64 aT] (0, 0) _ rfl (CJ aa rfl) Try.underlying38 rfl (by kernel_rfl)) rfl ?_
            exact ⟨by rfl, bO HB⟩
end Go.Proofs.Ytjonnfmoocijlaa.P
