/- Texts of a claim, packed. -/
import Derived.Test.YtjonnfmoocijlaaD20
set_option linter.all false
namespace Go.Proofs.Ytjonnfmoocijlaa.P
open Go.RowKit Go.Proofs.YtjonnfmoocijlaaKW.PrintWords Go.Proofs.YtjonnfmoocijlaaKW.PrintLast Go.Proofs.YtjonnfmoocijlaaKW.PrintMore
attribute [local go_sem] zz zA zS zT zn zo zB zC
def Cu.f (k : Nat) (yn : Int) (yg : List (List Int)) (yo : Int) (yt : Int) (Ab : List (AY)) (Al : Int) (zY : Int) (a1 : Int) (a2 : Int) : Option (Int × Int) := (yl.f k Ab a1 a2).bind fun I1 => (if I1.2 = true then (if 0 ≤ I1.1 then (if I1.1 < (Ab.length : Int) then (some ((yh Ab I1.1).f2.f0, (yh Ab I1.1).f2.f1)) else (none)) else (none)) else ((BV.f k yn yg yo yt a1 a2).bind fun Pg => (some (Pg.1, Pg.2.1))))
set_option maxHeartbeats 8000000 in
set_option maxRecDepth 100000 in
theorem Cu.calls (k : Nat) (yn : Int) (yP : Option Addr) (yI : Nat) (yg : List (List Int)) (yo : Int) (yt : Int) (DF : Option Addr) (Du : Nat) (Ab : List (AY)) (Al : Int) (zY : Int) (a1 : Int) (a2 : Int) (r1 : Int) (r2 : Int) (w : World) (zR : Kd.C (Kd.slice 3 (Kd.int .i64)) w yP yg.length yg) (zU : yg.length ≤ yI) (F9 : Kd.C Dy w DF Ab.length Ab) (Fa : Ab.length ≤ Du) (h : Cu.f k yn yg yo yt Ab Al zY a1 a2 = some (r1, r2)) :
  Calls Try.prog 48 #[.agg #[.int .i64 yn, .slice yP yg.length yI, .int .i64 yo, .int .i64 yt, .slice DF Ab.length Du, .int .i64 Al, .int .i64 zY], .int .i64 a1, .int .i64 a2] w fun e w' => e = .returned (.agg #[.int .i64 r1, .int .i64 r2]) ∧ Below w.heap.size w w' := by
 have KF := Try.underlying71;have Lv := Try.underlying38;have QE := Try.underlying81;have FB := Try.underlying31;have zq := yf.mk zR;have zG := yf.mk zU;clear zR zU;have ED := yf.mk F9;have GA := yf.mk Fa;clear F9 Fa;have HB := yf.mk (Below.refl w.heap.size w)
 have H : ((yl.f k Ab a1 a2).bind fun I1 => (if I1.2 = true then (if 0 ≤ I1.1 then (if I1.1 < (Ab.length : Int) then (some ((yh Ab I1.1).f2.f0, (yh Ab I1.1).f2.f1)) else (none)) else (none)) else ((BV.f k yn yg yo yt a1 a2).bind fun Pg => (some (Pg.1, Pg.2.1))))) = some (r1, r2) := h
 clear h;obtain ⟨⟨af, aM⟩, A4, H⟩ := bE H
 try dsimp only at H
 by_cases c5 : aM = true
 rotate_left
 ·
  replace c5 := Bool.eq_false_iff.mpr c5;subst c5
  rw [if_neg (show ¬ (false = true) by decide)] at H
  obtain ⟨⟨aA, az, aN⟩, A15, H⟩ := bE H
  try dsimp only at H
  simp only [Option.some.injEq, Prod.mk.injEq] at H;obtain ⟨rfl, rfl⟩ := H
  go_enter Try.func48, Try.ntmps48
  go_wp2_with (first | ((with_reducible refine yK (N := 3) rfl ?_); refine yE rfl (N := 3) rfl (cs := #[.int .i64 yn, .slice yP yg.length yI, .int .i64 yo, .int .i64 yt, .slice DF Ab.length Du, .int .i64 Al, .int .i64 zY]) (t := 71) (by go_simp) ?_; intro aV hg w16 yG hb; have aa := yf.mk (yG); have aH := bG (w := w) hg; have aU := bG (w := w) hg; replace HB := bS HB hb; clear hb yG hg) | ((with_reducible refine yK (N := 6) rfl ?_); refine yE rfl (N := 6) rfl (cs := #[.int .i64 0, .int .i64 0]) (t := 38) (by go_simp) ?_; intro ag hg w17 yG hb; have ae := yf.mk (yG); have aG := bG (w := w) hg; have aQ := bG (w := w) hg; have ai := BL aa hg; have ah := Ag aa hg; replace aa := bB aa hb; replace HB := bS HB hb; clear hb yG hg; have a1F := ai.out; have a1G := ah.out; have a1H := EP aa; have a1I := bf aa) | ((with_reducible refine yB (f := 41) rfl ?_); refine gL (some 17) Try.func41 #[.slice DF Ab.length Du, .agg #[.int .i64 a1, .int .i64 a2], (.func (.func 42) #[] #[])] ?_; (with_reducible refine (yl.calls k _ _ Ab a1 a2  af false _ ?yF ?yM A4.out).mono ?_); (case yF => exact Da ED); (case yM => exact GA.out); rintro e w20 ⟨rfl, hb⟩; refine ⟨_, rfl, ?_⟩; replace aa := bB aa hb; replace ae := bB ae hb; replace HB := bS HB hb; clear hb; have K8 := EP aa; have K9 := bf aa) | ((with_reducible refine yB (f := 39) rfl ?_); refine gL (some 32) Try.func39 #[.agg #[.int .i64 yn, .slice yP yg.length yI, .int .i64 yo, .int .i64 yt], .int .i64 a1, .int .i64 a2] ?_; (with_reducible refine (BV.calls k yn _ _ yg yo yt a1 a2 aA az aN _ ?yF ?yM A15.out).mono ?_); (case yF => exact Da zq); (case yM => exact zG.out); rintro e w22 ⟨rfl, hb⟩; refine ⟨_, rfl, ?_⟩; replace aa := bB aa hb; replace ae := bB ae hb; replace HB := bS HB hb; clear hb) | ((with_reducible refine yK (N := 9) rfl ?_); refine yE rfl (N := 9) rfl (cs := #[.int .i64 0, .int .i64 0]) (t := 38) (by go_simp) ?_; intro aZ hg w23 yG hb; have au := yf.mk (yG); have aX := bG (w := w) hg; have aW := bG (w := w) hg; have aD := BL aa hg; have aT := Ag aa hg; have aJ := BL ae hg; have aK := Ag ae hg; replace aa := bB aa hb; replace ae := bB ae hb; replace HB := bS HB hb; clear hb yG hg; have UE := aT.out; have UF := aD.out; have Y1 := aK.out; have Y2 := aJ.out; have aY := bc2 au; have bg := bf au; have Hu := bc2 ae; have Hw := bf ae))
  refine bodyPost_ret (results_cell_row rfl _ _ ag 38 #[.int .i64 aA, .int .i64 az] (0, 0) _ rfl (CF ae rfl) Try.underlying38 rfl (by kernel_rfl)) rfl ?_
  exact ⟨by rfl, bO HB⟩
 subst c5;rw [if_pos rfl] at H
 by_cases c6 : 0 ≤ af
 rotate_left
 ·
  rw [if_neg c6] at H;exact absurd H (by simp)
 rw [if_pos c6] at H;have EU := decide_eq_true c6;clear c6
 by_cases c7 : af < (Ab.length : Int)
 rotate_left
 ·
  rw [if_neg c7] at H;exact absurd H (by simp)
 rw [if_pos c7] at H;have FR := decide_eq_true c7;clear c7;simp only [Option.some.injEq, Prod.mk.injEq] at H;obtain ⟨rfl, rfl⟩ := H
 go_enter Try.func48, Try.ntmps48
 go_wp2_with (first | ((with_reducible refine yK (N := 3) rfl ?_); refine yE rfl (N := 3) rfl (cs := #[.int .i64 yn, .slice yP yg.length yI, .int .i64 yo, .int .i64 yt, .slice DF Ab.length Du, .int .i64 Al, .int .i64 zY]) (t := 71) (by go_simp) ?_; intro aV hg w8 yG hb; have aa := yf.mk (yG); have aH := bG (w := w) hg; have aU := bG (w := w) hg; replace HB := bS HB hb; clear hb yG hg) | ((with_reducible refine yK (N := 6) rfl ?_); refine yE rfl (N := 6) rfl (cs := #[.int .i64 0, .int .i64 0]) (t := 38) (by go_simp) ?_; intro ag hg w9 yG hb; have ae := yf.mk (yG); have aG := bG (w := w) hg; have aQ := bG (w := w) hg; have ai := BL aa hg; have ah := Ag aa hg; replace aa := bB aa hb; replace HB := bS HB hb; clear hb yG hg; have XC := ai.out; have XD := ah.out; have Lt := EP aa; have Lu := bf aa) | ((with_reducible refine yB (f := 41) rfl ?_); refine gL (some 17) Try.func41 #[.slice DF Ab.length Du, .agg #[.int .i64 a1, .int .i64 a2], (.func (.func 42) #[] #[])] ?_; (with_reducible refine (yl.calls k _ _ Ab a1 a2  af true _ ?yF ?yM A4.out).mono ?_); (case yF => exact Da ED); (case yM => exact GA.out); rintro e w12 ⟨rfl, hb⟩; refine ⟨_, rfl, ?_⟩; replace aa := bB aa hb; replace ae := bB ae hb; replace HB := bS HB hb; clear hb; have MV := EP aa; have MW := bf aa; have aj : 0 ≤ (af : Int) := of_decide_eq_true ‹_›; have ak : af < (Ab.length : Int) := of_decide_eq_true ‹_›; obtain ⟨bi, aI, aC, ay, av, ax⟩ := Cb ED.out af aj ak; cases aI; replace aC := cB HB aC; replace ay := cB HB ay; replace av := cB HB av; replace ax := cB HB ax; replace aj := eq_true aj; replace ak := eq_true ak; have LQ := bc2 ae; have LU := bf ae))
 refine bodyPost_ret (results_cell_row rfl _ _ ag 38 #[.int .i64 ((yh Ab af).f2.f0), .int .i64 ((yh Ab af).f2.f1)] (0, 0) _ rfl (CF ae rfl) Try.underlying38 rfl (by kernel_rfl)) rfl ?_
 exact ⟨by rfl, bO HB⟩
def zV.l0 : Nat → List (AY) → Int → Int → Int → Int → List (List Int) → Int → Int → Option (Int × Int)
 | 0, _, _, _, _, _, _, _, _ => none
 | k + 1, x1, x2, x3, x9, aa, ag, ae, af => if x9 < (x1.length : Int) then (if 0 ≤ x9 then (if ((yh x1 x9).f0) = x2 then (if ((yh x1 x9).f1) = x3 then (some ((yh x1 x9).f2.f0, (yh x1 x9).f2.f1)) else (zV.l0 k x1 x2 x3 (wrap64 (x9 + 1)) aa ag ae af)) else (zV.l0 k x1 x2 x3 (wrap64 (x9 + 1)) aa ag ae af)) else (none)) else ((yS.f k aa ag ae af x2 x3).bind fun ah => (some (ah.1, ah.2)))
def zV.f (k : Nat) (yn : Int) (yg : List (List Int)) (yo : Int) (yt : Int) (l1 : List (AY)) (a2 : Int) (a3 : Int) : Option (Int × Int) := zV.l0 k l1 a2 a3 0 yn yg yo yt
set_option maxHeartbeats 8000000 in
set_option maxRecDepth 100000 in
theorem zV.calls (k : Nat) (yn : Int) (yP : Option Addr) (yI : Nat) (yg : List (List Int)) (yo : Int) (yt : Int) (A1 : Option Addr) (c1 : Nat) (l1 : List (AY)) (a2 : Int) (a3 : Int) (r1 : Int) (r2 : Int) (w : World) (zR : Kd.C (Kd.slice 3 (Kd.int .i64)) w yP yg.length yg) (zU : yg.length ≤ yI) (hr1 : Kd.C Dy w A1 l1.length l1) (hc1 : l1.length ≤ c1) (h : zV.f k yn yg yo yt l1 a2 a3 = some (r1, r2)) :
  Calls Try.prog 22 #[.agg #[.int .i64 yn, .slice yP yg.length yI, .int .i64 yo, .int .i64 yt], .slice A1 l1.length c1, .int .i64 a2, .int .i64 a3] w fun e w' => e = .returned (.agg #[.int .i64 r1, .int .i64 r2]) ∧ Below w.heap.size w w' := by
 have FB := Try.underlying31;have Lv := Try.underlying38;have zq := yf.mk zR;have zG := yf.mk zU;clear zR zU;have HR1 := yf.mk hr1;have Gd := yf.mk hc1;clear hr1 hc1;have HB := yf.mk (Below.refl w.heap.size w)
 have H : (zV.l0 k l1 a2 a3 0 yn yg yo yt) = some (r1, r2) := h
 clear h;have H' := yf.mk H;clear H
 go_enter Try.func22, Try.ntmps22
 go_wp2_with (first | ((with_reducible refine yK (N := 4) rfl ?_); refine yE rfl (N := 4) rfl (cs := #[.int .i64 yn, .slice yP yg.length yI, .int .i64 yo, .int .i64 yt]) (t := 31) (by go_simp) ?_; intro bi hg w5 yG hb; have aa := yf.mk (yG); have bA := bG (w := w) hg; have bv := bG (w := w) hg; replace HB := bS HB hb; clear hb yG hg) | ((with_reducible refine yK (N := 8) rfl ?_); refine yE rfl (N := 8) rfl (cs := #[.int .i64 0, .int .i64 0]) (t := 38) (by go_simp) ?_; intro aM hg w6 yG hb; have ae := yf.mk (yG); have bu := bG (w := w) hg; have bq := bG (w := w) hg; have aX := BL aa hg; have aZ := Ag aa hg; replace aa := bB aa hb; replace HB := bS HB hb; clear hb yG hg))
 go_loopg [9] k (fun kq v9 w' => ∃ (Bj : Int) (aH : Int) (aG : Int), v9 = .int .i64 Bj ∧ yf (zV.l0 kq l1 a2 a3 Bj yn yg yo yt = some (r1, r2)) ∧ yf (kq ≤ k) ∧ yf (w'.heap[bi]? = some (.cells #[.int .i64 yn, (.slice yP yg.length yI), .int .i64 yo, .int .i64 yt] 31 (0, 0))) ∧ yf (w'.heap[aM]? = some (.cells #[.int .i64 aH, .int .i64 aG] 38 (0, 0))) ∧ yf (Below w.heap.size w w'))
 case atStart => exact ⟨(0), (0), (0), (by rfl), H', ⟨Nat.le_refl _⟩, ⟨kk aa⟩, ⟨kk ae⟩, ⟨bO HB⟩⟩
 case round =>
 clear H';obtain ⟨Bj, aH, aG, rfl, HA, BZ, aa, ae, HB⟩ := hrel
 cases gk with
 | zero => exact absurd HA.out (by simp [zV.l0])
 | succ k1 =>
 have H := HA.out;clear HA;simp only [zV.l0] at H
 by_cases c7 : Bj < (l1.length : Int)
 rotate_left
 ·
  rw [if_neg c7] at H;have FR := decide_eq_false c7;clear c7;obtain ⟨⟨aT, aQ⟩, A13, H⟩ := bE H
  try dsimp only at H
  simp only [Option.some.injEq, Prod.mk.injEq] at H;obtain ⟨rfl, rfl⟩ := H;have a1J := aX.out;have a1K := aZ.out;have OW := AR aa;have OX := bf aa
  go_wp2_with (((with_reducible refine yB (f := 26) rfl ?_); refine gL (some 40) Try.func26 #[.agg #[.int .i64 yn, .slice yP yg.length yI, .int .i64 yo, .int .i64 yt], .int .i64 a2, .int .i64 a3] ?_; (with_reducible refine (yS.calls k1 yn _ _ yg yo yt a2 a3 aT aQ _ ?yF ?yM A13.out).mono ?_); (case yF => exact Da zq); (case yM => exact zG.out); rintro e w16 ⟨rfl, hb⟩; refine ⟨_, rfl, ?_⟩; replace aa := bB aa hb; replace ae := bB ae hb; replace HB := bS HB hb; clear hb; have Kj := bc2 ae; have Kk := bf ae))
  refine bodyPost_ret (results_cell_row rfl _ _ aM 38 #[.int .i64 aT, .int .i64 aQ] (0, 0) _ rfl (CF ae rfl) Try.underlying38 rfl (by kernel_rfl)) rfl ?_
  exact ⟨by rfl, bO HB⟩
 rw [if_pos c7] at H;have FR := decide_eq_true c7;clear c7
 by_cases c8 : 0 ≤ Bj
 rotate_left
 ·
  rw [if_neg c8] at H;exact absurd H (by simp)
 rw [if_pos c8] at H;have Gl := decide_eq_true c8;clear c8
 by_cases c9 : ((yh l1 Bj).f0) = a2
 rotate_left
 ·
  rw [if_neg c9] at H;have Hr := beq_eq_false_iff_ne.mpr c9;have OB := bne_iff_ne.mpr c9;have H' := yf.mk H;clear H
  have ag : 0 ≤ (Bj : Int) := of_decide_eq_true ‹_›
  have af : Bj < (l1.length : Int) := of_decide_eq_true ‹_›
  obtain ⟨ax, aD, ai, aj, ak, ah⟩ := Cb HR1.out Bj ag af;cases aD;replace ai := cB HB ai;replace aj := cB HB aj;replace ak := cB HB ak;replace ah := cB HB ah;replace ag := eq_true ag;replace af := eq_true af
  go_wp2
  go_roundg k1
  case measure => have := BZ.out; omega
  case rel => exact ⟨(wrap64 (Bj + 1)), (aH), (aG), (by rfl), H', ⟨by have := BZ.out; omega⟩, ⟨kk aa⟩, ⟨kk ae⟩, ⟨bO HB⟩⟩
 rw [if_pos c9] at H;have Hr := beq_iff_eq.mpr c9
 have OB : (((yh l1 Bj).f0) != a2) = false := bne_eq_false_iff_eq.mpr c9
 clear c9
 by_cases c10 : ((yh l1 Bj).f1) = a3
 rotate_left
 ·
  rw [if_neg c10] at H;have Fv := beq_eq_false_iff_ne.mpr c10;have MR := bne_iff_ne.mpr c10;have H' := yf.mk H;clear H
  have ag : 0 ≤ (Bj : Int) := of_decide_eq_true ‹_›
  have af : Bj < (l1.length : Int) := of_decide_eq_true ‹_›
  obtain ⟨ax, aD, ai, aj, ak, ah⟩ := Cb HR1.out Bj ag af;cases aD;replace ai := cB HB ai;replace aj := cB HB aj;replace ak := cB HB ak;replace ah := cB HB ah;replace ag := eq_true ag;replace af := eq_true af
  have av : 0 ≤ (Bj : Int) := of_decide_eq_true ‹_›
  have au : Bj < (l1.length : Int) := of_decide_eq_true ‹_›
  obtain ⟨aJ, aI, ay, az, aC, aA⟩ := Cb HR1.out Bj av au;obtain rfl : ax = aJ := (by injection aI);replace ay := cB HB ay;replace az := cB HB az;replace aC := cB HB aC;replace aA := cB HB aA;replace av := eq_true av;replace au := eq_true au
  go_wp2
  go_roundg k1
  case measure => have := BZ.out; omega
  case rel => exact ⟨(wrap64 (Bj + 1)), (aH), (aG), (by rfl), H', ⟨by have := BZ.out; omega⟩, ⟨kk aa⟩, ⟨kk ae⟩, ⟨bO HB⟩⟩
 rw [if_pos c10] at H;have Fv := beq_iff_eq.mpr c10
 have MR : (((yh l1 Bj).f1) != a3) = false := bne_eq_false_iff_eq.mpr c10
 clear c10;simp only [Option.some.injEq, Prod.mk.injEq] at H;obtain ⟨rfl, rfl⟩ := H
 have ag : 0 ≤ (Bj : Int) := of_decide_eq_true ‹_›
 have af : Bj < (l1.length : Int) := of_decide_eq_true ‹_›
 obtain ⟨ax, aD, ai, aj, ak, ah⟩ := Cb HR1.out Bj ag af;cases aD;replace ai := cB HB ai;replace aj := cB HB aj;replace ak := cB HB ak;replace ah := cB HB ah;replace ag := eq_true ag;replace af := eq_true af
 have av : 0 ≤ (Bj : Int) := of_decide_eq_true ‹_›
 have au : Bj < (l1.length : Int) := of_decide_eq_true ‹_›
 obtain ⟨aJ, aI, ay, az, aC, aA⟩ := Cb HR1.out Bj av au;obtain rfl : ax = aJ := (by injection aI);replace ay := cB HB ay;replace az := cB HB az;replace aC := cB HB aC;replace aA := cB HB aA;replace av := eq_true av;replace au := eq_true au
 have aK : 0 ≤ (Bj : Int) := of_decide_eq_true ‹_›
 have aN : Bj < (l1.length : Int) := of_decide_eq_true ‹_›
 obtain ⟨bg, bn, aW, aV, aY, aU⟩ := Cb HR1.out Bj aK aN;obtain rfl : ax = bg := (by injection bn);replace aW := cB HB aW;replace aV := cB HB aV;replace aY := cB HB aY;replace aU := cB HB aU;replace aK := eq_true aK;replace aN := eq_true aN;have RJ := aZ.out;have RL := aX.out;have Nc := bc2 ae;have Nf := bf ae
 go_wp2
 refine bodyPost_ret (results_cell_row rfl _ _ aM 38 #[.int .i64 ((yh l1 Bj).f2.f0), .int .i64 ((yh l1 Bj).f2.f1)] (0, 0) _ rfl (CF ae rfl) Try.underlying38 rfl (by kernel_rfl)) rfl ?_
 exact ⟨by rfl, bO HB⟩
end Go.Proofs.Ytjonnfmoocijlaa.P
namespace Go.Proofs.Ytjonnfmoocijlaa.P
open Go.RowKit Go.Proofs.YtjonnfmoocijlaaKW.PrintWords
abbrev Mv := AY
theorem FO (l : List Mv) (i : Nat) (h : i < l.length) : yh l (i : Int) = l[i] := by unfold yh; rw [Int.toNat_natCast, getD_at _ _ _ h]
def Ahead (m : Mv) (g i : Int) : Prop := m.f0 < g ∨ m.f0 = g ∧ m.f1 < i
instance (m : Mv) (g i : Int) : Decidable (Ahead m g i) := by unfold Ahead; infer_instance
def Gm (g i : Int) (m : Mv) : Bool := m.f0 == g && m.f1 == i
theorem De {g i : Int} {m : Mv} : Gm g i m = true ↔ m.f0 = g ∧ m.f1 = i := by simp [Gm]
def Sorted (ms : List Mv) : Prop := ms.Pairwise fun a b => Ahead a b.f0 b.f1
instance (ms : List Mv) : Decidable (Sorted ms) := by unfold Sorted; infer_instance
def DI (ms : List Mv) (g i : Int) : Nat := (ms.takeWhile fun m => decide (Ahead m g i)).length
theorem O4 (ms : List Mv) (g i : Int) : DI ms g i ≤ ms.length := by
 unfold DI
 exact (List.takeWhile_sublist _).length_le
theorem GQ (ms : List Mv) (hs : Sorted ms) (g i : Int) (j : Nat) (hj : j < ms.length) : j < DI ms g i ↔ Ahead ms[j] g i := by
  induction ms generalizing j with
  | nil => simp at hj
  | cons m ms ih =>
    unfold DI at ih ⊢
    have hs' := List.pairwise_cons.1 hs
    by_cases hm : Ahead m g i
    · rw [List.takeWhile_cons_of_pos (by simpa using hm)]
      cases j with
      | zero => simp [hm]
      | succ j =>
        simp only [List.length_cons, Nat.add_lt_add_iff_right, List.getElem_cons_succ]
        exact ih hs'.2 j (by simpa using hj)
    · rw [List.takeWhile_cons_of_neg (by simpa using hm)]
      simp only [List.length_nil, Nat.not_lt_zero, false_iff]
      cases j with
      | zero => exact hm
      | succ j =>
        simp only [List.getElem_cons_succ]
        have h1 := hs'.1 _ (List.getElem_mem (show j < ms.length by simpa using hj))
        unfold Ahead at hm h1 ⊢
        omega
def Tg (a b g i : Int) : Int := if a < g then -1 else if a > g then 1 else if b < i then -1 else if b > i then 1 else 0
theorem Vm (a b : Int) : cmp_Compare_int.f a b = some (if a < b then -1 else if a > b then 1 else 0) := by
 simp only [cmp_Compare_int.f, cmp_isNaN_int.f, Option.bind_some, bne_self_eq_false]
 rw [if_neg (by decide), if_neg (by decide)]
 split
 · rfl
 · split <;> rfl
theorem a1L (x y : Int) : Ev (fun k => Ar.f k [x, y]) (if x = 0 then y else x) := by
  unfold Ar.f
  refine evs (fun k => by rw [Ar.l0]) (AP (by simp) (AP (by simp) (AP (by simp) ?_)))
  have e0 : rd [x, y] 0 = x := rfl
  have e1 : rd [x, y] 1 = y := rfl
  rw [e0]
  by_cases h : x = 0
  · refine AP h ?_
    rw [if_pos h, show wrap64 (0 + 1) = 1 by unfold wrap64; omega]
    refine evs (fun k => by rw [Ar.l0]) (AP (by simp) (AP (by simp) (AP (by simp) ?_)))
    rw [e1]
    by_cases h2 : y = 0
    · refine AP h2 ?_
      rw [show wrap64 (1 + 1) = 2 by unfold wrap64; omega]
      exact evs (fun k => by rw [Ar.l0]) (C8 (by simp) (GX h2.symm))
    · exact C8 h2 (Ev.now _)
  · refine C8 h ?_
    rw [if_neg h]
    exact Ev.now _
theorem LW (a b c e g i : Int) : Ev (fun k => zW.f k a b c e g i) (Tg a b g i) := by
  unfold zW.f
  refine Kv (Vm _ _) (Kv (Vm _ _) (DL (a1L _ _) (GX ?_)))
  unfold Tg
  split
  · simp
  · split
    · simp
    · simp
theorem Jp (m : Mv) (g i : Int) : Tg m.f0 m.f1 g i < 0 ↔ Ahead m g i := by
  unfold Tg Ahead
  split
  · omega
  · split
    · omega
    · split
      · omega
      · split <;> omega
theorem Ti (m : Mv) (g i : Int) : Tg m.f0 m.f1 g i = 0 ↔ m.f0 = g ∧ m.f1 = i := by
  unfold Tg
  split
  · omega
  · split
    · omega
    · split
      · omega
      · split <;> omega
theorem Tj (ms : List Mv) (hs : Sorted ms) (hl : ms.length ≤ 1000) (g i : Int) (t : Nat) : ∀ lo hi : Nat, hi - lo = t → lo ≤ DI ms g i → DI ms g i ≤ hi → hi ≤ ms.length →
    Ev (fun k => yl.l0 k ms (ms.length : Int) (lo : Int) (hi : Int) g i) ((DI ms g i : Int), (ms.drop (DI ms g i)).head?.any (Gm g i)) := by
  induction t using Nat.strongRecOn with
  | _ t ih =>
    intro lo hi ht h1 h2 h3
    refine evs (fun k => by rw [yl.l0]) ?_
    by_cases hlt : lo < hi
    · refine AP (by omega) ?_
      have em : wrap64 (IntKind.u64.wrap (wrap64 ((lo : Int) + (hi : Int))) / 2) = (((lo + hi) / 2 : Nat) : Int) := by
        rw [ww (x := (lo : Int) + hi) (by omega) (by omega), Go.IntKind.wrap_u64, Int.emod_eq_of_lt (by omega) (by omega), ww (by omega) (by omega)]
        omega
      rw [em]
      have hm : (lo + hi) / 2 < ms.length := by omega
      refine AP (by omega) (AP (by omega) (DL (LW _ _ _ _ _ _) ?_))
      rw [FO ms _ hm]
      by_cases ha : Ahead ms[(lo + hi) / 2] g i
      · refine AP ((Jp _ _ _).2 ha) ?_
        have := (GQ ms hs g i _ hm).2 ha
        rw [ww (by omega) (by omega), show (((lo + hi) / 2 : Nat) : Int) + 1 = (((lo + hi) / 2 + 1 : Nat) : Int) by omega]
        exact ih (hi - ((lo + hi) / 2 + 1)) (by omega) _ _ rfl (by omega) h2 h3
      · refine C8 (fun h => ha ((Jp _ _ _).1 h)) ?_
        have : ¬ ((lo + hi) / 2 < DI ms g i) := fun h => ha ((GQ ms hs g i _ hm).1 h)
        exact ih ((lo + hi) / 2 - lo) (by omega) _ _ rfl h1 (by omega) (by omega)
    · have he : lo = DI ms g i := by omega
      refine C8 (by omega) ?_
      by_cases hp : lo < ms.length
      · refine AP (by omega) (AP (by omega) (AP (by omega) (DL (LW _ _ _ _ _ _) (GX ?_))))
        rw [FO ms _ hp, ← he, List.drop_eq_getElem_cons hp]
        simp only [List.head?_cons, Option.any_some, Prod.mk.injEq, true_and]
        rw [Bool.eq_iff_iff, De, beq_iff_eq, Ti]
      · refine C8 (by omega) (GX ?_)
        rw [← he, List.drop_of_length_le (by omega)]
        rfl
theorem Io (ms : List Mv) (hs : Sorted ms) (hl : ms.length ≤ 1000) (g i : Int) : Ev (fun k => yl.f k ms g i) ((DI ms g i : Int), (ms.drop (DI ms g i)).head?.any (Gm g i)) :=
 Tj ms hs hl g i _ 0 ms.length rfl (Nat.zero_le _) (O4 _ _ _) (Nat.le_refl _)
theorem Vn (ms : List Mv) (hs : Sorted ms) (g i : Int) : ms.find? (Gm g i) = (ms.drop (DI ms g i)).head?.filter (Gm g i) := by
  induction ms with
  | nil => rfl
  | cons m ms ih =>
    have hs' := List.pairwise_cons.1 hs
    unfold DI at ih ⊢
    by_cases hm : Ahead m g i
    · rw [List.takeWhile_cons_of_pos (by simpa using hm), List.find?_cons_of_neg (by rw [De]; unfold Ahead at hm; omega), ih hs'.2]
      rfl
    · rw [List.takeWhile_cons_of_neg (by simpa using hm)]
      simp only [List.length_nil, List.drop_zero, List.head?_cons]
      by_cases hi : Gm g i m = true
      · rw [List.find?_cons_of_pos hi, Option.filter_some, if_pos hi]
      · rw [List.find?_cons_of_neg hi, Option.filter_some, if_neg hi, List.find?_eq_none]
        intro x hx
        have h1 := hs'.1 x hx
        rw [De] at hi ⊢
        unfold Ahead at hm h1
        omega
def Ed (L : List (List Int)) (w n r : Nat) (ms : List Mv) (g i : Int) : Int × Int := match ms.find? (Gm g i) with
 | some m => (m.f2.f0, m.f2.f1)
 | none => ER L w n r g.toNat i.toNat
section
variable {d : Int} {L : List (List Int)} {w n r : Nat} {T S : Int} (H : Lo d L w n r T S)
include H
theorem Lo.Vo (ms : List Mv) (hl : ms.length ≤ 1000) (g i : Int) (h0 : 0 ≤ g) (h1 : g < T * n) (h2 : 0 ≤ i) (h3 : i < (w : Int)) : Ev (fun k => zV.f k d L T S ms g i) (Ed L w n r ms g i) := by
  have hj : ∀ t j : Nat, ms.length - j = t → j ≤ ms.length → Ev (fun k => zV.l0 k ms g i (j : Int) d L T S) (Ed L w n r (ms.drop j) g i) := by
    intro t
    induction t with
    | zero =>
      intro j ht hj
      refine evs (fun k => by rw [zV.l0]) (C8 (by omega) (DL (H.a1C g i h0 h1 h2 h3) (GX ?_)))
      rw [List.drop_of_length_le (by omega)]
      rfl
    | succ t ih =>
      intro j ht hj
      have hlt : j < ms.length := by omega
      refine evs (fun k => by rw [zV.l0]) (AP (by omega) (AP (by omega) ?_))
      have hstep := ih (j + 1) (by omega) (by omega)
      rw [FO ms j hlt, ww (by omega) (by omega), show (j : Int) + 1 = ((j + 1 : Nat) : Int) by omega, List.drop_eq_getElem_cons hlt]
      by_cases c1 : ms[j].f0 = g
      · refine AP c1 ?_
        by_cases c2 : ms[j].f1 = i
        · refine AP c2 (GX ?_)
          unfold Ed
          rw [List.find?_cons_of_pos (De.2 ⟨c1, c2⟩)]
        · refine C8 c2 ?_
          unfold Ed
          rw [List.find?_cons_of_neg (by rw [De]; exact fun h => c2 h.2)]
          exact hstep
      · refine C8 c1 ?_
        unfold Ed
        rw [List.find?_cons_of_neg (by rw [De]; exact fun h => c1 h.1)]
        exact hstep
  have := hj ms.length 0 (by omega) (by omega)
  exact this
theorem Lo.ZO (ms : List Mv) (hs : Sorted ms) (hl : ms.length ≤ 1000) (a b g i : Int) (h0 : 0 ≤ g) (h1 : g < T * n) (h2 : 0 ≤ i) (h3 : i < (w : Int)) : Ev (fun k => Cu.f k d L T S ms a b g i) (Ed L w n r ms g i) := by
  unfold Cu.f
  refine DL (Io ms hs hl g i) ?_
  have hf := Vn ms hs g i
  unfold Ed
  rw [hf]
  by_cases hp : DI ms g i < ms.length
  · rw [List.drop_eq_getElem_cons hp]
    simp only [List.head?_cons, Option.any_some, Option.filter_some]
    by_cases hi : Gm g i ms[DI ms g i] = true
    · rw [hi]
      refine AP rfl (AP (by omega) (AP (by omega) (GX ?_)))
      rw [if_pos rfl, FO ms _ hp]
    · rw [Bool.eq_false_iff.2 hi]
      refine C8 (by decide) (DL (H.RN g i) (GX ?_))
      have hc : 0 ≤ g ∧ g < T * (n : Int) ∧ 0 ≤ i ∧ i < (w : Int) := ⟨h0, h1, h2, h3⟩
      rw [if_pos hc, if_neg (by decide)]
  · rw [List.drop_of_length_le (by omega)]
    refine C8 (by simp) (DL (H.RN g i) (GX ?_))
    have hc : 0 ≤ g ∧ g < T * (n : Int) ∧ 0 ≤ i ∧ i < (w : Int) := ⟨h0, h1, h2, h3⟩
    rw [if_pos hc]
    rfl
end
end Go.Proofs.Ytjonnfmoocijlaa.P
namespace Go.Proofs.Ytjonnfmoocijlaa.P
open Go.RowKit Go.Proofs.YtjonnfmoocijlaaKW.PrintWords Go.Proofs.YtjonnfmoocijlaaKW.PrintLast Go.Proofs.YtjonnfmoocijlaaKW.PrintMore
attribute [local go_sem] zz zA zS zT zn zo zB zC
def Aq.f (yn : Int) (yg : List (List Int)) (yo : Int) (yt : Int) (Ab : List (AY)) (Al : Int) (zY : Int) : Option (Int) := if 0 < (yg.length : Int) then (some ((yT yg 0).length : Int)) else (none)
set_option maxHeartbeats 8000000 in
set_option maxRecDepth 100000 in
theorem Aq.calls (yn : Int) (yP : Option Addr) (yI : Nat) (yg : List (List Int)) (yo : Int) (yt : Int) (DF : Option Addr) (Du : Nat) (Ab : List (AY)) (Al : Int) (zY : Int) (r : Int) (w : World) (zR : Kd.C (Kd.slice 3 (Kd.int .i64)) w yP yg.length yg) (zU : yg.length ≤ yI) (F9 : Kd.C Dy w DF Ab.length Ab) (Fa : Ab.length ≤ Du) (h : Aq.f yn yg yo yt Ab Al zY = some r) :
  Calls Try.prog 63 #[.agg #[.int .i64 yn, .slice yP yg.length yI, .int .i64 yo, .int .i64 yt, .slice DF Ab.length Du, .int .i64 Al, .int .i64 zY]] w fun e w' => e = .returned (.int .i64 r) ∧ Below w.heap.size w w' := by
 have KF := Try.underlying71;have zq := yf.mk zR;have zG := yf.mk zU;clear zR zU;have ED := yf.mk F9;have GA := yf.mk Fa;clear F9 Fa;have HB := yf.mk (Below.refl w.heap.size w)
 have H : (if 0 < (yg.length : Int) then (some ((yT yg 0).length : Int)) else (none)) = some r := h
 clear h
 by_cases c2 : 0 < (yg.length : Int)
 rotate_left
 ·
  rw [if_neg c2] at H;exact absurd H (by simp)
 rw [if_pos c2] at H;have SL := decide_eq_true c2
 have a2W : decide (0 < yg.length) = true := decide_eq_true (by omega)
 clear c2;obtain rfl := Option.some.inj H
 go_enter Try.func63, Try.ntmps63
 go_wp2_with (((with_reducible refine yK (N := 1) rfl ?_); refine yE rfl (N := 1) rfl (cs := #[.int .i64 yn, .slice yP yg.length yI, .int .i64 yo, .int .i64 yt, .slice DF Ab.length Du, .int .i64 Al, .int .i64 zY]) (t := 71) (by go_simp) ?_; intro ak hg w3 yG hb; have ag := yf.mk (yG); have az := bG (w := w) hg; have ax := bG (w := w) hg; replace HB := bS HB hb; clear hb yG hg; have UL := EP ag; have UM := bf ag; have af : 0 ≤ (0 : Int) := (by omega); have ae : 0 < (yg.length : Int) := of_decide_eq_true ‹_›; obtain ⟨av, aC, au, aj, aa, ai, ah⟩ := Dw zq.out 0 af ae; cases aj; have ay : (0 < yg.length) = True := eq_true (by omega); (try rw [show ((0 : Int)).toNat = 0 from rfl] at aa); (try rw [Addr.add_zero'] at aa); replace aa := cB HB aa; have aA := yf.mk ah; have aD := yf.mk ai; clear ah ai; replace af := eq_true af; replace ae := eq_true ae))
 go_ret
 exact ⟨by rfl, bO HB⟩
end Go.Proofs.Ytjonnfmoocijlaa.P
