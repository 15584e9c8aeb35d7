/- Texts of a claim, packed. -/
import Derived.Test.YtjonnfmoocijlaaD31
import Derived.Test.YtjonnfmoocijlaaD33
set_option linter.all false
namespace Go.Proofs.Ytjonnfmoocijlaa.P
open Go.RowKit Go.Proofs.YtjonnfmoocijlaaKW.PrintWords Go.Proofs.YtjonnfmoocijlaaKW.PrintLast Go.Proofs.YtjonnfmoocijlaaKW.PrintMore
attribute [local go_sem] zz zA zS zT zn zo zB zC
mutual
def zi.j1 : Nat → List (AY) → Int → List (List Int) → Int → Int → Int → Int → Int → Int → Option ((List (AY)) × Int)
 | 0, _, _, _, _, _, _, _, _, _ => none
 | k + 1, Fj, ae, ag, af, aa, ah, ak, ai, aj => (zF.f k ae ag af aa).bind fun FW => ((zF.f k ae ag af aa).bind fun FX => ((Ai.f k ae ag af aa Fj).bind fun a0a => (if a0a = true then ((Ac.f k ae ag af aa Fj (wrap64 (FW - aa)) FX ah).bind fun a0b => (if a0b = true then (some (Fj, 0)) else (some (([] : List (AY)), 1)))) else (some (([] : List (AY)), 1)))))
def zi.j0 : Nat → List (AY) → Int → Bool → Bool → Int → List (List Int) → Int → Int → Int → Int → Int → Int → Option ((List (AY)) × Int)
 | 0, _, _, _, _, _, _, _, _, _, _, _, _ => none
 | k + 1, Fj, EO, GH, x47, ae, ag, af, aa, ah, ak, ai, aj => if x47 = true then (some (([] : List (AY)), 9)) else (if ai = (-1) then ((CS.f Fj EO (wrap64 (EO + 1))).bind fun X8 => (zi.j1 k X8 ae ag af aa ah ak ai aj)) else (if GH = true then (if 0 ≤ EO then (if EO < (Fj.length : Int) then (zi.j1 k (Fj.set (EO : Int).toNat (⟨ah, ak, (⟨ai, aj⟩ : KR)⟩ : AY)) ae ag af aa ah ak ai aj) else (none)) else (none)) else ((Ck.f Fj EO (([(⟨ah, ak, (⟨ai, aj⟩ : KR)⟩ : AY)] : List (AY)))).bind fun TB => (zi.j1 k TB ae ag af aa ah ak ai aj))))
end
def zi.f (k : Nat) (yn : Int) (yg : List (List Int)) (yo : Int) (yt : Int) (l1 : List (AY)) (Dn : Int) (Dp : Int) (DR : Int) (Eh : Int) : Option ((List (AY)) × Int) := (Ai.f k yn yg yo yt l1).bind fun VS => (if VS = true then ((BV.f k yn yg yo yt Dn Dp).bind fun Py => (if Py.2.2 = 0 then ((Cv.f l1).bind fun Ef => ((yl.f k Ef Dn Dp).bind fun I6 => (if DR = (-1) then (zi.j0 k Ef I6.1 I6.2 (!I6.2) yn yg yo yt Dn Dp DR Eh) else (zi.j0 k Ef I6.1 I6.2 false yn yg yo yt Dn Dp DR Eh)))) else (some (([] : List (AY)), Py.2.2)))) else (some (([] : List (AY)), 1)))
def zi.T15 : Bool × List (List Nat × List Nat) := (true, [([], []), ([], []), ([], []), ([2], [2]), ([], []), ([4], [4]), ([3, 5], [3, 5]), ([], []), ([7, 3], [7]), ([0, 1, 6, 8], [0, 1, 6, 8]), ([], []), ([10, 9, 8, 0, 1, 2, 3, 4, 5, 6, 7, 8, 9, 10], [9, 10])])
def zi.B15 : List Nat := [0, 0, 0, 4, 0, 16, 60, 0, 140, 511, 0, 2047]
theorem zi.VT : CX .any (opsOf Try.f17 15) = zi.T15 := by kernel_rfl
theorem zi.QQ : Bi zi.T15.2 zi.B15 = true := by kernel_rfl
set_option maxHeartbeats 8000000 in
set_option maxRecDepth 100000 in
theorem zi.calls (k : Nat) (yn : Int) (yP : Option Addr) (yI : Nat) (yg : List (List Int)) (yo : Int) (yt : Int) (A1 : Option Addr) (c1 : Nat) (l1 : List (AY)) (Dn : Int) (Dp : Int) (DR : Int) (Eh : Int) (r1 : List (AY)) (r2 : Int) (w : World) (zR : Kd.C (Kd.slice 3 (Kd.int .i64)) w yP yg.length yg) (zU : yg.length ≤ yI) (hr1 : Kd.C Dy w A1 l1.length l1) (hc1 : l1.length ≤ c1) (h : zi.f k yn yg yo yt l1 Dn Dp DR Eh = some (r1, r2)) :
  Calls Try.prog 17 #[.agg #[.int .i64 yn, .slice yP yg.length yI, .int .i64 yo, .int .i64 yt], .slice A1 l1.length c1, .agg #[.int .i64 Dn, .int .i64 Dp, .int .i64 DR, .int .i64 Eh]] w fun e w' => ∃ Gw : Value, e = .returned (.tuple #[Gw, .int .i64 r2]) ∧ Kd.R Dy 47 w' w.heap.size (fun _ => True) Gw r1 ∧ Below w.heap.size w w' := by
 have FB := Try.underlying31;have Pf := Try.underlying47;have Lv := Try.underlying38;have QE := Try.underlying81;have KF := Try.underlying71;have zq := yf.mk zR;have zG := yf.mk zU;clear zR zU;have HR1 := yf.mk hr1;have Gd := yf.mk hc1;clear hr1 hc1;have HB := yf.mk (Below.refl w.heap.size w)
 have H : ((Ai.f k yn yg yo yt l1).bind fun VS => (if VS = true then ((BV.f k yn yg yo yt Dn Dp).bind fun Py => (if Py.2.2 = 0 then ((Cv.f l1).bind fun Ef => ((yl.f k Ef Dn Dp).bind fun I6 => (if DR = (-1) then (zi.j0 k Ef I6.1 I6.2 (!I6.2) yn yg yo yt Dn Dp DR Eh) else (zi.j0 k Ef I6.1 I6.2 false yn yg yo yt Dn Dp DR Eh)))) else (some (([] : List (AY)), Py.2.2)))) else (some (([] : List (AY)), 1)))) = some (r1, r2) := h
 clear h;obtain ⟨VS, A4, H⟩ := bE H
 try dsimp only at H
 by_cases c5 : VS = true
 rotate_left
 ·
  replace c5 := Bool.eq_false_iff.mpr c5;subst c5
  rw [if_neg (show ¬ (false = true) by decide)] at H
  simp only [Option.some.injEq, Prod.mk.injEq] at H;obtain ⟨rfl, rfl⟩ := H
  go_enter Try.func17, Try.ntmps17
  go_wp2_with (first | ((with_reducible refine yK (N := 3) rfl ?_); refine yE rfl (N := 3) rfl (cs := #[.int .i64 yn, .slice yP yg.length yI, .int .i64 yo, .int .i64 yt]) (t := 31) (by go_simp) ?_; intro aj hg w143 yG hb; have aa := yf.mk (yG); have dn := bG (w := w) hg; have cO := bG (w := w) hg; replace HB := bS HB hb; clear hb yG hg) | ((with_reducible refine yK (N := 5) rfl ?_); refine yE rfl (N := 5) rfl (cs := #[.int .i64 Dn, .int .i64 Dp, .int .i64 DR, .int .i64 Eh]) (t := 47) (by go_simp) ?_; intro ak hg w144 yG hb; have ae := yf.mk (yG); have dA := bG (w := w) hg; have cZ := bG (w := w) hg; have aQ := BL aa hg; have aN := Ag aa hg; replace aa := bB aa hb; replace HB := bS HB hb; clear hb yG hg; have ZY := aQ.out; have ZZ := aN.out; have iW := AR aa; have iF := bf aa) | ((with_reducible refine yB (f := 25) rfl ?_); refine gL (some 16) Try.func25 #[.agg #[.int .i64 yn, .slice yP yg.length yI, .int .i64 yo, .int .i64 yt], .slice A1 l1.length c1] ?_; (with_reducible refine (Ai.calls k yn _ _ yg yo yt _ _ l1 false _ ?yF ?yM ?zI ?zJ A4.out).mono ?_); (case yF => exact Da zq); (case yM => exact zG.out); (case zI => exact Da HR1); (case zJ => exact Gd.out); rintro e w147 ⟨rfl, hb⟩; refine ⟨_, rfl, ?_⟩; replace aa := bB aa hb; replace ae := bB ae hb; replace HB := bS HB hb; clear hb))
  go_ret2
  exact ⟨_, by rfl, by exact Kd.Dh _ _ _ _ _, bO HB⟩
 subst c5;rw [if_pos rfl] at H;obtain ⟨⟨aK, aI, bM⟩, A6, H⟩ := bE H
 try dsimp only at H
 by_cases c7 : bM = 0
 rotate_left
 ·
  rw [if_neg c7] at H;have FR := beq_eq_false_iff_ne.mpr c7;have Mo := bne_iff_ne.mpr c7;simp only [Option.some.injEq, Prod.mk.injEq] at H;obtain ⟨rfl, rfl⟩ := H
  go_enter Try.func17, Try.ntmps17
  go_wp2_with (first | ((with_reducible refine yK (N := 3) rfl ?_); refine yE rfl (N := 3) rfl (cs := #[.int .i64 yn, .slice yP yg.length yI, .int .i64 yo, .int .i64 yt]) (t := 31) (by go_simp) ?_; intro aj hg w131 yG hb; have aa := yf.mk (yG); have dn := bG (w := w) hg; have cO := bG (w := w) hg; replace HB := bS HB hb; clear hb yG hg) | ((with_reducible refine yK (N := 5) rfl ?_); refine yE rfl (N := 5) rfl (cs := #[.int .i64 Dn, .int .i64 Dp, .int .i64 DR, .int .i64 Eh]) (t := 47) (by go_simp) ?_; intro ak hg w132 yG hb; have ae := yf.mk (yG); have dA := bG (w := w) hg; have cZ := bG (w := w) hg; have aQ := BL aa hg; have aN := Ag aa hg; replace aa := bB aa hb; replace HB := bS HB hb; clear hb yG hg; have jq := aQ.out; have iZ := aN.out; have jH := AR aa; have gB := bf aa) | ((with_reducible refine yB (f := 25) rfl ?_); refine gL (some 16) Try.func25 #[.agg #[.int .i64 yn, .slice yP yg.length yI, .int .i64 yo, .int .i64 yt], .slice A1 l1.length c1] ?_; (with_reducible refine (Ai.calls k yn _ _ yg yo yt _ _ l1 true _ ?yF ?yM ?zI ?zJ A4.out).mono ?_); (case yF => exact Da zq); (case yM => exact zG.out); (case zI => exact Da HR1); (case zJ => exact Gd.out); rintro e w135 ⟨rfl, hb⟩; refine ⟨_, rfl, ?_⟩; replace aa := bB aa hb; replace ae := bB ae hb; replace HB := bS HB hb; clear hb; have gq := AR aa; have iM := bf aa; have eY := AR ae; have mg := bf ae) | ((with_reducible refine yB (f := 39) rfl ?_); refine gL (some 24) Try.func39 #[.agg #[.int .i64 yn, .slice yP yg.length yI, .int .i64 yo, .int .i64 yt], .int .i64 Dn, .int .i64 Dp] ?_; (with_reducible refine (BV.calls k yn _ _ yg yo yt Dn Dp aK aI bM _ ?yF ?yM A6.out).mono ?_); (case yF => exact Da zq); (case yM => exact zG.out); rintro e w138 ⟨rfl, hb⟩; refine ⟨_, rfl, ?_⟩; replace aa := bB aa hb; replace ae := bB ae hb; replace HB := bS HB hb; clear hb) | ((with_reducible refine yK (N := 8) rfl ?_); refine yE rfl (N := 8) rfl (cs := #[.int .i64 0, .int .i64 0]) (t := 38) (by go_simp) ?_; intro aD hg w139 yG hb; have ag := yf.mk (yG); have dS := bG (w := w) hg; have dJ := bG (w := w) hg; have bu := BL aa hg; have bA := Ag aa hg; have aY := BL ae hg; have aX := Ag ae hg; replace aa := bB aa hb; replace ae := bB ae hb; replace HB := bS HB hb; clear hb yG hg; have ZR := bA.out; have ZT := bu.out; have ZU := aX.out; have ZV := aY.out; have ZW := bc2 ag; have ZX := bf ag))
  go_ret2
  exact ⟨_, by rfl, by exact Kd.Dh _ _ _ _ _, bO HB⟩
 rw [if_pos c7] at H;have FR := beq_iff_eq.mpr c7
 have Mo : (bM != 0) = false := bne_eq_false_iff_eq.mpr c7
 clear c7;obtain ⟨Ef, A8, H⟩ := bE H
 try dsimp only at H
 obtain ⟨⟨aA, bQ⟩, A9, H⟩ := bE H
 try dsimp only at H
 have QJ := yf.mk H;clear H
 go_enter Try.func17, Try.ntmps17
 go_upto_block 0 with (first | ((with_reducible refine yK (N := 3) rfl ?_); refine yE rfl (N := 3) rfl (cs := #[.int .i64 yn, .slice yP yg.length yI, .int .i64 yo, .int .i64 yt]) (t := 31) (by go_simp) ?_; intro aj hg w11 yG hb; have aa := yf.mk (yG); have dn := bG (w := w) hg; have cO := bG (w := w) hg; replace HB := bS HB hb; clear hb yG hg) | ((with_reducible refine yK (N := 5) rfl ?_); refine yE rfl (N := 5) rfl (cs := #[.int .i64 Dn, .int .i64 Dp, .int .i64 DR, .int .i64 Eh]) (t := 47) (by go_simp) ?_; intro ak hg w12 yG hb; have ae := yf.mk (yG); have dA := bG (w := w) hg; have cZ := bG (w := w) hg; have aQ := BL aa hg; have aN := Ag aa hg; replace aa := bB aa hb; replace HB := bS HB hb; clear hb yG hg; have Yn := aQ.out; have Yo := aN.out; have LQ := AR aa; have LU := bf aa) | ((with_reducible refine yB (f := 25) rfl ?_); refine gL (some 16) Try.func25 #[.agg #[.int .i64 yn, .slice yP yg.length yI, .int .i64 yo, .int .i64 yt], .slice A1 l1.length c1] ?_; (with_reducible refine (Ai.calls k yn _ _ yg yo yt _ _ l1 true _ ?yF ?yM ?zI ?zJ A4.out).mono ?_); (case yF => exact Da zq); (case yM => exact zG.out); (case zI => exact Da HR1); (case zJ => exact Gd.out); rintro e w15 ⟨rfl, hb⟩; refine ⟨_, rfl, ?_⟩; replace aa := bB aa hb; replace ae := bB ae hb; replace HB := bS HB hb; clear hb; have JZ := AR aa; have K3 := bf aa; have Kj := AR ae; have Kk := bf ae) | ((with_reducible refine yB (f := 39) rfl ?_); refine gL (some 24) Try.func39 #[.agg #[.int .i64 yn, .slice yP yg.length yI, .int .i64 yo, .int .i64 yt], .int .i64 Dn, .int .i64 Dp] ?_; (with_reducible refine (BV.calls k yn _ _ yg yo yt Dn Dp aK aI bM _ ?yF ?yM A6.out).mono ?_); (case yF => exact Da zq); (case yM => exact zG.out); rintro e w18 ⟨rfl, hb⟩; refine ⟨_, rfl, ?_⟩; replace aa := bB aa hb; replace ae := bB ae hb; replace HB := bS HB hb; clear hb) | ((with_reducible refine yK (N := 8) rfl ?_); refine yE rfl (N := 8) rfl (cs := #[.int .i64 0, .int .i64 0]) (t := 38) (by go_simp) ?_; intro aD hg w19 yG hb; have ag := yf.mk (yG); have dS := bG (w := w) hg; have dJ := bG (w := w) hg; have bu := BL aa hg; have bA := Ag aa hg; have aY := BL ae hg; have aX := Ag ae hg; replace aa := bB aa hb; replace ae := bB ae hb; replace HB := bS HB hb; clear hb yG hg; have RV := bA.out; have RX := bu.out; have gV := aX.out; have jR := aY.out; have RH := bc2 ag; have RI := bf ag) | ((with_reducible refine yB (f := 40) rfl ?_); refine gL (some 31) Try.func40 #[.slice A1 l1.length c1] ?_; (with_reducible refine (Cv.calls _ _ l1 Ef _ ?yF ?yM A8.out).mono ?_); (case yF => exact Kd.Ci HR1.out (bO HB)); (case yM => exact Gd.out); rintro e w23 ⟨v337, rfl, ho0, hb⟩; refine ⟨_, rfl, ?_⟩; have bi := yf.mk (Kd.AL (Kd.TS ho0 (g := ak) (o := .cells #[.int .i64 Dn, .int .i64 Dp, .int .i64 DR, .int .i64 Eh] 47 (0, 0)) (CF ae rfl)) (yJ (bO HB))); replace aa := yf.mk (yX (g := aj) (o := .cells #[.int .i64 yn, .slice yP yg.length yI, .int .i64 yo, .int .i64 yt] 31 (0, 0)) (CF aa rfl) hb); replace ae := yf.mk (yX (g := ak) (o := .cells #[.int .i64 Dn, .int .i64 Dp, .int .i64 DR, .int .i64 Eh] 47 (0, 0)) (CF ae rfl) hb); replace ag := yf.mk (yX (g := aD) (o := .cells #[.int .i64 aK, .int .i64 aI] 38 (0, 0)) (CF ag rfl) hb); replace HB := bS HB hb; clear hb; clear ho0; have Na := AR ae; have Nb := bf ae; obtain ⟨bg, aW, dY⟩ := Kd.zX bi.out; subst dY) | ((with_reducible refine yB (f := 41) rfl ?_); refine gL (some 39) Try.func41 #[.slice bg Ef.length aW, .agg #[.int .i64 Dn, .int .i64 Dp], (.func (.func 42) #[] #[])] ?_; (with_reducible refine (yl.calls k _ _ Ef Dn Dp  aA bQ _ ?yF ?yM A9.out).mono ?_); (case yF => exact Kz bi); (case yM => exact (Kd.zt bi.out).2.1); rintro e w26 ⟨rfl, hb⟩; refine ⟨_, rfl, ?_⟩; replace bi := BN bi hb; replace aa := bB aa hb; replace ae := bB ae hb; replace ag := bB ag hb; replace HB := bS HB hb; clear hb))
 (try simp only [pz])
 go_cut [10] (fun v10 wc => ∃ (kq : Nat) (aC : List (AY)) (aM : Int) (aV : Int) (aU : Int) (aT : Int), yf (zi.j1 kq aC yn yg yo yt aM aV aU aT = some (r1, r2)) ∧ yf (kq ≤ k) ∧ yf (Kd.R Dy 47 wc w.heap.size (fun k_ => k_ ≠ ak) v10 aC) ∧ yf (wc.heap[aj]? = some (.cells #[.int .i64 yn, (.slice yP yg.length yI), .int .i64 yo, .int .i64 yt] 31 (0, 0))) ∧ yf (wc.heap[ak]? = some (.cells #[.int .i64 aM, .int .i64 aV, .int .i64 aU, .int .i64 aT] 47 (0, 0))) ∧ yf (wc.heap[aD]? = some (.cells #[.int .i64 aK, .int .i64 aI] 38 (0, 0))) ∧ yf (Below w.heap.size w wc))
 case first =>
  have H := QJ.out;clear QJ;have QI := yf.mk H;clear H
  go_upto_region 9 with (fail)
  go_cut [47] (fun v47 wc => ∃ (kq : Nat) (bP : Bool), v47 = .bool bP ∧ yf (zi.j0 kq Ef aA bQ bP yn yg yo yt Dn Dp DR Eh = some (r1, r2)) ∧ yf (kq ≤ k) ∧ yf (Kd.R Dy 47 wc w.heap.size (fun k_ => k_ ≠ ak) (.slice bg Ef.length aW) Ef) ∧ yf (wc.heap[aj]? = some (.cells #[.int .i64 yn, (.slice yP yg.length yI), .int .i64 yo, .int .i64 yt] 31 (0, 0))) ∧ yf (wc.heap[ak]? = some (.cells #[.int .i64 Dn, .int .i64 Dp, .int .i64 DR, .int .i64 Eh] 47 (0, 0))) ∧ yf (wc.heap[aD]? = some (.cells #[.int .i64 aK, .int .i64 aI] 38 (0, 0))) ∧ yf (Below w.heap.size w wc))
  case first =>
   have H := QI.out;clear QI
   by_cases c28 : DR = (-1)
   ·
    rw [if_pos c28] at H;have MX := beq_iff_eq.mpr c28
    have OL : (DR != (-1)) = false := bne_eq_false_iff_eq.mpr c28
    clear c28
    (skip)
    have H' := yf.mk H;clear H;have Y3 := aN.out;have Y4 := aQ.out;have MZ := aY.out;have N7 := aX.out;have Lx := AR ae;have LA := bf ae
    go_wp2
    go_meet
    case rel => exact ⟨_, (!bQ), (by rfl), H', ⟨by omega⟩, ⟨by (with_reducible repeat (apply Kd.zl)); exact Kd.zb bi.out (fun _ hk => hk.2)⟩, ⟨kk aa⟩, ⟨kk ae⟩, ⟨kk ag⟩, ⟨bO HB⟩⟩
   rw [if_neg c28] at H;have MX := beq_eq_false_iff_ne.mpr c28;have OL := bne_iff_ne.mpr c28
   (skip)
   have H' := yf.mk H;clear H;have Rp := aN.out;have Rq := aQ.out;have UZ := aY.out;have V3 := aX.out;have JX := AR ae;have JY := bf ae
   go_wp2
   go_meet
   case rel => exact ⟨_, (false), (by rfl), H', ⟨by omega⟩, ⟨by (with_reducible repeat (apply Kd.zl)); exact Kd.zb bi.out (fun _ hk => hk.2)⟩, ⟨kk aa⟩, ⟨kk ae⟩, ⟨kk ag⟩, ⟨bO HB⟩⟩
  case rest =>
  clear QI FR Mo LQ JZ Kj RH Na LU K3 Kk RI Nb;obtain ⟨kq, bP, rfl, HA, LY, zk, aa, ae, ag, HB⟩ := hcut
  cases kq with
  | zero => exact absurd HA.out (by simp [zi.j0])
  | succ X4 =>
   have H := HA.out;clear HA;simp only [zi.j0] at H
   by_cases KC : bP = true
   ·
    subst KC;rw [if_pos rfl] at H;simp only [Option.some.injEq, Prod.mk.injEq] at H;obtain ⟨rfl, rfl⟩ := H
    go_wp2
    go_ret2
    exact ⟨_, by rfl, by exact Kd.Dh _ _ _ _ _, bO HB⟩
   ·
    replace KC := Bool.eq_false_iff.mpr KC;subst KC
    rw [if_neg (show ¬ (false = true) by decide)] at H
    by_cases Sd : DR = (-1)
    ·
     rw [if_pos Sd] at H;have VU := beq_iff_eq.mpr Sd
     have dN : (DR != (-1)) = false := bne_eq_false_iff_eq.mpr Sd
     clear Sd;obtain ⟨X8, A37, H⟩ := bE H
     try dsimp only at H
     have H' := yf.mk H;clear H;have XJ := aN.out;have XK := aQ.out;have Rz := aY.out;have RA := aX.out;have YF := AR ae;have YG := bf ae
     go_wp2_with (((with_reducible refine yB (f := 43) rfl ?_); refine gL (some 65) Try.func43 #[.slice bg Ef.length aW, .int .i64 aA, .int .i64 (wrap64 (aA + 1))] ?_; (with_reducible refine (CS.calls (fun k_ => some k_ = (.slice bg Ef.length aW : Value).ownBlock) (.slice bg Ef.length aW) Ef aA (wrap64 (aA + 1)) X8 w _ ?yF ?yM A37.out).mono ?_); (case yF => repeat ((with_reducible exact HB.out))); (case yM => exact Kd.Fx rfl zk.out); rintro e w41 ⟨v342, rfl, ho0, hb, hkp⟩; refine ⟨_, rfl, ?_⟩; have Bt := yf.mk (Eb (kk aa) hkp (fun hs_ => (fun e_ => (Kd.Dx zk.out aa.out (by decide)) e_) hs_)); have Bu := yf.mk (Eb (kk ae) hkp (fun hs_ => (fun e_ => (Kd.JC zk.out (fun _ hk => hk)) e_) hs_)); have BJ := yf.mk (Eb (kk ag) hkp (fun hs_ => (fun e_ => (Kd.Dx zk.out ag.out (by decide)) e_) hs_)); have Cs := yf.mk (Kd.zb (ok' := fun k_ => k_ ≠ ak) ho0 (fun k_ BG => Or.elim BG (fun hs_ => fun e_ => (Kd.JC zk.out (fun _ hk => hk)) (by rw [← e_]; exact hs_)) (fun BO => (Kd.Ae (g := ak) (o := .cells #[.int .i64 Dn, .int .i64 Dp, .int .i64 DR, .int .i64 Eh] 47 (0, 0)) (kk ae) k_ BO)))); have CJ := yf.mk (hb); clear aa; clear ae; clear ag; clear HB; clear zk; have aa := Bt; have ae := Bu; have ag := BJ; have eD := Cs; have HB := CJ; clear Bt Bu BJ Cs CJ; clear hb; clear hkp; clear ho0))
     go_meet
     case rel => exact ⟨_, (X8), (Dn), (Dp), (DR), (Eh), H', ⟨by have := LY.out; omega⟩, ⟨kR eD⟩, ⟨kk aa⟩, ⟨kk ae⟩, ⟨kk ag⟩, ⟨bO HB⟩⟩
    ·
     rw [if_neg Sd] at H;have VU := beq_eq_false_iff_ne.mpr Sd;have dN := bne_iff_ne.mpr Sd
     by_cases IQ : bQ = true
     ·
      subst IQ;rw [if_pos rfl] at H
      by_cases PP : 0 ≤ aA
      ·
       rw [if_pos PP] at H;have Um := decide_eq_true PP;clear PP
       by_cases Mm : aA < (Ef.length : Int)
       ·
        rw [if_pos Mm] at H;have Rj := decide_eq_true Mm;clear Mm;obtain ⟨bU, bX⟩ : ∃ y_ : List (AY), y_ = (Ef.set (aA : Int).toNat (⟨Dn, Dp, (⟨DR, Eh⟩ : KR)⟩ : AY)) := ⟨_, rfl⟩
        replace H : (zi.j1 X4 bU yn yg yo yt Dn Dp DR Eh) = some (r1, r2) := by (rw [bX]; with_reducible exact H)
        have dD := yf.mk bX;clear bX;have H' := yf.mk H;clear H;have RB := aN.out;have RD := aQ.out;have YH := aY.out;have YI := aX.out;have UJ := AR ae;have UK := bf ae
        have p45 : 0 ≤ (aA : Int) := of_decide_eq_true ‹_›
        have bY : (aA : Int) < ((Ef.length : Int) : Int) := of_decide_eq_true ‹_›
        obtain ⟨aJ, Uu, Uv, dh, dP, jd, d9⟩ := Kd.He zk.out (by omega)
        (cases Uv)
        have bR := yf.mk dh;have iC := yf.mk d9;clear dh dP d9;obtain ⟨kY, ek, dw, bD, bF⟩ := Kd.PY zk.out z47 (aA : Int) p45 bY;obtain rfl := JJ dw
        have jC : wc.cell? ⟨aJ, (aA : Int).toNat * 4, none⟩ = some (.int .i64 ((yh Ef aA).f0)) := bD 0 _ rfl
        have eP : wc.cell? ⟨aJ, (aA : Int).toNat * 4 + 1, none⟩ = some (.int .i64 ((yh Ef aA).f1)) := bD 1 _ rfl
        have j4 : wc.cell? ⟨aJ, (aA : Int).toNat * 4 + 2, none⟩ = some (.int .i64 ((yh Ef aA).f2.f0)) := bD 2 _ rfl
        have fK : wc.cell? ⟨aJ, (aA : Int).toNat * 4 + 3, none⟩ = some (.int .i64 ((yh Ef aA).f2.f1)) := bD 3 _ rfl
        have jO : wc.frozen? ⟨aJ, (aA : Int).toNat * 4, none⟩ = false := bF 0
        have kZ : wc.frozen? ⟨aJ, (aA : Int).toNat * 4 + 1, none⟩ = false := bF 1
        have iV : wc.frozen? ⟨aJ, (aA : Int).toNat * 4 + 2, none⟩ = false := bF 2
        have fo : wc.frozen? ⟨aJ, (aA : Int).toNat * 4 + 3, none⟩ = false := bF 3
        clear ek bD bF dw;replace p45 := eq_true p45;replace bY := eq_true bY;have dm := yf.mk (show Kd.R Dy 47 wc w.heap.size (fun k_ => k_ ≠ ak) (.slice (some ⟨aJ, 0, none⟩) Ef.length aW) Ef from (kR zk));obtain ⟨iP, dx, df, bv, bL⟩ := Kd.PY dm.out z47 (aA : Int) (of_decide_eq_true ‹_›) (by have h_ : (aA : Int) < ((Ef.length : Int) : Int) := of_decide_eq_true ‹_›; exact h_);obtain rfl := JJ df;have Qe := Kd.Xh dm.out (aA : Int) (of_decide_eq_true ‹_›) (by have h_ : (aA : Int) < ((Ef.length : Int) : Int) := of_decide_eq_true ‹_›; exact h_) (seg := [.int .i64 Dn, .int .i64 Dp, .int .i64 DR, .int .i64 Eh]) (j := 0) dx bv (show 4 ≤ 4 from by decide) (x' := (⟨Dn, Dp, (⟨DR, Eh⟩ : KR)⟩ : AY)) (NL _ _ _ (⟨Dn, Dp, (⟨DR, Eh⟩ : KR)⟩ : AY) ) (fun _ hk => hk);have ed := bv 0 _ rfl
        (try simp only [show (Dy).sz = 4 from rfl, Nat.mul_one, Nat.add_zero] at ed)
        have dQ := bL 0
        (try simp only [show (Dy).sz = 4 from rfl, Nat.mul_one, Nat.add_zero] at dQ)
        have dE := bv 1 _ rfl
        (try simp only [show (Dy).sz = 4 from rfl, Nat.mul_one, Nat.add_zero] at dE)
        have dH := bL 1
        (try simp only [show (Dy).sz = 4 from rfl, Nat.mul_one, Nat.add_zero] at dH)
        have dC := bv 2 _ rfl
        (try simp only [show (Dy).sz = 4 from rfl, Nat.mul_one, Nat.add_zero] at dC)
        have eu := bL 2
        (try simp only [show (Dy).sz = 4 from rfl, Nat.mul_one, Nat.add_zero] at eu)
        have dV := bv 3 _ rfl
        (try simp only [show (Dy).sz = 4 from rfl, Nat.mul_one, Nat.add_zero] at dV)
        have dF := bL 3
        (try simp only [show (Dy).sz = 4 from rfl, Nat.mul_one, Nat.add_zero] at dF)
        clear dx bv bL df
        go_wp2_with (((with_reducible refine FJ (t := 47) (p := 71) rfl ?_); refine F7 (t := 47) (p := 71) (v := ?vo_w50) (w1 := ((((wc.setCell ⟨aJ, (aA : Int).toNat * 4, none⟩ (.int .i64 Dn)).setCell ⟨aJ, (aA : Int).toNat * 4 + 1, none⟩ (.int .i64 Dp)).setCell ⟨aJ, (aA : Int).toNat * 4 + 2, none⟩ (.int .i64 DR)).setCell ⟨aJ, (aA : Int).toNat * 4 + 3, none⟩ (.int .i64 Eh))) ?hg ?ho ?hn ?hr ?_; (case ho => rfl); (case hg => rfl); (case hn => rfl); (case hr => go_simp); intro w50 hw; have hg : wc.grownBy w50 (some aJ) := (by rw [hw]; exact Qe.2); have Re : Kd.R Dy 47 w50 w.heap.size (fun k_ => k_ ≠ ak) (.slice (some ⟨aJ, 0, none⟩) Ef.length aW) bU := (by rw [hw, dD.out]; exact Qe.1); clear Qe; have Bt := yf.mk (Re); have Bu := yf.mk (Aa (g := aj) (o := .cells #[.int .i64 yn, .slice yP yg.length yI, .int .i64 yo, .int .i64 yt] 31 (0, 0)) (kk aa) hg (Kd.Dx zk.out aa.out (by decide))); have BJ := yf.mk (Aa (g := ak) (o := .cells #[.int .i64 Dn, .int .i64 Dp, .int .i64 DR, .int .i64 Eh] 47 (0, 0)) (kk ae) hg (Kd.JC zk.out (fun _ hk => hk))); have Cs := yf.mk (Aa (g := aD) (o := .cells #[.int .i64 aK, .int .i64 aI] 38 (0, 0)) (kk ag) hg (Kd.Dx zk.out ag.out (by decide))); have CJ := yf.mk ((by rw [hw]; exact Dk (Dk (Dk (Dk (HB.out) bR.out) bR.out) bR.out) bR.out : Below w.heap.size w w50)); clear zk; clear aa; clear ae; clear ag; clear HB; have zk := Bt; have aa := Bu; have ae := BJ; have ag := Cs; have HB := CJ; clear Bt Bu BJ Cs CJ; clear hg hw Re))
        go_meet
        case rel => exact ⟨_, (bU), (Dn), (Dp), (DR), (Eh), H', ⟨by have := LY.out; omega⟩, ⟨kR zk⟩, ⟨kk aa⟩, ⟨kk ae⟩, ⟨kk ag⟩, ⟨bO HB⟩⟩
       ·
        rw [if_neg Mm] at H;exact absurd H (by simp)
      ·
       rw [if_neg PP] at H;exact absurd H (by simp)
     ·
      replace IQ := Bool.eq_false_iff.mpr IQ;subst IQ
      rw [if_neg (show ¬ (false = true) by decide)] at H
      obtain ⟨bN, bV⟩ : ∃ y_ : List (AY), y_ = (([(⟨Dn, Dp, (⟨DR, Eh⟩ : KR)⟩ : AY)] : List (AY))) := ⟨_, rfl⟩
      replace H : ((Ck.f Ef aA bN).bind fun TB => (zi.j1 X4 TB yn yg yo yt Dn Dp DR Eh)) = some (r1, r2) := by (rw [bV]; with_reducible exact H)
      have dR := yf.mk bV;clear bV;obtain ⟨TB, dZ, H⟩ := bE H
      try dsimp only at H
      have H' := yf.mk H;clear H;have YJ := aN.out;have YK := aQ.out;have a1f := aY.out;have a1g := aX.out;have a1h := AR ae;have a1i := bf ae
      go_wp2_with (first | ((with_reducible refine yK (N := 45) rfl ?_); refine Kd.Hf Dy _ 47 ?hg (N := 45) ?hd (xs := ([(⟨Dn, Dp, (⟨DR, Eh⟩ : KR)⟩ : AY)] : List (AY))) (inner := [.int .i64 Dn, .int .i64 Dp, .int .i64 DR, .int .i64 Eh]) (ok := fun _ => True) (okp := fun _ => True) ?hr ?hp (fun _ hk => hk) trivial (Below.refl _ _) (Nat.le_refl _) (by simp) ?_; (case hd => rfl); (case hg => rfl); (case hr => go_simp); (case hp => exact (Bo.c4 (show Kd.M Dy _ _ _ (⟨Dn, Dp, (⟨DR, Eh⟩ : KR)⟩ : AY) [.int .i64 Dn, .int .i64 Dp, .int .i64 DR, .int .i64 Eh] from (NL _ _ _ (⟨Dn, Dp, (⟨DR, Eh⟩ : KR)⟩ : AY) )) (Bo.none _ _))); intro v346 w55 bT hb H5 CG; clear H5 CG; (rw [← dR.out] at bT); have aZ := yf.mk (Kd.AL (Kd.TS (Kd.CE bT (Kd.Em (kR zk))) (g := ak) (o := .cells #[.int .i64 Dn, .int .i64 Dp, .int .i64 DR, .int .i64 Eh] 47 (0, 0)) (kk ae)) (yJ (bO HB))); replace zk := yf.mk (Kd.Bf (kR zk) (Kd.AO bT) hb); replace aa := bB aa hb; replace ae := bB ae hb; replace ag := bB ag hb; replace HB := bS HB hb; clear hb bT; obtain ⟨dz, cK, dL⟩ := Kd.zX aZ.out; subst dL) | ((with_reducible refine yB (f := 44) rfl ?_); refine gL (some 46) Try.func44 #[.slice bg Ef.length aW, .int .i64 aA, .slice dz bN.length cK] ?_; (with_reducible refine (Ck.calls (fun k_ => some k_ = (.slice bg Ef.length aW : Value).ownBlock) (.slice bg Ef.length aW) Ef aA _ _ bN TB w _ ?yF ?yM ?zI ?zJ dZ.out).mono ?_); (case yF => repeat ((with_reducible exact HB.out))); (case yM => exact Kd.Fx rfl zk.out); (case zI => exact ⟨_, _, aZ.out, fun k_ lu BG hs_ => (BG.1.2) hs_⟩); (case zJ => exact (Kd.zt aZ.out).2.1); rintro e w58 ⟨v349, rfl, ho0, hb, hkp⟩; refine ⟨_, rfl, ?_⟩; have Bt := yf.mk (Eb (kk aa) hkp (fun hs_ => (fun e_ => (Kd.Dx zk.out aa.out (by decide)) e_) hs_)); have Bu := yf.mk (Eb (kk ae) hkp (fun hs_ => (fun e_ => (Kd.JC zk.out (fun _ hk => hk.1)) e_) hs_)); have BJ := yf.mk (Eb (kk ag) hkp (fun hs_ => (fun e_ => (Kd.Dx zk.out ag.out (by decide)) e_) hs_)); have Cs := yf.mk (Kd.zb (ok' := fun k_ => k_ ≠ ak ∧ some k_ ≠ (v349 : Value).ownBlock) (Kd.WG (aZ.out) hkp (fun k_ BG hs_ => (BG.1.2) hs_)) (fun k_ BG => ⟨BG.1.2, fun e_ => Or.elim (ho0.1 k_ e_.symm) (fun hs_ => BG.2.1 hs_) (fun BO => Nat.not_le.2 BG.2.2 BO)⟩)); have CJ := yf.mk (Kd.zb (ok' := fun k_ => some k_ ≠ (.slice dz bN.length cK : Value).ownBlock ∧ k_ ≠ ak) ho0 (fun k_ BG => ⟨Or.elim BG (fun hs_ => fun e_ => (((aZ.out).1 k_ e_.symm).1.2) hs_) (fun BO => (Kd.fresh' (Kd.Em (kR aZ)) k_ BO)), Or.elim BG (fun hs_ => fun e_ => (Kd.JC zk.out (fun _ hk => hk.1)) (by rw [← e_]; exact hs_)) (fun BO => (Kd.Ae (g := ak) (o := .cells #[.int .i64 Dn, .int .i64 Dp, .int .i64 DR, .int .i64 Eh] 47 (0, 0)) (kk ae) k_ BO))⟩)); have Db := yf.mk (hb); clear aa; clear ae; clear ag; clear aZ; clear HB; clear zk; have aa := Bt; have ae := Bu; have ag := BJ; have aZ := Cs; have dO := CJ; have HB := Db; clear Bt Bu BJ Cs CJ Db; clear hb; clear hkp; clear ho0))
      go_meet
      case rel => exact ⟨_, (TB), (Dn), (Dp), (DR), (Eh), H', ⟨by have := LY.out; omega⟩, ⟨by (with_reducible repeat (apply Kd.zl)); exact Kd.zb dO.out (fun _ hk => hk.2)⟩, ⟨kk aa⟩, ⟨kk ae⟩, ⟨kk ag⟩, ⟨bO HB⟩⟩
 case rest =>
 clear QJ FR Mo LQ JZ Kj RH Na LU K3 Kk RI Nb;obtain ⟨kq, aC, aM, aV, aU, aT, HA, X7, zk, aa, ae, ag, HB⟩ := hcut
 cases kq with
 | zero => exact absurd HA.out (by simp [zi.j1])
 | succ KI =>
  have H := HA.out;clear HA;simp only [zi.j1] at H;obtain ⟨FW, Tt, H⟩ := bE H
  try dsimp only at H
  obtain ⟨FX, TI, H⟩ := bE H
  try dsimp only at H
  obtain ⟨a0a, bZ, H⟩ := bE H
  try dsimp only at H
  by_cases Oi : a0a = true
  ·
   subst Oi;rw [if_pos rfl] at H;obtain ⟨a0b, di, H⟩ := bE H
   try dsimp only at H
   by_cases c64 : a0b = true
   ·
    subst c64;rw [if_pos rfl] at H;simp only [Option.some.injEq, Prod.mk.injEq] at H;obtain ⟨rfl, rfl⟩ := H
    try go_wp2
    replace zk := yf.mk (Kd.Cr zk.out);replace aa := yf.mk (yZ aa.out);replace ae := yf.mk (yZ ae.out);replace ag := yf.mk (yZ ag.out);replace HB := yf.mk (ze HB.out);obtain ⟨bI, bq, dI⟩ := Kd.zX zk.out
    (subst dI)
    refine AV (n := 12) (S := fun w' => w'.cell? ⟨aj, 0, none⟩ = some (.int .i64 yn) ∧ w'.cell? ⟨aj, 1, none⟩ = some (.slice yP yg.length yI) ∧ w'.cell? ⟨aj, 2, none⟩ = some (.int .i64 yo) ∧ w'.cell? ⟨aj, 3, none⟩ = some (.int .i64 yt)) (ds := []) (bz 12 0) (by kernel_rfl) rfl rfl (AR aa) (fun hHeld => ?_); refine zQ zi.VT zi.QQ (fun yD AZ => ?_)
    generalize wc.drew = w65 at zk aa ae ag HB hHeld ⊢;refine pU 1 73 12 2 yD ?_;refine pU 4 76 12 18 yD ?_
    refine BQ 0 72 12 19 yD AZ hHeld ?_
    refine BQ 2 74 12 23 yD AZ hHeld ?_
    refine BQ 5 77 12 55 yD AZ hHeld ?_
    refine BQ 7 79 12 183 yD AZ hHeld ?_
    refine Om (σ := Nat) 1 (bz 12 2047) (fun s_ => [(75, .int .i64 FW), (80, .int .i64 FX), (13, .pointer (some ⟨s_, 0, none⟩)), (78, .int .i64 (wrap64 (FW - yt))), (81, .agg #[.int .i64 yn, .slice yP yg.length yI, .int .i64 yo, .int .i64 yt, .slice bI aC.length bq, .int .i64 (wrap64 (FW - yt)), .int .i64 FX])]) (fun s_ w' => (w'.cell? ⟨aj, 0, none⟩ = some (.int .i64 yn) ∧ w'.cell? ⟨aj, 1, none⟩ = some (.slice yP yg.length yI) ∧ w'.cell? ⟨aj, 2, none⟩ = some (.int .i64 yo) ∧ w'.cell? ⟨aj, 3, none⟩ = some (.int .i64 yt)) ∧ (Kd.R Dy 47 w' w.heap.size (fun k_ => k_ ≠ ak) (.slice bI aC.length bq) aC) ∧ (w'.heap[aj]? = some (.cells #[.int .i64 yn, .slice yP yg.length yI, .int .i64 yo, .int .i64 yt] 31 (0, 0))) ∧ (w'.heap[ak]? = some (.cells #[.int .i64 aM, .int .i64 aV, .int .i64 aU, .int .i64 aT] 47 (0, 0))) ∧ (w'.heap[aD]? = some (.cells #[.int .i64 aK, .int .i64 aI] 38 (0, 0))) ∧ (w'.heap[s_]? = some (.cells #[.int .i64 0, .slice none 0 0, .int .i64 0, .int .i64 0, .slice none 0 0, .int .i64 0, .int .i64 0] 71 (0, 0))) ∧ (w.heap.size ≤ s_) ∧ (w.heap.size ≤ s_) ∧ (aj ≠ s_) ∧ (s_ ≠ aj) ∧ (ak ≠ s_) ∧ (s_ ≠ ak) ∧ (aD ≠ s_) ∧ (s_ ≠ aD) ∧ (Below w.heap.size w w')) ?_ ?_
    rotate_left
    ·
     intro hCont
     refine Mh (i := 3) (j := 10) (Ni := some 75) (Nj := some 13) (bz 12 191) (bz 12 1207) rfl rfl rfl rfl (Gj yD.out (by kernel_rfl)) (by decide) (by decide) (fun K hK => ?_) (fun K hK => ?_)
     ·
      skip
      refine gO Try.func45 #[.agg #[.int .i64 yn, .slice yP yg.length yI, .int .i64 yo, .int .i64 yt]] ?_
      with_reducible refine (zF.calls KI yn _ _ yg yo yt FW _ ?yF ?yM Tt.out).mono ?_
      (case yF => exact Da zq)
      (case yM => exact zG.out)
      rintro e w66 ⟨rfl, hb⟩
      refine ⟨_, rfl, ?_⟩
      replace zk := BN zk hb;replace aa := bB aa hb;replace ae := bB ae hb;replace ag := bB ag hb;replace HB := bS HB hb;clear hb
      refine hK.out _ _ (AR aa) (fun hHeld => ?_)
      clear hK K
      refine Aj (a' := ?_) ?_ ?_
      rotate_left
      ·
       show Act.put _ (some 75) _ = _
       simp only [pz]
       rfl
      refine pU 6 78 12 255 yD ?_
      refine Mh (i := 8) (j := 10) (Ni := some 80) (Nj := some 13) (bz 12 511) (bz 12 1279) rfl rfl rfl rfl (Gj yD.out (by kernel_rfl)) (by decide) (by decide) (fun K hK => ?_) (fun K hK => ?_)
      ·
       skip
       refine gO Try.func45 #[.agg #[.int .i64 yn, .slice yP yg.length yI, .int .i64 yo, .int .i64 yt]] ?_
       with_reducible refine (zF.calls KI yn _ _ yg yo yt FX _ ?yF ?yM TI.out).mono ?_
       (case yF => exact Da zq)
       (case yM => exact zG.out)
       rintro e w67 ⟨rfl, hb⟩
       refine ⟨_, rfl, ?_⟩
       replace zk := BN zk hb;replace aa := bB aa hb;replace ae := bB ae hb;replace ag := bB ag hb;replace HB := bS HB hb;clear hb
       refine hK.out _ _ (AR aa) (fun hHeld => ?_)
       clear hK K
       refine Aj (a' := ?_) ?_ ?_
       rotate_left
       ·
        show Act.put _ (some 80) _ = _
        simp only [pz]
        rfl
       refine pU 9 81 12 1023 yD ?_
       refine BP (i := 10) (N := some 13) (bz 12 2047) rfl rfl (Af yD.out (by kernel_rfl)) (by decide) (fun K hK => ?_)
       refine D8 ?hg (N := 13) ?hd (cs := #[.int .i64 0, .slice none 0 0, .int .i64 0, .int .i64 0, .slice none 0 0, .int .i64 0, .int .i64 0]) (t := 71) ?hr ?_; (case hd => rfl); (case hg => rfl); (case hr => go_simp)
       intro af hg w69 yG hb
       have Bt := BN zk hb;have Bu := bB aa hb;have BJ := bB ae hb;have Cs := bB ag hb;have CJ := bS HB hb;have Db := yf.mk (yG);have Ec := bG (w := w) hg;have En := bG (w := w) hg;have EB := BL aa hg;have EC := Ag aa hg;have Ct := BL ae hg;have CL := Ag ae hg;have D9 := BL ag hg;have Dq := Ag ag hg;clear zk aa ae ag HB;have zk := Bt;have aa := Bu;have ae := BJ;have ag := Cs;have HB := CJ;have ai := Db;have aH := Ec;have aG := En;have ah := EB;have au := EC;have az := Ct;have ax := CL;have ay := D9;have av := Dq;clear Bt Bu BJ Cs CJ Db Ec En EB EC Ct CL D9 Dq hb yG hg
       refine hK.out _ _ (AR aa) (fun hHeld => ?_)
       clear hK K
       refine Aj (a' := ?_) ?_ ?_
       rotate_left
       ·
        show Act.put _ (some 13) _ = _
        simp only [pz]
        rfl
       exact Ew (hCont (af) _ ⟨hHeld, (kR zk), (kk aa), (kk ae), (kk ag), (kk ai), aH.out, aG.out, ah.out, au.out, az.out, ax.out, ay.out, av.out, (bO HB)⟩)
      ·
       skip
       refine D8 ?hg (N := 13) ?hd (cs := #[.int .i64 0, .slice none 0 0, .int .i64 0, .int .i64 0, .slice none 0 0, .int .i64 0, .int .i64 0]) (t := 71) ?hr ?_; (case hd => rfl); (case hg => rfl); (case hr => go_simp)
       intro af hg w67 yG hb
       have Bt := BN zk hb;have Bu := bB aa hb;have BJ := bB ae hb;have Cs := bB ag hb;have CJ := bS HB hb;have Db := yf.mk (yG);have Ec := bG (w := w) hg;have En := bG (w := w) hg;have EB := BL aa hg;have EC := Ag aa hg;have Ct := BL ae hg;have CL := Ag ae hg;have D9 := BL ag hg;have Dq := Ag ag hg;clear zk aa ae ag HB;have zk := Bt;have aa := Bu;have ae := BJ;have ag := Cs;have HB := CJ;have ai := Db;have aH := Ec;have aG := En;have ah := EB;have au := EC;have az := Ct;have ax := CL;have ay := D9;have av := Dq;clear Bt Bu BJ Cs CJ Db Ec En EB EC Ct CL D9 Dq hb yG hg
       refine hK.out _ _ (AR aa) (fun hHeld => ?_)
       clear hK K
       refine Aj (a' := ?_) ?_ ?_
       rotate_left
       ·
        show Act.put _ (some 13) _ = _
        simp only [pz]
        rfl
       refine BP (i := 8) (N := some 80) (bz 12 1535) rfl rfl (Af yD.out (by kernel_rfl)) (by decide) (fun K hK => ?_)
       refine gO Try.func45 #[.agg #[.int .i64 yn, .slice yP yg.length yI, .int .i64 yo, .int .i64 yt]] ?_
       with_reducible refine (zF.calls KI yn _ _ yg yo yt FX _ ?yF ?yM TI.out).mono ?_
       (case yF => exact Da zq)
       (case yM => exact zG.out)
       rintro e w68 ⟨rfl, hb⟩
       refine ⟨_, rfl, ?_⟩
       replace zk := BN zk hb;replace aa := bB aa hb;replace ae := bB ae hb;replace ag := bB ag hb;replace ai := bB ai hb;replace HB := bS HB hb;clear hb;obtain ⟨dW, dB, bW⟩ := Kd.zX zk.out
       ((injection bW with M5 QR M6; have QS := M5.symm; have QT := M6.symm; clear M5 QR M6; subst QS; subst QT))
       refine hK.out _ _ (AR aa) (fun hHeld => ?_)
       clear hK K
       refine Aj (a' := ?_) ?_ ?_
       rotate_left
       ·
        show Act.put _ (some 80) _ = _
        simp only [pz]
        rfl
       refine pU 9 81 12 2047 yD ?_
       exact Ew (hCont (af) _ ⟨hHeld, (kR zk), (kk aa), (kk ae), (kk ag), (kk ai), aH.out, aG.out, ah.out, au.out, az.out, ax.out, ay.out, av.out, (bO HB)⟩)
     ·
      skip
      refine D8 ?hg (N := 13) ?hd (cs := #[.int .i64 0, .slice none 0 0, .int .i64 0, .int .i64 0, .slice none 0 0, .int .i64 0, .int .i64 0]) (t := 71) ?hr ?_; (case hd => rfl); (case hg => rfl); (case hr => go_simp)
      intro af hg w66 yG hb
      have Bt := BN zk hb;have Bu := bB aa hb;have BJ := bB ae hb;have Cs := bB ag hb;have CJ := bS HB hb;have Db := yf.mk (yG);have Ec := bG (w := w) hg;have En := bG (w := w) hg;have EB := BL aa hg;have EC := Ag aa hg;have Ct := BL ae hg;have CL := Ag ae hg;have D9 := BL ag hg;have Dq := Ag ag hg;clear zk aa ae ag HB;have zk := Bt;have aa := Bu;have ae := BJ;have ag := Cs;have HB := CJ;have ai := Db;have aH := Ec;have aG := En;have ah := EB;have au := EC;have az := Ct;have ax := CL;have ay := D9;have av := Dq;clear Bt Bu BJ Cs CJ Db Ec En EB EC Ct CL D9 Dq hb yG hg
      refine hK.out _ _ (AR aa) (fun hHeld => ?_)
      clear hK K
      refine Aj (a' := ?_) ?_ ?_
      rotate_left
      ·
       show Act.put _ (some 13) _ = _
       simp only [pz]
       rfl
      refine BP (i := 3) (N := some 75) (bz 12 1215) rfl rfl (Af yD.out (by kernel_rfl)) (by decide) (fun K hK => ?_)
      refine gO Try.func45 #[.agg #[.int .i64 yn, .slice yP yg.length yI, .int .i64 yo, .int .i64 yt]] ?_
      with_reducible refine (zF.calls KI yn _ _ yg yo yt FW _ ?yF ?yM Tt.out).mono ?_
      (case yF => exact Da zq)
      (case yM => exact zG.out)
      rintro e w67 ⟨rfl, hb⟩
      refine ⟨_, rfl, ?_⟩
      replace zk := BN zk hb;replace aa := bB aa hb;replace ae := bB ae hb;replace ag := bB ag hb;replace ai := bB ai hb;replace HB := bS HB hb;clear hb
      refine hK.out _ _ (AR aa) (fun hHeld => ?_)
      clear hK K
      refine Aj (a' := ?_) ?_ ?_
      rotate_left
      ·
       show Act.put _ (some 75) _ = _
       simp only [pz]
       rfl
      refine pU 6 78 12 1279 yD ?_
      refine BP (i := 8) (N := some 80) (bz 12 1535) rfl rfl (Af yD.out (by kernel_rfl)) (by decide) (fun K hK => ?_)
      refine gO Try.func45 #[.agg #[.int .i64 yn, .slice yP yg.length yI, .int .i64 yo, .int .i64 yt]] ?_
      with_reducible refine (zF.calls KI yn _ _ yg yo yt FX _ ?yF ?yM TI.out).mono ?_
      (case yF => exact Da zq)
      (case yM => exact zG.out)
      rintro e w68 ⟨rfl, hb⟩
      refine ⟨_, rfl, ?_⟩
      replace zk := BN zk hb;replace aa := bB aa hb;replace ae := bB ae hb;replace ag := bB ag hb;replace ai := bB ai hb;replace HB := bS HB hb;clear hb;obtain ⟨dW, dB, bW⟩ := Kd.zX zk.out
      ((injection bW with M5 QR M6; have QS := M5.symm; have QT := M6.symm; clear M5 QR M6; subst QS; subst QT))
      refine hK.out _ _ (AR aa) (fun hHeld => ?_)
      clear hK K
      refine Aj (a' := ?_) ?_ ?_
      rotate_left
      ·
       show Act.put _ (some 80) _ = _
       simp only [pz]
       rfl
      refine pU 9 81 12 2047 yD ?_
      exact Ew (hCont (af) _ ⟨hHeld, (kR zk), (kk aa), (kk ae), (kk ag), (kk ai), aH.out, aG.out, ah.out, au.out, az.out, ax.out, ay.out, av.out, (bO HB)⟩)
    rintro af w70 ⟨X9, Si, PS, PT, Sj, Sk, Sl, Sm, Sn, Sq, Sr, Jv, Jw, Jy, Jz⟩
    have ai : yf (w70.heap[af]? = some (.cells #[.int .i64 0, .slice none 0 0, .int .i64 0, .int .i64 0, .slice none 0 0, .int .i64 0, .int .i64 0] 71 (0, 0))) := ⟨Sk⟩
    have aH : yf (w.heap.size ≤ af) := ⟨Sl⟩
    have aG : yf (w.heap.size ≤ af) := ⟨Sm⟩
    have ah : yf (aj ≠ af) := ⟨Sn⟩
    have au : yf (af ≠ aj) := ⟨Sq⟩
    have az : yf (ak ≠ af) := ⟨Sr⟩
    have ax : yf (af ≠ ak) := ⟨Jv⟩
    have ay : yf (aD ≠ af) := ⟨Jw⟩
    have av : yf (af ≠ aD) := ⟨Jy⟩
    replace zk : yf (Kd.R Dy 47 w70 w.heap.size (fun k_ => k_ ≠ ak) (.slice bI aC.length bq) aC) := ⟨Si⟩
    replace aa : yf (w70.heap[aj]? = some (.cells #[.int .i64 yn, .slice yP yg.length yI, .int .i64 yo, .int .i64 yt] 31 (0, 0))) := ⟨PS⟩
    replace ae : yf (w70.heap[ak]? = some (.cells #[.int .i64 aM, .int .i64 aV, .int .i64 aU, .int .i64 aT] 47 (0, 0))) := ⟨PT⟩
    replace ag : yf (w70.heap[aD]? = some (.cells #[.int .i64 aK, .int .i64 aI] 38 (0, 0))) := ⟨Sj⟩
    replace HB : yf (Below w.heap.size w w70) := ⟨Jz⟩
    clear Si PS PT Sj Sk Sl Sm Sn Sq Sr Jv Jw Jy Jz
    have hHeld : w70.cell? ⟨aj, 0, none⟩ = some (.int .i64 yn) ∧ w70.cell? ⟨aj, 1, none⟩ = some (.slice yP yg.length yI) ∧ w70.cell? ⟨aj, 2, none⟩ = some (.int .i64 yo) ∧ w70.cell? ⟨aj, 3, none⟩ = some (.int .i64 yt) := X9
    refine Aj (a' := ?_) ?_ ?_
    rotate_left
    ·
     simp only [GL, Act.put, List.setIfInBounds_toArray, List.set_cons_zero, List.set_cons_succ]
     rfl
    refine BP (i := 11) (N := none) (bz 12 4095) rfl rfl (Af yD.out (by kernel_rfl)) (by decide) (fun K hK => ?_)
    have mH : w70.cell? ⟨af, 0, none⟩ = some (.int .i64 0) := (yz ai.out 0).trans rfl
    have jf := zm ai.out 0;have jG := ah.out;have lv := az.out;have kX := ay.out;have jm := au.out;have eH := ax.out;have gZ := av.out
    have ib : w70.cell? ⟨af, 1, none⟩ = some (.slice none 0 0) := (yz ai.out 1).trans rfl
    have jw := zm ai.out 1;have jZ := ah.out;have jy := az.out;have ku := ay.out;have fB := au.out;have kJ := ax.out;have lC := av.out
    have eF : w70.cell? ⟨af, 2, none⟩ = some (.int .i64 0) := (yz ai.out 2).trans rfl
    have ko := zm ai.out 2;have eX := ah.out;have gD := az.out;have kW := ay.out;have fO := au.out;have fP := ax.out;have mD := av.out
    have jl : w70.cell? ⟨af, 3, none⟩ = some (.int .i64 0) := (yz ai.out 3).trans rfl
    have mf := zm ai.out 3;have eT := ah.out;have kI := az.out;have eQ := ay.out;have kC := au.out;have kK := ax.out;have lh := av.out
    have j5 : w70.cell? ⟨af, 4, none⟩ = some (.slice none 0 0) := (yz ai.out 4).trans rfl
    have l5 := zm ai.out 4;have kG := ah.out;have jb := az.out;have eU := ay.out;have iJ := au.out;have jL := ax.out;have mh := av.out
    have kF : w70.cell? ⟨af, 5, none⟩ = some (.int .i64 0) := (yz ai.out 5).trans rfl
    have iI := zm ai.out 5;have fV := ah.out;have jo := az.out;have ky := ay.out;have kP := au.out;have lM := ax.out;have iN := av.out
    have jD : w70.cell? ⟨af, 6, none⟩ = some (.int .i64 0) := (yz ai.out 6).trans rfl
    have kU := zm ai.out 6;have iE := ah.out;have eZ := az.out;have ik := ay.out;have jF := au.out;have iG := ax.out;have gW := av.out
    refine G5 (w1 := ?_) (by rfl) rfl ?_ ?_
    rotate_left
    ·
     go_simp
     rfl
    refine hK.out _ _ ⟨((cell_far (p := ⟨af, _, none⟩) ah.out _).trans (((cell_far (p := ⟨af, _, none⟩) ah.out _).trans (((cell_far (p := ⟨af, _, none⟩) ah.out _).trans (((cell_far (p := ⟨af, _, none⟩) ah.out _).trans (((cell_far (p := ⟨af, _, none⟩) ah.out _).trans (((cell_far (p := ⟨af, _, none⟩) ah.out _).trans (((cell_far (p := ⟨af, _, none⟩) ah.out _).trans (hHeld.1)))))))))))))), ((cell_far (p := ⟨af, _, none⟩) ah.out _).trans (((cell_far (p := ⟨af, _, none⟩) ah.out _).trans (((cell_far (p := ⟨af, _, none⟩) ah.out _).trans (((cell_far (p := ⟨af, _, none⟩) ah.out _).trans (((cell_far (p := ⟨af, _, none⟩) ah.out _).trans (((cell_far (p := ⟨af, _, none⟩) ah.out _).trans (((cell_far (p := ⟨af, _, none⟩) ah.out _).trans (hHeld.2.1)))))))))))))), ((cell_far (p := ⟨af, _, none⟩) ah.out _).trans (((cell_far (p := ⟨af, _, none⟩) ah.out _).trans (((cell_far (p := ⟨af, _, none⟩) ah.out _).trans (((cell_far (p := ⟨af, _, none⟩) ah.out _).trans (((cell_far (p := ⟨af, _, none⟩) ah.out _).trans (((cell_far (p := ⟨af, _, none⟩) ah.out _).trans (((cell_far (p := ⟨af, _, none⟩) ah.out _).trans (hHeld.2.2.1)))))))))))))), ((cell_far (p := ⟨af, _, none⟩) ah.out _).trans (((cell_far (p := ⟨af, _, none⟩) ah.out _).trans (((cell_far (p := ⟨af, _, none⟩) ah.out _).trans (((cell_far (p := ⟨af, _, none⟩) ah.out _).trans (((cell_far (p := ⟨af, _, none⟩) ah.out _).trans (((cell_far (p := ⟨af, _, none⟩) ah.out _).trans (((cell_far (p := ⟨af, _, none⟩) ah.out _).trans (hHeld.2.2.2))))))))))))))⟩ (fun hHeld => ?_)
    clear hK K
    refine BI (Az yD.out (by kernel_rfl)) ?_
    have V9 := aQ.out;have Va := aN.out;have a2e := bu.out;have a2f := bA.out;have Yw := ah.out;have Yx := au.out;have a2m := AR aa;have a2n := bf aa
    try go_wp2_with (first | ((with_reducible refine yB (f := 25) rfl ?_); refine gL (some 84) Try.func25 #[.agg #[.int .i64 yn, .slice yP yg.length yI, .int .i64 yo, .int .i64 yt], .slice bI aC.length bq] ?_; (with_reducible refine (Ai.calls KI yn _ _ yg yo yt _ _ aC true _ ?yF ?yM ?zI ?zJ bZ.out).mono ?_); (case yF => exact Kd.Ci zq.out (bO HB)); (case yM => exact zG.out); (case zI => refine (Kd.zt (e := 47) (base := w.heap.size) (ok := fun k_ => k_ ≠ ak) (n := aC.length) (c := bq) ?_).2.2; exact (by (with_reducible repeat (apply Kd.zl)); exact (Kd.zb (GG (g := af) (Kd.AU zk.out ai.out (by decide)) (fun _ hk => hk.2)) (fun _ h_ => h_.1)))); (case zJ => exact (Kd.zt zk.out).2.1); rintro e w82 ⟨rfl, hb⟩; refine ⟨_, rfl, ?_⟩; replace zk := yf.mk (Kd.Bh (by (with_reducible repeat (apply Kd.zl)); exact (Kd.zb (GG (g := af) (Kd.AU zk.out ai.out (by decide)) (fun _ hk => hk.2)) (fun _ h_ => h_.1))) hb); replace aa := yf.mk (yX (g := aj) (o := .cells #[.int .i64 yn, .slice yP yg.length yI, .int .i64 yo, .int .i64 yt] 31 (0, 0)) (CF aa rfl) hb); replace ae := yf.mk (yX (g := ak) (o := .cells #[.int .i64 aM, .int .i64 aV, .int .i64 aU, .int .i64 aT] 47 (0, 0)) (CF ae rfl) hb); replace ag := yf.mk (yX (g := aD) (o := .cells #[.int .i64 aK, .int .i64 aI] 38 (0, 0)) (CF ag rfl) hb); replace ai := yf.mk (yX (g := af) (o := .cells #[.int .i64 yn, .slice yP yg.length yI, .int .i64 yo, .int .i64 yt, .slice bI aC.length bq, .int .i64 (wrap64 (FW - yt)), .int .i64 FX] 71 (0, 0)) (CF ai rfl) hb); replace HB := bS HB hb; clear hb; have a1v := ax.out; have a1w := az.out; have a1S := av.out; have a1T := ay.out; have mr := EP ai; have iq := bf ai; have a1U := aY.out; have a1V := aX.out; have jk := AR ae; have iQ := bf ae) | (go_at_call 46; (with_reducible refine (Ac.calls KI yn _ _ yg yo yt _ _ aC (wrap64 (FW - yt)) FX aM true _ ?yF ?yM ?zI ?zJ di.out).mono ?_); (case yF => exact Da zq); (case yM => exact zG.out); (case zI => exact Kz zk); (case zJ => exact (Kd.zt zk.out).2.1); rintro e w88 ⟨rfl, hb⟩; replace zk := BN zk hb; replace aa := bB aa hb; replace ae := bB ae hb; replace ag := bB ag hb; replace ai := bB ai hb; replace HB := bS HB hb; clear hb))
    go_ret2
    exact ⟨_, by rfl, by (with_reducible repeat (apply Kd.zl)); exact Kd.zb zk.out (fun _ hk => trivial), bO HB⟩
   ·
    replace c64 := Bool.eq_false_iff.mpr c64;subst c64
    rw [if_neg (show ¬ (false = true) by decide)] at H
    simp only [Option.some.injEq, Prod.mk.injEq] at H;obtain ⟨rfl, rfl⟩ := H
    try go_wp2
    replace zk := yf.mk (Kd.Cr zk.out);replace aa := yf.mk (yZ aa.out);replace ae := yf.mk (yZ ae.out);replace ag := yf.mk (yZ ag.out);replace HB := yf.mk (ze HB.out);obtain ⟨bJ, bn, dK⟩ := Kd.zX zk.out
    (subst dK)
    refine AV (n := 12) (S := fun w' => w'.cell? ⟨aj, 0, none⟩ = some (.int .i64 yn) ∧ w'.cell? ⟨aj, 1, none⟩ = some (.slice yP yg.length yI) ∧ w'.cell? ⟨aj, 2, none⟩ = some (.int .i64 yo) ∧ w'.cell? ⟨aj, 3, none⟩ = some (.int .i64 yt)) (ds := []) (bz 12 0) (by kernel_rfl) rfl rfl (AR aa) (fun hHeld => ?_); refine zQ zi.VT zi.QQ (fun yD AZ => ?_)
    generalize wc.drew = w89 at zk aa ae ag HB hHeld ⊢;refine pU 1 73 12 2 yD ?_;refine pU 4 76 12 18 yD ?_
    refine BQ 0 72 12 19 yD AZ hHeld ?_
    refine BQ 2 74 12 23 yD AZ hHeld ?_
    refine BQ 5 77 12 55 yD AZ hHeld ?_
    refine BQ 7 79 12 183 yD AZ hHeld ?_
    refine Om (σ := Nat) 1 (bz 12 2047) (fun s_ => [(75, .int .i64 FW), (80, .int .i64 FX), (13, .pointer (some ⟨s_, 0, none⟩)), (78, .int .i64 (wrap64 (FW - yt))), (81, .agg #[.int .i64 yn, .slice yP yg.length yI, .int .i64 yo, .int .i64 yt, .slice bJ aC.length bn, .int .i64 (wrap64 (FW - yt)), .int .i64 FX])]) (fun s_ w' => (w'.cell? ⟨aj, 0, none⟩ = some (.int .i64 yn) ∧ w'.cell? ⟨aj, 1, none⟩ = some (.slice yP yg.length yI) ∧ w'.cell? ⟨aj, 2, none⟩ = some (.int .i64 yo) ∧ w'.cell? ⟨aj, 3, none⟩ = some (.int .i64 yt)) ∧ (Kd.R Dy 47 w' w.heap.size (fun k_ => k_ ≠ ak) (.slice bJ aC.length bn) aC) ∧ (w'.heap[aj]? = some (.cells #[.int .i64 yn, .slice yP yg.length yI, .int .i64 yo, .int .i64 yt] 31 (0, 0))) ∧ (w'.heap[ak]? = some (.cells #[.int .i64 aM, .int .i64 aV, .int .i64 aU, .int .i64 aT] 47 (0, 0))) ∧ (w'.heap[aD]? = some (.cells #[.int .i64 aK, .int .i64 aI] 38 (0, 0))) ∧ (w'.heap[s_]? = some (.cells #[.int .i64 0, .slice none 0 0, .int .i64 0, .int .i64 0, .slice none 0 0, .int .i64 0, .int .i64 0] 71 (0, 0))) ∧ (w.heap.size ≤ s_) ∧ (w.heap.size ≤ s_) ∧ (aj ≠ s_) ∧ (s_ ≠ aj) ∧ (ak ≠ s_) ∧ (s_ ≠ ak) ∧ (aD ≠ s_) ∧ (s_ ≠ aD) ∧ (Below w.heap.size w w')) ?_ ?_
    rotate_left
    ·
     intro hCont
     refine Mh (i := 3) (j := 10) (Ni := some 75) (Nj := some 13) (bz 12 191) (bz 12 1207) rfl rfl rfl rfl (Gj yD.out (by kernel_rfl)) (by decide) (by decide) (fun K hK => ?_) (fun K hK => ?_)
     ·
      skip
      refine gO Try.func45 #[.agg #[.int .i64 yn, .slice yP yg.length yI, .int .i64 yo, .int .i64 yt]] ?_
      with_reducible refine (zF.calls KI yn _ _ yg yo yt FW _ ?yF ?yM Tt.out).mono ?_
      (case yF => exact Da zq)
      (case yM => exact zG.out)
      rintro e w90 ⟨rfl, hb⟩
      refine ⟨_, rfl, ?_⟩
      replace zk := BN zk hb;replace aa := bB aa hb;replace ae := bB ae hb;replace ag := bB ag hb;replace HB := bS HB hb;clear hb
      refine hK.out _ _ (AR aa) (fun hHeld => ?_)
      clear hK K
      refine Aj (a' := ?_) ?_ ?_
      rotate_left
      ·
       show Act.put _ (some 75) _ = _
       simp only [pz]
       rfl
      refine pU 6 78 12 255 yD ?_
      refine Mh (i := 8) (j := 10) (Ni := some 80) (Nj := some 13) (bz 12 511) (bz 12 1279) rfl rfl rfl rfl (Gj yD.out (by kernel_rfl)) (by decide) (by decide) (fun K hK => ?_) (fun K hK => ?_)
      ·
       skip
       refine gO Try.func45 #[.agg #[.int .i64 yn, .slice yP yg.length yI, .int .i64 yo, .int .i64 yt]] ?_
       with_reducible refine (zF.calls KI yn _ _ yg yo yt FX _ ?yF ?yM TI.out).mono ?_
       (case yF => exact Da zq)
       (case yM => exact zG.out)
       rintro e w91 ⟨rfl, hb⟩
       refine ⟨_, rfl, ?_⟩
       replace zk := BN zk hb;replace aa := bB aa hb;replace ae := bB ae hb;replace ag := bB ag hb;replace HB := bS HB hb;clear hb
       refine hK.out _ _ (AR aa) (fun hHeld => ?_)
       clear hK K
       refine Aj (a' := ?_) ?_ ?_
       rotate_left
       ·
        show Act.put _ (some 80) _ = _
        simp only [pz]
        rfl
       refine pU 9 81 12 1023 yD ?_
       refine BP (i := 10) (N := some 13) (bz 12 2047) rfl rfl (Af yD.out (by kernel_rfl)) (by decide) (fun K hK => ?_)
       refine D8 ?hg (N := 13) ?hd (cs := #[.int .i64 0, .slice none 0 0, .int .i64 0, .int .i64 0, .slice none 0 0, .int .i64 0, .int .i64 0]) (t := 71) ?hr ?_; (case hd => rfl); (case hg => rfl); (case hr => go_simp)
       intro af hg w93 yG hb
       have Bt := BN zk hb;have Bu := bB aa hb;have BJ := bB ae hb;have Cs := bB ag hb;have CJ := bS HB hb;have Db := yf.mk (yG);have Ec := bG (w := w) hg;have En := bG (w := w) hg;have EB := BL aa hg;have EC := Ag aa hg;have Ct := BL ae hg;have CL := Ag ae hg;have D9 := BL ag hg;have Dq := Ag ag hg;clear zk aa ae ag HB;have zk := Bt;have aa := Bu;have ae := BJ;have ag := Cs;have HB := CJ;have ai := Db;have aH := Ec;have aG := En;have ah := EB;have au := EC;have az := Ct;have ax := CL;have ay := D9;have av := Dq;clear Bt Bu BJ Cs CJ Db Ec En EB EC Ct CL D9 Dq hb yG hg
       refine hK.out _ _ (AR aa) (fun hHeld => ?_)
       clear hK K
       refine Aj (a' := ?_) ?_ ?_
       rotate_left
       ·
        show Act.put _ (some 13) _ = _
        simp only [pz]
        rfl
       exact Ew (hCont (af) _ ⟨hHeld, (kR zk), (kk aa), (kk ae), (kk ag), (kk ai), aH.out, aG.out, ah.out, au.out, az.out, ax.out, ay.out, av.out, (bO HB)⟩)
      ·
       skip
       refine D8 ?hg (N := 13) ?hd (cs := #[.int .i64 0, .slice none 0 0, .int .i64 0, .int .i64 0, .slice none 0 0, .int .i64 0, .int .i64 0]) (t := 71) ?hr ?_; (case hd => rfl); (case hg => rfl); (case hr => go_simp)
       intro af hg w91 yG hb
       have Bt := BN zk hb;have Bu := bB aa hb;have BJ := bB ae hb;have Cs := bB ag hb;have CJ := bS HB hb;have Db := yf.mk (yG);have Ec := bG (w := w) hg;have En := bG (w := w) hg;have EB := BL aa hg;have EC := Ag aa hg;have Ct := BL ae hg;have CL := Ag ae hg;have D9 := BL ag hg;have Dq := Ag ag hg;clear zk aa ae ag HB;have zk := Bt;have aa := Bu;have ae := BJ;have ag := Cs;have HB := CJ;have ai := Db;have aH := Ec;have aG := En;have ah := EB;have au := EC;have az := Ct;have ax := CL;have ay := D9;have av := Dq;clear Bt Bu BJ Cs CJ Db Ec En EB EC Ct CL D9 Dq hb yG hg
       refine hK.out _ _ (AR aa) (fun hHeld => ?_)
       clear hK K
       refine Aj (a' := ?_) ?_ ?_
       rotate_left
       ·
        show Act.put _ (some 13) _ = _
        simp only [pz]
        rfl
       refine BP (i := 8) (N := some 80) (bz 12 1535) rfl rfl (Af yD.out (by kernel_rfl)) (by decide) (fun K hK => ?_)
       refine gO Try.func45 #[.agg #[.int .i64 yn, .slice yP yg.length yI, .int .i64 yo, .int .i64 yt]] ?_
       with_reducible refine (zF.calls KI yn _ _ yg yo yt FX _ ?yF ?yM TI.out).mono ?_
       (case yF => exact Da zq)
       (case yM => exact zG.out)
       rintro e w92 ⟨rfl, hb⟩
       refine ⟨_, rfl, ?_⟩
       replace zk := BN zk hb;replace aa := bB aa hb;replace ae := bB ae hb;replace ag := bB ag hb;replace ai := bB ai hb;replace HB := bS HB hb;clear hb;obtain ⟨dM, dG, cz⟩ := Kd.zX zk.out
       ((injection cz with M5 QR M6; have QS := M5.symm; have QT := M6.symm; clear M5 QR M6; subst QS; subst QT))
       refine hK.out _ _ (AR aa) (fun hHeld => ?_)
       clear hK K
       refine Aj (a' := ?_) ?_ ?_
       rotate_left
       ·
        show Act.put _ (some 80) _ = _
        simp only [pz]
        rfl
       refine pU 9 81 12 2047 yD ?_
       exact Ew (hCont (af) _ ⟨hHeld, (kR zk), (kk aa), (kk ae), (kk ag), (kk ai), aH.out, aG.out, ah.out, au.out, az.out, ax.out, ay.out, av.out, (bO HB)⟩)
     ·
      skip
      refine D8 ?hg (N := 13) ?hd (cs := #[.int .i64 0, .slice none 0 0, .int .i64 0, .int .i64 0, .slice none 0 0, .int .i64 0, .int .i64 0]) (t := 71) ?hr ?_; (case hd => rfl); (case hg => rfl); (case hr => go_simp)
      intro af hg w90 yG hb
      have Bt := BN zk hb;have Bu := bB aa hb;have BJ := bB ae hb;have Cs := bB ag hb;have CJ := bS HB hb;have Db := yf.mk (yG);have Ec := bG (w := w) hg;have En := bG (w := w) hg;have EB := BL aa hg;have EC := Ag aa hg;have Ct := BL ae hg;have CL := Ag ae hg;have D9 := BL ag hg;have Dq := Ag ag hg;clear zk aa ae ag HB;have zk := Bt;have aa := Bu;have ae := BJ;have ag := Cs;have HB := CJ;have ai := Db;have aH := Ec;have aG := En;have ah := EB;have au := EC;have az := Ct;have ax := CL;have ay := D9;have av := Dq;clear Bt Bu BJ Cs CJ Db Ec En EB EC Ct CL D9 Dq hb yG hg
      refine hK.out _ _ (AR aa) (fun hHeld => ?_)
      clear hK K
      refine Aj (a' := ?_) ?_ ?_
      rotate_left
      ·
       show Act.put _ (some 13) _ = _
       simp only [pz]
       rfl
      refine BP (i := 3) (N := some 75) (bz 12 1215) rfl rfl (Af yD.out (by kernel_rfl)) (by decide) (fun K hK => ?_)
      refine gO Try.func45 #[.agg #[.int .i64 yn, .slice yP yg.length yI, .int .i64 yo, .int .i64 yt]] ?_
      with_reducible refine (zF.calls KI yn _ _ yg yo yt FW _ ?yF ?yM Tt.out).mono ?_
      (case yF => exact Da zq)
      (case yM => exact zG.out)
      rintro e w91 ⟨rfl, hb⟩
      refine ⟨_, rfl, ?_⟩
      replace zk := BN zk hb;replace aa := bB aa hb;replace ae := bB ae hb;replace ag := bB ag hb;replace ai := bB ai hb;replace HB := bS HB hb;clear hb
      refine hK.out _ _ (AR aa) (fun hHeld => ?_)
      clear hK K
      refine Aj (a' := ?_) ?_ ?_
      rotate_left
      ·
       show Act.put _ (some 75) _ = _
       simp only [pz]
       rfl
      refine pU 6 78 12 1279 yD ?_
      refine BP (i := 8) (N := some 80) (bz 12 1535) rfl rfl (Af yD.out (by kernel_rfl)) (by decide) (fun K hK => ?_)
      refine gO Try.func45 #[.agg #[.int .i64 yn, .slice yP yg.length yI, .int .i64 yo, .int .i64 yt]] ?_
      with_reducible refine (zF.calls KI yn _ _ yg yo yt FX _ ?yF ?yM TI.out).mono ?_
      (case yF => exact Da zq)
      (case yM => exact zG.out)
      rintro e w92 ⟨rfl, hb⟩
      refine ⟨_, rfl, ?_⟩
      replace zk := BN zk hb;replace aa := bB aa hb;replace ae := bB ae hb;replace ag := bB ag hb;replace ai := bB ai hb;replace HB := bS HB hb;clear hb;obtain ⟨dM, dG, cz⟩ := Kd.zX zk.out
      ((injection cz with M5 QR M6; have QS := M5.symm; have QT := M6.symm; clear M5 QR M6; subst QS; subst QT))
      refine hK.out _ _ (AR aa) (fun hHeld => ?_)
      clear hK K
      refine Aj (a' := ?_) ?_ ?_
      rotate_left
      ·
       show Act.put _ (some 80) _ = _
       simp only [pz]
       rfl
      refine pU 9 81 12 2047 yD ?_
      exact Ew (hCont (af) _ ⟨hHeld, (kR zk), (kk aa), (kk ae), (kk ag), (kk ai), aH.out, aG.out, ah.out, au.out, az.out, ax.out, ay.out, av.out, (bO HB)⟩)
    rintro af w94 ⟨X9, Si, PS, PT, Sj, Sk, Sl, Sm, Sn, Sq, Sr, Jv, Jw, Jy, Jz⟩
    have ai : yf (w94.heap[af]? = some (.cells #[.int .i64 0, .slice none 0 0, .int .i64 0, .int .i64 0, .slice none 0 0, .int .i64 0, .int .i64 0] 71 (0, 0))) := ⟨Sk⟩
    have aH : yf (w.heap.size ≤ af) := ⟨Sl⟩
    have aG : yf (w.heap.size ≤ af) := ⟨Sm⟩
    have ah : yf (aj ≠ af) := ⟨Sn⟩
    have au : yf (af ≠ aj) := ⟨Sq⟩
    have az : yf (ak ≠ af) := ⟨Sr⟩
    have ax : yf (af ≠ ak) := ⟨Jv⟩
    have ay : yf (aD ≠ af) := ⟨Jw⟩
    have av : yf (af ≠ aD) := ⟨Jy⟩
    replace zk : yf (Kd.R Dy 47 w94 w.heap.size (fun k_ => k_ ≠ ak) (.slice bJ aC.length bn) aC) := ⟨Si⟩
    replace aa : yf (w94.heap[aj]? = some (.cells #[.int .i64 yn, .slice yP yg.length yI, .int .i64 yo, .int .i64 yt] 31 (0, 0))) := ⟨PS⟩
    replace ae : yf (w94.heap[ak]? = some (.cells #[.int .i64 aM, .int .i64 aV, .int .i64 aU, .int .i64 aT] 47 (0, 0))) := ⟨PT⟩
    replace ag : yf (w94.heap[aD]? = some (.cells #[.int .i64 aK, .int .i64 aI] 38 (0, 0))) := ⟨Sj⟩
    replace HB : yf (Below w.heap.size w w94) := ⟨Jz⟩
    clear Si PS PT Sj Sk Sl Sm Sn Sq Sr Jv Jw Jy Jz
    have hHeld : w94.cell? ⟨aj, 0, none⟩ = some (.int .i64 yn) ∧ w94.cell? ⟨aj, 1, none⟩ = some (.slice yP yg.length yI) ∧ w94.cell? ⟨aj, 2, none⟩ = some (.int .i64 yo) ∧ w94.cell? ⟨aj, 3, none⟩ = some (.int .i64 yt) := X9
    refine Aj (a' := ?_) ?_ ?_
    rotate_left
    ·
     simp only [GL, Act.put, List.setIfInBounds_toArray, List.set_cons_zero, List.set_cons_succ]
     rfl
    refine BP (i := 11) (N := none) (bz 12 4095) rfl rfl (Af yD.out (by kernel_rfl)) (by decide) (fun K hK => ?_)
    have je : w94.cell? ⟨af, 0, none⟩ = some (.int .i64 0) := (yz ai.out 0).trans rfl
    have ji := zm ai.out 0;have jK := ah.out;have l6 := az.out;have iY := ay.out;have lU := au.out;have jM := ax.out;have ll := av.out
    have iL : w94.cell? ⟨af, 1, none⟩ = some (.slice none 0 0) := (yz ai.out 1).trans rfl
    have lV := zm ai.out 1;have iy := ah.out;have jB := az.out;have iT := ay.out;have l8 := au.out;have ma := ax.out;have mG := av.out
    have jN : w94.cell? ⟨af, 2, none⟩ = some (.int .i64 0) := (yz ai.out 2).trans rfl
    have fq := zm ai.out 2;have lG := ah.out;have iU := az.out;have kE := ay.out;have kg := au.out;have gz := ax.out;have gH := av.out
    have jJ : w94.cell? ⟨af, 3, none⟩ = some (.int .i64 0) := (yz ai.out 3).trans rfl
    have lY := zm ai.out 3;have jv := ah.out;have kQ := az.out;have fT := ay.out;have kz := au.out;have iw := ax.out;have jW := av.out
    have ja : w94.cell? ⟨af, 4, none⟩ = some (.slice none 0 0) := (yz ai.out 4).trans rfl
    have lS := zm ai.out 4;have kH := ah.out;have kw := az.out;have iB := ay.out;have lT := au.out;have eG := ax.out;have iX := av.out
    have ig : w94.cell? ⟨af, 5, none⟩ = some (.int .i64 0) := (yz ai.out 5).trans rfl
    have jX := zm ai.out 5;have jI := ah.out;have jh := az.out;have mI := ay.out;have gP := au.out;have gQ := ax.out;have lH := av.out
    have kr : w94.cell? ⟨af, 6, none⟩ = some (.int .i64 0) := (yz ai.out 6).trans rfl
    have jS := zm ai.out 6;have iK := ah.out;have lI := az.out;have gM := ay.out;have mo := au.out;have jT := ax.out;have fD := av.out
    refine G5 (w1 := ?_) (by rfl) rfl ?_ ?_
    rotate_left
    ·
     go_simp
     rfl
    refine hK.out _ _ ⟨((cell_far (p := ⟨af, _, none⟩) ah.out _).trans (((cell_far (p := ⟨af, _, none⟩) ah.out _).trans (((cell_far (p := ⟨af, _, none⟩) ah.out _).trans (((cell_far (p := ⟨af, _, none⟩) ah.out _).trans (((cell_far (p := ⟨af, _, none⟩) ah.out _).trans (((cell_far (p := ⟨af, _, none⟩) ah.out _).trans (((cell_far (p := ⟨af, _, none⟩) ah.out _).trans (hHeld.1)))))))))))))), ((cell_far (p := ⟨af, _, none⟩) ah.out _).trans (((cell_far (p := ⟨af, _, none⟩) ah.out _).trans (((cell_far (p := ⟨af, _, none⟩) ah.out _).trans (((cell_far (p := ⟨af, _, none⟩) ah.out _).trans (((cell_far (p := ⟨af, _, none⟩) ah.out _).trans (((cell_far (p := ⟨af, _, none⟩) ah.out _).trans (((cell_far (p := ⟨af, _, none⟩) ah.out _).trans (hHeld.2.1)))))))))))))), ((cell_far (p := ⟨af, _, none⟩) ah.out _).trans (((cell_far (p := ⟨af, _, none⟩) ah.out _).trans (((cell_far (p := ⟨af, _, none⟩) ah.out _).trans (((cell_far (p := ⟨af, _, none⟩) ah.out _).trans (((cell_far (p := ⟨af, _, none⟩) ah.out _).trans (((cell_far (p := ⟨af, _, none⟩) ah.out _).trans (((cell_far (p := ⟨af, _, none⟩) ah.out _).trans (hHeld.2.2.1)))))))))))))), ((cell_far (p := ⟨af, _, none⟩) ah.out _).trans (((cell_far (p := ⟨af, _, none⟩) ah.out _).trans (((cell_far (p := ⟨af, _, none⟩) ah.out _).trans (((cell_far (p := ⟨af, _, none⟩) ah.out _).trans (((cell_far (p := ⟨af, _, none⟩) ah.out _).trans (((cell_far (p := ⟨af, _, none⟩) ah.out _).trans (((cell_far (p := ⟨af, _, none⟩) ah.out _).trans (hHeld.2.2.2))))))))))))))⟩ (fun hHeld => ?_)
    clear hK K
    refine BI (Az yD.out (by kernel_rfl)) ?_
    have a02 := aQ.out;have a03 := aN.out;have a04 := bu.out;have a05 := bA.out;have lc := ah.out;have gT := au.out;have gF := AR aa;have kD := bf aa
    try go_wp2_with (first | ((with_reducible refine yB (f := 25) rfl ?_); refine gL (some 84) Try.func25 #[.agg #[.int .i64 yn, .slice yP yg.length yI, .int .i64 yo, .int .i64 yt], .slice bJ aC.length bn] ?_; (with_reducible refine (Ai.calls KI yn _ _ yg yo yt _ _ aC true _ ?yF ?yM ?zI ?zJ bZ.out).mono ?_); (case yF => exact Kd.Ci zq.out (bO HB)); (case yM => exact zG.out); (case zI => refine (Kd.zt (e := 47) (base := w.heap.size) (ok := fun k_ => k_ ≠ ak) (n := aC.length) (c := bn) ?_).2.2; exact (by (with_reducible repeat (apply Kd.zl)); exact (Kd.zb (GG (g := af) (Kd.AU zk.out ai.out (by decide)) (fun _ hk => hk.2)) (fun _ h_ => h_.1)))); (case zJ => exact (Kd.zt zk.out).2.1); rintro e w106 ⟨rfl, hb⟩; refine ⟨_, rfl, ?_⟩; replace zk := yf.mk (Kd.Bh (by (with_reducible repeat (apply Kd.zl)); exact (Kd.zb (GG (g := af) (Kd.AU zk.out ai.out (by decide)) (fun _ hk => hk.2)) (fun _ h_ => h_.1))) hb); replace aa := yf.mk (yX (g := aj) (o := .cells #[.int .i64 yn, .slice yP yg.length yI, .int .i64 yo, .int .i64 yt] 31 (0, 0)) (CF aa rfl) hb); replace ae := yf.mk (yX (g := ak) (o := .cells #[.int .i64 aM, .int .i64 aV, .int .i64 aU, .int .i64 aT] 47 (0, 0)) (CF ae rfl) hb); replace ag := yf.mk (yX (g := aD) (o := .cells #[.int .i64 aK, .int .i64 aI] 38 (0, 0)) (CF ag rfl) hb); replace ai := yf.mk (yX (g := af) (o := .cells #[.int .i64 yn, .slice yP yg.length yI, .int .i64 yo, .int .i64 yt, .slice bJ aC.length bn, .int .i64 (wrap64 (FW - yt)), .int .i64 FX] 71 (0, 0)) (CF ai rfl) hb); replace HB := bS HB hb; clear hb; have lL := ax.out; have fE := az.out; have ic := av.out; have fw := ay.out; have kT := EP ai; have iR := bf ai; have a06 := aY.out; have a07 := aX.out; have jV := AR ae; have gK := bf ae) | (go_at_call 46; (with_reducible refine (Ac.calls KI yn _ _ yg yo yt _ _ aC (wrap64 (FW - yt)) FX aM false _ ?yF ?yM ?zI ?zJ di.out).mono ?_); (case yF => exact Da zq); (case yM => exact zG.out); (case zI => exact Kz zk); (case zJ => exact (Kd.zt zk.out).2.1); rintro e w112 ⟨rfl, hb⟩; replace zk := BN zk hb; replace aa := bB aa hb; replace ae := bB ae hb; replace ag := bB ag hb; replace ai := bB ai hb; replace HB := bS HB hb; clear hb))
    go_ret2
    exact ⟨_, by rfl, by exact Kd.Dh _ _ _ _ _, bO HB⟩
  ·
   replace Oi := Bool.eq_false_iff.mpr Oi;subst Oi
   rw [if_neg (show ¬ (false = true) by decide)] at H
   simp only [Option.some.injEq, Prod.mk.injEq] at H;obtain ⟨rfl, rfl⟩ := H
   try go_wp2
   replace zk := yf.mk (Kd.Cr zk.out);replace aa := yf.mk (yZ aa.out);replace ae := yf.mk (yZ ae.out);replace ag := yf.mk (yZ ag.out);replace HB := yf.mk (ze HB.out);obtain ⟨bH, bC, eB⟩ := Kd.zX zk.out
   (subst eB)
   refine AV (n := 12) (S := fun w' => w'.cell? ⟨aj, 0, none⟩ = some (.int .i64 yn) ∧ w'.cell? ⟨aj, 1, none⟩ = some (.slice yP yg.length yI) ∧ w'.cell? ⟨aj, 2, none⟩ = some (.int .i64 yo) ∧ w'.cell? ⟨aj, 3, none⟩ = some (.int .i64 yt)) (ds := []) (bz 12 0) (by kernel_rfl) rfl rfl (AR aa) (fun hHeld => ?_); refine zQ zi.VT zi.QQ (fun yD AZ => ?_)
   generalize wc.drew = w113 at zk aa ae ag HB hHeld ⊢;refine pU 1 73 12 2 yD ?_;refine pU 4 76 12 18 yD ?_
   refine BQ 0 72 12 19 yD AZ hHeld ?_
   refine BQ 2 74 12 23 yD AZ hHeld ?_
   refine BQ 5 77 12 55 yD AZ hHeld ?_
   refine BQ 7 79 12 183 yD AZ hHeld ?_
   refine Om (σ := Nat) 1 (bz 12 2047) (fun s_ => [(75, .int .i64 FW), (80, .int .i64 FX), (13, .pointer (some ⟨s_, 0, none⟩)), (78, .int .i64 (wrap64 (FW - yt))), (81, .agg #[.int .i64 yn, .slice yP yg.length yI, .int .i64 yo, .int .i64 yt, .slice bH aC.length bC, .int .i64 (wrap64 (FW - yt)), .int .i64 FX])]) (fun s_ w' => (w'.cell? ⟨aj, 0, none⟩ = some (.int .i64 yn) ∧ w'.cell? ⟨aj, 1, none⟩ = some (.slice yP yg.length yI) ∧ w'.cell? ⟨aj, 2, none⟩ = some (.int .i64 yo) ∧ w'.cell? ⟨aj, 3, none⟩ = some (.int .i64 yt)) ∧ (Kd.R Dy 47 w' w.heap.size (fun k_ => k_ ≠ ak) (.slice bH aC.length bC) aC) ∧ (w'.heap[aj]? = some (.cells #[.int .i64 yn, .slice yP yg.length yI, .int .i64 yo, .int .i64 yt] 31 (0, 0))) ∧ (w'.heap[ak]? = some (.cells #[.int .i64 aM, .int .i64 aV, .int .i64 aU, .int .i64 aT] 47 (0, 0))) ∧ (w'.heap[aD]? = some (.cells #[.int .i64 aK, .int .i64 aI] 38 (0, 0))) ∧ (w'.heap[s_]? = some (.cells #[.int .i64 0, .slice none 0 0, .int .i64 0, .int .i64 0, .slice none 0 0, .int .i64 0, .int .i64 0] 71 (0, 0))) ∧ (w.heap.size ≤ s_) ∧ (w.heap.size ≤ s_) ∧ (aj ≠ s_) ∧ (s_ ≠ aj) ∧ (ak ≠ s_) ∧ (s_ ≠ ak) ∧ (aD ≠ s_) ∧ (s_ ≠ aD) ∧ (Below w.heap.size w w')) ?_ ?_
   rotate_left
   ·
    intro hCont
    refine Mh (i := 3) (j := 10) (Ni := some 75) (Nj := some 13) (bz 12 191) (bz 12 1207) rfl rfl rfl rfl (Gj yD.out (by kernel_rfl)) (by decide) (by decide) (fun K hK => ?_) (fun K hK => ?_)
    ·
     skip
     refine gO Try.func45 #[.agg #[.int .i64 yn, .slice yP yg.length yI, .int .i64 yo, .int .i64 yt]] ?_
     with_reducible refine (zF.calls KI yn _ _ yg yo yt FW _ ?yF ?yM Tt.out).mono ?_
     (case yF => exact Da zq)
     (case yM => exact zG.out)
     rintro e w114 ⟨rfl, hb⟩
     refine ⟨_, rfl, ?_⟩
     replace zk := BN zk hb;replace aa := bB aa hb;replace ae := bB ae hb;replace ag := bB ag hb;replace HB := bS HB hb;clear hb
     refine hK.out _ _ (AR aa) (fun hHeld => ?_)
     clear hK K
     refine Aj (a' := ?_) ?_ ?_
     rotate_left
     ·
      show Act.put _ (some 75) _ = _
      simp only [pz]
      rfl
     refine pU 6 78 12 255 yD ?_
     refine Mh (i := 8) (j := 10) (Ni := some 80) (Nj := some 13) (bz 12 511) (bz 12 1279) rfl rfl rfl rfl (Gj yD.out (by kernel_rfl)) (by decide) (by decide) (fun K hK => ?_) (fun K hK => ?_)
     ·
      skip
      refine gO Try.func45 #[.agg #[.int .i64 yn, .slice yP yg.length yI, .int .i64 yo, .int .i64 yt]] ?_
      with_reducible refine (zF.calls KI yn _ _ yg yo yt FX _ ?yF ?yM TI.out).mono ?_
      (case yF => exact Da zq)
      (case yM => exact zG.out)
      rintro e w115 ⟨rfl, hb⟩
      refine ⟨_, rfl, ?_⟩
      replace zk := BN zk hb;replace aa := bB aa hb;replace ae := bB ae hb;replace ag := bB ag hb;replace HB := bS HB hb;clear hb
      refine hK.out _ _ (AR aa) (fun hHeld => ?_)
      clear hK K
      refine Aj (a' := ?_) ?_ ?_
      rotate_left
      ·
       show Act.put _ (some 80) _ = _
       simp only [pz]
       rfl
      refine pU 9 81 12 1023 yD ?_
      refine BP (i := 10) (N := some 13) (bz 12 2047) rfl rfl (Af yD.out (by kernel_rfl)) (by decide) (fun K hK => ?_)
      refine D8 ?hg (N := 13) ?hd (cs := #[.int .i64 0, .slice none 0 0, .int .i64 0, .int .i64 0, .slice none 0 0, .int .i64 0, .int .i64 0]) (t := 71) ?hr ?_; (case hd => rfl); (case hg => rfl); (case hr => go_simp)
      intro af hg w117 yG hb
      have Bt := BN zk hb;have Bu := bB aa hb;have BJ := bB ae hb;have Cs := bB ag hb;have CJ := bS HB hb;have Db := yf.mk (yG);have Ec := bG (w := w) hg;have En := bG (w := w) hg;have EB := BL aa hg;have EC := Ag aa hg;have Ct := BL ae hg;have CL := Ag ae hg;have D9 := BL ag hg;have Dq := Ag ag hg;clear zk aa ae ag HB;have zk := Bt;have aa := Bu;have ae := BJ;have ag := Cs;have HB := CJ;have ai := Db;have aH := Ec;have aG := En;have ah := EB;have au := EC;have az := Ct;have ax := CL;have ay := D9;have av := Dq;clear Bt Bu BJ Cs CJ Db Ec En EB EC Ct CL D9 Dq hb yG hg
      refine hK.out _ _ (AR aa) (fun hHeld => ?_)
      clear hK K
      refine Aj (a' := ?_) ?_ ?_
      rotate_left
      ·
       show Act.put _ (some 13) _ = _
       simp only [pz]
       rfl
      exact Ew (hCont (af) _ ⟨hHeld, (kR zk), (kk aa), (kk ae), (kk ag), (kk ai), aH.out, aG.out, ah.out, au.out, az.out, ax.out, ay.out, av.out, (bO HB)⟩)
     ·
      skip
      refine D8 ?hg (N := 13) ?hd (cs := #[.int .i64 0, .slice none 0 0, .int .i64 0, .int .i64 0, .slice none 0 0, .int .i64 0, .int .i64 0]) (t := 71) ?hr ?_; (case hd => rfl); (case hg => rfl); (case hr => go_simp)
      intro af hg w115 yG hb
      have Bt := BN zk hb;have Bu := bB aa hb;have BJ := bB ae hb;have Cs := bB ag hb;have CJ := bS HB hb;have Db := yf.mk (yG);have Ec := bG (w := w) hg;have En := bG (w := w) hg;have EB := BL aa hg;have EC := Ag aa hg;have Ct := BL ae hg;have CL := Ag ae hg;have D9 := BL ag hg;have Dq := Ag ag hg;clear zk aa ae ag HB;have zk := Bt;have aa := Bu;have ae := BJ;have ag := Cs;have HB := CJ;have ai := Db;have aH := Ec;have aG := En;have ah := EB;have au := EC;have az := Ct;have ax := CL;have ay := D9;have av := Dq;clear Bt Bu BJ Cs CJ Db Ec En EB EC Ct CL D9 Dq hb yG hg
      refine hK.out _ _ (AR aa) (fun hHeld => ?_)
      clear hK K
      refine Aj (a' := ?_) ?_ ?_
      rotate_left
      ·
       show Act.put _ (some 13) _ = _
       simp only [pz]
       rfl
      refine BP (i := 8) (N := some 80) (bz 12 1535) rfl rfl (Af yD.out (by kernel_rfl)) (by decide) (fun K hK => ?_)
      refine gO Try.func45 #[.agg #[.int .i64 yn, .slice yP yg.length yI, .int .i64 yo, .int .i64 yt]] ?_
      with_reducible refine (zF.calls KI yn _ _ yg yo yt FX _ ?yF ?yM TI.out).mono ?_
      (case yF => exact Da zq)
      (case yM => exact zG.out)
      rintro e w116 ⟨rfl, hb⟩
      refine ⟨_, rfl, ?_⟩
      replace zk := BN zk hb;replace aa := bB aa hb;replace ae := bB ae hb;replace ag := bB ag hb;replace ai := bB ai hb;replace HB := bS HB hb;clear hb;obtain ⟨dU, dX, cu⟩ := Kd.zX zk.out
      ((injection cu with M5 QR M6; have QS := M5.symm; have QT := M6.symm; clear M5 QR M6; subst QS; subst QT))
      refine hK.out _ _ (AR aa) (fun hHeld => ?_)
      clear hK K
      refine Aj (a' := ?_) ?_ ?_
      rotate_left
      ·
       show Act.put _ (some 80) _ = _
       simp only [pz]
       rfl
      refine pU 9 81 12 2047 yD ?_
      exact Ew (hCont (af) _ ⟨hHeld, (kR zk), (kk aa), (kk ae), (kk ag), (kk ai), aH.out, aG.out, ah.out, au.out, az.out, ax.out, ay.out, av.out, (bO HB)⟩)
    ·
     skip
     refine D8 ?hg (N := 13) ?hd (cs := #[.int .i64 0, .slice none 0 0, .int .i64 0, .int .i64 0, .slice none 0 0, .int .i64 0, .int .i64 0]) (t := 71) ?hr ?_; (case hd => rfl); (case hg => rfl); (case hr => go_simp)
     intro af hg w114 yG hb
     have Bt := BN zk hb;have Bu := bB aa hb;have BJ := bB ae hb;have Cs := bB ag hb;have CJ := bS HB hb;have Db := yf.mk (yG);have Ec := bG (w := w) hg;have En := bG (w := w) hg;have EB := BL aa hg;have EC := Ag aa hg;have Ct := BL ae hg;have CL := Ag ae hg;have D9 := BL ag hg;have Dq := Ag ag hg;clear zk aa ae ag HB;have zk := Bt;have aa := Bu;have ae := BJ;have ag := Cs;have HB := CJ;have ai := Db;have aH := Ec;have aG := En;have ah := EB;have au := EC;have az := Ct;have ax := CL;have ay := D9;have av := Dq;clear Bt Bu BJ Cs CJ Db Ec En EB EC Ct CL D9 Dq hb yG hg
     refine hK.out _ _ (AR aa) (fun hHeld => ?_)
     clear hK K
     refine Aj (a' := ?_) ?_ ?_
     rotate_left
     ·
      show Act.put _ (some 13) _ = _
      simp only [pz]
      rfl
     refine BP (i := 3) (N := some 75) (bz 12 1215) rfl rfl (Af yD.out (by kernel_rfl)) (by decide) (fun K hK => ?_)
     refine gO Try.func45 #[.agg #[.int .i64 yn, .slice yP yg.length yI, .int .i64 yo, .int .i64 yt]] ?_
     with_reducible refine (zF.calls KI yn _ _ yg yo yt FW _ ?yF ?yM Tt.out).mono ?_
     (case yF => exact Da zq)
     (case yM => exact zG.out)
     rintro e w115 ⟨rfl, hb⟩
     refine ⟨_, rfl, ?_⟩
     replace zk := BN zk hb;replace aa := bB aa hb;replace ae := bB ae hb;replace ag := bB ag hb;replace ai := bB ai hb;replace HB := bS HB hb;clear hb
     refine hK.out _ _ (AR aa) (fun hHeld => ?_)
     clear hK K
     refine Aj (a' := ?_) ?_ ?_
     rotate_left
     ·
      show Act.put _ (some 75) _ = _
      simp only [pz]
      rfl
     refine pU 6 78 12 1279 yD ?_
     refine BP (i := 8) (N := some 80) (bz 12 1535) rfl rfl (Af yD.out (by kernel_rfl)) (by decide) (fun K hK => ?_)
     refine gO Try.func45 #[.agg #[.int .i64 yn, .slice yP yg.length yI, .int .i64 yo, .int .i64 yt]] ?_
     with_reducible refine (zF.calls KI yn _ _ yg yo yt FX _ ?yF ?yM TI.out).mono ?_
     (case yF => exact Da zq)
     (case yM => exact zG.out)
     rintro e w116 ⟨rfl, hb⟩
     refine ⟨_, rfl, ?_⟩
     replace zk := BN zk hb;replace aa := bB aa hb;replace ae := bB ae hb;replace ag := bB ag hb;replace ai := bB ai hb;replace HB := bS HB hb;clear hb;obtain ⟨dU, dX, cu⟩ := Kd.zX zk.out
     ((injection cu with M5 QR M6; have QS := M5.symm; have QT := M6.symm; clear M5 QR M6; subst QS; subst QT))
     refine hK.out _ _ (AR aa) (fun hHeld => ?_)
     clear hK K
     refine Aj (a' := ?_) ?_ ?_
     rotate_left
     ·
      show Act.put _ (some 80) _ = _
      simp only [pz]
      rfl
     refine pU 9 81 12 2047 yD ?_
     exact Ew (hCont (af) _ ⟨hHeld, (kR zk), (kk aa), (kk ae), (kk ag), (kk ai), aH.out, aG.out, ah.out, au.out, az.out, ax.out, ay.out, av.out, (bO HB)⟩)
   rintro af w118 ⟨X9, Si, PS, PT, Sj, Sk, Sl, Sm, Sn, Sq, Sr, Jv, Jw, Jy, Jz⟩
   have ai : yf (w118.heap[af]? = some (.cells #[.int .i64 0, .slice none 0 0, .int .i64 0, .int .i64 0, .slice none 0 0, .int .i64 0, .int .i64 0] 71 (0, 0))) := ⟨Sk⟩
   have aH : yf (w.heap.size ≤ af) := ⟨Sl⟩
   have aG : yf (w.heap.size ≤ af) := ⟨Sm⟩
   have ah : yf (aj ≠ af) := ⟨Sn⟩
   have au : yf (af ≠ aj) := ⟨Sq⟩
   have az : yf (ak ≠ af) := ⟨Sr⟩
   have ax : yf (af ≠ ak) := ⟨Jv⟩
   have ay : yf (aD ≠ af) := ⟨Jw⟩
   have av : yf (af ≠ aD) := ⟨Jy⟩
   replace zk : yf (Kd.R Dy 47 w118 w.heap.size (fun k_ => k_ ≠ ak) (.slice bH aC.length bC) aC) := ⟨Si⟩
   replace aa : yf (w118.heap[aj]? = some (.cells #[.int .i64 yn, .slice yP yg.length yI, .int .i64 yo, .int .i64 yt] 31 (0, 0))) := ⟨PS⟩
   replace ae : yf (w118.heap[ak]? = some (.cells #[.int .i64 aM, .int .i64 aV, .int .i64 aU, .int .i64 aT] 47 (0, 0))) := ⟨PT⟩
   replace ag : yf (w118.heap[aD]? = some (.cells #[.int .i64 aK, .int .i64 aI] 38 (0, 0))) := ⟨Sj⟩
   replace HB : yf (Below w.heap.size w w118) := ⟨Jz⟩
   clear Si PS PT Sj Sk Sl Sm Sn Sq Sr Jv Jw Jy Jz
   have hHeld : w118.cell? ⟨aj, 0, none⟩ = some (.int .i64 yn) ∧ w118.cell? ⟨aj, 1, none⟩ = some (.slice yP yg.length yI) ∧ w118.cell? ⟨aj, 2, none⟩ = some (.int .i64 yo) ∧ w118.cell? ⟨aj, 3, none⟩ = some (.int .i64 yt) := X9
   refine Aj (a' := ?_) ?_ ?_
   rotate_left
   ·
    simp only [GL, Act.put, List.setIfInBounds_toArray, List.set_cons_zero, List.set_cons_succ]
    rfl
   refine BP (i := 11) (N := none) (bz 12 4095) rfl rfl (Af yD.out (by kernel_rfl)) (by decide) (fun K hK => ?_)
   have il : w118.cell? ⟨af, 0, none⟩ = some (.int .i64 0) := (yz ai.out 0).trans rfl
   have jP := zm ai.out 0;have j6 := ah.out;have fu := az.out;have lQ := ay.out;have mi := au.out;have fG := ax.out;have iH := av.out
   have fH : w118.cell? ⟨af, 1, none⟩ = some (.slice none 0 0) := (yz ai.out 1).trans rfl
   have jU := zm ai.out 1;have lD := ah.out;have lK := az.out;have gu := ay.out;have lW := au.out;have fM := ax.out;have lJ := av.out
   have jA : w118.cell? ⟨af, 2, none⟩ = some (.int .i64 0) := (yz ai.out 2).trans rfl
   have mE := zm ai.out 2;have fU := ah.out;have lg := az.out;have fC := ay.out;have iA := au.out;have lX := ax.out;have fI := av.out
   have kN : w118.cell? ⟨af, 3, none⟩ = some (.int .i64 0) := (yz ai.out 3).trans rfl
   have gy := zm ai.out 3;have lF := ah.out;have fQ := az.out;have gY := ay.out;have l7 := au.out;have fF := ax.out;have mq := av.out
   have iO : w118.cell? ⟨af, 4, none⟩ = some (.slice none 0 0) := (yz ai.out 4).trans rfl
   have kL := zm ai.out 4;have gG := ah.out;have lw := az.out;have eO := ay.out;have fA := au.out;have lZ := ax.out;have mJ := av.out
   have gp : w118.cell? ⟨af, 5, none⟩ = some (.int .i64 0) := (yz ai.out 5).trans rfl
   have jY := zm ai.out 5;have gN := ah.out;have jg := az.out;have iD := ay.out;have jQ := au.out;have gX := ax.out;have jE := av.out
   have l9 : w118.cell? ⟨af, 6, none⟩ = some (.int .i64 0) := (yz ai.out 6).trans rfl
   have gJ := zm ai.out 6;have fJ := ah.out;have lq := az.out;have fe := ay.out;have gU := au.out;have kv := ax.out;have mF := av.out
   refine G5 (w1 := ?_) (by rfl) rfl ?_ ?_
   rotate_left
   ·
    go_simp
    rfl
   refine hK.out _ _ ⟨((cell_far (p := ⟨af, _, none⟩) ah.out _).trans (((cell_far (p := ⟨af, _, none⟩) ah.out _).trans (((cell_far (p := ⟨af, _, none⟩) ah.out _).trans (((cell_far (p := ⟨af, _, none⟩) ah.out _).trans (((cell_far (p := ⟨af, _, none⟩) ah.out _).trans (((cell_far (p := ⟨af, _, none⟩) ah.out _).trans (((cell_far (p := ⟨af, _, none⟩) ah.out _).trans (hHeld.1)))))))))))))), ((cell_far (p := ⟨af, _, none⟩) ah.out _).trans (((cell_far (p := ⟨af, _, none⟩) ah.out _).trans (((cell_far (p := ⟨af, _, none⟩) ah.out _).trans (((cell_far (p := ⟨af, _, none⟩) ah.out _).trans (((cell_far (p := ⟨af, _, none⟩) ah.out _).trans (((cell_far (p := ⟨af, _, none⟩) ah.out _).trans (((cell_far (p := ⟨af, _, none⟩) ah.out _).trans (hHeld.2.1)))))))))))))), ((cell_far (p := ⟨af, _, none⟩) ah.out _).trans (((cell_far (p := ⟨af, _, none⟩) ah.out _).trans (((cell_far (p := ⟨af, _, none⟩) ah.out _).trans (((cell_far (p := ⟨af, _, none⟩) ah.out _).trans (((cell_far (p := ⟨af, _, none⟩) ah.out _).trans (((cell_far (p := ⟨af, _, none⟩) ah.out _).trans (((cell_far (p := ⟨af, _, none⟩) ah.out _).trans (hHeld.2.2.1)))))))))))))), ((cell_far (p := ⟨af, _, none⟩) ah.out _).trans (((cell_far (p := ⟨af, _, none⟩) ah.out _).trans (((cell_far (p := ⟨af, _, none⟩) ah.out _).trans (((cell_far (p := ⟨af, _, none⟩) ah.out _).trans (((cell_far (p := ⟨af, _, none⟩) ah.out _).trans (((cell_far (p := ⟨af, _, none⟩) ah.out _).trans (((cell_far (p := ⟨af, _, none⟩) ah.out _).trans (hHeld.2.2.2))))))))))))))⟩ (fun hHeld => ?_)
   clear hK K
   refine BI (Az yD.out (by kernel_rfl)) ?_
   have a00 := aQ.out;have a01 := aN.out;have jr := bu.out;have jc := bA.out;have kM := ah.out;have gI := au.out;have fZ := AR aa;have lN := bf aa
   try go_wp2_with (((with_reducible refine yB (f := 25) rfl ?_); refine gL (some 84) Try.func25 #[.agg #[.int .i64 yn, .slice yP yg.length yI, .int .i64 yo, .int .i64 yt], .slice bH aC.length bC] ?_; (with_reducible refine (Ai.calls KI yn _ _ yg yo yt _ _ aC false _ ?yF ?yM ?zI ?zJ bZ.out).mono ?_); (case yF => exact Kd.Ci zq.out (bO HB)); (case yM => exact zG.out); (case zI => refine (Kd.zt (e := 47) (base := w.heap.size) (ok := fun k_ => k_ ≠ ak) (n := aC.length) (c := bC) ?_).2.2; exact (by (with_reducible repeat (apply Kd.zl)); exact (Kd.zb (GG (g := af) (Kd.AU zk.out ai.out (by decide)) (fun _ hk => hk.2)) (fun _ h_ => h_.1)))); (case zJ => exact (Kd.zt zk.out).2.1); rintro e w130 ⟨rfl, hb⟩; refine ⟨_, rfl, ?_⟩; replace zk := yf.mk (Kd.Bh (by (with_reducible repeat (apply Kd.zl)); exact (Kd.zb (GG (g := af) (Kd.AU zk.out ai.out (by decide)) (fun _ hk => hk.2)) (fun _ h_ => h_.1))) hb); replace aa := yf.mk (yX (g := aj) (o := .cells #[.int .i64 yn, .slice yP yg.length yI, .int .i64 yo, .int .i64 yt] 31 (0, 0)) (CF aa rfl) hb); replace ae := yf.mk (yX (g := ak) (o := .cells #[.int .i64 aM, .int .i64 aV, .int .i64 aU, .int .i64 aT] 47 (0, 0)) (CF ae rfl) hb); replace ag := yf.mk (yX (g := aD) (o := .cells #[.int .i64 aK, .int .i64 aI] 38 (0, 0)) (CF ag rfl) hb); replace ai := yf.mk (yX (g := af) (o := .cells #[.int .i64 yn, .slice yP yg.length yI, .int .i64 yo, .int .i64 yt, .slice bH aC.length bC, .int .i64 (wrap64 (FW - yt)), .int .i64 FX] 71 (0, 0)) (CF ai rfl) hb); replace HB := bS HB hb; clear hb))
   go_ret2
   exact ⟨_, by rfl, by exact Kd.Dh _ _ _ _ _, bO HB⟩
end Go.Proofs.Ytjonnfmoocijlaa.P
