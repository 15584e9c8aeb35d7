/- Texts of a claim, packed. -/
import Derived.Test.YtjonnfmoocijlaaC28
set_option linter.all false
namespace Go.Proofs.Ytjonnfmoocijlaa.P
open Go.RowKit Go.Proofs.YtjonnfmoocijlaaKW.PrintWords Go.Proofs.YtjonnfmoocijlaaKW.PrintLast Go.Proofs.YtjonnfmoocijlaaKW.PrintMore
attribute [local go_sem] zO zP Aj Ak zC zD zQ zR
mutual
def yH.l0 : Nat → List (AX) → Int → List Bool → Int → Int → Int → List (List Int) → Int → Int → Int → Int → Option (Int × Int × Bool)
 | 0, _, _, _, _, _, _, _, _, _, _, _ => none
 | k + 1, x1, x2, x3, EK, Ga, aa, af, ag, ae, ah, ai => if Ga < aa then (yH.l1 k x1 x2 x3 EK Ga false 0 aa af ag ae ah ai) else (some (ah, ai, decide (EK ≥ 0)))
def yH.l1 : Nat → List (AX) → Int → List Bool → Int → Int → Bool → Int → Int → List (List Int) → Int → Int → Int → Int → Option (Int × Int × Bool)
 | 0, _, _, _, _, _, _, _, _, _, _, _, _, _ => none
 | k + 1, x1, x2, x3, EK, Ga, F6, IG, aa, af, ag, ae, ah, ai => (zi.f aa af ag ae).bind fun Vw => (if IG < Vw then (if F6 = true then (yH.l1 k x1 x2 x3 EK Ga true (wrap64 (IG + 1)) aa af ag ae ah ai) else ((zy.f k aa af ag ae x1 x2 IG).bind fun aj => (yH.l1 k x1 x2 x3 EK Ga (aj.1 == Ga) (wrap64 (IG + 1)) aa af ag ae ah ai))) else ((zM.f k aa af ag ae x1 Ga).bind fun ER => (if 0 ≤ Ga then (if Ga < (x3.length : Int) then (if Ha false x3 Ga = true then (yH.j2 k x1 x2 x3 EK Ga ER true aa af ag ae ah ai) else (if F6 = true then (yH.j2 k x1 x2 x3 EK Ga ER true aa af ag ae ah ai) else (if (ER.length : Int) ≥ ae then (yH.j2 k x1 x2 x3 EK Ga ER true aa af ag ae ah ai) else (if EK ≥ 0 then (yH.j2 k x1 x2 x3 EK Ga ER (decide ((ER.length : Int) ≥ EK)) aa af ag ae ah ai) else (yH.j2 k x1 x2 x3 EK Ga ER false aa af ag ae ah ai))))) else (none)) else (none))))
def yH.j2 : Nat → List (AX) → Int → List Bool → Int → Int → List Int → Bool → Int → List (List Int) → Int → Int → Int → Int → Option (Int × Int × Bool)
 | 0, _, _, _, _, _, _, _, _, _, _, _, _, _ => none
 | k + 1, x1, x2, x3, EK, Ga, Ig, ak, aa, af, ag, ae, ah, ai => if ak = true then (yH.l0 k x1 x2 x3 EK (wrap64 (Ga + 1)) aa af ag ae ah ai) else ((AA.f aa af ag ae).bind fun ZC => (yH.l2 k x1 x2 x3 Ga Ig ZC 0 aa af ag ae))
def yH.l2 : Nat → List (AX) → Int → List Bool → Int → List Int → Int → Int → Int → List (List Int) → Int → Int → Option (Int × Int × Bool)
 | 0, _, _, _, _, _, _, _, _, _, _, _ => none
 | k + 1, x1, x2, x3, Ga, Ig, KI, ZA, aa, af, ag, ae => if ZA < (Ig.length : Int) then (if 0 ≤ ZA then (if (rd Ig ZA) = KI then (yH.l2 k x1 x2 x3 Ga Ig (wrap64 (KI + 1)) (wrap64 (ZA + 1)) aa af ag ae) else (yH.l0 k x1 x2 x3 (Ig.length : Int) (wrap64 (Ga + 1)) aa af ag ae Ga KI)) else (none)) else (yH.l0 k x1 x2 x3 (Ig.length : Int) (wrap64 (Ga + 1)) aa af ag ae Ga KI)
end
def yH.f (k : Nat) (yn : Int) (yh : List (List Int)) (yo : Int) (yu : Int) (l1 : List (AX)) (a2 : Int) (l3 : List Bool) : Option (Int × Int × Bool) := yH.l0 k l1 a2 l3 (-1) 0 yn yh yo yu 0 0
set_option maxHeartbeats 8000000 in
set_option maxRecDepth 100000 in
theorem yH.calls (k : Nat) (yn : Int) (yQ : Option Addr) (yM : Nat) (yh : List (List Int)) (yo : Int) (yu : Int) (A1 : Option Addr) (c1 : Nat) (l1 : List (AX)) (a2 : Int) (A3 : Option Addr) (c3 : Nat) (l3 : List Bool) (r1 : Int) (r2 : Int) (r3 : Bool) (w : World) (Ah : Kd.C (Kd.slice 3 (Kd.int .i64)) w yQ yh.length yh) (Ai : yh.length ≤ yM) (hr1 : Kd.C CS w A1 l1.length l1) (hc1 : l1.length ≤ c1) (hr3 : Kd.C Kd.bool w A3 l3.length l3) (hc3 : l3.length ≤ c3) (h : yH.f k yn yh yo yu l1 a2 l3 = some (r1, r2, r3)) :
  Calls Try.prog 15 #[.agg #[.int .i64 yn, .slice yQ yh.length yM, .int .i64 yo, .int .i64 yu], .slice A1 l1.length c1, .int .i64 a2, .slice A3 l3.length c3] w fun e w' => e = .returned (.tuple #[.agg #[.int .i64 r1, .int .i64 r2], .bool r3]) ∧ Below w.heap.size w w' := by
 have FH := Try.underlying31;have Jd := Try.underlying38
 have Qm : ∀ (x0 x1 : Value) (W : World), (Instr.field 38 (.agg #[x0, x1]) 0).run Try.prog W = .ok (x0) W := fun x0 x1 W => by rfl
 have zA := yf.mk Ah;have zK := yf.mk Ai;clear Ah Ai;have HR1 := yf.mk hr1;have GH := yf.mk hc1;clear hr1 hc1;have HR3 := yf.mk hr3;have HC3 := yf.mk hc3;clear hr3 hc3;have HB := yf.mk (Below.refl w.heap.size w)
 have H : (yH.l0 k l1 a2 l3 (-1) 0 yn yh yo yu 0 0) = some (r1, r2, r3) := h
 clear h;have H' := yf.mk H;clear H
 go_enter Try.func15, Try.ntmps15
 go_wp2_with (first | ((with_reducible refine yI (N := 4) rfl ?_); (try (refine Ab (by rfl) ?_; dsimp only)); refine yG rfl (N := 4) rfl (cs := #[.int .i64 yn, .slice yQ yh.length yM, .int .i64 yo, .int .i64 yu]) (t := 31) (by go_simp) ?_; intro aM hg w5 yJ hb; have aa := yf.mk (yJ); have bP := bG (w := w) hg; have bA := bG (w := w) hg; replace HB := bS HB hb; clear hb yJ hg) | ((with_reducible refine yI (N := 8) rfl ?_); (try (refine Ab (by rfl) ?_; dsimp only)); refine yG rfl (N := 8) rfl (cs := #[.int .i64 0, .int .i64 0]) (t := 38) (by go_simp) ?_; intro aK hg w6 yJ hb; have af := yf.mk (yJ); have bL := bG (w := w) hg; have bH := bG (w := w) hg; have aA := Co aa hg; have aC := Ar aa hg; replace aa := bB aa hb; replace HB := bS HB hb; clear hb yJ hg) | ((with_reducible refine yI (N := 10) rfl ?_); (try (refine Ab (by rfl) ?_; dsimp only)); refine yG rfl (N := 10) rfl (cs := #[.int .i64 0, .int .i64 0]) (t := 38) (by go_simp) ?_; intro aT hg w7 yJ hb; have ae := yf.mk (yJ); have bM := bG (w := w) hg; have bN := bG (w := w) hg; have av := Co aa hg; have ax := Ar aa hg; have aN := Co af hg; have aU := Ar af hg; replace aa := bB aa hb; replace af := bB af hb; replace HB := bS HB hb; clear hb yJ hg; have a2C := ax.out; have a2D := av.out; have a5G := aU.out; have a5H := aN.out; have KW := bc2 ae; have KX := bf ae))
 go_loopg [11, 12] k (fun kq v11 v12 w' => ∃ (AV : Int) (Bv : Int) (aj : Int) (ak : Int), v11 = .int .i64 AV ∧ v12 = .int .i64 Bv ∧ yf (yH.l0 kq l1 a2 l3 AV Bv yn yh yo yu aj ak = some (r1, r2, r3)) ∧ yf (kq ≤ k) ∧ yf (w'.heap[aM]? = some (.cells #[.int .i64 yn, (.slice yQ yh.length yM), .int .i64 yo, .int .i64 yu] 31 (0, 0))) ∧ yf (w'.heap[aK]? = some (.cells #[.int .i64 0, .int .i64 0] 38 (0, 0))) ∧ yf (w'.heap[aT]? = some (.cells #[.int .i64 aj, .int .i64 ak] 38 (0, 0))) ∧ yf (Below w.heap.size w w'))
 case atStart => exact ⟨((-1)), (0), (0), (0), (by rfl), (by rfl), H', ⟨Nat.le_refl _⟩, bK aa rfl, bK af rfl, bK ae rfl, ⟨bO HB⟩⟩
 case round =>
 clear H' KW KX;obtain ⟨AV, Bv, aj, ak, rfl, rfl, HA, BJ, aa, af, ae, HB⟩ := hrel
 cases gk with
 | zero => exact absurd HA.out (by simp [yH.l0])
 | succ k1 =>
 have H := HA.out;clear HA;simp only [yH.l0] at H
 by_cases c11 : Bv < yn
 rotate_left
 ·
  rw [if_neg c11] at H;have GD := decide_eq_false c11;clear c11;simp only [Option.some.injEq, Prod.mk.injEq] at H;obtain ⟨rfl, rfl, rfl⟩ := H;have a19 := aA.out;have a1a := aC.out;have bR := av.out;have bC := ax.out;have a5P := AP aa;have a5Q := bf aa;have a0B := aU.out;have a0C := aN.out;have bD := bc2 ae;have bI := bf ae;have a0D := bc2 af;have a0E := bf af
  go_wp2
  refine bodyPost_ret (BS rfl _ _ aK 38 #[.int .i64 aj, .int .i64 ak] (0, 0) _ rfl (CJ af rfl) Try.underlying38 rfl (by kernel_rfl)) rfl ?_
  exact ⟨by rfl, bO HB⟩
 rw [if_pos c11] at H;have GD := decide_eq_true c11;clear c11;have H' := yf.mk H;clear H;have Y2 := aA.out;have Y3 := aC.out;have Xz := av.out;have XA := ax.out;have IV := AP aa;have IW := bf aa
 go_wp2
 go_loopg [13, 14] k1 (fun kq v13 v14 w' => ∃ (BF : Bool) (Ef : Int), v13 = .bool BF ∧ v14 = .int .i64 Ef ∧ yf (yH.l1 kq l1 a2 l3 AV Bv BF Ef yn yh yo yu aj ak = some (r1, r2, r3)) ∧ yf (kq ≤ k1) ∧ yf (w'.heap[aM]? = some (.cells #[.int .i64 yn, (.slice yQ yh.length yM), .int .i64 yo, .int .i64 yu] 31 (0, 0))) ∧ yf (w'.heap[aK]? = some (.cells #[.int .i64 0, .int .i64 0] 38 (0, 0))) ∧ yf (w'.heap[aT]? = some (.cells #[.int .i64 aj, .int .i64 ak] 38 (0, 0))) ∧ yf (Below w.heap.size w w'))
 case atStart => exact ⟨(false), (0), (by rfl), (by rfl), H', ⟨Nat.le_refl _⟩, ⟨kk aa⟩, ⟨kk af⟩, ⟨kk ae⟩, ⟨bO HB⟩⟩
 case round =>
 clear H' GD IV IW;obtain ⟨BF, Ef, rfl, rfl, HA, D6, aa, af, ae, HB⟩ := hrel
 cases gk with
 | zero => exact absurd HA.out (by simp [yH.l1])
 | succ k2 =>
  have H := HA.out;clear HA;simp only [yH.l1] at H;obtain ⟨Vw, QP, H⟩ := bE H
  try dsimp only at H
  by_cases c16 : Ef < Vw
  ·
   rw [if_pos c16] at H;have Fy := decide_eq_true c16;clear c16
   by_cases c17 : BF = true
   ·
    subst c17;rw [if_pos rfl] at H;have H' := yf.mk H;clear H;have Ux := aA.out;have Uy := aC.out;have a0R := av.out;have a0S := ax.out;have Ug := AP aa;have Uh := bf aa
    go_wp2_with (((with_reducible refine yw (f := 24) rfl ?_); refine gL (some 28) Try.func24 #[.agg #[.int .i64 yn, .slice yQ yh.length yM, .int .i64 yo, .int .i64 yu]] ?_; (with_reducible refine (zi.calls yn _ _ yh yo yu Vw _ ?yD ?yF QP.out).mono ?_); (case yD => exact Di zA); (case yF => exact zK.out); rintro e w21 ⟨rfl, hb⟩; refine ⟨_, rfl, ?_⟩; replace aa := bB aa hb; replace af := bB af hb; replace ae := bB ae hb; replace HB := bS HB hb; clear hb))
    go_roundg k2
    case measure => have := BJ.out; have := D6.out; omega
    case rel => exact ⟨(true), (wrap64 (Ef + 1)), (by rfl), (by rfl), H', ⟨by have := BJ.out; have := D6.out; omega⟩, ⟨kk aa⟩, ⟨kk af⟩, ⟨kk ae⟩, ⟨bO HB⟩⟩
   ·
    replace c17 := Bool.eq_false_iff.mpr c17;subst c17
    rw [if_neg (show ¬ (false = true) by decide)] at H
    obtain ⟨⟨bi, bq⟩, A22, H⟩ := bE H
    try dsimp only at H
    have H' := yf.mk H;clear H;have a1d := aA.out;have a1e := aC.out;have QQ := av.out;have QR := ax.out;have KM := AP aa;have KN := bf aa
    go_wp2_with (first | ((with_reducible refine yw (f := 24) rfl ?_); refine gL (some 28) Try.func24 #[.agg #[.int .i64 yn, .slice yQ yh.length yM, .int .i64 yo, .int .i64 yu]] ?_; (with_reducible refine (zi.calls yn _ _ yh yo yu Vw _ ?yD ?yF QP.out).mono ?_); (case yD => exact Di zA); (case yF => exact zK.out); rintro e w26 ⟨rfl, hb⟩; refine ⟨_, rfl, ?_⟩; replace aa := bB aa hb; replace af := bB af hb; replace ae := bB ae hb; replace HB := bS HB hb; clear hb; have Md := AP aa; have Me := bf aa) | (go_at_call 22; (with_reducible refine (zy.calls k2 yn _ _ yh yo yu _ _ l1 a2 Ef bi bq _ ?yD ?yF ?zw ?zx A22.out).mono ?_); (case yD => exact Di zA); (case yF => exact zK.out); (case zw => exact Di HR1); (case zx => exact GH.out); rintro e w28 ⟨rfl, hb⟩; replace aa := bB aa hb; replace af := bB af hb; replace ae := bB ae hb; replace HB := bS HB hb; clear hb))
    go_roundg k2
    case measure => have := BJ.out; have := D6.out; omega
    case rel => exact ⟨((bi == Bv)), (wrap64 (Ef + 1)), (by rfl), (by rfl), H', ⟨by have := BJ.out; have := D6.out; omega⟩, ⟨kk aa⟩, ⟨kk af⟩, ⟨kk ae⟩, ⟨bO HB⟩⟩
  ·
   rw [if_neg c16] at H;have Fy := decide_eq_false c16;clear c16;obtain ⟨ER, A29, H⟩ := bE H
   try dsimp only at H
   have aZ := yf.mk H;clear H;have QT := aA.out;have QU := aC.out;have P8 := av.out;have P9 := ax.out;have Je := AP aa;have Jf := bf aa
   go_upto_region 11 with (first | ((with_reducible refine yw (f := 24) rfl ?_); refine gL (some 28) Try.func24 #[.agg #[.int .i64 yn, .slice yQ yh.length yM, .int .i64 yo, .int .i64 yu]] ?_; (with_reducible refine (zi.calls yn _ _ yh yo yu Vw _ ?yD ?yF QP.out).mono ?_); (case yD => exact Di zA); (case yF => exact zK.out); rintro e w34 ⟨rfl, hb⟩; refine ⟨_, rfl, ?_⟩; replace aa := bB aa hb; replace af := bB af hb; replace ae := bB ae hb; replace HB := bS HB hb; clear hb; have OT := AP aa; have OU := bf aa) | ((with_reducible refine yw (f := 38) rfl ?_); refine gL (some 46) Try.func38 #[.agg #[.int .i64 yn, .slice yQ yh.length yM, .int .i64 yo, .int .i64 yu], .slice A1 l1.length c1, .int .i64 Bv] ?_; (with_reducible refine (zM.calls k2 yn _ _ yh yo yu _ _ l1 Bv ER _ ?yD ?yF ?zw ?zx A29.out).mono ?_); (case yD => exact Di zA); (case yF => exact zK.out); (case zw => exact Di HR1); (case zx => exact GH.out); rintro e w36 ⟨v518, rfl, ho0, hb⟩; refine ⟨_, rfl, ?_⟩; have aD := yf.mk (Kd.Ay ho0 (yL (bO HB))); replace aa := bB aa hb; replace af := bB af hb; replace ae := bB ae hb; replace HB := bS HB hb; clear hb; clear ho0))
   (try simp only [pz])
   go_cut [70] (fun v70 wc => ∃ (kq : Nat) (aV : Bool), v70 = .bool aV ∧ yf (yH.j2 kq l1 a2 l3 AV Bv ER aV yn yh yo yu aj ak = some (r1, r2, r3)) ∧ yf (kq ≤ k2) ∧ yf (Kd.R (Kd.int .i64) 3 wc w.heap.size (fun _ => True) v518 ER) ∧ yf (wc.heap[aM]? = some (.cells #[.int .i64 yn, (.slice yQ yh.length yM), .int .i64 yo, .int .i64 yu] 31 (0, 0))) ∧ yf (wc.heap[aK]? = some (.cells #[.int .i64 0, .int .i64 0] 38 (0, 0))) ∧ yf (wc.heap[aT]? = some (.cells #[.int .i64 aj, .int .i64 ak] 38 (0, 0))) ∧ yf (Below w.heap.size w wc))
   case first =>
    have H := aZ.out;clear aZ
    by_cases c37 : 0 ≤ Bv
    ·
     rw [if_pos c37] at H;have a00 := decide_eq_true c37;clear c37
     (skip)
     by_cases Km : Bv < (l3.length : Int)
     ·
      rw [if_pos Km] at H;have Ng := decide_eq_true Km;clear Km;obtain ⟨bg, aY⟩ : ∃ b_ : Bool, b_ = (Ha false l3 Bv) := ⟨_, rfl⟩
      replace H : (if bg = true then (yH.j2 k2 l1 a2 l3 AV Bv ER true yn yh yo yu aj ak) else (if BF = true then (yH.j2 k2 l1 a2 l3 AV Bv ER true yn yh yo yu aj ak) else (if (ER.length : Int) ≥ yu then (yH.j2 k2 l1 a2 l3 AV Bv ER true yn yh yo yu aj ak) else (if AV ≥ 0 then (yH.j2 k2 l1 a2 l3 AV Bv ER (decide ((ER.length : Int) ≥ AV)) yn yh yo yu aj ak) else (yH.j2 k2 l1 a2 l3 AV Bv ER false yn yh yo yu aj ak))))) = some (r1, r2, r3) := by rw [← aY] at H; exact H
      have aJ := yf.mk aY;clear aY
      by_cases c40 : bg = true
      ·
       subst c40;rw [if_pos rfl] at H;have H' := yf.mk H;clear H
       have ag : 0 ≤ (Bv : Int) := of_decide_eq_true ‹_›
       have ah : Bv < (l3.length : Int) := of_decide_eq_true ‹_›
       obtain ⟨aQ, az, ai⟩ := Kd.Fq HR3.out Bv ag ah
       (try rw [← aJ.out] at ai)
       cases az;replace ai := cB HB ai;replace ag := eq_true ag;replace ah := eq_true ah
       go_wp2
       go_meet
       case rel => exact ⟨_, (true), (by rfl), H', ⟨by have := BJ.out; have := D6.out; omega⟩, ⟨kR aD⟩, ⟨kk aa⟩, ⟨kk af⟩, ⟨kk ae⟩, ⟨bO HB⟩⟩
      ·
       replace c40 := Bool.eq_false_iff.mpr c40;subst c40
       rw [if_neg (show ¬ (false = true) by decide)] at H
       by_cases JH : BF = true
       ·
        subst JH;rw [if_pos rfl] at H;have H' := yf.mk H;clear H
        have ag : 0 ≤ (Bv : Int) := of_decide_eq_true ‹_›
        have ah : Bv < (l3.length : Int) := of_decide_eq_true ‹_›
        obtain ⟨aQ, az, ai⟩ := Kd.Fq HR3.out Bv ag ah
        (try rw [← aJ.out] at ai)
        cases az;replace ai := cB HB ai;replace ag := eq_true ag;replace ah := eq_true ah
        go_wp2
        go_meet
        case rel => exact ⟨_, (true), (by rfl), H', ⟨by have := BJ.out; have := D6.out; omega⟩, ⟨kR aD⟩, ⟨kk aa⟩, ⟨kk af⟩, ⟨kk ae⟩, ⟨bO HB⟩⟩
       ·
        replace JH := Bool.eq_false_iff.mpr JH;subst JH
        rw [if_neg (show ¬ (false = true) by decide)] at H
        by_cases Hu : (ER.length : Int) ≥ yu
        ·
         rw [if_pos Hu] at H;have JU := decide_eq_true Hu;clear Hu;have H' := yf.mk H;clear H
         have ag : 0 ≤ (Bv : Int) := of_decide_eq_true ‹_›
         have ah : Bv < (l3.length : Int) := of_decide_eq_true ‹_›
         obtain ⟨aQ, az, ai⟩ := Kd.Fq HR3.out Bv ag ah
         (try rw [← aJ.out] at ai)
         cases az;replace ai := cB HB ai;replace ag := eq_true ag;replace ah := eq_true ah;obtain ⟨Vx, RG, Y4⟩ := Kd.zJ aD.out;subst Y4;have a1j := aA.out;have a1k := aC.out;have QV := av.out;have QW := ax.out;have QX := AP aa;have QY := bf aa
         go_wp2
         go_meet
         case rel => exact ⟨_, (true), (by rfl), H', ⟨by have := BJ.out; have := D6.out; omega⟩, ⟨kR aD⟩, ⟨kk aa⟩, ⟨kk af⟩, ⟨kk ae⟩, ⟨bO HB⟩⟩
        ·
         rw [if_neg Hu] at H;have JU := decide_eq_false Hu;clear Hu
         by_cases J2 : AV ≥ 0
         ·
          rw [if_pos J2] at H;have KF := decide_eq_true J2;clear J2;have H' := yf.mk H;clear H
          have ag : 0 ≤ (Bv : Int) := of_decide_eq_true ‹_›
          have ah : Bv < (l3.length : Int) := of_decide_eq_true ‹_›
          obtain ⟨aQ, az, ai⟩ := Kd.Fq HR3.out Bv ag ah
          (try rw [← aJ.out] at ai)
          cases az;replace ai := cB HB ai;replace ag := eq_true ag;replace ah := eq_true ah;obtain ⟨a6Y, a6Z, a2F⟩ := Kd.zJ aD.out;subst a2F;have Ui := aA.out;have Uj := aC.out;have Pj := av.out;have Pm := ax.out;have Uk := AP aa;have Ul := bf aa
          go_wp2
          go_meet
          case rel => exact ⟨_, (decide ((ER.length : Int) ≥ AV)), (by rfl), H', ⟨by have := BJ.out; have := D6.out; omega⟩, ⟨kR aD⟩, ⟨kk aa⟩, ⟨kk af⟩, ⟨kk ae⟩, ⟨bO HB⟩⟩
         ·
          rw [if_neg J2] at H;have KF := decide_eq_false J2;clear J2;have H' := yf.mk H;clear H
          have ag : 0 ≤ (Bv : Int) := of_decide_eq_true ‹_›
          have ah : Bv < (l3.length : Int) := of_decide_eq_true ‹_›
          obtain ⟨aQ, az, ai⟩ := Kd.Fq HR3.out Bv ag ah
          (try rw [← aJ.out] at ai)
          cases az;replace ai := cB HB ai;replace ag := eq_true ag;replace ah := eq_true ah;obtain ⟨bF, a6y, a2m⟩ := Kd.zJ aD.out;subst a2m;have X5 := aA.out;have X6 := aC.out;have a1l := av.out;have a1m := ax.out;have a1n := AP aa;have a1o := bf aa
          go_wp2
          go_meet
          case rel => exact ⟨_, (false), (by rfl), H', ⟨by have := BJ.out; have := D6.out; omega⟩, ⟨kR aD⟩, ⟨kk aa⟩, ⟨kk af⟩, ⟨kk ae⟩, ⟨bO HB⟩⟩
     ·
      rw [if_neg Km] at H;exact absurd H (by simp)
    ·
     rw [if_neg c37] at H;exact absurd H (by simp)
   case rest =>
    clear aZ Fy Je OT Jf OU;obtain ⟨kq, aV, rfl, HA, aG, ay, aa, af, ae, HB⟩ := hcut
    cases kq with
    | zero => exact absurd HA.out (by simp [yH.j2])
    | succ aW =>
     have H := HA.out;clear HA;simp only [yH.j2] at H
     by_cases ZB : aV = true
     ·
      subst ZB;rw [if_pos rfl] at H;have H' := yf.mk H;clear H
      go_wp2
      go_roundg aW
      case measure => have := BJ.out; have := D6.out; have := aG.out; omega
      case rel => exact ⟨(AV), (wrap64 (Bv + 1)), (aj), (ak), (by rfl), (by rfl), H', ⟨by have := BJ.out; have := D6.out; have := aG.out; omega⟩, ⟨kk aa⟩, ⟨kk af⟩, ⟨kk ae⟩, ⟨bO HB⟩⟩
     ·
      replace ZB := Bool.eq_false_iff.mpr ZB;subst ZB
      rw [if_neg (show ¬ (false = true) by decide)] at H
      obtain ⟨ZC, A57, H⟩ := bE H
      try dsimp only at H
      have H' := yf.mk H;clear H;have XE := aA.out;have XF := aC.out;have a5R := av.out;have a5S := ax.out;have a1p := AP aa;have a1q := bf aa
      go_wp2_with (((with_reducible refine yw (f := 23) rfl ?_); refine gL (some 72) Try.func23 #[.agg #[.int .i64 yn, .slice yQ yh.length yM, .int .i64 yo, .int .i64 yu]] ?_; (with_reducible refine (AA.calls yn _ _ yh yo yu ZC _ ?yD ?yF A57.out).mono ?_); (case yD => exact Di zA); (case yF => exact zK.out); rintro e w61 ⟨rfl, hb⟩; refine ⟨_, rfl, ?_⟩; replace ay := BZ ay hb; replace aa := bB aa hb; replace af := bB af hb; replace ae := bB ae hb; replace HB := bS HB hb; clear hb))
      go_loopg [16, 17] aW (fun kq v16 v17 w' => ∃ (Fj : Int) (au : Int), v16 = .int .i64 Fj ∧ v17 = .int .i64 au ∧ yf (yH.l2 kq l1 a2 l3 Bv ER Fj au yn yh yo yu = some (r1, r2, r3)) ∧ yf (kq ≤ aW) ∧ yf (Kd.R (Kd.int .i64) 3 w' w.heap.size (fun _ => True) v518 ER) ∧ yf (w'.heap[aM]? = some (.cells #[.int .i64 yn, (.slice yQ yh.length yM), .int .i64 yo, .int .i64 yu] 31 (0, 0))) ∧ yf (w'.heap[aK]? = some (.cells #[.int .i64 0, .int .i64 0] 38 (0, 0))) ∧ yf (w'.heap[aT]? = some (.cells #[.int .i64 aj, .int .i64 ak] 38 (0, 0))) ∧ yf (Below w.heap.size w w'))
      case atStart => exact ⟨(ZC), (0), (by rfl), (by rfl), H', ⟨Nat.le_refl _⟩, ⟨kR ay⟩, ⟨kk aa⟩, ⟨kk af⟩, ⟨kk ae⟩, ⟨bO HB⟩⟩
      case round =>
       clear H' a1p a1q;obtain ⟨Fj, au, rfl, rfl, HA, Ja, ay, aa, af, ae, HB⟩ := hrel
       cases gk with
       | zero => exact absurd HA.out (by simp [yH.l2])
       | succ k4 =>
        have H := HA.out;clear HA;simp only [yH.l2] at H
        by_cases QO : au < (ER.length : Int)
        ·
         rw [if_pos QO] at H;have a09 := decide_eq_true QO;clear QO
         by_cases M9 : 0 ≤ au
         ·
          rw [if_pos M9] at H;have Ud := decide_eq_true M9;clear M9
          by_cases c64 : (rd ER au) = Fj
          ·
           rw [if_pos c64] at H;have La := beq_iff_eq.mpr c64
           have a1r : ((rd ER au) != Fj) = false := bne_eq_false_iff_eq.mpr c64
           clear c64;have H' := yf.mk H;clear H;obtain ⟨bQ, bJ, bu⟩ := Kd.zJ ay.out;subst bu
           have aI : 0 ≤ (au : Int) := of_decide_eq_true ‹_›
           have aH : au < (ER.length : Int) := of_decide_eq_true ‹_›
           obtain ⟨bv, aX, bn⟩ := Kd.C9 (Kd.yT ay.out).2.2 au aI aH;cases aX;replace aI := eq_true aI;replace aH := eq_true aH
           go_wp2
           go_roundg k4
           case measure => have := BJ.out; have := D6.out; have := aG.out; have := Ja.out; omega
           case rel => exact ⟨(wrap64 (Fj + 1)), (wrap64 (au + 1)), (by rfl), (by rfl), H', ⟨by have := BJ.out; have := D6.out; have := aG.out; have := Ja.out; omega⟩, ⟨kR ay⟩, ⟨kk aa⟩, ⟨kk af⟩, ⟨kk ae⟩, ⟨bO HB⟩⟩
          ·
           rw [if_neg c64] at H;have La := beq_eq_false_iff_ne.mpr c64;have a1r := bne_iff_ne.mpr c64;have H' := yf.mk H;clear H;obtain ⟨Zf, Wz, a2o⟩ := Kd.zJ ay.out;subst a2o
           have aI : 0 ≤ (au : Int) := of_decide_eq_true ‹_›
           have aH : au < (ER.length : Int) := of_decide_eq_true ‹_›
           obtain ⟨bv, aX, bn⟩ := Kd.C9 (Kd.yT ay.out).2.2 au aI aH;cases aX;replace aI := eq_true aI;replace aH := eq_true aH;have a5n := ax.out;have a5o := av.out;have a0Z := aU.out;have a11 := aN.out;have a13 := bc2 ae;have a14 := bf ae
           go_wp2
           go_roundg k4
           case measure => have := BJ.out; have := D6.out; have := aG.out; have := Ja.out; omega
           case rel => exact ⟨((ER.length : Int)), (wrap64 (Bv + 1)), (Bv), (Fj), (by rfl), (by rfl), H', ⟨by have := BJ.out; have := D6.out; have := aG.out; have := Ja.out; omega⟩, bK aa rfl, bK af rfl, bK ae rfl, ⟨bO HB⟩⟩
         ·
          rw [if_neg M9] at H;exact absurd H (by simp)
        ·
         rw [if_neg QO] at H;have a09 := decide_eq_false QO;clear QO;have H' := yf.mk H;clear H;obtain ⟨a7c, a7d, a3v⟩ := Kd.zJ ay.out;subst a3v;have a15 := ax.out;have a18 := av.out;have XI := aU.out;have XJ := aN.out;have Y5 := bc2 ae;have Y6 := bf ae
         go_wp2
         go_roundg k4
         case measure => have := BJ.out; have := D6.out; have := aG.out; have := Ja.out; omega
         case rel => exact ⟨((ER.length : Int)), (wrap64 (Bv + 1)), (Bv), (Fj), (by rfl), (by rfl), H', ⟨by have := BJ.out; have := D6.out; have := aG.out; have := Ja.out; omega⟩, bK aa rfl, bK af rfl, bK ae rfl, ⟨bO HB⟩⟩
end Go.Proofs.Ytjonnfmoocijlaa.P
