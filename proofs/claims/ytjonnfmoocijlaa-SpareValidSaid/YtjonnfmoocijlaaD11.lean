/- Texts of a claim, packed. -/
import Derived.Test.YtjonnfmoocijlaaD10
set_option linter.all false
namespace Go.Proofs.Ytjonnfmoocijlaa.P
open Go.RowKit Go.Proofs.YtjonnfmoocijlaaKW.PrintWords Go.Proofs.YtjonnfmoocijlaaKW.PrintLast Go.Proofs.YtjonnfmoocijlaaKW.PrintMore
attribute [local go_sem] zz zA zS zT zn zo zB zC
def yS.l0 : Nat → Int → Int → Int → Int → Int → Int → Int → Int → List (List Int) → Int → Int → Option (Int × Int)
 | 0, _, _, _, _, _, _, _, _, _, _, _ => none
 | k + 1, x7, x8, x9, Fj, EO, GH, IR, ag, aa, ae, af => if IR < x7 then (if 0 ≤ IR then (if IR < (aa.length : Int) then ((zL.f k (yT aa IR) Fj).bind fun Zx => (if Zx = true then (if IR < x9 then (yS.l0 k x7 x8 x9 Fj (wrap64 (EO + 1)) (wrap64 (GH + 1)) (wrap64 (IR + 1)) ag aa ae af) else (yS.l0 k x7 x8 x9 Fj (wrap64 (EO + 1)) GH (wrap64 (IR + 1)) ag aa ae af)) else (yS.l0 k x7 x8 x9 Fj EO GH (wrap64 (IR + 1)) ag aa ae af))) else (none)) else (none)) else (some (Fj, wrap64 ((wrap64 (x8 * EO)) + GH)))
def yS.f (k : Nat) (yn : Int) (yg : List (List Int)) (yo : Int) (yt : Int) (a1 : Int) (a2 : Int) : Option (Int × Int) := if (yg.length : Int) = 0 then (none) else (if 0 ≤ (Int.tmod a1 (yg.length : Int)) then (if (Int.tmod a1 (yg.length : Int)) < (yg.length : Int) then ((AC.f yn yg yo yt).bind fun H7 => (if H7 = 0 then (none) else (if 0 ≤ (Int.tmod (wrap64 (a2 + (wrap64 (Int.tdiv a1 (yg.length : Int))))) H7) then (if (Int.tmod (wrap64 (a2 + (wrap64 (Int.tdiv a1 (yg.length : Int))))) H7) < ((yT yg (Int.tmod a1 (yg.length : Int))).length : Int) then (yS.l0 k (yg.length : Int) (wrap64 (Int.tdiv a1 (yg.length : Int))) (Int.tmod a1 (yg.length : Int)) (rd (yT yg (Int.tmod a1 (yg.length : Int))) (Int.tmod (wrap64 (a2 + (wrap64 (Int.tdiv a1 (yg.length : Int))))) H7)) 0 0 0 yn yg yo yt) else (none)) else (none)))) else (none)) else (none))
theorem yS.mono_l : ∀ k, (∀ y0 y1 y2 y3 y4 y5 y6 y7 y8 y9 JL, zZ (yS.l0 k y0 y1 y2 y3 y4 y5 y6 y7 y8 y9 JL) (yS.l0 (k + 1) y0 y1 y2 y3 y4 y5 y6 y7 y8 y9 JL))
 | 0 => fun _ _ _ _ _ _ _ _ _ _ _ r h => by simp [yS.l0] at h
 | k + 1 => by
  have DN := yS.mono_l k
  ·
   intro y0 y1 y2 y3 y4 y5 y6 y7 y8 y9 JL
   unfold yS.l0
   repeat' first
   | exact DN _ _ _ _ _ _ _ _ _ _ _
   | exact zL.mono _ _ _
   | exact zZ.refl _
   | exact zZ.none _
   | refine zZ.ite ?_ ?_
   | refine zZ.bind ?_ (fun _ => ?_)
theorem yS.mono : ∀ a0 a1 a2 a3 a4 a5 k, zZ (yS.f k a0 a1 a2 a3 a4 a5) (yS.f (k + 1) a0 a1 a2 a3 a4 a5) := by
 intro a0 a1 a2 a3 a4 a5 k
 have DN := yS.mono_l k
 unfold yS.f
 repeat' first
  | exact DN _ _ _ _ _ _ _ _ _ _ _
  | exact zL.mono _ _ _
  | exact zZ.refl _
  | exact zZ.none _
  | refine zZ.ite ?_ ?_
  | refine zZ.bind ?_ (fun _ => ?_)
def yS.T2 : Bool × List (List Nat × List Nat) := (true, [([], []), ([], []), ([0, 1], [0, 1]), ([], []), ([], []), ([3, 4], [3, 4]), ([2, 0, 1, 2], [2]), ([5, 6, 0, 1, 2, 3, 4, 5, 6], [5])])
def yS.B2 : List Nat := [0, 0, 3, 0, 0, 24, 7, 127]
theorem yS.UN : CX .any (opsOf Try.f26 2) = yS.T2 := by kernel_rfl
theorem yS.OP : Bi yS.T2.2 yS.B2 = true := by kernel_rfl
def yS.T3 : Bool × List (List Nat × List Nat) := (true, [([], []), ([0], [0]), ([1], [1]), ([], []), ([2, 3], [2, 3]), ([4], [4]), ([], []), ([], []), ([6, 7], [6, 7]), ([], []), ([9], [9]), ([8, 10], [8, 10]), ([5, 11], [5, 11]), ([12], [12]), ([13, 10, 0, 1, 2, 3, 4, 5, 6, 7, 8, 9, 10, 11, 12, 13], [13])])
def yS.B3 : List Nat := [0, 1, 3, 0, 15, 31, 0, 0, 192, 0, 512, 1984, 4095, 8191, 16383]
theorem yS.Zy : CX .any (opsOf Try.f26 3) = yS.T3 := by kernel_rfl
theorem yS.UO : Bi yS.T3.2 yS.B3 = true := by kernel_rfl
set_option maxHeartbeats 8000000 in
set_option maxRecDepth 100000 in
theorem yS.calls (k : Nat) (yn : Int) (yP : Option Addr) (yI : Nat) (yg : List (List Int)) (yo : Int) (yt : Int) (a1 : Int) (a2 : Int) (r1 : Int) (r2 : Int) (w : World) (zR : Kd.C (Kd.slice 3 (Kd.int .i64)) w yP yg.length yg) (zU : yg.length ≤ yI) (h : yS.f k yn yg yo yt a1 a2 = some (r1, r2)) :
  Calls Try.prog 26 #[.agg #[.int .i64 yn, .slice yP yg.length yI, .int .i64 yo, .int .i64 yt], .int .i64 a1, .int .i64 a2] w fun e w' => e = .returned (.agg #[.int .i64 r1, .int .i64 r2]) ∧ Below w.heap.size w w' := by
 have FB := Try.underlying31;have Lv := Try.underlying38;have zq := yf.mk zR;have zG := yf.mk zU;clear zR zU;have HB := yf.mk (Below.refl w.heap.size w)
 have H : (if (yg.length : Int) = 0 then (none) else (if 0 ≤ (Int.tmod a1 (yg.length : Int)) then (if (Int.tmod a1 (yg.length : Int)) < (yg.length : Int) then ((AC.f yn yg yo yt).bind fun H7 => (if H7 = 0 then (none) else (if 0 ≤ (Int.tmod (wrap64 (a2 + (wrap64 (Int.tdiv a1 (yg.length : Int))))) H7) then (if (Int.tmod (wrap64 (a2 + (wrap64 (Int.tdiv a1 (yg.length : Int))))) H7) < ((yT yg (Int.tmod a1 (yg.length : Int))).length : Int) then (yS.l0 k (yg.length : Int) (wrap64 (Int.tdiv a1 (yg.length : Int))) (Int.tmod a1 (yg.length : Int)) (rd (yT yg (Int.tmod a1 (yg.length : Int))) (Int.tmod (wrap64 (a2 + (wrap64 (Int.tdiv a1 (yg.length : Int))))) H7)) 0 0 0 yn yg yo yt) else (none)) else (none)))) else (none)) else (none))) = some (r1, r2) := h
 clear h
 by_cases c4 : (yg.length : Int) = 0
 ·
  rw [if_pos c4] at H;exact absurd H (by simp)
 rw [if_neg c4] at H;have Ex := beq_eq_false_iff_ne.mpr c4;have KA := bne_iff_ne.mpr c4
 have bu : ¬ (yg = []) := fun h_ => c4 (by rw [h_]; rfl)
 obtain ⟨ae, bC⟩ : ∃ j_ : Int, (Int.tmod a1 (yg.length : Int)) = j_ := ⟨_, rfl⟩
 replace H : (if 0 ≤ (ae) then (if (ae) < (yg.length : Int) then ((AC.f yn yg yo yt).bind fun H7 => (if H7 = 0 then (none) else (if 0 ≤ (Int.tmod (wrap64 (a2 + (wrap64 (Int.tdiv a1 (yg.length : Int))))) H7) then (if (Int.tmod (wrap64 (a2 + (wrap64 (Int.tdiv a1 (yg.length : Int))))) H7) < ((yT yg (ae)).length : Int) then (yS.l0 k (yg.length : Int) (wrap64 (Int.tdiv a1 (yg.length : Int))) ae (rd (yT yg (ae)) (Int.tmod (wrap64 (a2 + (wrap64 (Int.tdiv a1 (yg.length : Int))))) H7)) 0 0 0 yn yg yo yt) else (none)) else (none)))) else (none)) else (none)) = some (r1, r2) := by (rw [bC] at H; exact H)
 by_cases c6 : 0 ≤ (ae)
 rotate_left
 ·
  rw [if_neg c6] at H;exact absurd H (by simp)
 rw [if_pos c6] at H;have EU := decide_eq_true c6;clear c6
 by_cases c7 : (ae) < (yg.length : Int)
 rotate_left
 ·
  rw [if_neg c7] at H;exact absurd H (by simp)
 rw [if_pos c7] at H;have FR := decide_eq_true c7;clear c7;obtain ⟨H7, A8, H⟩ := bE H
 try dsimp only at H
 by_cases c9 : H7 = 0
 ·
  rw [if_pos c9] at H;exact absurd H (by simp)
 rw [if_neg c9] at H;have Hr := beq_eq_false_iff_ne.mpr c9;have OB := bne_iff_ne.mpr c9;obtain ⟨ag, aY⟩ : ∃ j_ : Int, (Int.tmod (wrap64 (a2 + (wrap64 (Int.tdiv a1 (yg.length : Int))))) H7) = j_ := ⟨_, rfl⟩
 replace H : (if 0 ≤ (ag) then (if (ag) < ((yT yg (ae)).length : Int) then (yS.l0 k (yg.length : Int) (wrap64 (Int.tdiv a1 (yg.length : Int))) ae (rd (yT yg (ae)) (ag)) 0 0 0 yn yg yo yt) else (none)) else (none)) = some (r1, r2) := by (rw [aY] at H; exact H)
 (try rw [aY] at A8)
 by_cases c11 : 0 ≤ (ag)
 rotate_left
 ·
  rw [if_neg c11] at H;exact absurd H (by simp)
 rw [if_pos c11] at H;have Gv := decide_eq_true c11;clear c11
 by_cases c12 : (ag) < ((yT yg (ae)).length : Int)
 rotate_left
 ·
  rw [if_neg c12] at H;exact absurd H (by simp)
 rw [if_pos c12] at H;have Jg := decide_eq_true c12;clear c12;have H' := yf.mk H;clear H
 go_enter Try.func26, Try.ntmps26
 try go_wp2_with (first | ((with_reducible refine yK (N := 3) rfl ?_); refine yE rfl (N := 3) rfl (cs := #[.int .i64 yn, .slice yP yg.length yI, .int .i64 yo, .int .i64 yt]) (t := 31) (by go_simp) ?_; intro aD hg w13 yG hb; have aa := yf.mk (yG); have bI := bG (w := w) hg; have bL := bG (w := w) hg; replace HB := bS HB hb; clear hb yG hg) | ((with_reducible refine yK (N := 6) rfl ?_); refine yE rfl (N := 6) rfl (cs := #[.int .i64 0, .int .i64 0]) (t := 38) (by go_simp) ?_; intro aW hg w14 yG hb; have ah := yf.mk (yG); have bJ := bG (w := w) hg; have bH := bG (w := w) hg; have aI := BL aa hg; have aM := Ag aa hg; replace aa := bB aa hb; replace HB := bS HB hb; clear hb yG hg; have XU := aI.out; have XV := aM.out; have JZ := AR aa; have K3 := bf aa))
 replace aa := yf.mk (yZ aa.out);replace ah := yf.mk (yZ ah.out);replace HB := yf.mk (ze HB.out)
 refine AV (n := 8) (S := fun w' => True) (ds := []) (bz 8 0) (by kernel_rfl) rfl rfl trivial (fun hHeld => ?_); refine zQ yS.UN yS.OP (fun yD AZ => ?_)
 generalize w14.drew = w17 at aa ah HB hHeld ⊢;refine pU 0 18 8 1 yD ?_;refine pU 1 19 8 3 yD ?_;refine pU 2 20 8 7 yD ?_;refine pU 3 21 8 15 yD ?_;refine pU 4 22 8 31 yD ?_;refine pU 5 23 8 63 yD ?_;refine pU 6 8 8 127 yD ?_;refine pU 7 9 8 255 yD ?_
 refine BI (Az yD.out (by kernel_rfl)) ?_
 try go_wp2
 replace aa := yf.mk (yZ aa.out);replace ah := yf.mk (yZ ah.out);replace HB := yf.mk (ze HB.out)
 have aQ : 0 ≤ ((ae) : Int) := of_decide_eq_true ‹_›
 have aN : (ae) < (yg.length : Int) := of_decide_eq_true ‹_›
 obtain ⟨ax, bF, bv, bD, ay, bn, bq⟩ := Dw zq.out (ae) aQ aN;have bg := ay;cases bD;replace ay := cB HB ay;have bi := yf.mk bq;have bM := yf.mk bn;clear bq bn;replace aQ := eq_true aQ;replace aN := eq_true aN
 have aU : 0 ≤ ((ag) : Int) := of_decide_eq_true ‹_›
 have aT : (ag) < ((yT yg (ae)).length : Int) := of_decide_eq_true ‹_›
 obtain ⟨aX, bA, az⟩ := Kd.Bv bi.out (ag) aU aT;have aZ := az;cases bA;replace az := cB HB az;replace aU := eq_true aU;replace aT := eq_true aT
 refine AV (n := 15) (S := fun w' => w'.cell? ⟨aD, 0, none⟩ = some (.int .i64 yn) ∧ w'.cell? ⟨aD, 1, none⟩ = some (.slice (some ax) yg.length yI) ∧ w'.cell? ⟨aD, 2, none⟩ = some (.int .i64 yo) ∧ w'.cell? ⟨aD, 3, none⟩ = some (.int .i64 yt) ∧ w'.cell? (ax.add ((ae)).toNat) = some (.slice (some aX) (yT yg (ae)).length bv) ∧ w'.cell? (aX.add ((ag)).toNat) = some (.int .i64 (rd (yT yg (ae)) (ag)))) (ds := []) (bz 15 0) (by kernel_rfl) rfl rfl ⟨(yz aa.out 0).trans rfl, (yz aa.out 1).trans rfl, (yz aa.out 2).trans rfl, (yz aa.out 3).trans rfl, (cB HB bg), (cB HB aZ)⟩ (fun hHeld => ?_); refine zQ yS.Zy yS.UO (fun yD AZ => ?_)
 generalize w17.drew = w18 at aa ah HB bi ay az hHeld ⊢;refine pU 0 24 15 1 yD ?_;refine pU 1 25 15 3 yD ?_;refine pU 3 27 15 11 yD ?_;refine pU 6 30 15 75 yD ?_;refine pU 7 31 15 203 yD ?_;refine pU 8 32 15 459 yD ?_
 refine BQ 2 26 15 463 yD AZ hHeld ?_
 refine pU 4 28 15 479 yD ?_
 refine BQ 5 29 15 511 yD AZ hHeld ?_
 refine BQ 9 33 15 1023 yD AZ hHeld ?_
 refine BP (i := 10) (N := some 34) (bz 15 2047) rfl rfl (Af yD.out (by kernel_rfl)) (by decide) (fun K hK => ?_)
 refine gO Try.func24 #[.agg #[.int .i64 yn, .slice (some ax) yg.length yI, .int .i64 yo, .int .i64 yt]] ?_
 with_reducible refine (AC.calls yn _ _ yg yo yt H7 _ ?yF ?yM A8.out).mono ?_
 (case yF => exact Da zq)
 (case yM => exact zG.out)
 rintro e w19 ⟨rfl, hb⟩
 refine ⟨_, rfl, ?_⟩
 replace aa := bB aa hb;replace ah := bB ah hb;replace HB := bS HB hb;clear hb
 refine hK.out _ _ ⟨(yz aa.out 0).trans rfl, (yz aa.out 1).trans rfl, (yz aa.out 2).trans rfl, (yz aa.out 3).trans rfl, (cB HB bg), (cB HB aZ)⟩ (fun hHeld => ?_)
 clear hK K
 refine Aj (a' := ?_) ?_ ?_
 rotate_left
 ·
  show Act.put _ (some 34) _ = _
  simp only [pz]
  rfl
 refine pU 11 35 15 4095 yD ?_;refine pU 12 36 15 8191 yD ?_
 refine BQ 13 37 15 16383 yD AZ hHeld ?_
 refine pU 14 10 15 32767 yD ?_
 refine BI (Az yD.out (by kernel_rfl)) ?_
 try go_wp2
 go_loopg [11, 12, 13] k (fun kq v11 v12 v13 w' => ∃ (Ay : Int) (Cn : Int) (af : Int), v11 = .int .i64 Ay ∧ v12 = .int .i64 Cn ∧ v13 = .int .i64 af ∧ yf (yS.l0 kq (yg.length : Int) (wrap64 (Int.tdiv a1 (yg.length : Int))) ae (rd (yT yg (ae)) (ag)) Ay Cn af yn yg yo yt = some (r1, r2)) ∧ yf (kq ≤ k) ∧ yf (w'.heap[aD]? = some (.cells #[.int .i64 yn, (.slice (some ax) yg.length yI), .int .i64 yo, .int .i64 yt] 31 (0, 0))) ∧ yf (w'.heap[aW]? = some (.cells #[.int .i64 0, .int .i64 0] 38 (0, 0))) ∧ yf (Below w.heap.size w w'))
 case atStart => exact ⟨(0), (0), (0), (by rfl), (by rfl), (by rfl), H', ⟨Nat.le_refl _⟩, ⟨kk aa⟩, ⟨kk ah⟩, ⟨bO HB⟩⟩
 case round =>
 clear H' c4 Ex KA bu EU FR c9 Hr OB Gv Jg JZ K3 ay az aQ aU aN aT;obtain ⟨Ay, Cn, af, rfl, rfl, rfl, HA, BZ, aa, ah, HB⟩ := hrel
 cases gk with
 | zero => exact absurd HA.out (by simp [yS.l0])
 | succ k1 =>
 have H := HA.out;clear HA;simp only [yS.l0] at H
 by_cases c20 : af < (yg.length : Int)
 rotate_left
 ·
  rw [if_neg c20] at H;have IA := decide_eq_false c20;clear c20;simp only [Option.some.injEq, Prod.mk.injEq] at H;obtain ⟨rfl, rfl⟩ := H;have Rp := aM.out;have Rq := aI.out;have OQ := bc2 ah;have OT := bf ah
  go_wp2
  refine bodyPost_ret (results_cell_row rfl _ _ aW 38 #[.int .i64 (rd (yT yg (ae)) (ag)), .int .i64 (wrap64 ((wrap64 ((wrap64 (Int.tdiv a1 (yg.length : Int))) * Ay)) + Cn))] (0, 0) _ rfl (CF ah rfl) Try.underlying38 rfl (by kernel_rfl)) rfl ?_
  exact ⟨by rfl, bO HB⟩
 rw [if_pos c20] at H;have IA := decide_eq_true c20;clear c20
 by_cases c21 : 0 ≤ af
 rotate_left
 ·
  rw [if_neg c21] at H;exact absurd H (by simp)
 rw [if_pos c21] at H;have Rl := decide_eq_true c21;clear c21
 by_cases Ha : af < (yg.length : Int)
 rotate_left
 ·
  rw [if_neg Ha] at H;exact absurd H (by simp)
 rw [if_pos Ha] at H;have IB := decide_eq_true Ha;clear Ha;obtain ⟨Zx, aV, H⟩ := bE H
 try dsimp only at H
 by_cases c24 : Zx = true
 rotate_left
 ·
  replace c24 := Bool.eq_false_iff.mpr c24;subst c24
  rw [if_neg (show ¬ (false = true) by decide)] at H
  have H' := yf.mk H;clear H;have MZ := aI.out;have N7 := aM.out;have Lx := AR aa;have LA := bf aa
  have ai : 0 ≤ (af : Int) := of_decide_eq_true ‹_›
  have aj : af < (yg.length : Int) := of_decide_eq_true ‹_›
  obtain ⟨aA, aC, aJ, aH, ak, au, av⟩ := Dw zq.out af ai aj;obtain rfl : ax = aA := (by injection aH);replace ak := cB HB ak;have aK := yf.mk av;have aG := yf.mk au;clear av au;replace ai := eq_true ai;replace aj := eq_true aj
  go_wp2_with (((with_reducible refine yB (f := 50) rfl ?_); refine L9 (some 50) rfl rfl Try.func50 (by kernel_rfl) rfl #[.slice aC (yT yg af).length aJ, .int .i64 (rd (yT yg (ae)) (ag))] rfl (by (try simp only [List.map_toArray, List.map_cons, List.map_nil]); rfl) ?_; (with_reducible refine (zL.calls k1 _ _ (yT yg af) (rd (yT yg (ae)) (ag)) false _ ?yF ?yM aV.out).mono ?_); (case yF => exact Da aK); (case yM => exact aG.out); rintro e w' ⟨rfl, ⟨nd, rfl⟩⟩; refine ⟨_, rfl, ?_⟩))
  go_roundg k1
  case measure => have := BZ.out; omega
  case rel => exact ⟨(Ay), (Cn), (wrap64 (af + 1)), (by rfl), (by rfl), (by rfl), H', ⟨by have := BZ.out; omega⟩, ⟨kk aa⟩, ⟨kk ah⟩, ⟨bO HB⟩⟩
 subst c24;rw [if_pos rfl] at H
 by_cases Oh : af < ae
 ·
  rw [if_pos Oh] at H;have Rm := decide_eq_true Oh;clear Oh;have H' := yf.mk H;clear H;have UQ := aI.out;have UR := aM.out;have Hu := AR aa;have Hw := bf aa
  have ai : 0 ≤ (af : Int) := of_decide_eq_true ‹_›
  have aj : af < (yg.length : Int) := of_decide_eq_true ‹_›
  obtain ⟨aA, aC, aJ, aH, ak, au, av⟩ := Dw zq.out af ai aj;obtain rfl : ax = aA := (by injection aH);replace ak := cB HB ak;have aK := yf.mk av;have aG := yf.mk au;clear av au;replace ai := eq_true ai;replace aj := eq_true aj
  go_wp2_with (((with_reducible refine yB (f := 50) rfl ?_); refine L9 (some 50) rfl rfl Try.func50 (by kernel_rfl) rfl #[.slice aC (yT yg af).length aJ, .int .i64 (rd (yT yg (ae)) (ag))] rfl (by (try simp only [List.map_toArray, List.map_cons, List.map_nil]); rfl) ?_; (with_reducible refine (zL.calls k1 _ _ (yT yg af) (rd (yT yg (ae)) (ag)) true _ ?yF ?yM aV.out).mono ?_); (case yF => exact Da aK); (case yM => exact aG.out); rintro e w' ⟨rfl, ⟨nd, rfl⟩⟩; refine ⟨_, rfl, ?_⟩))
  go_roundg k1
  case measure => have := BZ.out; omega
  case rel => exact ⟨(wrap64 (Ay + 1)), (wrap64 (Cn + 1)), (wrap64 (af + 1)), (by rfl), (by rfl), (by rfl), H', ⟨by have := BZ.out; omega⟩, ⟨kk aa⟩, ⟨kk ah⟩, ⟨bO HB⟩⟩
 rw [if_neg Oh] at H;have Rm := decide_eq_false Oh;clear Oh;have H' := yf.mk H;clear H;have a0S := aI.out;have a0T := aM.out;have a0U := AR aa;have a0V := bf aa
 have ai : 0 ≤ (af : Int) := of_decide_eq_true ‹_›
 have aj : af < (yg.length : Int) := of_decide_eq_true ‹_›
 obtain ⟨aA, aC, aJ, aH, ak, au, av⟩ := Dw zq.out af ai aj;obtain rfl : ax = aA := (by injection aH);replace ak := cB HB ak;have aK := yf.mk av;have aG := yf.mk au;clear av au;replace ai := eq_true ai;replace aj := eq_true aj
 go_wp2_with (((with_reducible refine yB (f := 50) rfl ?_); refine L9 (some 50) rfl rfl Try.func50 (by kernel_rfl) rfl #[.slice aC (yT yg af).length aJ, .int .i64 (rd (yT yg (ae)) (ag))] rfl (by (try simp only [List.map_toArray, List.map_cons, List.map_nil]); rfl) ?_; (with_reducible refine (zL.calls k1 _ _ (yT yg af) (rd (yT yg (ae)) (ag)) true _ ?yF ?yM aV.out).mono ?_); (case yF => exact Da aK); (case yM => exact aG.out); rintro e w' ⟨rfl, ⟨nd, rfl⟩⟩; refine ⟨_, rfl, ?_⟩))
 go_roundg k1
 case measure => have := BZ.out; omega
 case rel => exact ⟨(wrap64 (Ay + 1)), (Cn), (wrap64 (af + 1)), (by rfl), (by rfl), (by rfl), H', ⟨by have := BZ.out; omega⟩, ⟨kk aa⟩, ⟨kk ah⟩, ⟨bO HB⟩⟩
end Go.Proofs.Ytjonnfmoocijlaa.P
