/- Texts of a claim, packed. -/
import Derived.Test.YtjonnfmoocijlaaD21
set_option linter.all false
namespace Go.Proofs.Ytjonnfmoocijlaa.P
open Go.RowKit Go.Proofs.YtjonnfmoocijlaaKW.PrintWords Go.Proofs.YtjonnfmoocijlaaKW.PrintLast Go.Proofs.YtjonnfmoocijlaaKW.PrintMore
attribute [local go_sem] zz zA zS zT zn zo zB zC
mutual
def yA.l0 : Nat → Int → Int → List Int → List Int → Int → Int → Int → List (List Int) → Int → Int → List (AY) → Int → Int → Option (List Int)
 | 0, _, _, _, _, _, _, _, _, _, _, _, _, _ => none
 | k + 1, x1, x5, x6, x7, x26, x27, ah, aj, ag, ai, aa, af, ae => if x27 < x26 then (if x5 = 0 then (none) else ((Aq.f ah aj ag ai aa af ae).bind fun t175 => (if t175 = 0 then (none) else (if 0 ≤ (Int.tmod (wrap64 (x27 + (wrap64 (Int.tdiv x1 x5)))) t175) then (if (Int.tmod (wrap64 (x27 + (wrap64 (Int.tdiv x1 x5)))) t175) < (x6.length : Int) then (if x7.length < 17592186044416 then (yA.l0 k x1 x5 x6 (x7 ++ [rd x6 (Int.tmod (wrap64 (x27 + (wrap64 (Int.tdiv x1 x5)))) t175)]) x26 (wrap64 (x27 + 1)) ah aj ag ai aa af ae) else (none)) else (none)) else (none))))) else ((yl.f k aa x1 0).bind fun ak => (yA.l1 k x1 x7 ak.1 ah aj ag ai aa af ae))
def yA.l1 : Nat → Int → List Int → Int → Int → List (List Int) → Int → Int → List (AY) → Int → Int → Option (List Int)
 | 0, _, _, _, _, _, _, _, _, _, _ => none
 | k + 1, x1, x7, x9, ah, aj, ag, ai, aa, af, ae => if x9 < (aa.length : Int) then (if 0 ≤ x9 then (if ((yh aa x9).f0) = x1 then (if 0 ≤ ((yh aa x9).f1) then (if ((yh aa x9).f1) < (x7.length : Int) then (yA.l1 k x1 (x7.set (((yh aa x9).f1) : Int).toNat ((yh aa x9).f2.f0)) (wrap64 (x9 + 1)) ah aj ag ai aa af ae) else (none)) else (none)) else (some x7)) else (none)) else (some x7)
end
def yA.f (k : Nat) (yn : Int) (yg : List (List Int)) (yo : Int) (yt : Int) (Ab : List (AY)) (Al : Int) (zY : Int) (a1 : Int) : Option (List Int) := if (yg.length : Int) = 0 then (none) else (if 0 ≤ (Int.tmod a1 (yg.length : Int)) then (if (Int.tmod a1 (yg.length : Int)) < (yg.length : Int) then ((Aq.f yn yg yo yt Ab Al zY).bind fun LX => (yA.l0 k a1 (yg.length : Int) (yT yg (Int.tmod a1 (yg.length : Int))) ([] : List Int) LX 0 yn yg yo yt Ab Al zY)) else (none)) else (none))
theorem yA.mono_l : ∀ k, (∀ y0 y1 y2 y3 y4 y5 y6 y7 y8 y9 JL LM LP, zZ (yA.l0 k y0 y1 y2 y3 y4 y5 y6 y7 y8 y9 JL LM LP) (yA.l0 (k + 1) y0 y1 y2 y3 y4 y5 y6 y7 y8 y9 JL LM LP)) ∧ (∀ y0 y1 y2 y3 y4 y5 y6 y7 y8 y9, zZ (yA.l1 k y0 y1 y2 y3 y4 y5 y6 y7 y8 y9) (yA.l1 (k + 1) y0 y1 y2 y3 y4 y5 y6 y7 y8 y9))
 | 0 => ⟨fun _ _ _ _ _ _ _ _ _ _ _ _ _ r h => by simp [yA.l0] at h, fun _ _ _ _ _ _ _ _ _ _ r h => by simp [yA.l1] at h⟩
 | k + 1 => by
  obtain ⟨DN, ih1⟩ := yA.mono_l k
  refine ⟨?_, ?_⟩
  ·
   intro y0 y1 y2 y3 y4 y5 y6 y7 y8 y9 JL LM LP
   unfold yA.l0
   repeat' first
   | exact DN _ _ _ _ _ _ _ _ _ _ _ _ _
   | exact ih1 _ _ _ _ _ _ _ _ _ _
   | exact yl.mono _ _ _ _
   | exact zZ.refl _
   | exact zZ.none _
   | refine zZ.ite ?_ ?_
   | refine zZ.bind ?_ (fun _ => ?_)
  ·
   intro y0 y1 y2 y3 y4 y5 y6 y7 y8 y9
   unfold yA.l1
   repeat' first
   | exact DN _ _ _ _ _ _ _ _ _ _ _ _ _
   | exact ih1 _ _ _ _ _ _ _ _ _ _
   | exact yl.mono _ _ _ _
   | exact zZ.refl _
   | exact zZ.none _
   | refine zZ.ite ?_ ?_
   | refine zZ.bind ?_ (fun _ => ?_)
theorem yA.mono : ∀ a0 a1 a2 a3 a4 a5 a6 a7 k, zZ (yA.f k a0 a1 a2 a3 a4 a5 a6 a7) (yA.f (k + 1) a0 a1 a2 a3 a4 a5 a6 a7) := by
 intro a0 a1 a2 a3 a4 a5 a6 a7 k
 obtain ⟨DN, ih1⟩ := yA.mono_l k
 unfold yA.f
 repeat' first
  | exact DN _ _ _ _ _ _ _ _ _ _ _ _ _
  | exact ih1 _ _ _ _ _ _ _ _ _ _
  | exact yl.mono _ _ _ _
  | exact zZ.refl _
  | exact zZ.none _
  | refine zZ.ite ?_ ?_
  | refine zZ.bind ?_ (fun _ => ?_)
def yA.T2 : Bool × List (List Nat × List Nat) := (true, [([], []), ([0], [0]), ([1], [1]), ([2], [2]), ([], []), ([], []), ([4, 5], [4, 5]), ([3, 6], [3, 6]), ([7], [7]), ([8, 0, 1, 2, 3, 4, 5, 6, 7, 8], [8])])
def yA.B2 : List Nat := [0, 1, 3, 7, 0, 0, 48, 127, 255, 511]
theorem yA.UN : CX .any (opsOf Try.f35 2) = yA.T2 := by kernel_rfl
theorem yA.OP : Bi yA.T2.2 yA.B2 = true := by kernel_rfl
def yA.T7 : Bool × List (List Nat × List Nat) := (true, [([], []), ([], []), ([], []), ([], []), ([], []), ([3, 4], [3, 4]), ([2, 5], [2, 5]), ([], []), ([7], [7]), ([6, 8], [6, 8]), ([1, 9], [1, 9]), ([10], [10]), ([11], [11]), ([0, 12, 8], [0, 12]), ([13, 13, 0, 1, 2, 3, 4, 5, 6, 7, 8, 9, 10, 11, 12, 13], [0, 13])])
def yA.B7 : List Nat := [0, 0, 0, 0, 0, 24, 60, 0, 128, 508, 1022, 2046, 4094, 8191, 16383]
theorem yA.NM : CX .any (opsOf Try.f35 7) = yA.T7 := by kernel_rfl
theorem yA.Jf : Bi yA.T7.2 yA.B7 = true := by kernel_rfl
def yA.Xr : Bool × List (List Nat × List Nat) := (true, [([], []), ([], []), ([1], [1]), ([], []), ([2, 3], [2, 3]), ([4], [4]), ([5], [5]), ([], []), ([7], [7]), ([], []), ([8, 9], [8, 9]), ([10], [10]), ([11], [11]), ([12], [12]), ([0, 6, 0, 1, 2, 3, 4, 5, 6, 7, 8, 9, 10, 11, 12, 13], [0, 6]), ([14, 13, 0, 1, 2, 3, 4, 5, 6, 7, 8, 9, 10, 11, 12, 13], [13, 14])])
def yA.B12 : List Nat := [0, 0, 2, 0, 14, 30, 62, 0, 128, 0, 896, 1920, 3968, 8064, 16383, 32767]
theorem yA.OD : CX .any (opsOf Try.f35 12) = yA.Xr := by kernel_rfl
theorem yA.Lr : Bi yA.Xr.2 yA.B12 = true := by kernel_rfl
set_option maxHeartbeats 8000000 in
set_option maxRecDepth 100000 in
theorem yA.calls (k : Nat) (yn : Int) (yP : Option Addr) (yI : Nat) (yg : List (List Int)) (yo : Int) (yt : Int) (DF : Option Addr) (Du : Nat) (Ab : List (AY)) (Al : Int) (zY : Int) (a1 : Int) (r : List Int) (w : World) (zR : Kd.C (Kd.slice 3 (Kd.int .i64)) w yP yg.length yg) (zU : yg.length ≤ yI) (F9 : Kd.C Dy w DF Ab.length Ab) (Fa : Ab.length ≤ Du) (h : yA.f k yn yg yo yt Ab Al zY a1 = some r) :
  Calls Try.prog 35 #[.agg #[.int .i64 yn, .slice yP yg.length yI, .int .i64 yo, .int .i64 yt, .slice DF Ab.length Du, .int .i64 Al, .int .i64 zY], .int .i64 a1] w fun e w' => ∃ Gw : Value, e = .returned (Gw) ∧ Kd.R (Kd.int .i64) 3 w' w.heap.size (fun _ => True) Gw r ∧ Below w.heap.size w w' := by
 have KF := Try.underlying71;have QE := Try.underlying81;have zq := yf.mk zR;have zG := yf.mk zU;clear zR zU;have ED := yf.mk F9;have GA := yf.mk Fa;clear F9 Fa;have HB := yf.mk (Below.refl w.heap.size w)
 have H : (if (yg.length : Int) = 0 then (none) else (if 0 ≤ (Int.tmod a1 (yg.length : Int)) then (if (Int.tmod a1 (yg.length : Int)) < (yg.length : Int) then ((Aq.f yn yg yo yt Ab Al zY).bind fun LX => (yA.l0 k a1 (yg.length : Int) (yT yg (Int.tmod a1 (yg.length : Int))) ([] : List Int) LX 0 yn yg yo yt Ab Al zY)) else (none)) else (none))) = some r := h
 clear h
 by_cases c3 : (yg.length : Int) = 0
 ·
  rw [if_pos c3] at H;exact absurd H (by simp)
 rw [if_neg c3] at H;have FM := beq_eq_false_iff_ne.mpr c3;have Lg := bne_iff_ne.mpr c3
 have X0 : ¬ (yg = []) := fun h_ => c3 (by rw [h_]; rfl)
 obtain ⟨ag, bR⟩ : ∃ j_ : Int, (Int.tmod a1 (yg.length : Int)) = j_ := ⟨_, rfl⟩
 replace H : (if 0 ≤ (ag) then (if (ag) < (yg.length : Int) then ((Aq.f yn yg yo yt Ab Al zY).bind fun LX => (yA.l0 k a1 (yg.length : Int) (yT yg (ag)) ([] : List Int) LX 0 yn yg yo yt Ab Al zY)) else (none)) else (none)) = some r := by (rw [bR] at H; exact H)
 by_cases c5 : 0 ≤ (ag)
 rotate_left
 ·
  rw [if_neg c5] at H;exact absurd H (by simp)
 rw [if_pos c5] at H;have Ez := decide_eq_true c5;clear c5
 by_cases c6 : (ag) < (yg.length : Int)
 rotate_left
 ·
  rw [if_neg c6] at H;exact absurd H (by simp)
 rw [if_pos c6] at H;have EU := decide_eq_true c6;clear c6;obtain ⟨LX, A7, H⟩ := bE H
 try dsimp only at H
 have H' := yf.mk H;clear H
 go_enter Try.func35, Try.ntmps35
 try go_wp2_with (((with_reducible refine yK (N := 2) rfl ?_); refine yE rfl (N := 2) rfl (cs := #[.int .i64 yn, .slice yP yg.length yI, .int .i64 yo, .int .i64 yt, .slice DF Ab.length Du, .int .i64 Al, .int .i64 zY]) (t := 71) (by go_simp) ?_; intro af hg w8 yG hb; have aa := yf.mk (yG); have dL := bG (w := w) hg; have dH := bG (w := w) hg; replace HB := bS HB hb; clear hb yG hg; have NW := EP aa; have NY := bf aa))
 replace aa := yf.mk (yZ aa.out);replace HB := yf.mk (ze HB.out)
 have aV : 0 ≤ ((ag) : Int) := of_decide_eq_true ‹_›
 have aU : (ag) < (yg.length : Int) := of_decide_eq_true ‹_›
 obtain ⟨aj, bT, bX, bW, ax, bC, bI⟩ := Dw zq.out (ag) aV aU;have dD := ax;cases bW;replace ax := cB HB ax;have bD := yf.mk bI;have dG := yf.mk bC;clear bI bC;replace aV := eq_true aV;replace aU := eq_true aU
 refine AV (n := 10) (S := fun w' => w'.cell? ⟨af, 0, none⟩ = some (.int .i64 yn) ∧ w'.cell? ⟨af, 1, none⟩ = some (.slice (some aj) yg.length yI) ∧ w'.cell? ⟨af, 2, none⟩ = some (.int .i64 yo) ∧ w'.cell? ⟨af, 3, none⟩ = some (.int .i64 yt) ∧ w'.cell? ⟨af, 4, none⟩ = some (.slice DF Ab.length Du) ∧ w'.cell? ⟨af, 5, none⟩ = some (.int .i64 Al) ∧ w'.cell? ⟨af, 6, none⟩ = some (.int .i64 zY) ∧ w'.cell? (aj.add ((ag)).toNat) = some (.slice bT (yT yg (ag)).length bX)) (ds := []) (bz 10 0) (by kernel_rfl) rfl rfl ⟨(yz aa.out 0).trans rfl, (yz aa.out 1).trans rfl, (yz aa.out 2).trans rfl, (yz aa.out 3).trans rfl, (yz aa.out 4).trans rfl, (yz aa.out 5).trans rfl, (yz aa.out 6).trans rfl, (cB HB dD)⟩ (fun hHeld => ?_); refine zQ yA.UN yA.OP (fun yD AZ => ?_)
 generalize w8.drew = w10 at aa HB bD ax hHeld ⊢;refine pU 0 16 10 1 yD ?_;refine pU 1 17 10 3 yD ?_;refine pU 2 18 10 7 yD ?_;refine pU 4 20 10 23 yD ?_;refine pU 5 21 10 55 yD ?_;refine pU 6 22 10 119 yD ?_
 refine BQ 3 19 10 127 yD AZ hHeld ?_
 refine pU 7 23 10 255 yD ?_
 refine BQ 8 24 10 511 yD AZ hHeld ?_
 refine pU 9 6 10 1023 yD ?_
 refine BI (Az yD.out (by kernel_rfl)) ?_
 have Lt := EP aa;have Lu := bf aa
 try go_wp2_with (((with_reducible refine yB (f := 63) rfl ?_); refine gL (some 26) Try.func63 #[.agg #[.int .i64 yn, .slice (some aj) yg.length yI, .int .i64 yo, .int .i64 yt, .slice DF Ab.length Du, .int .i64 Al, .int .i64 zY]] ?_; (with_reducible refine (Aq.calls yn _ _ yg yo yt _ _ Ab Al zY LX _ ?yF ?yM ?zI ?zJ A7.out).mono ?_); (case yF => exact Da zq); (case yM => exact zG.out); (case zI => exact Da ED); (case zJ => exact GA.out); rintro e w12 ⟨rfl, hb⟩; refine ⟨_, rfl, ?_⟩; replace aa := bB aa hb; replace HB := bS HB hb; clear hb))
 go_loopg [7, 27] k (fun kq v7 v27 w' => ∃ (Eg : List Int) (ak : Int), v27 = .int .i64 ak ∧ yf (yA.l0 kq a1 (yg.length : Int) (yT yg (ag)) Eg LX ak yn yg yo yt Ab Al zY = some r) ∧ yf (kq ≤ k) ∧ yf (Kd.R (Kd.int .i64) 3 w' w.heap.size (fun _ => True) v7 Eg) ∧ yf (w'.heap[af]? = some (.cells #[.int .i64 yn, (.slice (some aj) yg.length yI), .int .i64 yo, .int .i64 yt, (.slice DF Ab.length Du), .int .i64 Al, .int .i64 zY] 71 (0, 0))) ∧ yf (Below w.heap.size w w'))
 case atStart => exact ⟨(([] : List Int)), (0), (by rfl), H', ⟨Nat.le_refl _⟩, ⟨by exact Kd.Dh _ _ _ _ _⟩, ⟨kk aa⟩, ⟨bO HB⟩⟩
 case round =>
 clear H' c3 FM Lg X0 Ez EU Lt NW Lu NY ax aV aU;obtain ⟨Eg, ak, rfl, HA, BZ, Fz, aa, HB⟩ := hrel
 cases gk with
 | zero => exact absurd HA.out (by simp [yA.l0])
 | succ k1 =>
 have H := HA.out;clear HA;simp only [yA.l0] at H
 by_cases c13 : ak < LX
 ·
  rw [if_pos c13] at H;have Lh := decide_eq_true c13;clear c13
  by_cases c14 : (yg.length : Int) = 0
  ·
   rw [if_pos c14] at H;exact absurd H (by simp)
  rw [if_neg c14] at H;have Rn := beq_eq_false_iff_ne.mpr c14;have Ro := bne_iff_ne.mpr c14
  have dI : ¬ (yg = []) := fun h_ => c14 (by rw [h_]; rfl)
  obtain ⟨t175, A15, H⟩ := bE H
  try dsimp only at H
  by_cases c16 : t175 = 0
  ·
   rw [if_pos c16] at H;exact absurd H (by simp)
  rw [if_neg c16] at H;have G8 := beq_eq_false_iff_ne.mpr c16;have Vb := bne_iff_ne.mpr c16;obtain ⟨ai, bA⟩ : ∃ j_ : Int, (Int.tmod (wrap64 (ak + (wrap64 (Int.tdiv a1 (yg.length : Int))))) t175) = j_ := ⟨_, rfl⟩
  replace H : (if 0 ≤ (ai) then (if (ai) < ((yT yg (ag)).length : Int) then (if Eg.length < 17592186044416 then (yA.l0 k1 a1 (yg.length : Int) (yT yg (ag)) (Eg ++ [rd (yT yg (ag)) (ai)]) LX (wrap64 (ak + 1)) yn yg yo yt Ab Al zY) else (none)) else (none)) else (none)) = some r := by (rw [bA] at H; exact H)
  (try rw [bA] at A15)
  by_cases c18 : 0 ≤ (ai)
  rotate_left
  ·
   rw [if_neg c18] at H;exact absurd H (by simp)
  rw [if_pos c18] at H;have Ru := decide_eq_true c18;clear c18
  by_cases c19 : (ai) < ((yT yg (ag)).length : Int)
  rotate_left
  ·
   rw [if_neg c19] at H;exact absurd H (by simp)
  rw [if_pos c19] at H;have OE := decide_eq_true c19;clear c19
  by_cases c20 : Eg.length < 17592186044416
  rotate_left
  ·
   rw [if_neg c20] at H;exact absurd H (by simp)
  rw [if_pos c20] at H;have bV := yf.mk c20;clear c20;obtain ⟨bN, aZ⟩ : ∃ y_ : List Int, y_ = (Eg ++ [rd (yT yg (ag)) (ai)]) := ⟨_, rfl⟩
  replace H : (yA.l0 k1 a1 (yg.length : Int) (yT yg (ag)) bN LX (wrap64 (ak + 1)) yn yg yo yt Ab Al zY) = some r := by (rw [aZ]; with_reducible exact H)
  have di := yf.mk aZ;clear aZ;have H' := yf.mk H;clear H
  try go_wp2
  replace Fz := yf.mk (Kd.Cr Fz.out);replace aa := yf.mk (yZ aa.out);replace HB := yf.mk (ze HB.out)
  have bu : 0 ≤ ((ai) : Int) := of_decide_eq_true ‹_›
  have aX : (ai) < ((yT yg (ag)).length : Int) := of_decide_eq_true ‹_›
  obtain ⟨dA, d9, aT⟩ := Kd.Bv bD.out (ai) bu aX;have az := aT;cases d9;replace aT := cB HB aT;replace bu := eq_true bu;replace aX := eq_true aX
  refine AV (n := 15) (S := fun w' => w'.cell? ⟨af, 0, none⟩ = some (.int .i64 yn) ∧ w'.cell? ⟨af, 1, none⟩ = some (.slice (some aj) yg.length yI) ∧ w'.cell? ⟨af, 2, none⟩ = some (.int .i64 yo) ∧ w'.cell? ⟨af, 3, none⟩ = some (.int .i64 yt) ∧ w'.cell? ⟨af, 4, none⟩ = some (.slice DF Ab.length Du) ∧ w'.cell? ⟨af, 5, none⟩ = some (.int .i64 Al) ∧ w'.cell? ⟨af, 6, none⟩ = some (.int .i64 zY) ∧ w'.cell? (dA.add ((ai)).toNat) = some (.int .i64 (rd (yT yg (ag)) (ai)))) (ds := []) (bz 15 0) (by kernel_rfl) rfl rfl ⟨(yz aa.out 0).trans rfl, (yz aa.out 1).trans rfl, (yz aa.out 2).trans rfl, (yz aa.out 3).trans rfl, (yz aa.out 4).trans rfl, (yz aa.out 5).trans rfl, (yz aa.out 6).trans rfl, (cB HB az)⟩ (fun hHeld => ?_); refine zQ yA.NM yA.Jf (fun yD AZ => ?_)
  generalize wr.drew = w21 at Fz aa HB aT hHeld ⊢;refine pU 0 30 15 1 yD ?_;refine pU 1 31 15 3 yD ?_;refine pU 2 32 15 7 yD ?_;refine pU 3 33 15 15 yD ?_;refine pU 4 34 15 31 yD ?_;refine pU 5 35 15 63 yD ?_;refine pU 6 36 15 127 yD ?_
  refine BQ 7 37 15 255 yD AZ hHeld ?_
  refine BP (i := 8) (N := some 38) (bz 15 511) rfl rfl (Af yD.out (by kernel_rfl)) (by decide) (fun K hK => ?_)
  refine gO Try.func63 #[.agg #[.int .i64 yn, .slice (some aj) yg.length yI, .int .i64 yo, .int .i64 yt, .slice DF Ab.length Du, .int .i64 Al, .int .i64 zY]] ?_
  with_reducible refine (Aq.calls yn _ _ yg yo yt _ _ Ab Al zY t175 _ ?yF ?yM ?zI ?zJ A15.out).mono ?_
  (case yF => exact Da zq)
  (case yM => exact zG.out)
  (case zI => exact Da ED)
  (case zJ => exact GA.out)
  rintro e w22 ⟨rfl, hb⟩
  refine ⟨_, rfl, ?_⟩
  replace Fz := BN Fz hb;replace aa := bB aa hb;replace HB := bS HB hb;clear hb
  refine hK.out _ _ ⟨(yz aa.out 0).trans rfl, (yz aa.out 1).trans rfl, (yz aa.out 2).trans rfl, (yz aa.out 3).trans rfl, (yz aa.out 4).trans rfl, (yz aa.out 5).trans rfl, (yz aa.out 6).trans rfl, (cB HB az)⟩ (fun hHeld => ?_)
  clear hK K
  refine Aj (a' := ?_) ?_ ?_
  rotate_left
  ·
   show Act.put _ (some 38) _ = _
   simp only [pz]
   rfl
  refine pU 9 39 15 1023 yD ?_;refine pU 10 40 15 2047 yD ?_
  refine BQ 11 41 15 4095 yD AZ hHeld ?_
  refine BP (i := 12) (N := some 42) (bz 15 8191) rfl rfl (Af yD.out (by kernel_rfl)) (by decide) (fun K hK => ?_)
  refine Q0 (w1 := ?_) (v := ?_) (by rfl) rfl ?_ ?_
  rotate_left 2
  ·
   go_simp
   constructor
   ·
    rfl
   rfl
  refine hK.out _ _ ⟨(yz (Dz aa.out _) 0).trans rfl, (yz (Dz aa.out _) 1).trans rfl, (yz (Dz aa.out _) 2).trans rfl, (yz (Dz aa.out _) 3).trans rfl, (yz (Dz aa.out _) 4).trans rfl, (yz (Dz aa.out _) 5).trans rfl, (yz (Dz aa.out _) 6).trans rfl, (World.cell?_alloc_lt _ _ _ (World.block_lt_of_cell? _ _ ((cB HB az)))).trans ((cB HB az))⟩ (fun hHeld => ?_)
  clear hK K
  refine Aj (a' := ?_) ?_ ?_
  rotate_left
  ·
   show Act.put _ (some 42) _ = _
   simp only [pz]
   rfl
  refine BP (i := 13) (N := some 43) (bz 15 16383) rfl rfl (Af yD.out (by kernel_rfl)) (by decide) (fun K hK => ?_)
  refine Kd.Gh (Kd.int .i64) (w0 := w) w.heap.size (by rfl) (.tmp 30) (.tmp 42) 63 3 (.int .i64 0) 8 rfl Try.underlying63 info3 rfl (by decide) (by omega) u7 Eg (rd (yT yg (ag)) (ai)) [.int .i64 (rd (yT yg (ag)) (ai))] (fun _ => True) (fun _ => False) rfl rfl ?aP (fun _ hk => hk.elim) ?aF ?aO ?aB ?aS ?aL ?_
  (case aP => exact rfl)
  (case aB => exact (bO HB))
  (case aF => exact (fun _ _ => trivial))
  (case aO => exact (kR Fz))
  (case aS => exact (yJ (bO HB)))
  (case aL => have := bV.out; omega)
  intro v178 w23 ho hb hg hat
  rw [← di.out] at ho;replace aa := yf.mk (Aa (g := af) (o := .cells #[.int .i64 yn, .slice (some aj) yg.length yI, .int .i64 yo, .int .i64 yt, .slice DF Ab.length Du, .int .i64 Al, .int .i64 zY] 71 (0, 0)) (kk aa) hg (Kd.Dx Fz.out aa.out (by decide)));have dn := yf.mk (ho);replace HB := yf.mk (hb);clear ho hb hg hat
  refine hK.out _ _ ⟨(yz aa.out 0).trans rfl, (yz aa.out 1).trans rfl, (yz aa.out 2).trans rfl, (yz aa.out 3).trans rfl, (yz aa.out 4).trans rfl, (yz aa.out 5).trans rfl, (yz aa.out 6).trans rfl, (cB HB az)⟩ (fun hHeld => ?_)
  clear hK K
  refine Aj (a' := ?_) ?_ ?_
  rotate_left
  ·
   show Act.put _ (some 43) _ = _
   simp only [pz]
   rfl
  refine pU 14 7 15 32767 yD ?_
  refine BI (Az yD.out (by kernel_rfl)) ?_
  try go_wp2
  go_roundg k1
  case measure => have := BZ.out; omega
  case rel => exact ⟨(bN), (wrap64 (ak + 1)), (by rfl), H', ⟨by have := BZ.out; omega⟩, ⟨kR dn⟩, ⟨kk aa⟩, ⟨bO HB⟩⟩
 rw [if_neg c13] at H;have Lh := decide_eq_false c13;clear c13;obtain ⟨⟨bF, dh⟩, A24, H⟩ := bE H
 try dsimp only at H
 have H' := yf.mk H;clear H;have OI := EP aa;have OJ := bf aa
 go_wp2_with (((with_reducible refine yB (f := 41) rfl ?_); refine gL (some 50) Try.func41 #[.slice DF Ab.length Du, .agg #[.int .i64 a1, .int .i64 0], (.func (.func 42) #[] #[])] ?_; (with_reducible refine (yl.calls k1 _ _ Ab a1 0  bF dh _ ?yF ?yM A24.out).mono ?_); (case yF => exact Da ED); (case yM => exact GA.out); rintro e w26 ⟨rfl, hb⟩; refine ⟨_, rfl, ?_⟩; replace Fz := BN Fz hb; replace aa := bB aa hb; replace HB := bS HB hb; clear hb))
 go_loopg [9] k1 (fun kq v9 w' => ∃ (Cj : List Int) (ae : Int), v9 = .int .i64 ae ∧ yf (yA.l1 kq a1 Cj ae yn yg yo yt Ab Al zY = some r) ∧ yf (kq ≤ k1) ∧ yf (Kd.R (Kd.int .i64) 3 w' w.heap.size (fun _ => True) u7 Cj) ∧ yf (w'.heap[af]? = some (.cells #[.int .i64 yn, (.slice (some aj) yg.length yI), .int .i64 yo, .int .i64 yt, (.slice DF Ab.length Du), .int .i64 Al, .int .i64 zY] 71 (0, 0))) ∧ yf (Below w.heap.size w w'))
 case atStart => exact ⟨(Eg), (bF), (by rfl), H', ⟨Nat.le_refl _⟩, ⟨kR Fz⟩, ⟨kk aa⟩, ⟨bO HB⟩⟩
 case round =>
 clear H' Lh OI OJ;obtain ⟨Cj, ae, rfl, HA, DU, Fz, aa, HB⟩ := hrel
 cases gk with
 | zero => exact absurd HA.out (by simp [yA.l1])
 | succ k2 =>
  have H := HA.out;clear HA;simp only [yA.l1] at H
  by_cases SV : ae < (Ab.length : Int)
  ·
   rw [if_pos SV] at H;have UV := decide_eq_true SV;clear SV
   by_cases c28 : 0 ≤ ae
   ·
    rw [if_pos c28] at H;have MX := decide_eq_true c28;clear c28
    by_cases Ml : ((yh Ab ae).f0) = a1
    ·
     rw [if_pos Ml] at H;have Oz := beq_iff_eq.mpr Ml
     have df : (((yh Ab ae).f0) != a1) = false := bne_eq_false_iff_eq.mpr Ml
     clear Ml
     by_cases Qd : 0 ≤ ((yh Ab ae).f1)
     ·
      rw [if_pos Qd] at H;have Xo := decide_eq_true Qd;clear Qd
      by_cases c31 : ((yh Ab ae).f1) < (Cj.length : Int)
      ·
       rw [if_pos c31] at H;have MO := decide_eq_true c31;clear c31;obtain ⟨bJ, bq⟩ : ∃ y_ : List Int, y_ = (Cj.set (((yh Ab ae).f1) : Int).toNat ((yh Ab ae).f2.f0)) := ⟨_, rfl⟩
       replace H : (yA.l1 k2 a1 bJ (wrap64 (ae + 1)) yn yg yo yt Ab Al zY) = some r := by (rw [bq]; with_reducible exact H)
       have dx := yf.mk bq;clear bq;have H' := yf.mk H;clear H;have OQ := EP aa;have OT := bf aa
       have av : 0 ≤ (ae : Int) := of_decide_eq_true ‹_›
       have au : ae < (Ab.length : Int) := of_decide_eq_true ‹_›
       obtain ⟨ah, aY, aA, aC, ay, aD⟩ := Cb ED.out ae av au;cases aY;replace aA := cB HB aA;replace aC := cB HB aC;replace ay := cB HB ay;replace aD := cB HB aD;replace av := eq_true av;replace au := eq_true au
       try go_wp2
       replace Fz := yf.mk (Kd.Cr Fz.out);replace aa := yf.mk (yZ aa.out);replace HB := yf.mk (ze HB.out)
       have bi : 0 ≤ (ae : Int) := of_decide_eq_true ‹_›
       have bg : ae < (Ab.length : Int) := of_decide_eq_true ‹_›
       obtain ⟨dC, bP, aK, aJ, aM, aG⟩ := Cb ED.out ae bi bg;have cu := aG;have cz := aM;have cO := aJ;have cZ := aK;obtain rfl : ah = dC := (by injection bP);replace aK := cB HB aK;replace aJ := cB HB aJ;replace aM := cB HB aM;replace aG := cB HB aG;replace bi := eq_true bi;replace bg := eq_true bg
       have bn : 0 ≤ (ae : Int) := of_decide_eq_true ‹_›
       have bv : ae < (Ab.length : Int) := of_decide_eq_true ‹_›
       obtain ⟨dw, bQ, aH, aI, aQ, aN⟩ := Cb ED.out ae bn bv;have dB := aN;have bY := aQ;have cK := aI;have dz := aH;obtain rfl : ah = dw := (by injection bQ);replace aH := cB HB aH;replace aI := cB HB aI;replace aQ := cB HB aQ;replace aN := cB HB aN;replace bn := eq_true bn;replace bv := eq_true bv
       have p32 : 0 ≤ (((yh Ab ae).f1) : Int) := of_decide_eq_true ‹_›
       have q32 : (((yh Ab ae).f1) : Int) < ((Cj.length : Int) : Int) := of_decide_eq_true ‹_›
       obtain ⟨dK, EZ, O5, bM, bU, dJ, bH⟩ := Kd.He Fz.out (by omega)
       (cases O5)
       have dF := yf.mk bM;have dE := yf.mk bH;clear bM bU bH;obtain ⟨bZ, dm⟩ := Kd.FY 0 Fz.out (((yh Ab ae).f1) : Int) p32 q32;replace p32 := eq_true p32;replace q32 := eq_true q32;have aW := Kd.NA Fz.out (((yh Ab ae).f1) : Int) ((yh Ab ae).f2.f0);rw [← dx.out] at aW;have bL := yf.mk aW;clear aW
       refine AV (n := 16) (S := fun w' => w'.cell? ⟨af, 0, none⟩ = some (.int .i64 yn) ∧ w'.cell? ⟨af, 1, none⟩ = some (.slice (some aj) yg.length yI) ∧ w'.cell? ⟨af, 2, none⟩ = some (.int .i64 yo) ∧ w'.cell? ⟨af, 3, none⟩ = some (.int .i64 yt) ∧ w'.cell? ⟨af, 4, none⟩ = some (.slice (some ah) Ab.length Du) ∧ w'.cell? ⟨af, 5, none⟩ = some (.int .i64 Al) ∧ w'.cell? ⟨af, 6, none⟩ = some (.int .i64 zY) ∧ w'.cell? (ah.add ((ae).toNat * 4)) = some (.int .i64 ((yh Ab ae).f0)) ∧ w'.cell? ⟨(ah.add ((ae).toNat * 4)).block, (ah.add ((ae).toNat * 4)).off + 1, none⟩ = some (.int .i64 ((yh Ab ae).f1)) ∧ w'.cell? ⟨(ah.add ((ae).toNat * 4)).block, (ah.add ((ae).toNat * 4)).off + 2, none⟩ = some (.int .i64 ((yh Ab ae).f2.f0)) ∧ w'.cell? ⟨(ah.add ((ae).toNat * 4)).block, (ah.add ((ae).toNat * 4)).off + 3, none⟩ = some (.int .i64 ((yh Ab ae).f2.f1)) ∧ w'.cell? (ah.add ((ae).toNat * 4)) = some (.int .i64 ((yh Ab ae).f0)) ∧ w'.cell? ⟨(ah.add ((ae).toNat * 4)).block, (ah.add ((ae).toNat * 4)).off + 1, none⟩ = some (.int .i64 ((yh Ab ae).f1)) ∧ w'.cell? ⟨(ah.add ((ae).toNat * 4)).block, (ah.add ((ae).toNat * 4)).off + 2, none⟩ = some (.int .i64 ((yh Ab ae).f2.f0)) ∧ w'.cell? ⟨(ah.add ((ae).toNat * 4)).block, (ah.add ((ae).toNat * 4)).off + 3, none⟩ = some (.int .i64 ((yh Ab ae).f2.f1))) (ds := [15]) (bz 16 0) (by kernel_rfl) rfl rfl ⟨(yz aa.out 0).trans rfl, (yz aa.out 1).trans rfl, (yz aa.out 2).trans rfl, (yz aa.out 3).trans rfl, (yz aa.out 4).trans rfl, (yz aa.out 5).trans rfl, (yz aa.out 6).trans rfl, (cB HB cZ), (cB HB cO), (cB HB cz), (cB HB cu), (cB HB dz), (cB HB cK), (cB HB bY), (cB HB dB)⟩ (fun hHeld => ?_); refine zQ yA.OD yA.Lr (fun yD AZ => ?_)
       generalize wr.drew = w34 at Fz aa HB dE bL dm aK aJ aM aG aH aI aQ aN bZ hHeld ⊢;refine pU 0 70 16 1 yD ?_;refine pU 1 71 16 3 yD ?_;refine pU 3 73 16 11 yD ?_;refine pU 7 77 16 139 yD ?_;refine pU 9 79 16 651 yD ?_
       refine BQ 2 72 16 655 yD AZ hHeld ?_
       refine pU 4 74 16 671 yD ?_;refine pU 5 75 16 703 yD ?_
       refine BQ 6 76 16 767 yD AZ hHeld ?_
       refine BQ 8 78 16 1023 yD AZ hHeld ?_
       refine pU 10 80 16 2047 yD ?_;refine pU 11 81 16 4095 yD ?_;refine pU 12 82 16 8191 yD ?_
       refine BQ 13 83 16 16383 yD AZ hHeld ?_
       refine pU 14 84 16 32767 yD ?_
       refine ML (i := 15) (N := none) (bz 16 65535) rfl rfl (Af yD.out (by kernel_rfl)) (by decide) (fun K hK => ?_)
       refine G5 (w1 := ?_) (by rfl) rfl ?_ ?_
       rotate_left
       ·
        go_simp
        rfl
       refine hK.out _ _ ?_
       clear hK K
       refine BI (Az yD.out (by kernel_rfl)) ?_
       try go_wp2
       go_roundg k2
       case measure => have := BZ.out; have := DU.out; omega
       case rel => exact ⟨(bJ), (wrap64 (ae + 1)), (by rfl), H', ⟨by have := BZ.out; have := DU.out; omega⟩, ⟨kR bL⟩, ⟨by refine kp ?_; refine Fw ?_ (by have h_ := Kd.Dx Fz.out aa.out (by decide); intro e_; exact h_ (by rw [e_]; rfl)) _; refine kp ?_; exact aa.out⟩, ⟨bO HB⟩⟩
      ·
       rw [if_neg c31] at H;exact absurd H (by simp)
     ·
      rw [if_neg Qd] at H;exact absurd H (by simp)
    ·
     rw [if_neg Ml] at H;have Oz := beq_eq_false_iff_ne.mpr Ml;have df := bne_iff_ne.mpr Ml;obtain rfl := Option.some.inj H;have Rf := EP aa;have Rh := bf aa
     have av : 0 ≤ (ae : Int) := of_decide_eq_true ‹_›
     have au : ae < (Ab.length : Int) := of_decide_eq_true ‹_›
     obtain ⟨ah, aY, aA, aC, ay, aD⟩ := Cb ED.out ae av au;cases aY;replace aA := cB HB aA;replace aC := cB HB aC;replace ay := cB HB ay;replace aD := cB HB aD;replace av := eq_true av;replace au := eq_true au
     go_wp2
     go_ret
     exact ⟨_, by rfl, by (with_reducible repeat (apply Kd.zl)); exact Fz.out, bO HB⟩
   ·
    rw [if_neg c28] at H;exact absurd H (by simp)
  ·
   rw [if_neg SV] at H;have UV := decide_eq_false SV;clear SV;obtain rfl := Option.some.inj H;have Kg := EP aa;have Kh := bf aa
   go_wp2
   go_ret
   exact ⟨_, by rfl, by (with_reducible repeat (apply Kd.zl)); exact Fz.out, bO HB⟩
end Go.Proofs.Ytjonnfmoocijlaa.P
