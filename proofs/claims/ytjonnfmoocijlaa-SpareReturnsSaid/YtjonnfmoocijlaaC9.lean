/- Texts of a claim, packed. -/
import Derived.Test.YtjonnfmoocijlaaC7
import Derived.Test.YtjonnfmoocijlaaC8
set_option linter.all false
namespace Go.Proofs.Ytjonnfmoocijlaa.P
open Go.RowKit Go.Proofs.YtjonnfmoocijlaaKW.PrintWords Go.Proofs.YtjonnfmoocijlaaKW.PrintLast Go.Proofs.YtjonnfmoocijlaaKW.PrintMore
attribute [local go_sem] zO zP Aj Ak zC zD zQ zR
mutual
def yE.l0 : Nat → Int → List (JS) → Int → Int → List (List Int) → Option (Int × (List (List Int)))
 | 0, _, _, _, _, _ => none
 | k + 1, x0, x3, x5, ae, aa => if x5 < (x3.length : Int) then (yE.l1 k x0 x3 x5 ([] : List Int) 0 ae aa) else (some (ae, aa))
def yE.l1 : Nat → Int → List (JS) → Int → List Int → Int → Int → List (List Int) → Option (Int × (List (List Int)))
 | 0, _, _, _, _, _, _, _ => none
 | k + 1, x0, x3, x5, x6, x7, ae, aa => if x7 < (x3.length : Int) then (yE.l2 k x0 x3 x5 x6 x7 0 0 ae aa) else (if aa.length < 5864062014805 then (yE.l0 k x0 x3 (wrap64 (x5 + 1)) ae (aa ++ [x6])) else (none))
def yE.l2 : Nat → Int → List (JS) → Int → List Int → Int → Int → Int → Int → List (List Int) → Option (Int × (List (List Int)))
 | 0, _, _, _, _, _, _, _, _, _ => none
 | k + 1, x0, x3, x5, x6, x7, x8, x9, ae, aa => if x9 < 3 then (if 0 ≤ x5 then (if x5 < (x3.length : Int) then (if x9 = 0 then (if 0 ≤ x7 then (if x7 < (x3.length : Int) then ((yx.f k x0 ((Cm x3 x5).f0) ((Cm x3 x7).f0)).bind fun WA => ((zu.f k x0 x8 WA).bind fun Zg => (yE.l2 k x0 x3 x5 x6 x7 Zg (wrap64 (x9 + 1)) ae aa))) else (none)) else (none)) else (if x9 = 1 then (if 0 ≤ x7 then (if x7 < (x3.length : Int) then ((yx.f k x0 ((Cm x3 x5).f1) ((Cm x3 x7).f1)).bind fun WB => ((zu.f k x0 x8 WB).bind fun Zh => (yE.l2 k x0 x3 x5 x6 x7 Zh (wrap64 (x9 + 1)) ae aa))) else (none)) else (none)) else (if x9 = 2 then (if 0 ≤ x7 then (if x7 < (x3.length : Int) then ((yx.f k x0 ((Cm x3 x5).f2) ((Cm x3 x7).f2)).bind fun WC => ((zu.f k x0 x8 WC).bind fun Zi => (yE.l2 k x0 x3 x5 x6 x7 Zi (wrap64 (x9 + 1)) ae aa))) else (none)) else (none)) else (none)))) else (none)) else (none)) else (if x8 = 0 then (if x6.length < 17592186044416 then (yE.l1 k x0 x3 x5 (x6 ++ [x7]) (wrap64 (x7 + 1)) ae aa) else (none)) else (yE.l1 k x0 x3 x5 x6 (wrap64 (x7 + 1)) ae aa))
end
def yE.f (k : Nat) (a0 : Int) : Option (Int × (List (List Int))) := (yC.f k a0).bind fun Cv => (yE.l0 k a0 Cv 0 (Cv.length : Int) ([] : List (List Int)))
theorem yE.mono_l : ∀ k, (∀ y0 y1 y2 y3 y4, BP (yE.l0 k y0 y1 y2 y3 y4) (yE.l0 (k + 1) y0 y1 y2 y3 y4)) ∧ (∀ y0 y1 y2 y3 y4 y5 y6, BP (yE.l1 k y0 y1 y2 y3 y4 y5 y6) (yE.l1 (k + 1) y0 y1 y2 y3 y4 y5 y6)) ∧ (∀ y0 y1 y2 y3 y4 y5 y6 y7 y8, BP (yE.l2 k y0 y1 y2 y3 y4 y5 y6 y7 y8) (yE.l2 (k + 1) y0 y1 y2 y3 y4 y5 y6 y7 y8))
 | 0 => ⟨fun _ _ _ _ _ r h => by simp [yE.l0] at h, fun _ _ _ _ _ _ _ r h => by simp [yE.l1] at h, fun _ _ _ _ _ _ _ _ _ r h => by simp [yE.l2] at h⟩
 | k + 1 => by
  obtain ⟨Gg, ih1, ih2⟩ := yE.mono_l k
  refine ⟨?_, ?_, ?_⟩
  ·
   intro y0 y1 y2 y3 y4
   unfold yE.l0
   repeat' first
   | exact Gg _ _ _ _ _
   | exact ih1 _ _ _ _ _ _ _
   | exact ih2 _ _ _ _ _ _ _ _ _
   | exact zu.mono _ _ _ _
   | exact yx.mono _ _ _ _
   | exact yC.mono _ _
   | exact BP.refl _
   | exact BP.none _
   | refine BP.ite ?_ ?_
   | refine BP.bind ?_ (fun _ => ?_)
  ·
   intro y0 y1 y2 y3 y4 y5 y6
   unfold yE.l1
   repeat' first
   | exact Gg _ _ _ _ _
   | exact ih1 _ _ _ _ _ _ _
   | exact ih2 _ _ _ _ _ _ _ _ _
   | exact zu.mono _ _ _ _
   | exact yx.mono _ _ _ _
   | exact yC.mono _ _
   | exact BP.refl _
   | exact BP.none _
   | refine BP.ite ?_ ?_
   | refine BP.bind ?_ (fun _ => ?_)
  ·
   intro y0 y1 y2 y3 y4 y5 y6 y7 y8
   unfold yE.l2
   repeat' first
   | exact Gg _ _ _ _ _
   | exact ih1 _ _ _ _ _ _ _
   | exact ih2 _ _ _ _ _ _ _ _ _
   | exact zu.mono _ _ _ _
   | exact yx.mono _ _ _ _
   | exact yC.mono _ _
   | exact BP.refl _
   | exact BP.none _
   | refine BP.ite ?_ ?_
   | refine BP.bind ?_ (fun _ => ?_)
theorem yE.mono : ∀ a0 k, BP (yE.f k a0) (yE.f (k + 1) a0) := by
 intro a0 k
 obtain ⟨Gg, ih1, ih2⟩ := yE.mono_l k
 unfold yE.f
 repeat' first
  | exact Gg _ _ _ _ _
  | exact ih1 _ _ _ _ _ _ _
  | exact ih2 _ _ _ _ _ _ _ _ _
  | exact zu.mono _ _ _ _
  | exact yx.mono _ _ _ _
  | exact yC.mono _ _
  | exact BP.refl _
  | exact BP.none _
  | refine BP.ite ?_ ?_
  | refine BP.bind ?_ (fun _ => ?_)
def yE.T14 : Bool × List (List Nat × List Nat) := (true, [([], []), ([], []), ([], []), ([], []), ([], []), ([], []), ([3, 4], [3, 4]), ([6, 5], [5, 6]), ([7], [7]), ([], []), ([], []), ([], []), ([9, 10], [9, 10]), ([12, 11], [11, 12]), ([13], [13]), ([2, 8, 14], [2, 8, 14]), ([0, 1, 15, 15], [0, 1, 15]), ([16, 16, 0, 1, 2, 3, 4, 5, 6, 7, 8, 9, 10, 11, 12, 13, 14, 15, 16], [1, 16])])
def yE.B14 : List Nat := [0, 0, 0, 0, 0, 0, 24, 120, 248, 0, 0, 0, 1536, 7680, 15872, 32764, 65535, 131071]
theorem yE.OY : CZ .any (opsOf Try.f32 14) = yE.T14 := by kernel_rfl
theorem yE.LA : BD yE.T14.2 yE.B14 = true := by kernel_rfl
set_option maxHeartbeats 8000000 in
set_option maxRecDepth 100000 in
theorem yE.calls (k : Nat) (a0 : Int) (r1 : Int) (r2 : List (List Int)) (w : World) (h : yE.f k a0 = some (r1, r2)) :
  Calls Try.prog 32 #[.int .i64 a0] w fun e w' => ∃ U8 : Value, e = .returned (.agg #[.int .i64 r1, U8]) ∧ Kd.S (Kd.slice 3 (Kd.int .i64)) 63 w' w.heap.size (fun _ => True) U8 r2 ∧ Below w.heap.size w w' := by
 have PY := Try.underlying29;have HB := yf.mk (Below.refl w.heap.size w)
 have H : ((yC.f k a0).bind fun Cv => (yE.l0 k a0 Cv 0 (Cv.length : Int) ([] : List (List Int)))) = some (r1, r2) := h
 clear h;obtain ⟨Cv, A2, H⟩ := bE H
 try dsimp only at H
 have H' := yf.mk H;clear H
 go_enter Try.func32, Try.ntmps32
 go_wp2_with (first | ((with_reducible refine yI (N := 2) rfl ?_); refine yG rfl (N := 2) rfl (cs := #[.int .i64 0, .slice none 0 0]) (t := 29) (by go_simp) ?_; intro aI hg w3 yJ hb; have ae := yf.mk (yJ); have dm := bG (w := w) hg; have dn := bG (w := w) hg; replace HB := bS HB hb; clear hb yJ hg) | ((with_reducible refine yw (f := 57) rfl ?_); refine gL (some 11) Try.func57 #[.int .i64 a0] ?_; (with_reducible refine (yC.calls k a0 Cv _ A2.out).mono ?_); rintro e w4 ⟨v435, rfl, ho0, hb⟩; refine ⟨_, rfl, ?_⟩; have aK := yf.mk (Kd.Ay ho0 (yL (bO HB))); replace ae := bB ae hb; replace HB := bS HB hb; clear hb; clear ho0; obtain ⟨aW, bi, bR⟩ := Kd.zJ aK.out; subst bR) | ((with_reducible refine yI (N := 4) rfl ?_); refine yG rfl (N := 4) rfl (cs := #[.int .i64 0, .slice none 0 0]) (t := 29) (by go_simp) ?_; intro aH hg w6 yJ hb; have aa := yf.mk (yJ); have dx := bG (w := w) hg; have dz := bG (w := w) hg; have aM := Co ae hg; have aN := Ar ae hg; replace aK := BZ aK hb; replace ae := bB ae hb; replace HB := bS HB hb; clear hb yJ hg; have a1Y := aN.out; have a1Z := aM.out; have SL := bc2 aa; have SN := bf aa))
 go_loopg [5] k (fun kq v5 w' => ∃ (yN : Int) (aj : List (List Int)) (u438001 : Value), v5 = .int .i64 yN ∧ yf (yE.l0 kq a0 Cv yN (Cv.length : Int) aj = some (r1, r2)) ∧ yf (kq ≤ k) ∧ yf (Kd.R VG 98 w' w.heap.size (fun _ => True) (.slice aW Cv.length bi) Cv) ∧ yf (Kd.S (Kd.slice 3 (Kd.int .i64)) 63 w' w.heap.size (fun _ => True) u438001 aj) ∧ yf (w'.heap[aI]? = some (.cells #[.int .i64 0, (.slice none 0 0)] 29 (0, 0))) ∧ yf (w'.heap[aH]? = some (.cells #[.int .i64 (Cv.length : Int), u438001] 29 (0, 0))) ∧ yf (Below w.heap.size w w'))
 case atStart => exact ⟨(0), (([] : List (List Int))), (.slice none 0 0), (by rfl), H', ⟨Nat.le_refl _⟩, ⟨by (with_reducible repeat (apply Kd.yZ)); exact Kd.yX (F4 (g := aH) (Kd.Aw aK.out aa.out (by decide)) (fun _ hk => hk.2)) (fun _ hk => trivial)⟩, ⟨by exact Kd.VU _ _ _ _ _⟩, bK ae rfl, bK aa rfl, ⟨bO HB⟩⟩
 case round =>
 clear H' SL SN;obtain ⟨yN, aj, u438001, rfl, HA, BJ, CW, af, ae, aa, HB⟩ := hrel
 cases gk with
 | zero => exact absurd HA.out (by simp [yE.l0])
 | succ k1 =>
 have H := HA.out;clear HA;simp only [yE.l0] at H
 by_cases c9 : yN < (Cv.length : Int)
 rotate_left
 ·
  rw [if_neg c9] at H;have IE := decide_eq_false c9;clear c9;simp only [Option.some.injEq, Prod.mk.injEq] at H;obtain ⟨rfl, rfl⟩ := H;have WE := aN.out;have WF := aM.out;have WG := bc2 aa;have WH := bf aa;have a4u := bc2 ae;have a4v := bf ae;obtain ⟨di, cz, d9⟩ := Kd.Eb af.out;subst d9
  go_wp2
  refine bodyPost_ret (results_cell_row rfl _ _ aI 29 #[.int .i64 (Cv.length : Int), .slice di aj.length cz] (0, 0) _ rfl (CJ ae rfl) Try.underlying29 rfl (by kernel_rfl)) rfl ?_
  exact ⟨_, by rfl, by (with_reducible repeat (apply Kd.Az)); exact Kd.Bo (GA (g := aI) (Kd.AO af.out ae.out (by decide)) (fun _ hk => hk.2)) (fun _ hk => trivial), bO HB⟩
 rw [if_pos c9] at H;have IE := decide_eq_true c9;clear c9;have H' := yf.mk H;clear H
 go_wp2
 go_loopg [6, 7] k1 (fun kq v6 v7 w' => ∃ (Dm : List Int) (Cu : Int), v7 = .int .i64 Cu ∧ yf (yE.l1 kq a0 Cv yN Dm Cu (Cv.length : Int) aj = some (r1, r2)) ∧ yf (kq ≤ k1) ∧ yf (Kd.R VG 98 w' w.heap.size (fun _ => True) (.slice aW Cv.length bi) Cv) ∧ yf (Kd.R (Kd.int .i64) 3 w' w.heap.size (fun _ => True) v6 Dm) ∧ yf (Kd.S (Kd.slice 3 (Kd.int .i64)) 63 w' w.heap.size (fun k_ => some k_ ≠ (v6 : Value).ownBlock) u438001 aj) ∧ yf (w'.heap[aI]? = some (.cells #[.int .i64 0, (.slice none 0 0)] 29 (0, 0))) ∧ yf (w'.heap[aH]? = some (.cells #[.int .i64 (Cv.length : Int), u438001] 29 (0, 0))) ∧ yf (Below w.heap.size w w'))
 case atStart => exact ⟨(([] : List Int)), (0), (by rfl), H', ⟨Nat.le_refl _⟩, ⟨kR CW⟩, ⟨by exact Kd.Er _ _ _ _ _⟩, ⟨by (with_reducible repeat (apply Kd.Az)); exact Kd.Bo af.out (fun _ hk => (by simp [Value.ownBlock]))⟩, ⟨kk ae⟩, ⟨kk aa⟩, ⟨bO HB⟩⟩
 case round =>
 clear H' IE;obtain ⟨Dm, Cu, rfl, HA, D6, CW, BV, af, ae, aa, HB⟩ := hrel
 cases gk with
 | zero => exact absurd HA.out (by simp [yE.l1])
 | succ k2 =>
  have H := HA.out;clear HA;simp only [yE.l1] at H
  by_cases c10 : Cu < (Cv.length : Int)
  ·
   rw [if_pos c10] at H;have Gi := decide_eq_true c10;clear c10;have H' := yf.mk H;clear H
   go_wp2
   go_loopg [8, 9] k2 (fun kq v8 v9 w' => ∃ (Fw : Int) (ah : Int), v8 = .int .i64 Fw ∧ v9 = .int .i64 ah ∧ yf (yE.l2 kq a0 Cv yN Dm Cu Fw ah (Cv.length : Int) aj = some (r1, r2)) ∧ yf (kq ≤ k2) ∧ yf (Kd.R VG 98 w' w.heap.size (fun _ => True) (.slice aW Cv.length bi) Cv) ∧ yf (Kd.R (Kd.int .i64) 3 w' w.heap.size (fun _ => True) u6 Dm) ∧ yf (Kd.S (Kd.slice 3 (Kd.int .i64)) 63 w' w.heap.size (fun k_ => some k_ ≠ (u6 : Value).ownBlock) u438001 aj) ∧ yf (w'.heap[aI]? = some (.cells #[.int .i64 0, (.slice none 0 0)] 29 (0, 0))) ∧ yf (w'.heap[aH]? = some (.cells #[.int .i64 (Cv.length : Int), u438001] 29 (0, 0))) ∧ yf (Below w.heap.size w w'))
   case atStart => exact ⟨(0), (0), (by rfl), (by rfl), H', ⟨Nat.le_refl _⟩, ⟨kR CW⟩, ⟨kR BV⟩, ⟨kS af⟩, ⟨kk ae⟩, ⟨kk aa⟩, ⟨bO HB⟩⟩
   case round =>
    clear H' Gi;obtain ⟨Fw, ah, rfl, rfl, HA, GV, CW, BV, af, ae, aa, HB⟩ := hrel
    cases gk with
    | zero => exact absurd HA.out (by simp [yE.l2])
    | succ k3 =>
     have H := HA.out;clear HA;simp only [yE.l2] at H
     by_cases c11 : ah < 3
     ·
      rw [if_pos c11] at H;have GD := decide_eq_true c11;clear c11
      by_cases c12 : 0 ≤ yN
      ·
       rw [if_pos c12] at H;have Gh := decide_eq_true c12;clear c12
       by_cases c13 : yN < (Cv.length : Int)
       ·
        rw [if_pos c13] at H;have J9 := decide_eq_true c13;clear c13
        by_cases c14 : ah = 0
        ·
         rw [if_pos c14] at H;have Jc := beq_iff_eq.mpr c14
         have JW : (ah != 0) = false := bne_eq_false_iff_eq.mpr c14
         clear c14
         by_cases c15 : 0 ≤ Cu
         ·
          rw [if_pos c15] at H;have OZ := decide_eq_true c15;clear c15
          by_cases c16 : Cu < (Cv.length : Int)
          ·
           rw [if_pos c16] at H;have Fy := decide_eq_true c16;clear c16;obtain ⟨WA, A17, H⟩ := bE H
           try dsimp only at H
           obtain ⟨Zg, A18, H⟩ := bE H
           try dsimp only at H
           have H' := yf.mk H;clear H
           try go_wp2
           replace CW := yf.mk (Kd.AQ CW.out);replace BV := yf.mk (Kd.AQ BV.out);replace af := yf.mk (Kd.Ea af.out);replace ae := yf.mk (yO ae.out);replace aa := yf.mk (yO aa.out);replace HB := yf.mk (za HB.out)
           have ay : 0 ≤ (yN : Int) := of_decide_eq_true ‹_›
           have ax : yN < (Cv.length : Int) := of_decide_eq_true ‹_›
           obtain ⟨ag, aJ, aG, aD, aC⟩ := Lu (Kd.yT CW.out).2.2 yN ay ax;cases aJ;replace ay := eq_true ay;replace ax := eq_true ax
           have aT : 0 ≤ (Cu : Int) := of_decide_eq_true ‹_›
           have aX : Cu < (Cv.length : Int) := of_decide_eq_true ‹_›
           obtain ⟨bT, bX, bN, bu, bv⟩ := Lu (Kd.yT CW.out).2.2 Cu aT aX;obtain rfl : ag = bT := (by injection bX);replace aT := eq_true aT;replace aX := eq_true aX
           have ai : ah = 0 := of_decide_eq_true ‹_›
           have bC : (0 ≤ (ah : Int)) = True := eq_true (by rw [ai]; decide)
           have bF : ((ah : Int) < 3) = True := eq_true (by rw [ai]; decide)
           have bJ : ∀ a : Addr, a.add (ah).toNat = a := fun a => by rw [ai]; rfl
           clear ai
           refine Bc (n := 18) (S := fun w' => w'.cell? (ag.add ((yN).toNat * 3)) = some (.int .i64 ((Cm Cv yN).f0)) ∧ w'.cell? ⟨(ag.add ((yN).toNat * 3)).block, (ag.add ((yN).toNat * 3)).off + 1, none⟩ = some (.int .i64 ((Cm Cv yN).f1)) ∧ w'.cell? ⟨(ag.add ((yN).toNat * 3)).block, (ag.add ((yN).toNat * 3)).off + 2, none⟩ = some (.int .i64 ((Cm Cv yN).f2)) ∧ w'.cell? (ag.add ((Cu).toNat * 3)) = some (.int .i64 ((Cm Cv Cu).f0)) ∧ w'.cell? ⟨(ag.add ((Cu).toNat * 3)).block, (ag.add ((Cu).toNat * 3)).off + 1, none⟩ = some (.int .i64 ((Cm Cv Cu).f1)) ∧ w'.cell? ⟨(ag.add ((Cu).toNat * 3)).block, (ag.add ((Cu).toNat * 3)).off + 2, none⟩ = some (.int .i64 ((Cm Cv Cu).f2))) (ds := []) (bz 18 0) (by kernel_rfl) rfl rfl ⟨aG, aD, aC, bN, bu, bv⟩ (fun hHeld => ?_); refine zF yE.OY yE.LA (fun yz Bi => ?_)
           generalize wr.drew = w19 at CW BV af ae aa HB aG aD aC bN bu bv hHeld ⊢;refine pU 0 31 18 1 yz ?_;refine pU 1 32 18 3 yz ?_;refine pU 2 33 18 7 yz ?_;refine pU 3 34 18 15 yz ?_;refine pU 4 35 18 31 yz ?_;refine pU 5 36 18 63 yz ?_;refine pU 6 37 18 127 yz ?_;refine pU 7 38 18 255 yz ?_;refine pU 9 40 18 767 yz ?_;refine pU 10 41 18 1791 yz ?_;refine pU 11 42 18 3839 yz ?_;refine pU 12 43 18 7935 yz ?_;refine pU 13 44 18 16127 yz ?_
           refine BO 8 39 18 16383 yz Bi hHeld ?_
           refine BO 14 45 18 32767 yz Bi hHeld ?_
           refine Ck (i := 15) (N := some 46) (bz 18 65535) rfl rfl (Af yz.out (by kernel_rfl)) (by decide) (fun K hK => ?_)
           refine gO Try.func59 #[.int .i64 a0, .int .i64 ((Cm Cv yN).f0), .int .i64 ((Cm Cv Cu).f0)] ?_
           with_reducible refine (yx.calls k3 a0 ((Cm Cv yN).f0) ((Cm Cv Cu).f0) WA _ A17.out).mono ?_
           rintro e w20 ⟨rfl, hb⟩;have ak := (hb.cell (World.block_lt_of_cell? _ _ (hHeld.1))).trans (hHeld.1);have az := (hb.cell (World.block_lt_of_cell? _ _ (hHeld.2.1))).trans (hHeld.2.1);have aA := (hb.cell (World.block_lt_of_cell? _ _ (hHeld.2.2.1))).trans (hHeld.2.2.1);have au := (hb.cell (World.block_lt_of_cell? _ _ (hHeld.2.2.2.1))).trans (hHeld.2.2.2.1);have LB := (hb.cell (World.block_lt_of_cell? _ _ (hHeld.2.2.2.2.1))).trans (hHeld.2.2.2.2.1);have av := (hb.cell (World.block_lt_of_cell? _ _ (hHeld.2.2.2.2.2))).trans (hHeld.2.2.2.2.2)
           refine ⟨_, rfl, ?_⟩
           replace CW := BZ CW hb;replace BV := BZ BV hb;replace af := EH af hb;replace ae := bB ae hb;replace aa := bB aa hb;replace HB := bS HB hb;clear hb
           refine hK.out _ _ ⟨ak, az, aA, au, LB, av⟩ (fun hHeld => ?_)
           clear hK K
           refine AR (a' := ?_) ?_ ?_
           rotate_left
           ·
            show Act.put _ (some 46) _ = _
            simp only [pz]
            rfl
           refine Ck (i := 16) (N := some 47) (bz 18 131071) rfl rfl (Af yz.out (by kernel_rfl)) (by decide) (fun K hK => ?_)
           refine gO Try.func58 #[.int .i64 a0, .int .i64 Fw, .int .i64 WA] ?_
           with_reducible refine (zu.calls k3 a0 Fw WA Zg _ A18.out).mono ?_
           rintro e w21 ⟨rfl, hb⟩;have ak := (hb.cell (World.block_lt_of_cell? _ _ (hHeld.1))).trans (hHeld.1);have az := (hb.cell (World.block_lt_of_cell? _ _ (hHeld.2.1))).trans (hHeld.2.1);have aA := (hb.cell (World.block_lt_of_cell? _ _ (hHeld.2.2.1))).trans (hHeld.2.2.1);have au := (hb.cell (World.block_lt_of_cell? _ _ (hHeld.2.2.2.1))).trans (hHeld.2.2.2.1);have LB := (hb.cell (World.block_lt_of_cell? _ _ (hHeld.2.2.2.2.1))).trans (hHeld.2.2.2.2.1);have av := (hb.cell (World.block_lt_of_cell? _ _ (hHeld.2.2.2.2.2))).trans (hHeld.2.2.2.2.2)
           refine ⟨_, rfl, ?_⟩
           replace CW := BZ CW hb;replace BV := BZ BV hb;replace af := EH af hb;replace ae := bB ae hb;replace aa := bB aa hb;replace HB := bS HB hb;clear hb
           refine hK.out _ _ ⟨ak, az, aA, au, LB, av⟩ (fun hHeld => ?_)
           clear hK K
           refine AR (a' := ?_) ?_ ?_
           rotate_left
           ·
            show Act.put _ (some 47) _ = _
            simp only [pz]
            rfl
           refine pU 17 8 18 262143 yz ?_
           refine BG (Al yz.out (by kernel_rfl)) ?_
           try go_wp2
           go_roundg k3
           case measure => have := BJ.out; have := D6.out; have := GV.out; omega
           case rel => exact ⟨(Zg), (wrap64 (ah + 1)), (by rfl), (by rfl), H', ⟨by have := BJ.out; have := D6.out; have := GV.out; omega⟩, ⟨kR CW⟩, ⟨kR BV⟩, ⟨kS af⟩, ⟨kk ae⟩, ⟨kk aa⟩, ⟨bO HB⟩⟩
          ·
           rw [if_neg c16] at H;exact absurd H (by simp)
         ·
          rw [if_neg c15] at H;exact absurd H (by simp)
        ·
         rw [if_neg c14] at H;have Jc := beq_eq_false_iff_ne.mpr c14;have JW := bne_iff_ne.mpr c14
         by_cases Ih : ah = 1
         ·
          rw [if_pos Ih] at H;have JV := beq_iff_eq.mpr Ih
          have bV : (ah != 1) = false := bne_eq_false_iff_eq.mpr Ih
          clear Ih
          by_cases c23 : 0 ≤ Cu
          ·
           rw [if_pos c23] at H;have QM := decide_eq_true c23;clear c23
           by_cases c24 : Cu < (Cv.length : Int)
           ·
            rw [if_pos c24] at H;have Nl := decide_eq_true c24;clear c24;obtain ⟨WB, A25, H⟩ := bE H
            try dsimp only at H
            obtain ⟨Zh, bQ, H⟩ := bE H
            try dsimp only at H
            have H' := yf.mk H;clear H
            try go_wp2
            replace CW := yf.mk (Kd.AQ CW.out);replace BV := yf.mk (Kd.AQ BV.out);replace af := yf.mk (Kd.Ea af.out);replace ae := yf.mk (yO ae.out);replace aa := yf.mk (yO aa.out);replace HB := yf.mk (za HB.out)
            have ay : 0 ≤ (yN : Int) := of_decide_eq_true ‹_›
            have ax : yN < (Cv.length : Int) := of_decide_eq_true ‹_›
            obtain ⟨ag, aJ, aG, aD, aC⟩ := Lu (Kd.yT CW.out).2.2 yN ay ax;cases aJ;replace ay := eq_true ay;replace ax := eq_true ax
            have bn : 0 ≤ (Cu : Int) := of_decide_eq_true ‹_›
            have aZ : Cu < (Cv.length : Int) := of_decide_eq_true ‹_›
            obtain ⟨cK, dh, bq, bI, bD⟩ := Lu (Kd.yT CW.out).2.2 Cu bn aZ;obtain rfl : ag = cK := (by injection dh);replace bn := eq_true bn;replace aZ := eq_true aZ
            have ai : ah = 1 := of_decide_eq_true ‹_›
            have bC : (0 ≤ (ah : Int)) = True := eq_true (by rw [ai]; decide)
            have bF : ((ah : Int) < 3) = True := eq_true (by rw [ai]; decide)
            have bJ : ∀ a : Addr, a.add (ah).toNat = ⟨a.block, a.off + 1, none⟩ := fun a => by rw [ai]; rfl
            clear ai
            refine Bc (n := 18) (S := fun w' => w'.cell? (ag.add ((yN).toNat * 3)) = some (.int .i64 ((Cm Cv yN).f0)) ∧ w'.cell? ⟨(ag.add ((yN).toNat * 3)).block, (ag.add ((yN).toNat * 3)).off + 1, none⟩ = some (.int .i64 ((Cm Cv yN).f1)) ∧ w'.cell? ⟨(ag.add ((yN).toNat * 3)).block, (ag.add ((yN).toNat * 3)).off + 2, none⟩ = some (.int .i64 ((Cm Cv yN).f2)) ∧ w'.cell? (ag.add ((Cu).toNat * 3)) = some (.int .i64 ((Cm Cv Cu).f0)) ∧ w'.cell? ⟨(ag.add ((Cu).toNat * 3)).block, (ag.add ((Cu).toNat * 3)).off + 1, none⟩ = some (.int .i64 ((Cm Cv Cu).f1)) ∧ w'.cell? ⟨(ag.add ((Cu).toNat * 3)).block, (ag.add ((Cu).toNat * 3)).off + 2, none⟩ = some (.int .i64 ((Cm Cv Cu).f2))) (ds := []) (bz 18 0) (by kernel_rfl) rfl rfl ⟨aG, aD, aC, bq, bI, bD⟩ (fun hHeld => ?_); refine zF yE.OY yE.LA (fun yz Bi => ?_)
            generalize wr.drew = w27 at CW BV af ae aa HB aG aD aC bq bI bD hHeld ⊢;refine pU 0 31 18 1 yz ?_;refine pU 1 32 18 3 yz ?_;refine pU 2 33 18 7 yz ?_;refine pU 3 34 18 15 yz ?_;refine pU 4 35 18 31 yz ?_;refine pU 5 36 18 63 yz ?_;refine pU 6 37 18 127 yz ?_;refine pU 7 38 18 255 yz ?_;refine pU 9 40 18 767 yz ?_;refine pU 10 41 18 1791 yz ?_;refine pU 11 42 18 3839 yz ?_;refine pU 12 43 18 7935 yz ?_;refine pU 13 44 18 16127 yz ?_
            refine BO 8 39 18 16383 yz Bi hHeld ?_
            refine BO 14 45 18 32767 yz Bi hHeld ?_
            refine Ck (i := 15) (N := some 46) (bz 18 65535) rfl rfl (Af yz.out (by kernel_rfl)) (by decide) (fun K hK => ?_)
            refine gO Try.func59 #[.int .i64 a0, .int .i64 ((Cm Cv yN).f1), .int .i64 ((Cm Cv Cu).f1)] ?_
            with_reducible refine (yx.calls k3 a0 ((Cm Cv yN).f1) ((Cm Cv Cu).f1) WB _ A25.out).mono ?_
            rintro e w28 ⟨rfl, hb⟩;have ak := (hb.cell (World.block_lt_of_cell? _ _ (hHeld.1))).trans (hHeld.1);have az := (hb.cell (World.block_lt_of_cell? _ _ (hHeld.2.1))).trans (hHeld.2.1);have aA := (hb.cell (World.block_lt_of_cell? _ _ (hHeld.2.2.1))).trans (hHeld.2.2.1);have au := (hb.cell (World.block_lt_of_cell? _ _ (hHeld.2.2.2.1))).trans (hHeld.2.2.2.1);have LB := (hb.cell (World.block_lt_of_cell? _ _ (hHeld.2.2.2.2.1))).trans (hHeld.2.2.2.2.1);have av := (hb.cell (World.block_lt_of_cell? _ _ (hHeld.2.2.2.2.2))).trans (hHeld.2.2.2.2.2)
            refine ⟨_, rfl, ?_⟩
            replace CW := BZ CW hb;replace BV := BZ BV hb;replace af := EH af hb;replace ae := bB ae hb;replace aa := bB aa hb;replace HB := bS HB hb;clear hb
            refine hK.out _ _ ⟨ak, az, aA, au, LB, av⟩ (fun hHeld => ?_)
            clear hK K
            refine AR (a' := ?_) ?_ ?_
            rotate_left
            ·
             show Act.put _ (some 46) _ = _
             simp only [pz]
             rfl
            refine Ck (i := 16) (N := some 47) (bz 18 131071) rfl rfl (Af yz.out (by kernel_rfl)) (by decide) (fun K hK => ?_)
            refine gO Try.func58 #[.int .i64 a0, .int .i64 Fw, .int .i64 WB] ?_
            with_reducible refine (zu.calls k3 a0 Fw WB Zh _ bQ.out).mono ?_
            rintro e w29 ⟨rfl, hb⟩;have ak := (hb.cell (World.block_lt_of_cell? _ _ (hHeld.1))).trans (hHeld.1);have az := (hb.cell (World.block_lt_of_cell? _ _ (hHeld.2.1))).trans (hHeld.2.1);have aA := (hb.cell (World.block_lt_of_cell? _ _ (hHeld.2.2.1))).trans (hHeld.2.2.1);have au := (hb.cell (World.block_lt_of_cell? _ _ (hHeld.2.2.2.1))).trans (hHeld.2.2.2.1);have LB := (hb.cell (World.block_lt_of_cell? _ _ (hHeld.2.2.2.2.1))).trans (hHeld.2.2.2.2.1);have av := (hb.cell (World.block_lt_of_cell? _ _ (hHeld.2.2.2.2.2))).trans (hHeld.2.2.2.2.2)
            refine ⟨_, rfl, ?_⟩
            replace CW := BZ CW hb;replace BV := BZ BV hb;replace af := EH af hb;replace ae := bB ae hb;replace aa := bB aa hb;replace HB := bS HB hb;clear hb
            refine hK.out _ _ ⟨ak, az, aA, au, LB, av⟩ (fun hHeld => ?_)
            clear hK K
            refine AR (a' := ?_) ?_ ?_
            rotate_left
            ·
             show Act.put _ (some 47) _ = _
             simp only [pz]
             rfl
            refine pU 17 8 18 262143 yz ?_
            refine BG (Al yz.out (by kernel_rfl)) ?_
            try go_wp2
            go_roundg k3
            case measure => have := BJ.out; have := D6.out; have := GV.out; omega
            case rel => exact ⟨(Zh), (wrap64 (ah + 1)), (by rfl), (by rfl), H', ⟨by have := BJ.out; have := D6.out; have := GV.out; omega⟩, ⟨kR CW⟩, ⟨kR BV⟩, ⟨kS af⟩, ⟨kk ae⟩, ⟨kk aa⟩, ⟨bO HB⟩⟩
           ·
            rw [if_neg c24] at H;exact absurd H (by simp)
          ·
           rw [if_neg c23] at H;exact absurd H (by simp)
         ·
          rw [if_neg Ih] at H;have JV := beq_eq_false_iff_ne.mpr Ih;have bV := bne_iff_ne.mpr Ih
          by_cases SY : ah = 2
          ·
           rw [if_pos SY] at H;have ZZ := beq_iff_eq.mpr SY
           have dw : (ah != 2) = false := bne_eq_false_iff_eq.mpr SY
           clear SY
           by_cases c31 : 0 ≤ Cu
           ·
            rw [if_pos c31] at H;have OQ := decide_eq_true c31;clear c31
            by_cases c32 : Cu < (Cv.length : Int)
            ·
             rw [if_pos c32] at H;have M4 := decide_eq_true c32;clear c32;obtain ⟨WC, A33, H⟩ := bE H
             try dsimp only at H
             obtain ⟨Zi, cZ, H⟩ := bE H
             try dsimp only at H
             have H' := yf.mk H;clear H
             try go_wp2
             replace CW := yf.mk (Kd.AQ CW.out);replace BV := yf.mk (Kd.AQ BV.out);replace af := yf.mk (Kd.Ea af.out);replace ae := yf.mk (yO ae.out);replace aa := yf.mk (yO aa.out);replace HB := yf.mk (za HB.out)
             have ay : 0 ≤ (yN : Int) := of_decide_eq_true ‹_›
             have ax : yN < (Cv.length : Int) := of_decide_eq_true ‹_›
             obtain ⟨ag, aJ, aG, aD, aC⟩ := Lu (Kd.yT CW.out).2.2 yN ay ax;cases aJ;replace ay := eq_true ay;replace ax := eq_true ax
             have aQ : 0 ≤ (Cu : Int) := of_decide_eq_true ‹_›
             have aU : Cu < (Cv.length : Int) := of_decide_eq_true ‹_›
             obtain ⟨bU, bW, bM, bP, bH⟩ := Lu (Kd.yT CW.out).2.2 Cu aQ aU;obtain rfl : ag = bU := (by injection bW);replace aQ := eq_true aQ;replace aU := eq_true aU
             have ai : ah = 2 := of_decide_eq_true ‹_›
             have bC : (0 ≤ (ah : Int)) = True := eq_true (by rw [ai]; decide)
             have bF : ((ah : Int) < 3) = True := eq_true (by rw [ai]; decide)
             have bJ : ∀ a : Addr, a.add (ah).toNat = ⟨a.block, a.off + 2, none⟩ := fun a => by rw [ai]; rfl
             clear ai
             refine Bc (n := 18) (S := fun w' => w'.cell? (ag.add ((yN).toNat * 3)) = some (.int .i64 ((Cm Cv yN).f0)) ∧ w'.cell? ⟨(ag.add ((yN).toNat * 3)).block, (ag.add ((yN).toNat * 3)).off + 1, none⟩ = some (.int .i64 ((Cm Cv yN).f1)) ∧ w'.cell? ⟨(ag.add ((yN).toNat * 3)).block, (ag.add ((yN).toNat * 3)).off + 2, none⟩ = some (.int .i64 ((Cm Cv yN).f2)) ∧ w'.cell? (ag.add ((Cu).toNat * 3)) = some (.int .i64 ((Cm Cv Cu).f0)) ∧ w'.cell? ⟨(ag.add ((Cu).toNat * 3)).block, (ag.add ((Cu).toNat * 3)).off + 1, none⟩ = some (.int .i64 ((Cm Cv Cu).f1)) ∧ w'.cell? ⟨(ag.add ((Cu).toNat * 3)).block, (ag.add ((Cu).toNat * 3)).off + 2, none⟩ = some (.int .i64 ((Cm Cv Cu).f2))) (ds := []) (bz 18 0) (by kernel_rfl) rfl rfl ⟨aG, aD, aC, bM, bP, bH⟩ (fun hHeld => ?_); refine zF yE.OY yE.LA (fun yz Bi => ?_)
             generalize wr.drew = w35 at CW BV af ae aa HB aG aD aC bM bP bH hHeld ⊢;refine pU 0 31 18 1 yz ?_;refine pU 1 32 18 3 yz ?_;refine pU 2 33 18 7 yz ?_;refine pU 3 34 18 15 yz ?_;refine pU 4 35 18 31 yz ?_;refine pU 5 36 18 63 yz ?_;refine pU 6 37 18 127 yz ?_;refine pU 7 38 18 255 yz ?_;refine pU 9 40 18 767 yz ?_;refine pU 10 41 18 1791 yz ?_;refine pU 11 42 18 3839 yz ?_;refine pU 12 43 18 7935 yz ?_;refine pU 13 44 18 16127 yz ?_
             refine BO 8 39 18 16383 yz Bi hHeld ?_
             refine BO 14 45 18 32767 yz Bi hHeld ?_
             refine Ck (i := 15) (N := some 46) (bz 18 65535) rfl rfl (Af yz.out (by kernel_rfl)) (by decide) (fun K hK => ?_)
             refine gO Try.func59 #[.int .i64 a0, .int .i64 ((Cm Cv yN).f2), .int .i64 ((Cm Cv Cu).f2)] ?_
             with_reducible refine (yx.calls k3 a0 ((Cm Cv yN).f2) ((Cm Cv Cu).f2) WC _ A33.out).mono ?_
             rintro e w36 ⟨rfl, hb⟩;have ak := (hb.cell (World.block_lt_of_cell? _ _ (hHeld.1))).trans (hHeld.1);have az := (hb.cell (World.block_lt_of_cell? _ _ (hHeld.2.1))).trans (hHeld.2.1);have aA := (hb.cell (World.block_lt_of_cell? _ _ (hHeld.2.2.1))).trans (hHeld.2.2.1);have au := (hb.cell (World.block_lt_of_cell? _ _ (hHeld.2.2.2.1))).trans (hHeld.2.2.2.1);have LB := (hb.cell (World.block_lt_of_cell? _ _ (hHeld.2.2.2.2.1))).trans (hHeld.2.2.2.2.1);have av := (hb.cell (World.block_lt_of_cell? _ _ (hHeld.2.2.2.2.2))).trans (hHeld.2.2.2.2.2)
             refine ⟨_, rfl, ?_⟩
             replace CW := BZ CW hb;replace BV := BZ BV hb;replace af := EH af hb;replace ae := bB ae hb;replace aa := bB aa hb;replace HB := bS HB hb;clear hb
             refine hK.out _ _ ⟨ak, az, aA, au, LB, av⟩ (fun hHeld => ?_)
             clear hK K
             refine AR (a' := ?_) ?_ ?_
             rotate_left
             ·
              show Act.put _ (some 46) _ = _
              simp only [pz]
              rfl
             refine Ck (i := 16) (N := some 47) (bz 18 131071) rfl rfl (Af yz.out (by kernel_rfl)) (by decide) (fun K hK => ?_)
             refine gO Try.func58 #[.int .i64 a0, .int .i64 Fw, .int .i64 WC] ?_
             with_reducible refine (zu.calls k3 a0 Fw WC Zi _ cZ.out).mono ?_
             rintro e w37 ⟨rfl, hb⟩;have ak := (hb.cell (World.block_lt_of_cell? _ _ (hHeld.1))).trans (hHeld.1);have az := (hb.cell (World.block_lt_of_cell? _ _ (hHeld.2.1))).trans (hHeld.2.1);have aA := (hb.cell (World.block_lt_of_cell? _ _ (hHeld.2.2.1))).trans (hHeld.2.2.1);have au := (hb.cell (World.block_lt_of_cell? _ _ (hHeld.2.2.2.1))).trans (hHeld.2.2.2.1);have LB := (hb.cell (World.block_lt_of_cell? _ _ (hHeld.2.2.2.2.1))).trans (hHeld.2.2.2.2.1);have av := (hb.cell (World.block_lt_of_cell? _ _ (hHeld.2.2.2.2.2))).trans (hHeld.2.2.2.2.2)
             refine ⟨_, rfl, ?_⟩
             replace CW := BZ CW hb;replace BV := BZ BV hb;replace af := EH af hb;replace ae := bB ae hb;replace aa := bB aa hb;replace HB := bS HB hb;clear hb
             refine hK.out _ _ ⟨ak, az, aA, au, LB, av⟩ (fun hHeld => ?_)
             clear hK K
             refine AR (a' := ?_) ?_ ?_
             rotate_left
             ·
              show Act.put _ (some 47) _ = _
              simp only [pz]
              rfl
             refine pU 17 8 18 262143 yz ?_
             refine BG (Al yz.out (by kernel_rfl)) ?_
             try go_wp2
             go_roundg k3
             case measure => have := BJ.out; have := D6.out; have := GV.out; omega
             case rel => exact ⟨(Zi), (wrap64 (ah + 1)), (by rfl), (by rfl), H', ⟨by have := BJ.out; have := D6.out; have := GV.out; omega⟩, ⟨kR CW⟩, ⟨kR BV⟩, ⟨kS af⟩, ⟨kk ae⟩, ⟨kk aa⟩, ⟨bO HB⟩⟩
            ·
             rw [if_neg c32] at H;exact absurd H (by simp)
           ·
            rw [if_neg c31] at H;exact absurd H (by simp)
          ·
           rw [if_neg SY] at H;exact absurd H (by simp)
       ·
        rw [if_neg c13] at H;exact absurd H (by simp)
      ·
       rw [if_neg c12] at H;exact absurd H (by simp)
     ·
      rw [if_neg c11] at H;have GD := decide_eq_false c11;clear c11
      by_cases Km : Fw = 0
      ·
       rw [if_pos Km] at H;have Ng := beq_iff_eq.mpr Km
       have a0b : (Fw != 0) = false := bne_eq_false_iff_eq.mpr Km
       clear Km
       by_cases K7 : Dm.length < 17592186044416
       ·
        rw [if_pos K7] at H;have cO := yf.mk K7;clear K7;obtain ⟨bA, aV⟩ : ∃ y_ : List Int, y_ = (Dm ++ [Cu]) := ⟨_, rfl⟩
        replace H : (yE.l1 k3 a0 Cv yN bA (wrap64 (Cu + 1)) (Cv.length : Int) aj) = some (r1, r2) := by (rw [aV]; with_reducible exact H)
        have bZ := yf.mk aV;clear aV;have H' := yf.mk H;clear H
        go_wp2_with (((with_reducible refine BH (b := .append) (xs := #[.tmp 50, .tmp 52]) rfl ?_); at_builtin; refine Kd.El (Kd.int .i64) (w0 := w) w.heap.size rfl (.tmp 50) (.tmp 52) 63 3 (.int .i64 0) 8 rfl Try.underlying63 info3 rfl (by decide) (by omega) u6 Dm Cu [.int .i64 Cu] (fun _ => True) (fun _ => False) rfl rfl ?aP (fun _ hk => hk.elim) ?aF ?aO ?aB ?aS ?aL ?_; (case aP => exact rfl); (case aB => exact (bO HB)); (case aF => exact (fun _ _ => trivial)); (case aO => exact (kR BV)); (case aS => exact (yL (bO HB))); (case aL => have := cO.out; omega); intro v452 w40 ho hb hg hat; rw [← bZ.out] at ho; have BL := yf.mk (Kd.Ku (kR CW) (Kd.IB (kR BV)) (by decide) hg); have BN := yf.mk (Kd.MN (ok := (fun _ => True)) (by (with_reducible repeat (apply Kd.Az)); exact Kd.Bo af.out (fun _ hk => ⟨trivial, hk⟩)) hg hat); have BX := yf.mk (zY (g := aI) (o := .cells #[.int .i64 0, .slice none 0 0] 29 (0, 0)) (kk ae) hg (Kd.EI BV.out ae.out (by decide))); have Cr := yf.mk (zY (g := aH) (o := .cells #[.int .i64 (Cv.length : Int), u438001] 29 (0, 0)) (kk aa) hg (Kd.EI BV.out aa.out (by decide))); have CG := yf.mk (hb); have CU := yf.mk (ho); clear CW; clear af; clear ae; clear aa; clear HB; clear BV; have CW := BL; have af := BN; have ae := BX; have aa := Cr; have HB := CG; have cu := CU; clear BL BN BX Cr CG CU; clear ho hb hg hat))
        go_roundg k3
        case measure => have := BJ.out; have := D6.out; have := GV.out; omega
        case rel => exact ⟨(bA), (wrap64 (Cu + 1)), (by rfl), H', ⟨by have := BJ.out; have := D6.out; have := GV.out; omega⟩, ⟨kR CW⟩, ⟨kR cu⟩, ⟨by (with_reducible repeat (apply Kd.Az)); exact Kd.Bo af.out (fun _ hk => hk.2)⟩, ⟨kk ae⟩, ⟨kk aa⟩, ⟨bO HB⟩⟩
       ·
        rw [if_neg K7] at H;exact absurd H (by simp)
      ·
       rw [if_neg Km] at H;have Ng := beq_eq_false_iff_ne.mpr Km;have a0b := bne_iff_ne.mpr Km;have H' := yf.mk H;clear H
       go_wp2
       go_roundg k3
       case measure => have := BJ.out; have := D6.out; have := GV.out; omega
       case rel => exact ⟨(Dm), (wrap64 (Cu + 1)), (by rfl), H', ⟨by have := BJ.out; have := D6.out; have := GV.out; omega⟩, ⟨kR CW⟩, ⟨kR BV⟩, ⟨kS af⟩, ⟨kk ae⟩, ⟨kk aa⟩, ⟨bO HB⟩⟩
  ·
   rw [if_neg c10] at H;have Gi := decide_eq_false c10;clear c10
   by_cases JH : aj.length < 5864062014805
   ·
    rw [if_pos JH] at H;have bY := yf.mk JH;clear JH;obtain ⟨bg, aY⟩ : ∃ y_ : List (List Int), y_ = (aj ++ [Dm]) := ⟨_, rfl⟩
    replace H : (yE.l0 k2 a0 Cv (wrap64 (yN + 1)) (Cv.length : Int) bg) = some (r1, r2) := by (rw [aY]; with_reducible exact H)
    have df := yf.mk aY;clear aY;have H' := yf.mk H;clear H;have a0c := aN.out;have a0d := aM.out;have a4w := bc2 aa;have a4x := bf aa;obtain ⟨Zj, WI, WJ⟩ := Kd.zJ BV.out;subst WJ
    go_wp2_with (((with_reducible refine BH (b := .append) (xs := #[.tmp 55, .tmp 57]) rfl ?_); at_builtin; refine Kd.VV (Kd.slice 3 (Kd.int .i64)) (w0 := w) w.heap.size rfl (.tmp 55) (.tmp 57) 27 63 (.slice none 0 0) 24 rfl Try.underlying27 PW rfl (by decide) (by omega) u438001 aj Dm [.slice Zj Dm.length WI] (fun _ => True) (fun k_ => some k_ = (.slice Zj Dm.length WI : Value).ownBlock) rfl rfl ?aP (fun k_ E8 => ((Kd.yX (ok' := fun k_ => ((fun _ => True)) k_ ∧ some k_ ≠ (u438001 : Value).ownBlock) (Kd.Kv (BV.out) (Kd.JF af.out) (by decide)) (fun k_ hk => ⟨trivial, hk.2⟩))).1 k_ E8.symm) ?aF ?aO ?aB ?aS ?aL ?_; (case aP => exact Kd.U0 (Kd.yX (Kd.Ht rfl (Kd.yX (ok' := fun k_ => ((fun _ => True)) k_ ∧ some k_ ≠ (u438001 : Value).ownBlock) (Kd.Kv (BV.out) (Kd.JF af.out) (by decide)) (fun k_ hk => ⟨trivial, hk.2⟩))) (fun _ h_ => h_))); (case aB => exact (bO HB)); (case aF => exact (fun _ _ => trivial)); (case aO => exact (by (with_reducible repeat (apply Kd.Az)); exact Kd.Bo af.out (fun k_ hk => ⟨trivial, fun e_ => hk e_⟩))); (case aS => exact (yL (bO HB))); (case aL => have := bY.out; omega); intro v439 w44 ho hb hg hat; rw [← df.out] at ho; have BL := yf.mk (Kd.Ku (kR CW) (Kd.JF (kS af)) (by decide) hg); have BN := yf.mk (zY (g := aI) (o := .cells #[.int .i64 0, .slice none 0 0] 29 (0, 0)) (kk ae) hg (Kd.YX af.out ae.out (by decide))); have BX := yf.mk (zY (g := aH) (o := .cells #[.int .i64 (Cv.length : Int), u438001] 29 (0, 0)) (kk aa) hg (Kd.YX af.out aa.out (by decide))); have Cr := yf.mk (hb); have CG := yf.mk (ho); clear CW; clear ae; clear aa; clear HB; clear af; clear BV; have CW := BL; have ae := BN; have aa := BX; have HB := Cr; have bL := CG; clear BL BN BX Cr CG; clear ho hb hg hat; obtain ⟨Tf, Q9, a2q⟩ := Kd.Eb bL.out; subst a2q; have a0e := bc2 aa; have a0f := bf aa))
    go_roundg k2
    case measure => have := BJ.out; have := D6.out; omega
    case rel => exact ⟨(wrap64 (yN + 1)), (bg), (.slice Tf bg.length Q9), (by rfl), H', ⟨by have := BJ.out; have := D6.out; omega⟩, ⟨by (with_reducible repeat (apply Kd.yZ)); exact Kd.yX (F4 (g := aH) (Kd.Aw CW.out aa.out (by decide)) (fun _ hk => hk.2)) (fun _ hk => trivial)⟩, ⟨by (with_reducible repeat (apply Kd.Az)); exact Kd.Bo (GA (g := aH) (Kd.AO bL.out aa.out (by decide)) (fun _ hk => hk.2)) (fun _ hk => trivial)⟩, bK ae rfl, bK aa rfl, ⟨bO HB⟩⟩
   ·
    rw [if_neg JH] at H;exact absurd H (by simp)
end Go.Proofs.Ytjonnfmoocijlaa.P
