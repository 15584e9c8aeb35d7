/- Texts of a claim, packed. -/
import Derived.Test.YtjonnfmoocijlaaD7
import Derived.Test.YtjonnfmoocijlaaD8
set_option linter.all false
namespace Go.Proofs.Ytjonnfmoocijlaa.P
open Go.RowKit Go.Proofs.YtjonnfmoocijlaaKW.PrintWords Go.Proofs.YtjonnfmoocijlaaKW.PrintLast Go.Proofs.YtjonnfmoocijlaaKW.PrintMore
attribute [local go_sem] zz zA zS zT zn zo zB zC
mutual
def yx.l0 : Nat → Int → List (Iz) → Int → Int → List (List Int) → Option (Int × (List (List Int)))
 | 0, _, _, _, _, _ => none
 | k + 1, x0, x3, x5, ae, aa => if x5 < (x3.length : Int) then (yx.l1 k x0 x3 x5 ([] : List Int) 0 ae aa) else (some (ae, aa))
def yx.l1 : Nat → Int → List (Iz) → Int → List Int → Int → Int → List (List Int) → Option (Int × (List (List Int)))
 | 0, _, _, _, _, _, _, _ => none
 | k + 1, x0, x3, x5, x6, x7, ae, aa => if x7 < (x3.length : Int) then (yx.l2 k x0 x3 x5 x6 x7 0 0 ae aa) else (if aa.length < 5864062014805 then (yx.l0 k x0 x3 (wrap64 (x5 + 1)) ae (aa ++ [x6])) else (none))
def yx.l2 : Nat → Int → List (Iz) → Int → List Int → Int → Int → Int → Int → List (List Int) → Option (Int × (List (List Int)))
 | 0, _, _, _, _, _, _, _, _, _ => none
 | k + 1, x0, x3, x5, x6, x7, x8, x9, ae, aa => if x9 < 3 then (if 0 ≤ x5 then (if x5 < (x3.length : Int) then (if x9 = 0 then (if 0 ≤ x7 then (if x7 < (x3.length : Int) then ((yu.f k x0 ((BA x3 x5).f0) ((BA x3 x7).f0)).bind fun Uo => ((za.f k x0 x8 Uo).bind fun WO => (yx.l2 k x0 x3 x5 x6 x7 WO (wrap64 (x9 + 1)) ae aa))) else (none)) else (none)) else (if x9 = 1 then (if 0 ≤ x7 then (if x7 < (x3.length : Int) then ((yu.f k x0 ((BA x3 x5).f1) ((BA x3 x7).f1)).bind fun Uq => ((za.f k x0 x8 Uq).bind fun WP => (yx.l2 k x0 x3 x5 x6 x7 WP (wrap64 (x9 + 1)) ae aa))) else (none)) else (none)) else (if x9 = 2 then (if 0 ≤ x7 then (if x7 < (x3.length : Int) then ((yu.f k x0 ((BA x3 x5).f2) ((BA x3 x7).f2)).bind fun Ur => ((za.f k x0 x8 Ur).bind fun WQ => (yx.l2 k x0 x3 x5 x6 x7 WQ (wrap64 (x9 + 1)) ae aa))) else (none)) else (none)) else (none)))) else (none)) else (none)) else (if x8 = 0 then (if x6.length < 17592186044416 then (yx.l1 k x0 x3 x5 (x6 ++ [x7]) (wrap64 (x7 + 1)) ae aa) else (none)) else (yx.l1 k x0 x3 x5 x6 (wrap64 (x7 + 1)) ae aa))
end
def yx.f (k : Nat) (a0 : Int) : Option (Int × (List (List Int))) := (yw.f k a0).bind fun BR => (yx.l0 k a0 BR 0 (BR.length : Int) ([] : List (List Int)))
theorem yx.mono_l : ∀ k, (∀ y0 y1 y2 y3 y4, zZ (yx.l0 k y0 y1 y2 y3 y4) (yx.l0 (k + 1) y0 y1 y2 y3 y4)) ∧ (∀ y0 y1 y2 y3 y4 y5 y6, zZ (yx.l1 k y0 y1 y2 y3 y4 y5 y6) (yx.l1 (k + 1) y0 y1 y2 y3 y4 y5 y6)) ∧ (∀ y0 y1 y2 y3 y4 y5 y6 y7 y8, zZ (yx.l2 k y0 y1 y2 y3 y4 y5 y6 y7 y8) (yx.l2 (k + 1) y0 y1 y2 y3 y4 y5 y6 y7 y8))
 | 0 => ⟨fun _ _ _ _ _ r h => by simp [yx.l0] at h, fun _ _ _ _ _ _ _ r h => by simp [yx.l1] at h, fun _ _ _ _ _ _ _ _ _ r h => by simp [yx.l2] at h⟩
 | k + 1 => by
  obtain ⟨DN, ih1, ih2⟩ := yx.mono_l k
  refine ⟨?_, ?_, ?_⟩
  ·
   intro y0 y1 y2 y3 y4
   unfold yx.l0
   repeat' first
   | exact DN _ _ _ _ _
   | exact ih1 _ _ _ _ _ _ _
   | exact ih2 _ _ _ _ _ _ _ _ _
   | exact za.mono _ _ _ _
   | exact yu.mono _ _ _ _
   | exact yw.mono _ _
   | exact zZ.refl _
   | exact zZ.none _
   | refine zZ.ite ?_ ?_
   | refine zZ.bind ?_ (fun _ => ?_)
  ·
   intro y0 y1 y2 y3 y4 y5 y6
   unfold yx.l1
   repeat' first
   | exact DN _ _ _ _ _
   | exact ih1 _ _ _ _ _ _ _
   | exact ih2 _ _ _ _ _ _ _ _ _
   | exact za.mono _ _ _ _
   | exact yu.mono _ _ _ _
   | exact yw.mono _ _
   | exact zZ.refl _
   | exact zZ.none _
   | refine zZ.ite ?_ ?_
   | refine zZ.bind ?_ (fun _ => ?_)
  ·
   intro y0 y1 y2 y3 y4 y5 y6 y7 y8
   unfold yx.l2
   repeat' first
   | exact DN _ _ _ _ _
   | exact ih1 _ _ _ _ _ _ _
   | exact ih2 _ _ _ _ _ _ _ _ _
   | exact za.mono _ _ _ _
   | exact yu.mono _ _ _ _
   | exact yw.mono _ _
   | exact zZ.refl _
   | exact zZ.none _
   | refine zZ.ite ?_ ?_
   | refine zZ.bind ?_ (fun _ => ?_)
theorem yx.mono : ∀ a0 k, zZ (yx.f k a0) (yx.f (k + 1) a0) := by
 intro a0 k
 obtain ⟨DN, ih1, ih2⟩ := yx.mono_l k
 unfold yx.f
 repeat' first
  | exact DN _ _ _ _ _
  | exact ih1 _ _ _ _ _ _ _
  | exact ih2 _ _ _ _ _ _ _ _ _
  | exact za.mono _ _ _ _
  | exact yu.mono _ _ _ _
  | exact yw.mono _ _
  | exact zZ.refl _
  | exact zZ.none _
  | refine zZ.ite ?_ ?_
  | refine zZ.bind ?_ (fun _ => ?_)
def yx.Xv : Bool × List (List Nat × List Nat) := (true, [([], []), ([], []), ([], []), ([], []), ([], []), ([], []), ([3, 4], [3, 4]), ([6, 5], [5, 6]), ([7], [7]), ([], []), ([], []), ([], []), ([9, 10], [9, 10]), ([12, 11], [11, 12]), ([13], [13]), ([2, 8, 14], [2, 8, 14]), ([0, 1, 15, 15], [0, 1, 15]), ([16, 16, 0, 1, 2, 3, 4, 5, 6, 7, 8, 9, 10, 11, 12, 13, 14, 15, 16], [1, 16])])
def yx.B14 : List Nat := [0, 0, 0, 0, 0, 0, 24, 120, 248, 0, 0, 0, 1536, 7680, 15872, 32764, 65535, 131071]
theorem yx.JW : CX .any (opsOf Try.f32 14) = yx.Xv := by kernel_rfl
theorem yx.Ht : Bi yx.Xv.2 yx.B14 = true := by kernel_rfl
set_option maxHeartbeats 8000000 in
set_option maxRecDepth 100000 in
theorem yx.calls (k : Nat) (a0 : Int) (r1 : Int) (r2 : List (List Int)) (w : World) (h : yx.f k a0 = some (r1, r2)) :
  Calls Try.prog 32 #[.int .i64 a0] w fun e w' => ∃ Rc : Value, e = .returned (.agg #[.int .i64 r1, Rc]) ∧ Kd.S (Kd.slice 3 (Kd.int .i64)) 63 w' w.heap.size (fun _ => True) Rc r2 ∧ Below w.heap.size w w' := by
 have NN := Try.underlying29;have HB := yf.mk (Below.refl w.heap.size w)
 have H : ((yw.f k a0).bind fun BR => (yx.l0 k a0 BR 0 (BR.length : Int) ([] : List (List Int)))) = some (r1, r2) := h
 clear h;obtain ⟨BR, A2, H⟩ := bE H
 try dsimp only at H
 have H' := yf.mk H;clear H
 go_enter Try.func32, Try.ntmps32
 go_wp2_with (first | ((with_reducible refine yK (N := 2) rfl ?_); refine yE rfl (N := 2) rfl (cs := #[.int .i64 0, .slice none 0 0]) (t := 29) (by go_simp) ?_; intro aI hg w3 yG hb; have ae := yf.mk (yG); have dx := bG (w := w) hg; have dz := bG (w := w) hg; replace HB := bS HB hb; clear hb yG hg) | ((with_reducible refine yB (f := 57) rfl ?_); refine gL (some 11) Try.func57 #[.int .i64 a0] ?_; (with_reducible refine (yw.calls k a0 BR _ A2.out).mono ?_); rintro e w4 ⟨v435, rfl, ho0, hb⟩; refine ⟨_, rfl, ?_⟩; have aK := yf.mk (Kd.AL ho0 (yJ (bO HB))); replace ae := bB ae hb; replace HB := bS HB hb; clear hb; clear ho0; obtain ⟨aM, aU, dh⟩ := Kd.zX aK.out; subst dh) | ((with_reducible refine yK (N := 4) rfl ?_); refine yE rfl (N := 4) rfl (cs := #[.int .i64 0, .slice none 0 0]) (t := 29) (by go_simp) ?_; intro aD hg w6 yG hb; have aa := yf.mk (yG); have dA := bG (w := w) hg; have dw := bG (w := w) hg; have aN := BL ae hg; have aX := Ag ae hg; replace aK := BN aK hb; replace ae := bB ae hb; replace HB := bS HB hb; clear hb yG hg; have Zg := aX.out; have Zh := aN.out; have Ox := bc2 aa; have Oy := bf aa))
 go_loopg [5] k (fun kq v5 w' => ∃ (yQ : Int) (aj : List (List Int)) (u438001 : Value), v5 = .int .i64 yQ ∧ yf (yx.l0 kq a0 BR yQ (BR.length : Int) aj = some (r1, r2)) ∧ yf (kq ≤ k) ∧ yf (Kd.R TG 98 w' w.heap.size (fun _ => True) (.slice aM BR.length aU) BR) ∧ yf (Kd.S (Kd.slice 3 (Kd.int .i64)) 63 w' w.heap.size (fun _ => True) u438001 aj) ∧ yf (w'.heap[aI]? = some (.cells #[.int .i64 0, (.slice none 0 0)] 29 (0, 0))) ∧ yf (w'.heap[aD]? = some (.cells #[.int .i64 (BR.length : Int), u438001] 29 (0, 0))) ∧ yf (Below w.heap.size w w'))
 case atStart => exact ⟨(0), (([] : List (List Int))), (.slice none 0 0), (by rfl), H', ⟨Nat.le_refl _⟩, ⟨by (with_reducible repeat (apply Kd.zl)); exact Kd.zb (GG (g := aD) (Kd.AU aK.out aa.out (by decide)) (fun _ hk => hk.2)) (fun _ hk => trivial)⟩, ⟨by exact Kd.TV _ _ _ _ _⟩, bK ae rfl, bK aa rfl, ⟨bO HB⟩⟩
 case round =>
 clear H' Ox Oy;obtain ⟨yQ, aj, u438001, rfl, HA, BZ, Co, af, ae, aa, HB⟩ := hrel
 cases gk with
 | zero => exact absurd HA.out (by simp [yx.l0])
 | succ k1 =>
 have H := HA.out;clear HA;simp only [yx.l0] at H
 by_cases c9 : yQ < (BR.length : Int)
 rotate_left
 ·
  rw [if_neg c9] at H;have Hr := decide_eq_false c9;clear c9;simp only [Option.some.injEq, Prod.mk.injEq] at H;obtain ⟨rfl, rfl⟩ := H;have Us := aX.out;have Ut := aN.out;have Xw := bc2 aa;have Xx := bf aa;have a0L := bc2 ae;have a0M := bf ae;obtain ⟨a0N, a0O, Zw⟩ := Kd.Es af.out;subst Zw
  go_wp2
  refine bodyPost_ret (results_cell_row rfl _ _ aI 29 #[.int .i64 (BR.length : Int), .slice a0N aj.length a0O] (0, 0) _ rfl (CF ae rfl) Try.underlying29 rfl (by kernel_rfl)) rfl ?_
  exact ⟨_, by rfl, by (with_reducible repeat (apply Kd.Bb)); exact Kd.Bw (Lc (g := aI) (Kd.BD af.out ae.out (by decide)) (fun _ hk => hk.2)) (fun _ hk => trivial), bO HB⟩
 rw [if_pos c9] at H;have Hr := decide_eq_true c9;clear c9;have H' := yf.mk H;clear H
 go_wp2
 go_loopg [6, 7] k1 (fun kq v6 v7 w' => ∃ (CQ : List Int) (Cj : Int), v7 = .int .i64 Cj ∧ yf (yx.l1 kq a0 BR yQ CQ Cj (BR.length : Int) aj = some (r1, r2)) ∧ yf (kq ≤ k1) ∧ yf (Kd.R TG 98 w' w.heap.size (fun _ => True) (.slice aM BR.length aU) BR) ∧ yf (Kd.R (Kd.int .i64) 3 w' w.heap.size (fun _ => True) v6 CQ) ∧ yf (Kd.S (Kd.slice 3 (Kd.int .i64)) 63 w' w.heap.size (fun k_ => some k_ ≠ (v6 : Value).ownBlock) u438001 aj) ∧ yf (w'.heap[aI]? = some (.cells #[.int .i64 0, (.slice none 0 0)] 29 (0, 0))) ∧ yf (w'.heap[aD]? = some (.cells #[.int .i64 (BR.length : Int), u438001] 29 (0, 0))) ∧ yf (Below w.heap.size w w'))
 case atStart => exact ⟨(([] : List Int)), (0), (by rfl), H', ⟨Nat.le_refl _⟩, ⟨kR Co⟩, ⟨by exact Kd.Dh _ _ _ _ _⟩, ⟨by (with_reducible repeat (apply Kd.Bb)); exact Kd.Bw af.out (fun _ hk => (by simp [Value.ownBlock]))⟩, ⟨kk ae⟩, ⟨kk aa⟩, ⟨bO HB⟩⟩
 case round =>
 clear H' Hr;obtain ⟨CQ, Cj, rfl, HA, DU, Co, Be, af, ae, aa, HB⟩ := hrel
 cases gk with
 | zero => exact absurd HA.out (by simp [yx.l1])
 | succ k2 =>
  have H := HA.out;clear HA;simp only [yx.l1] at H
  by_cases c10 : Cj < (BR.length : Int)
  ·
   rw [if_pos c10] at H;have Fv := decide_eq_true c10;clear c10;have H' := yf.mk H;clear H
   go_wp2
   go_loopg [8, 9] k2 (fun kq v8 v9 w' => ∃ (Ey : Int) (ah : Int), v8 = .int .i64 Ey ∧ v9 = .int .i64 ah ∧ yf (yx.l2 kq a0 BR yQ CQ Cj Ey ah (BR.length : Int) aj = some (r1, r2)) ∧ yf (kq ≤ k2) ∧ yf (Kd.R TG 98 w' w.heap.size (fun _ => True) (.slice aM BR.length aU) BR) ∧ yf (Kd.R (Kd.int .i64) 3 w' w.heap.size (fun _ => True) u6 CQ) ∧ yf (Kd.S (Kd.slice 3 (Kd.int .i64)) 63 w' w.heap.size (fun k_ => some k_ ≠ (u6 : Value).ownBlock) u438001 aj) ∧ yf (w'.heap[aI]? = some (.cells #[.int .i64 0, (.slice none 0 0)] 29 (0, 0))) ∧ yf (w'.heap[aD]? = some (.cells #[.int .i64 (BR.length : Int), u438001] 29 (0, 0))) ∧ yf (Below w.heap.size w w'))
   case atStart => exact ⟨(0), (0), (by rfl), (by rfl), H', ⟨Nat.le_refl _⟩, ⟨kR Co⟩, ⟨kR Be⟩, ⟨kS af⟩, ⟨kk ae⟩, ⟨kk aa⟩, ⟨bO HB⟩⟩
   case round =>
    clear H' Fv;obtain ⟨Ey, ah, rfl, rfl, HA, FH, Co, Be, af, ae, aa, HB⟩ := hrel
    cases gk with
    | zero => exact absurd HA.out (by simp [yx.l2])
    | succ k3 =>
     have H := HA.out;clear HA;simp only [yx.l2] at H
     by_cases c11 : ah < 3
     ·
      rw [if_pos c11] at H;have Gv := decide_eq_true c11;clear c11
      by_cases c12 : 0 ≤ yQ
      ·
       rw [if_pos c12] at H;have Jg := decide_eq_true c12;clear c12
       by_cases c13 : yQ < (BR.length : Int)
       ·
        rw [if_pos c13] at H;have Lh := decide_eq_true c13;clear c13
        by_cases c14 : ah = 0
        ·
         rw [if_pos c14] at H;have Rn := beq_iff_eq.mpr c14
         have Ro : (ah != 0) = false := bne_eq_false_iff_eq.mpr c14
         clear c14
         by_cases c15 : 0 ≤ Cj
         ·
          rw [if_pos c15] at H;have GY := decide_eq_true c15;clear c15
          by_cases c16 : Cj < (BR.length : Int)
          ·
           rw [if_pos c16] at H;have G8 := decide_eq_true c16;clear c16;obtain ⟨Uo, Xy, H⟩ := bE H
           try dsimp only at H
           obtain ⟨WO, A18, H⟩ := bE H
           try dsimp only at H
           have H' := yf.mk H;clear H
           try go_wp2
           replace Co := yf.mk (Kd.Cr Co.out);replace Be := yf.mk (Kd.Cr Be.out);replace af := yf.mk (Kd.IM af.out);replace ae := yf.mk (yZ ae.out);replace aa := yf.mk (yZ aa.out);replace HB := yf.mk (ze HB.out)
           have az : 0 ≤ (yQ : Int) := of_decide_eq_true ‹_›
           have ax : yQ < (BR.length : Int) := of_decide_eq_true ‹_›
           obtain ⟨ag, aJ, aC, aH, aG⟩ := JI (Kd.zt Co.out).2.2 yQ az ax;cases aJ;replace az := eq_true az;replace ax := eq_true ax
           have aZ : 0 ≤ (Cj : Int) := of_decide_eq_true ‹_›
           have aQ : Cj < (BR.length : Int) := of_decide_eq_true ‹_›
           obtain ⟨bQ, bX, bq, bP, bA⟩ := JI (Kd.zt Co.out).2.2 Cj aZ aQ;obtain rfl : ag = bQ := (by injection bX);replace aZ := eq_true aZ;replace aQ := eq_true aQ
           have ai : ah = 0 := of_decide_eq_true ‹_›
           have bN : (0 ≤ (ah : Int)) = True := eq_true (by rw [ai]; decide)
           have bM : ((ah : Int) < 3) = True := eq_true (by rw [ai]; decide)
           have bF : ∀ a : Addr, a.add (ah).toNat = a := fun a => by rw [ai]; rfl
           clear ai
           refine AV (n := 18) (S := fun w' => w'.cell? (ag.add ((yQ).toNat * 3)) = some (.int .i64 ((BA BR yQ).f0)) ∧ w'.cell? ⟨(ag.add ((yQ).toNat * 3)).block, (ag.add ((yQ).toNat * 3)).off + 1, none⟩ = some (.int .i64 ((BA BR yQ).f1)) ∧ w'.cell? ⟨(ag.add ((yQ).toNat * 3)).block, (ag.add ((yQ).toNat * 3)).off + 2, none⟩ = some (.int .i64 ((BA BR yQ).f2)) ∧ w'.cell? (ag.add ((Cj).toNat * 3)) = some (.int .i64 ((BA BR Cj).f0)) ∧ w'.cell? ⟨(ag.add ((Cj).toNat * 3)).block, (ag.add ((Cj).toNat * 3)).off + 1, none⟩ = some (.int .i64 ((BA BR Cj).f1)) ∧ w'.cell? ⟨(ag.add ((Cj).toNat * 3)).block, (ag.add ((Cj).toNat * 3)).off + 2, none⟩ = some (.int .i64 ((BA BR Cj).f2))) (ds := []) (bz 18 0) (by kernel_rfl) rfl rfl ⟨aC, aH, aG, bq, bP, bA⟩ (fun hHeld => ?_); refine zQ yx.JW yx.Ht (fun yD AZ => ?_)
           generalize wr.drew = w19 at Co Be af ae aa HB aC aH aG bq bP bA hHeld ⊢;refine pU 0 31 18 1 yD ?_;refine pU 1 32 18 3 yD ?_;refine pU 2 33 18 7 yD ?_;refine pU 3 34 18 15 yD ?_;refine pU 4 35 18 31 yD ?_;refine pU 5 36 18 63 yD ?_;refine pU 6 37 18 127 yD ?_;refine pU 7 38 18 255 yD ?_;refine pU 9 40 18 767 yD ?_;refine pU 10 41 18 1791 yD ?_;refine pU 11 42 18 3839 yD ?_;refine pU 12 43 18 7935 yD ?_;refine pU 13 44 18 16127 yD ?_
           refine BQ 8 39 18 16383 yD AZ hHeld ?_
           refine BQ 14 45 18 32767 yD AZ hHeld ?_
           refine BP (i := 15) (N := some 46) (bz 18 65535) rfl rfl (Af yD.out (by kernel_rfl)) (by decide) (fun K hK => ?_)
           refine gO Try.func59 #[.int .i64 a0, .int .i64 ((BA BR yQ).f0), .int .i64 ((BA BR Cj).f0)] ?_
           with_reducible refine (yu.calls k3 a0 ((BA BR yQ).f0) ((BA BR Cj).f0) Uo _ Xy.out).mono ?_
           rintro e w20 ⟨rfl, hb⟩;have aA := (hb.cell (World.block_lt_of_cell? _ _ (hHeld.1))).trans (hHeld.1);have ak := (hb.cell (World.block_lt_of_cell? _ _ (hHeld.2.1))).trans (hHeld.2.1);have av := (hb.cell (World.block_lt_of_cell? _ _ (hHeld.2.2.1))).trans (hHeld.2.2.1);have au := (hb.cell (World.block_lt_of_cell? _ _ (hHeld.2.2.2.1))).trans (hHeld.2.2.2.1);have JK := (hb.cell (World.block_lt_of_cell? _ _ (hHeld.2.2.2.2.1))).trans (hHeld.2.2.2.2.1);have ay := (hb.cell (World.block_lt_of_cell? _ _ (hHeld.2.2.2.2.2))).trans (hHeld.2.2.2.2.2)
           refine ⟨_, rfl, ?_⟩
           replace Co := BN Co hb;replace Be := BN Be hb;replace af := H9 af hb;replace ae := bB ae hb;replace aa := bB aa hb;replace HB := bS HB hb;clear hb
           refine hK.out _ _ ⟨aA, ak, av, au, JK, ay⟩ (fun hHeld => ?_)
           clear hK K
           refine Aj (a' := ?_) ?_ ?_
           rotate_left
           ·
            show Act.put _ (some 46) _ = _
            simp only [pz]
            rfl
           refine BP (i := 16) (N := some 47) (bz 18 131071) rfl rfl (Af yD.out (by kernel_rfl)) (by decide) (fun K hK => ?_)
           refine gO Try.func58 #[.int .i64 a0, .int .i64 Ey, .int .i64 Uo] ?_
           with_reducible refine (za.calls k3 a0 Ey Uo WO _ A18.out).mono ?_
           rintro e w21 ⟨rfl, hb⟩;have aA := (hb.cell (World.block_lt_of_cell? _ _ (hHeld.1))).trans (hHeld.1);have ak := (hb.cell (World.block_lt_of_cell? _ _ (hHeld.2.1))).trans (hHeld.2.1);have av := (hb.cell (World.block_lt_of_cell? _ _ (hHeld.2.2.1))).trans (hHeld.2.2.1);have au := (hb.cell (World.block_lt_of_cell? _ _ (hHeld.2.2.2.1))).trans (hHeld.2.2.2.1);have JK := (hb.cell (World.block_lt_of_cell? _ _ (hHeld.2.2.2.2.1))).trans (hHeld.2.2.2.2.1);have ay := (hb.cell (World.block_lt_of_cell? _ _ (hHeld.2.2.2.2.2))).trans (hHeld.2.2.2.2.2)
           refine ⟨_, rfl, ?_⟩
           replace Co := BN Co hb;replace Be := BN Be hb;replace af := H9 af hb;replace ae := bB ae hb;replace aa := bB aa hb;replace HB := bS HB hb;clear hb
           refine hK.out _ _ ⟨aA, ak, av, au, JK, ay⟩ (fun hHeld => ?_)
           clear hK K
           refine Aj (a' := ?_) ?_ ?_
           rotate_left
           ·
            show Act.put _ (some 47) _ = _
            simp only [pz]
            rfl
           refine pU 17 8 18 262143 yD ?_
           refine BI (Az yD.out (by kernel_rfl)) ?_
           try go_wp2
           go_roundg k3
           case measure => have := BZ.out; have := DU.out; have := FH.out; omega
           case rel => exact ⟨(WO), (wrap64 (ah + 1)), (by rfl), (by rfl), H', ⟨by have := BZ.out; have := DU.out; have := FH.out; omega⟩, ⟨kR Co⟩, ⟨kR Be⟩, ⟨kS af⟩, ⟨kk ae⟩, ⟨kk aa⟩, ⟨bO HB⟩⟩
          ·
           rw [if_neg c16] at H;exact absurd H (by simp)
         ·
          rw [if_neg c15] at H;exact absurd H (by simp)
        ·
         rw [if_neg c14] at H;have Rn := beq_eq_false_iff_ne.mpr c14;have Ro := bne_iff_ne.mpr c14
         by_cases Ha : ah = 1
         ·
          rw [if_pos Ha] at H;have IB := beq_iff_eq.mpr Ha
          have dm : (ah != 1) = false := bne_eq_false_iff_eq.mpr Ha
          clear Ha
          by_cases c23 : 0 ≤ Cj
          ·
           rw [if_pos c23] at H;have OG := decide_eq_true c23;clear c23
           by_cases c24 : Cj < (BR.length : Int)
           ·
            rw [if_pos c24] at H;have Ls := decide_eq_true c24;clear c24;obtain ⟨Uq, Xz, H⟩ := bE H
            try dsimp only at H
            obtain ⟨WP, cO, H⟩ := bE H
            try dsimp only at H
            have H' := yf.mk H;clear H
            try go_wp2
            replace Co := yf.mk (Kd.Cr Co.out);replace Be := yf.mk (Kd.Cr Be.out);replace af := yf.mk (Kd.IM af.out);replace ae := yf.mk (yZ ae.out);replace aa := yf.mk (yZ aa.out);replace HB := yf.mk (ze HB.out)
            have az : 0 ≤ (yQ : Int) := of_decide_eq_true ‹_›
            have ax : yQ < (BR.length : Int) := of_decide_eq_true ‹_›
            obtain ⟨ag, aJ, aC, aH, aG⟩ := JI (Kd.zt Co.out).2.2 yQ az ax;cases aJ;replace az := eq_true az;replace ax := eq_true ax
            have aV : 0 ≤ (Cj : Int) := of_decide_eq_true ‹_›
            have aT : Cj < (BR.length : Int) := of_decide_eq_true ‹_›
            obtain ⟨bT, bY, bL, bv, bJ⟩ := JI (Kd.zt Co.out).2.2 Cj aV aT;obtain rfl : ag = bT := (by injection bY);replace aV := eq_true aV;replace aT := eq_true aT
            have ai : ah = 1 := of_decide_eq_true ‹_›
            have bN : (0 ≤ (ah : Int)) = True := eq_true (by rw [ai]; decide)
            have bM : ((ah : Int) < 3) = True := eq_true (by rw [ai]; decide)
            have bF : ∀ a : Addr, a.add (ah).toNat = ⟨a.block, a.off + 1, none⟩ := fun a => by rw [ai]; rfl
            clear ai
            refine AV (n := 18) (S := fun w' => w'.cell? (ag.add ((yQ).toNat * 3)) = some (.int .i64 ((BA BR yQ).f0)) ∧ w'.cell? ⟨(ag.add ((yQ).toNat * 3)).block, (ag.add ((yQ).toNat * 3)).off + 1, none⟩ = some (.int .i64 ((BA BR yQ).f1)) ∧ w'.cell? ⟨(ag.add ((yQ).toNat * 3)).block, (ag.add ((yQ).toNat * 3)).off + 2, none⟩ = some (.int .i64 ((BA BR yQ).f2)) ∧ w'.cell? (ag.add ((Cj).toNat * 3)) = some (.int .i64 ((BA BR Cj).f0)) ∧ w'.cell? ⟨(ag.add ((Cj).toNat * 3)).block, (ag.add ((Cj).toNat * 3)).off + 1, none⟩ = some (.int .i64 ((BA BR Cj).f1)) ∧ w'.cell? ⟨(ag.add ((Cj).toNat * 3)).block, (ag.add ((Cj).toNat * 3)).off + 2, none⟩ = some (.int .i64 ((BA BR Cj).f2))) (ds := []) (bz 18 0) (by kernel_rfl) rfl rfl ⟨aC, aH, aG, bL, bv, bJ⟩ (fun hHeld => ?_); refine zQ yx.JW yx.Ht (fun yD AZ => ?_)
            generalize wr.drew = w27 at Co Be af ae aa HB aC aH aG bL bv bJ hHeld ⊢;refine pU 0 31 18 1 yD ?_;refine pU 1 32 18 3 yD ?_;refine pU 2 33 18 7 yD ?_;refine pU 3 34 18 15 yD ?_;refine pU 4 35 18 31 yD ?_;refine pU 5 36 18 63 yD ?_;refine pU 6 37 18 127 yD ?_;refine pU 7 38 18 255 yD ?_;refine pU 9 40 18 767 yD ?_;refine pU 10 41 18 1791 yD ?_;refine pU 11 42 18 3839 yD ?_;refine pU 12 43 18 7935 yD ?_;refine pU 13 44 18 16127 yD ?_
            refine BQ 8 39 18 16383 yD AZ hHeld ?_
            refine BQ 14 45 18 32767 yD AZ hHeld ?_
            refine BP (i := 15) (N := some 46) (bz 18 65535) rfl rfl (Af yD.out (by kernel_rfl)) (by decide) (fun K hK => ?_)
            refine gO Try.func59 #[.int .i64 a0, .int .i64 ((BA BR yQ).f1), .int .i64 ((BA BR Cj).f1)] ?_
            with_reducible refine (yu.calls k3 a0 ((BA BR yQ).f1) ((BA BR Cj).f1) Uq _ Xz.out).mono ?_
            rintro e w28 ⟨rfl, hb⟩;have aA := (hb.cell (World.block_lt_of_cell? _ _ (hHeld.1))).trans (hHeld.1);have ak := (hb.cell (World.block_lt_of_cell? _ _ (hHeld.2.1))).trans (hHeld.2.1);have av := (hb.cell (World.block_lt_of_cell? _ _ (hHeld.2.2.1))).trans (hHeld.2.2.1);have au := (hb.cell (World.block_lt_of_cell? _ _ (hHeld.2.2.2.1))).trans (hHeld.2.2.2.1);have JK := (hb.cell (World.block_lt_of_cell? _ _ (hHeld.2.2.2.2.1))).trans (hHeld.2.2.2.2.1);have ay := (hb.cell (World.block_lt_of_cell? _ _ (hHeld.2.2.2.2.2))).trans (hHeld.2.2.2.2.2)
            refine ⟨_, rfl, ?_⟩
            replace Co := BN Co hb;replace Be := BN Be hb;replace af := H9 af hb;replace ae := bB ae hb;replace aa := bB aa hb;replace HB := bS HB hb;clear hb
            refine hK.out _ _ ⟨aA, ak, av, au, JK, ay⟩ (fun hHeld => ?_)
            clear hK K
            refine Aj (a' := ?_) ?_ ?_
            rotate_left
            ·
             show Act.put _ (some 46) _ = _
             simp only [pz]
             rfl
            refine BP (i := 16) (N := some 47) (bz 18 131071) rfl rfl (Af yD.out (by kernel_rfl)) (by decide) (fun K hK => ?_)
            refine gO Try.func58 #[.int .i64 a0, .int .i64 Ey, .int .i64 Uq] ?_
            with_reducible refine (za.calls k3 a0 Ey Uq WP _ cO.out).mono ?_
            rintro e w29 ⟨rfl, hb⟩;have aA := (hb.cell (World.block_lt_of_cell? _ _ (hHeld.1))).trans (hHeld.1);have ak := (hb.cell (World.block_lt_of_cell? _ _ (hHeld.2.1))).trans (hHeld.2.1);have av := (hb.cell (World.block_lt_of_cell? _ _ (hHeld.2.2.1))).trans (hHeld.2.2.1);have au := (hb.cell (World.block_lt_of_cell? _ _ (hHeld.2.2.2.1))).trans (hHeld.2.2.2.1);have JK := (hb.cell (World.block_lt_of_cell? _ _ (hHeld.2.2.2.2.1))).trans (hHeld.2.2.2.2.1);have ay := (hb.cell (World.block_lt_of_cell? _ _ (hHeld.2.2.2.2.2))).trans (hHeld.2.2.2.2.2)
            refine ⟨_, rfl, ?_⟩
            replace Co := BN Co hb;replace Be := BN Be hb;replace af := H9 af hb;replace ae := bB ae hb;replace aa := bB aa hb;replace HB := bS HB hb;clear hb
            refine hK.out _ _ ⟨aA, ak, av, au, JK, ay⟩ (fun hHeld => ?_)
            clear hK K
            refine Aj (a' := ?_) ?_ ?_
            rotate_left
            ·
             show Act.put _ (some 47) _ = _
             simp only [pz]
             rfl
            refine pU 17 8 18 262143 yD ?_
            refine BI (Az yD.out (by kernel_rfl)) ?_
            try go_wp2
            go_roundg k3
            case measure => have := BZ.out; have := DU.out; have := FH.out; omega
            case rel => exact ⟨(WP), (wrap64 (ah + 1)), (by rfl), (by rfl), H', ⟨by have := BZ.out; have := DU.out; have := FH.out; omega⟩, ⟨kR Co⟩, ⟨kR Be⟩, ⟨kS af⟩, ⟨kk ae⟩, ⟨kk aa⟩, ⟨bO HB⟩⟩
           ·
            rw [if_neg c24] at H;exact absurd H (by simp)
          ·
           rw [if_neg c23] at H;exact absurd H (by simp)
         ·
          rw [if_neg Ha] at H;have IB := beq_eq_false_iff_ne.mpr Ha;have dm := bne_iff_ne.mpr Ha
          by_cases Qd : ah = 2
          ·
           rw [if_pos Qd] at H;have Xo := beq_iff_eq.mpr Qd
           have dB : (ah != 2) = false := bne_eq_false_iff_eq.mpr Qd
           clear Qd
           by_cases c31 : 0 ≤ Cj
           ·
            rw [if_pos c31] at H;have MO := decide_eq_true c31;clear c31
            by_cases c32 : Cj < (BR.length : Int)
            ·
             rw [if_pos c32] at H;have OA := decide_eq_true c32;clear c32;obtain ⟨Ur, bW, H⟩ := bE H
             try dsimp only at H
             obtain ⟨WQ, cZ, H⟩ := bE H
             try dsimp only at H
             have H' := yf.mk H;clear H
             try go_wp2
             replace Co := yf.mk (Kd.Cr Co.out);replace Be := yf.mk (Kd.Cr Be.out);replace af := yf.mk (Kd.IM af.out);replace ae := yf.mk (yZ ae.out);replace aa := yf.mk (yZ aa.out);replace HB := yf.mk (ze HB.out)
             have az : 0 ≤ (yQ : Int) := of_decide_eq_true ‹_›
             have ax : yQ < (BR.length : Int) := of_decide_eq_true ‹_›
             obtain ⟨ag, aJ, aC, aH, aG⟩ := JI (Kd.zt Co.out).2.2 yQ az ax;cases aJ;replace az := eq_true az;replace ax := eq_true ax
             have bn : 0 ≤ (Cj : Int) := of_decide_eq_true ‹_›
             have aW : Cj < (BR.length : Int) := of_decide_eq_true ‹_›
             obtain ⟨cz, d9, bD, bI, bH⟩ := JI (Kd.zt Co.out).2.2 Cj bn aW;obtain rfl : ag = cz := (by injection d9);replace bn := eq_true bn;replace aW := eq_true aW
             have ai : ah = 2 := of_decide_eq_true ‹_›
             have bN : (0 ≤ (ah : Int)) = True := eq_true (by rw [ai]; decide)
             have bM : ((ah : Int) < 3) = True := eq_true (by rw [ai]; decide)
             have bF : ∀ a : Addr, a.add (ah).toNat = ⟨a.block, a.off + 2, none⟩ := fun a => by rw [ai]; rfl
             clear ai
             refine AV (n := 18) (S := fun w' => w'.cell? (ag.add ((yQ).toNat * 3)) = some (.int .i64 ((BA BR yQ).f0)) ∧ w'.cell? ⟨(ag.add ((yQ).toNat * 3)).block, (ag.add ((yQ).toNat * 3)).off + 1, none⟩ = some (.int .i64 ((BA BR yQ).f1)) ∧ w'.cell? ⟨(ag.add ((yQ).toNat * 3)).block, (ag.add ((yQ).toNat * 3)).off + 2, none⟩ = some (.int .i64 ((BA BR yQ).f2)) ∧ w'.cell? (ag.add ((Cj).toNat * 3)) = some (.int .i64 ((BA BR Cj).f0)) ∧ w'.cell? ⟨(ag.add ((Cj).toNat * 3)).block, (ag.add ((Cj).toNat * 3)).off + 1, none⟩ = some (.int .i64 ((BA BR Cj).f1)) ∧ w'.cell? ⟨(ag.add ((Cj).toNat * 3)).block, (ag.add ((Cj).toNat * 3)).off + 2, none⟩ = some (.int .i64 ((BA BR Cj).f2))) (ds := []) (bz 18 0) (by kernel_rfl) rfl rfl ⟨aC, aH, aG, bD, bI, bH⟩ (fun hHeld => ?_); refine zQ yx.JW yx.Ht (fun yD AZ => ?_)
             generalize wr.drew = w35 at Co Be af ae aa HB aC aH aG bD bI bH hHeld ⊢;refine pU 0 31 18 1 yD ?_;refine pU 1 32 18 3 yD ?_;refine pU 2 33 18 7 yD ?_;refine pU 3 34 18 15 yD ?_;refine pU 4 35 18 31 yD ?_;refine pU 5 36 18 63 yD ?_;refine pU 6 37 18 127 yD ?_;refine pU 7 38 18 255 yD ?_;refine pU 9 40 18 767 yD ?_;refine pU 10 41 18 1791 yD ?_;refine pU 11 42 18 3839 yD ?_;refine pU 12 43 18 7935 yD ?_;refine pU 13 44 18 16127 yD ?_
             refine BQ 8 39 18 16383 yD AZ hHeld ?_
             refine BQ 14 45 18 32767 yD AZ hHeld ?_
             refine BP (i := 15) (N := some 46) (bz 18 65535) rfl rfl (Af yD.out (by kernel_rfl)) (by decide) (fun K hK => ?_)
             refine gO Try.func59 #[.int .i64 a0, .int .i64 ((BA BR yQ).f2), .int .i64 ((BA BR Cj).f2)] ?_
             with_reducible refine (yu.calls k3 a0 ((BA BR yQ).f2) ((BA BR Cj).f2) Ur _ bW.out).mono ?_
             rintro e w36 ⟨rfl, hb⟩;have aA := (hb.cell (World.block_lt_of_cell? _ _ (hHeld.1))).trans (hHeld.1);have ak := (hb.cell (World.block_lt_of_cell? _ _ (hHeld.2.1))).trans (hHeld.2.1);have av := (hb.cell (World.block_lt_of_cell? _ _ (hHeld.2.2.1))).trans (hHeld.2.2.1);have au := (hb.cell (World.block_lt_of_cell? _ _ (hHeld.2.2.2.1))).trans (hHeld.2.2.2.1);have JK := (hb.cell (World.block_lt_of_cell? _ _ (hHeld.2.2.2.2.1))).trans (hHeld.2.2.2.2.1);have ay := (hb.cell (World.block_lt_of_cell? _ _ (hHeld.2.2.2.2.2))).trans (hHeld.2.2.2.2.2)
             refine ⟨_, rfl, ?_⟩
             replace Co := BN Co hb;replace Be := BN Be hb;replace af := H9 af hb;replace ae := bB ae hb;replace aa := bB aa hb;replace HB := bS HB hb;clear hb
             refine hK.out _ _ ⟨aA, ak, av, au, JK, ay⟩ (fun hHeld => ?_)
             clear hK K
             refine Aj (a' := ?_) ?_ ?_
             rotate_left
             ·
              show Act.put _ (some 46) _ = _
              simp only [pz]
              rfl
             refine BP (i := 16) (N := some 47) (bz 18 131071) rfl rfl (Af yD.out (by kernel_rfl)) (by decide) (fun K hK => ?_)
             refine gO Try.func58 #[.int .i64 a0, .int .i64 Ey, .int .i64 Ur] ?_
             with_reducible refine (za.calls k3 a0 Ey Ur WQ _ cZ.out).mono ?_
             rintro e w37 ⟨rfl, hb⟩;have aA := (hb.cell (World.block_lt_of_cell? _ _ (hHeld.1))).trans (hHeld.1);have ak := (hb.cell (World.block_lt_of_cell? _ _ (hHeld.2.1))).trans (hHeld.2.1);have av := (hb.cell (World.block_lt_of_cell? _ _ (hHeld.2.2.1))).trans (hHeld.2.2.1);have au := (hb.cell (World.block_lt_of_cell? _ _ (hHeld.2.2.2.1))).trans (hHeld.2.2.2.1);have JK := (hb.cell (World.block_lt_of_cell? _ _ (hHeld.2.2.2.2.1))).trans (hHeld.2.2.2.2.1);have ay := (hb.cell (World.block_lt_of_cell? _ _ (hHeld.2.2.2.2.2))).trans (hHeld.2.2.2.2.2)
             refine ⟨_, rfl, ?_⟩
             replace Co := BN Co hb;replace Be := BN Be hb;replace af := H9 af hb;replace ae := bB ae hb;replace aa := bB aa hb;replace HB := bS HB hb;clear hb
             refine hK.out _ _ ⟨aA, ak, av, au, JK, ay⟩ (fun hHeld => ?_)
             clear hK K
             refine Aj (a' := ?_) ?_ ?_
             rotate_left
             ·
              show Act.put _ (some 47) _ = _
              simp only [pz]
              rfl
             refine pU 17 8 18 262143 yD ?_
             refine BI (Az yD.out (by kernel_rfl)) ?_
             try go_wp2
             go_roundg k3
             case measure => have := BZ.out; have := DU.out; have := FH.out; omega
             case rel => exact ⟨(WQ), (wrap64 (ah + 1)), (by rfl), (by rfl), H', ⟨by have := BZ.out; have := DU.out; have := FH.out; omega⟩, ⟨kR Co⟩, ⟨kR Be⟩, ⟨kS af⟩, ⟨kk ae⟩, ⟨kk aa⟩, ⟨bO HB⟩⟩
            ·
             rw [if_neg c32] at H;exact absurd H (by simp)
           ·
            rw [if_neg c31] at H;exact absurd H (by simp)
          ·
           rw [if_neg Qd] at H;exact absurd H (by simp)
       ·
        rw [if_neg c13] at H;exact absurd H (by simp)
      ·
       rw [if_neg c12] at H;exact absurd H (by simp)
     ·
      rw [if_neg c11] at H;have Gv := decide_eq_false c11;clear c11
      by_cases Jh : Ey = 0
      ·
       rw [if_pos Jh] at H;have MP := beq_iff_eq.mpr Jh
       have bU : (Ey != 0) = false := bne_eq_false_iff_eq.mpr Jh
       clear Jh
       by_cases Jl : CQ.length < 17592186044416
       ·
        rw [if_pos Jl] at H;have dn := yf.mk Jl;clear Jl;obtain ⟨bu, bg⟩ : ∃ y_ : List Int, y_ = (CQ ++ [Cj]) := ⟨_, rfl⟩
        replace H : (yx.l1 k3 a0 BR yQ bu (wrap64 (Cj + 1)) (BR.length : Int) aj) = some (r1, r2) := by (rw [bg]; with_reducible exact H)
        have cK := yf.mk bg;clear bg;have H' := yf.mk H;clear H
        go_wp2_with (((with_reducible refine Bz (b := .append) (xs := #[.tmp 50, .tmp 52]) rfl ?_); at_builtin; refine Kd.El (Kd.int .i64) (w0 := w) w.heap.size rfl (.tmp 50) (.tmp 52) 63 3 (.int .i64 0) 8 rfl Try.underlying63 info3 rfl (by decide) (by omega) u6 CQ Cj [.int .i64 Cj] (fun _ => True) (fun _ => False) rfl rfl ?aP (fun _ hk => hk.elim) ?aF ?aO ?aB ?aS ?aL ?_; (case aP => exact rfl); (case aB => exact (bO HB)); (case aF => exact (fun _ _ => trivial)); (case aO => exact (kR Be)); (case aS => exact (yJ (bO HB))); (case aL => have := dn.out; omega); intro v452 w40 ho hb hg hat; rw [← cK.out] at ho; have Bt := yf.mk (Kd.Nz (kR Co) (Kd.KM (kR Be)) (by decide) hg); have Bu := yf.mk (Kd.KO (ok := (fun _ => True)) (by (with_reducible repeat (apply Kd.Bb)); exact Kd.Bw af.out (fun _ hk => ⟨trivial, hk⟩)) hg hat); have BJ := yf.mk (Aa (g := aI) (o := .cells #[.int .i64 0, .slice none 0 0] 29 (0, 0)) (kk ae) hg (Kd.Dx Be.out ae.out (by decide))); have Cs := yf.mk (Aa (g := aD) (o := .cells #[.int .i64 (BR.length : Int), u438001] 29 (0, 0)) (kk aa) hg (Kd.Dx Be.out aa.out (by decide))); have CJ := yf.mk (hb); have Db := yf.mk (ho); clear Co; clear af; clear ae; clear aa; clear HB; clear Be; have Co := Bt; have af := Bu; have ae := BJ; have aa := Cs; have HB := CJ; have bZ := Db; clear Bt Bu BJ Cs CJ Db; clear ho hb hg hat))
        go_roundg k3
        case measure => have := BZ.out; have := DU.out; have := FH.out; omega
        case rel => exact ⟨(bu), (wrap64 (Cj + 1)), (by rfl), H', ⟨by have := BZ.out; have := DU.out; have := FH.out; omega⟩, ⟨kR Co⟩, ⟨kR bZ⟩, ⟨by (with_reducible repeat (apply Kd.Bb)); exact Kd.Bw af.out (fun _ hk => hk.2)⟩, ⟨kk ae⟩, ⟨kk aa⟩, ⟨bO HB⟩⟩
       ·
        rw [if_neg Jl] at H;exact absurd H (by simp)
      ·
       rw [if_neg Jh] at H;have MP := beq_eq_false_iff_ne.mpr Jh;have bU := bne_iff_ne.mpr Jh;have H' := yf.mk H;clear H
       go_wp2
       go_roundg k3
       case measure => have := BZ.out; have := DU.out; have := FH.out; omega
       case rel => exact ⟨(CQ), (wrap64 (Cj + 1)), (by rfl), H', ⟨by have := BZ.out; have := DU.out; have := FH.out; omega⟩, ⟨kR Co⟩, ⟨kR Be⟩, ⟨kS af⟩, ⟨kk ae⟩, ⟨kk aa⟩, ⟨bO HB⟩⟩
  ·
   rw [if_neg c10] at H;have Fv := decide_eq_false c10;clear c10
   by_cases Mr : aj.length < 5864062014805
   ·
    rw [if_pos Mr] at H;have di := yf.mk Mr;clear Mr;obtain ⟨aY, bi⟩ : ∃ y_ : List (List Int), y_ = (aj ++ [CQ]) := ⟨_, rfl⟩
    replace H : (yx.l0 k2 a0 BR (wrap64 (yQ + 1)) (BR.length : Int) aY) = some (r1, r2) := by (rw [bi]; with_reducible exact H)
    have bV := yf.mk bi;clear bi;have H' := yf.mk H;clear H;have a0P := aX.out;have a0Q := aN.out;have XA := bc2 aa;have XB := bf aa;obtain ⟨WR, Uu, Uv⟩ := Kd.zX Be.out;subst Uv
    go_wp2_with (((with_reducible refine Bz (b := .append) (xs := #[.tmp 55, .tmp 57]) rfl ?_); at_builtin; refine Kd.TW (Kd.slice 3 (Kd.int .i64)) (w0 := w) w.heap.size rfl (.tmp 55) (.tmp 57) 27 63 (.slice none 0 0) 24 rfl Try.underlying27 NK rfl (by decide) (by omega) u438001 aj CQ [.slice WR CQ.length Uu] (fun _ => True) (fun k_ => some k_ = (.slice WR CQ.length Uu : Value).ownBlock) rfl rfl ?aP (fun k_ BG => ((Kd.zb (ok' := fun k_ => ((fun _ => True)) k_ ∧ some k_ ≠ (u438001 : Value).ownBlock) (Kd.J7 (Be.out) (Kd.Ik af.out) (by decide)) (fun k_ hk => ⟨trivial, hk.2⟩))).1 k_ BG.symm) ?aF ?aO ?aB ?aS ?aL ?_; (case aP => exact Kd.R4 (Kd.zb (Kd.Fx rfl (Kd.zb (ok' := fun k_ => ((fun _ => True)) k_ ∧ some k_ ≠ (u438001 : Value).ownBlock) (Kd.J7 (Be.out) (Kd.Ik af.out) (by decide)) (fun k_ hk => ⟨trivial, hk.2⟩))) (fun _ h_ => h_))); (case aB => exact (bO HB)); (case aF => exact (fun _ _ => trivial)); (case aO => exact (by (with_reducible repeat (apply Kd.Bb)); exact Kd.Bw af.out (fun k_ hk => ⟨trivial, fun e_ => hk e_⟩))); (case aS => exact (yJ (bO HB))); (case aL => have := di.out; omega); intro v439 w44 ho hb hg hat; rw [← bV.out] at ho; have Bt := yf.mk (Kd.Nz (kR Co) (Kd.Ik (kS af)) (by decide) hg); have Bu := yf.mk (Aa (g := aI) (o := .cells #[.int .i64 0, .slice none 0 0] 29 (0, 0)) (kk ae) hg (Kd.Wx af.out ae.out (by decide))); have BJ := yf.mk (Aa (g := aD) (o := .cells #[.int .i64 (BR.length : Int), u438001] 29 (0, 0)) (kk aa) hg (Kd.Wx af.out aa.out (by decide))); have Cs := yf.mk (hb); have CJ := yf.mk (ho); clear Co; clear ae; clear aa; clear HB; clear af; clear Be; have Co := Bt; have ae := Bu; have aa := BJ; have HB := Cs; have bC := CJ; clear Bt Bu BJ Cs CJ; clear ho hb hg hat; obtain ⟨bR, cu, df⟩ := Kd.Es bC.out; subst df; have Uw := bc2 aa; have Ux := bf aa))
    go_roundg k2
    case measure => have := BZ.out; have := DU.out; omega
    case rel => exact ⟨(wrap64 (yQ + 1)), (aY), (.slice bR aY.length cu), (by rfl), H', ⟨by have := BZ.out; have := DU.out; omega⟩, ⟨by (with_reducible repeat (apply Kd.zl)); exact Kd.zb (GG (g := aD) (Kd.AU Co.out aa.out (by decide)) (fun _ hk => hk.2)) (fun _ hk => trivial)⟩, ⟨by (with_reducible repeat (apply Kd.Bb)); exact Kd.Bw (Lc (g := aD) (Kd.BD bC.out aa.out (by decide)) (fun _ hk => hk.2)) (fun _ hk => trivial)⟩, bK ae rfl, bK aa rfl, ⟨bO HB⟩⟩
   ·
    rw [if_neg Mr] at H;exact absurd H (by simp)
end Go.Proofs.Ytjonnfmoocijlaa.P
