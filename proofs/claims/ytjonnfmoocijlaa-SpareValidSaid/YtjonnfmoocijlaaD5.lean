/- Texts of a claim, packed. -/
import Derived.Test.YtjonnfmoocijlaaD4
set_option linter.all false
namespace Go.Proofs.Ytjonnfmoocijlaa.P
open Go.RowKit Go.Proofs.YtjonnfmoocijlaaKW.PrintWords Go.Proofs.YtjonnfmoocijlaaKW.PrintLast Go.Proofs.YtjonnfmoocijlaaKW.PrintMore
attribute [local go_sem] zz zA zS zT zn zo zB zC
mutual
def ym.l0 : Nat → Int → Int → List Int → Int → Int → Option (Int × (List (List Int)))
 | 0, _, _, _, _, _ => none
 | k + 1, x0, x1, x6, x7, aa => if x7 < x1 then (if 0 ≤ x7 then (if x7 < (x6.length : Int) then (ym.l0 k x0 x1 (x6.set (x7 : Int).toNat x7) (wrap64 (x7 + 1)) aa) else (none)) else (none)) else (ym.l1 k x0 x1 x6 aa ([] : List (List Int)))
def ym.l1 : Nat → Int → Int → List Int → Int → List (List Int) → Option (Int × (List (List Int)))
 | 0, _, _, _, _, _ => none
 | k + 1, x0, x1, x6, aa, ae => (some (([] : List Int) : List Int)).bind fun Ow => (if Ow.length + x6.length < 17592186044416 then (if ae.length < 5864062014805 then (ym.l2 k x0 x1 x6 (wrap64 (x1 - 1)) aa (ae ++ [(Ow ++ x6)])) else (none)) else (none))
def ym.j3 : Nat → Int → Int → List Int → Int → Int → List (List Int) → Option (Int × (List (List Int)))
 | 0, _, _, _, _, _, _ => none
 | k + 1, x0, x1, x6, x8, aa, ae => if x8 < 0 then (some (aa, ae)) else (if 0 ≤ x8 then (if x8 < (x6.length : Int) then (ym.l3 k x0 x1 (x6.set (x8 : Int).toNat (wrap64 ((rd x6 x8) + 1))) (wrap64 (x8 + 1)) aa ae) else (none)) else (none))
def ym.l3 : Nat → Int → Int → List Int → Int → Int → List (List Int) → Option (Int × (List (List Int)))
 | 0, _, _, _, _, _, _ => none
 | k + 1, x0, x1, x6, x9, aa, ae => if x9 < x1 then (if 0 ≤ (wrap64 (x9 - 1)) then (if (wrap64 (x9 - 1)) < (x6.length : Int) then (if 0 ≤ x9 then (if x9 < (x6.length : Int) then (ym.l3 k x0 x1 (x6.set (x9 : Int).toNat (wrap64 ((rd x6 (wrap64 (x9 - 1))) + 1))) (wrap64 (x9 + 1)) aa ae) else (none)) else (none)) else (none)) else (none)) else (ym.l1 k x0 x1 x6 aa ae)
def ym.l2 : Nat → Int → Int → List Int → Int → Int → List (List Int) → Option (Int × (List (List Int)))
 | 0, _, _, _, _, _, _ => none
 | k + 1, x0, x1, x6, x8, aa, ae => if x8 ≥ 0 then (if 0 ≤ x8 then (if x8 < (x6.length : Int) then (if (rd x6 x8) = (wrap64 ((wrap64 (x0 - x1)) + x8)) then (ym.l2 k x0 x1 x6 (wrap64 (x8 - 1)) aa ae) else (ym.j3 k x0 x1 x6 x8 aa ae)) else (none)) else (none)) else (ym.j3 k x0 x1 x6 x8 aa ae)
end
def ym.f (k : Nat) (a0 : Int) (a1 : Int) : Option (Int × (List (List Int))) := if 0 ≤ a1 then (if (a1 : Int).toNat ≤ 35184372088832 then (ym.l0 k a0 a1 (List.replicate (a1 : Int).toNat 0) 0 a0) else (none)) else (none)
theorem ym.mono_l : ∀ k, (∀ y0 y1 y2 y3 y4, zZ (ym.l0 k y0 y1 y2 y3 y4) (ym.l0 (k + 1) y0 y1 y2 y3 y4)) ∧ (∀ y0 y1 y2 y3 y4, zZ (ym.l1 k y0 y1 y2 y3 y4) (ym.l1 (k + 1) y0 y1 y2 y3 y4)) ∧ (∀ y0 y1 y2 y3 y4 y5, zZ (ym.j3 k y0 y1 y2 y3 y4 y5) (ym.j3 (k + 1) y0 y1 y2 y3 y4 y5)) ∧ (∀ y0 y1 y2 y3 y4 y5, zZ (ym.l3 k y0 y1 y2 y3 y4 y5) (ym.l3 (k + 1) y0 y1 y2 y3 y4 y5)) ∧ (∀ y0 y1 y2 y3 y4 y5, zZ (ym.l2 k y0 y1 y2 y3 y4 y5) (ym.l2 (k + 1) y0 y1 y2 y3 y4 y5))
 | 0 => ⟨fun _ _ _ _ _ r h => by simp [ym.l0] at h, fun _ _ _ _ _ r h => by simp [ym.l1] at h, fun _ _ _ _ _ _ r h => by simp [ym.j3] at h, fun _ _ _ _ _ _ r h => by simp [ym.l3] at h, fun _ _ _ _ _ _ r h => by simp [ym.l2] at h⟩
 | k + 1 => by
  obtain ⟨DN, ih1, ih2, ih3, PN⟩ := ym.mono_l k
  refine ⟨?_, ?_, ?_, ?_, ?_⟩
  ·
   intro y0 y1 y2 y3 y4
   unfold ym.l0
   repeat' first
   | exact DN _ _ _ _ _
   | exact ih1 _ _ _ _ _
   | exact ih2 _ _ _ _ _ _
   | exact ih3 _ _ _ _ _ _
   | exact PN _ _ _ _ _ _
   | exact zZ.refl _
   | exact zZ.none _
   | refine zZ.ite ?_ ?_
   | refine zZ.bind ?_ (fun _ => ?_)
  ·
   intro y0 y1 y2 y3 y4
   unfold ym.l1
   repeat' first
   | exact DN _ _ _ _ _
   | exact ih1 _ _ _ _ _
   | exact ih2 _ _ _ _ _ _
   | exact ih3 _ _ _ _ _ _
   | exact PN _ _ _ _ _ _
   | exact zZ.refl _
   | exact zZ.none _
   | refine zZ.ite ?_ ?_
   | refine zZ.bind ?_ (fun _ => ?_)
  ·
   intro y0 y1 y2 y3 y4 y5
   unfold ym.j3
   repeat' first
   | exact DN _ _ _ _ _
   | exact ih1 _ _ _ _ _
   | exact ih2 _ _ _ _ _ _
   | exact ih3 _ _ _ _ _ _
   | exact PN _ _ _ _ _ _
   | exact zZ.refl _
   | exact zZ.none _
   | refine zZ.ite ?_ ?_
   | refine zZ.bind ?_ (fun _ => ?_)
  ·
   intro y0 y1 y2 y3 y4 y5
   unfold ym.l3
   repeat' first
   | exact DN _ _ _ _ _
   | exact ih1 _ _ _ _ _
   | exact ih2 _ _ _ _ _ _
   | exact ih3 _ _ _ _ _ _
   | exact PN _ _ _ _ _ _
   | exact zZ.refl _
   | exact zZ.none _
   | refine zZ.ite ?_ ?_
   | refine zZ.bind ?_ (fun _ => ?_)
  ·
   intro y0 y1 y2 y3 y4 y5
   unfold ym.l2
   repeat' first
   | exact DN _ _ _ _ _
   | exact ih1 _ _ _ _ _
   | exact ih2 _ _ _ _ _ _
   | exact ih3 _ _ _ _ _ _
   | exact PN _ _ _ _ _ _
   | exact zZ.refl _
   | exact zZ.none _
   | refine zZ.ite ?_ ?_
   | refine zZ.bind ?_ (fun _ => ?_)
theorem ym.mono : ∀ a0 a1 k, zZ (ym.f k a0 a1) (ym.f (k + 1) a0 a1) := by
 intro a0 a1 k
 obtain ⟨DN, ih1, ih2, ih3, PN⟩ := ym.mono_l k
 unfold ym.f
 repeat' first
  | exact DN _ _ _ _ _
  | exact ih1 _ _ _ _ _
  | exact ih2 _ _ _ _ _ _
  | exact ih3 _ _ _ _ _ _
  | exact PN _ _ _ _ _ _
  | exact zZ.refl _
  | exact zZ.none _
  | refine zZ.ite ?_ ?_
  | refine zZ.bind ?_ (fun _ => ?_)
def ym.T7 : Bool × List (List Nat × List Nat) := (true, [([], []), ([0], [0]), ([], []), ([], []), ([2, 3], [2, 3]), ([4], [4]), ([1, 5, 4], [1, 5]), ([0, 1, 2, 3, 4, 5, 6], []), ([7, 6, 6, 0, 1, 2, 3, 4, 5, 6], [6, 7])])
def ym.B7 : List Nat := [0, 1, 0, 0, 12, 28, 63, 127, 255]
theorem ym.NM : CX .any (opsOf Try.f30 7) = ym.T7 := by kernel_rfl
theorem ym.Jf : Bi ym.T7.2 ym.B7 = true := by kernel_rfl
set_option maxHeartbeats 8000000 in
set_option maxRecDepth 100000 in
theorem ym.calls (k : Nat) (a0 : Int) (a1 : Int) (r1 : Int) (r2 : List (List Int)) (w : World) (h : ym.f k a0 a1 = some (r1, r2)) :
  Calls Try.prog 30 #[.int .i64 a0, .int .i64 a1] w fun e w' => ∃ Rc : Value, e = .returned (.agg #[.int .i64 r1, Rc]) ∧ Kd.S (Kd.slice 3 (Kd.int .i64)) 63 w' w.heap.size (fun _ => True) Rc r2 ∧ Below w.heap.size w w' := by
 have NN := Try.underlying29;have HB := yf.mk (Below.refl w.heap.size w)
 have H : (if 0 ≤ a1 then (if (a1 : Int).toNat ≤ 35184372088832 then (ym.l0 k a0 a1 (List.replicate (a1 : Int).toNat 0) 0 a0) else (none)) else (none)) = some (r1, r2) := h
 clear h
 by_cases c3 : 0 ≤ a1
 rotate_left
 ·
  rw [if_neg c3] at H;exact absurd H (by simp)
 rw [if_pos c3] at H;have FM := eq_true c3;have Lg := decide_eq_true c3;clear c3
 by_cases c4 : (a1 : Int).toNat ≤ 35184372088832
 rotate_left
 ·
  rw [if_neg c4] at H;exact absurd H (by simp)
 rw [if_pos c4] at H;have Ex := eq_true c4;have KA := decide_eq_true c4;clear c4;obtain ⟨bQ, bJ⟩ : ∃ y_ : List Int, y_ = (List.replicate (a1 : Int).toNat 0) := ⟨_, rfl⟩
 replace H : (ym.l0 k a0 a1 bQ 0 a0) = some (r1, r2) := by (rw [bJ]; with_reducible exact H)
 have cO := yf.mk bJ;clear bJ;have H' := yf.mk H;clear H
 go_enter Try.func30, Try.ntmps30
 go_wp2_with (first | ((with_reducible refine yK (N := 4) rfl ?_); refine yE rfl (N := 4) rfl (cs := #[.int .i64 0, .slice none 0 0]) (t := 29) (by go_simp) ?_; intro ax hg w5 yG hb; have ae := yf.mk (yG); have dH := bG (w := w) hg; have dK := bG (w := w) hg; replace HB := bS HB hb; clear hb yG hg) | ((with_reducible refine yK (N := 5) rfl ?_); refine yE rfl (N := 5) rfl (cs := #[.int .i64 0, .slice none 0 0]) (t := 29) (by go_simp) ?_; intro ak hg w6 yG hb; have aa := yf.mk (yG); have dM := bG (w := w) hg; have dF := bG (w := w) hg; have bA := BL ae hg; have bq := Ag ae hg; replace ae := bB ae hb; replace HB := bS HB hb; clear hb yG hg; have Zg := bq.out; have Zh := bA.out; have Ox := bc2 aa; have Oy := bf aa) | ((with_reducible refine yK (N := 13) rfl ?_); refine Kd.PX (Kd.int .i64) _ 3 rfl (N := 13) rfl 63 _ _ rfl a1 rfl rfl Try.underlying63 (.int .i64 0) 8 info3 rfl (by decide) (by omega) 0 (ok := fun _ => True) (okp := fun _ => True) rfl (fun _ hk => hk) trivial (of_decide_eq_true ‹_›) (Nat.le_trans (Nat.mul_le_mul_right _ (of_decide_eq_true ‹_› : a1.toNat ≤ 35184372088832)) (by omega)) (Below.refl _ _) (Nat.le_refl _) ?_; intro v376 w9 Qb hb H5 CG; clear H5 CG; (rw [← cO.out] at Qb); have dw := yf.mk (Kd.AL Qb (yJ (bO HB))); replace ae := yf.mk (yX (g := ax) (o := .cells #[.int .i64 0, .slice none 0 0] 29 (0, 0)) (CF ae rfl) hb); replace aa := yf.mk (yX (g := ak) (o := .cells #[.int .i64 a0, .slice none 0 0] 29 (0, 0)) (CF aa rfl) hb); replace HB := bS HB hb; clear hb Qb))
 go_loopg [7] k (fun kq v7 w' => ∃ (Gu : List Int) (Eg : Int), v7 = .int .i64 Eg ∧ yf (ym.l0 kq a0 a1 Gu Eg a0 = some (r1, r2)) ∧ yf (kq ≤ k) ∧ yf (Kd.R (Kd.int .i64) 3 w' w.heap.size (fun _ => True) v376 Gu) ∧ yf (w'.heap[ax]? = some (.cells #[.int .i64 0, (.slice none 0 0)] 29 (0, 0))) ∧ yf (w'.heap[ak]? = some (.cells #[.int .i64 a0, (.slice none 0 0)] 29 (0, 0))) ∧ yf (Below w.heap.size w w'))
 case atStart => exact ⟨(bQ), (0), (by rfl), H', ⟨Nat.le_refl _⟩, ⟨kR dw⟩, ⟨kk ae⟩, ⟨kk aa⟩, ⟨bO HB⟩⟩
 case round =>
 clear H' FM Lg Ex KA Ox Oy;obtain ⟨Gu, Eg, rfl, HA, BZ, Be, ae, aa, HB⟩ := hrel
 cases gk with
 | zero => exact absurd HA.out (by simp [ym.l0])
 | succ k1 =>
 have H := HA.out;clear HA;simp only [ym.l0] at H
 by_cases c11 : Eg < a1
 ·
  rw [if_pos c11] at H;have Gv := decide_eq_true c11;clear c11
  by_cases c12 : 0 ≤ Eg
  rotate_left
  ·
   rw [if_neg c12] at H;exact absurd H (by simp)
  rw [if_pos c12] at H;have Jg := decide_eq_true c12;clear c12
  by_cases c13 : Eg < (Gu.length : Int)
  rotate_left
  ·
   rw [if_neg c13] at H;exact absurd H (by simp)
  rw [if_pos c13] at H;have Lh := decide_eq_true c13;clear c13;obtain ⟨aV, bF⟩ : ∃ y_ : List Int, y_ = (Gu.set (Eg : Int).toNat Eg) := ⟨_, rfl⟩
  replace H : (ym.l0 k1 a0 a1 aV (wrap64 (Eg + 1)) a0) = some (r1, r2) := by (rw [bF]; with_reducible exact H)
  have dh := yf.mk bF;clear bF;have H' := yf.mk H;clear H
  have Zi : 0 ≤ (Eg : Int) := of_decide_eq_true ‹_›
  have Zj : (Eg : Int) < ((Gu.length : Int) : Int) := of_decide_eq_true ‹_›
  obtain ⟨Qc, SI, Li, U6, Zk, a2Q, U7⟩ := Kd.He Be.out (by omega)
  (cases Li)
  have a0B := yf.mk U6;have a0C := yf.mk U7;clear U6 Zk U7;obtain ⟨U8, U9⟩ := Kd.FY 0 Be.out (Eg : Int) Zi Zj;replace Zi := eq_true Zi;replace Zj := eq_true Zj;have aU := Kd.NC Be.out (Eg : Int) Eg
  go_wp2_with (((with_reducible refine FJ (t := 3) (p := 22) rfl ?_); refine F7 (t := 3) (p := 22) (v := ?vo_w16) (w1 := (wr.setCell ⟨Qc, (Eg : Int).toNat, none⟩ (.int .i64 Eg))) ?hg ?ho ?hn ?hr ?_; (case ho => rfl); (case hg => rfl); (case hn => rfl); (case hr => go_simp); intro w16 hw; have hg : wr.grownBy w16 (some Qc) := (by rw [hw]; exact aU.2); have Re : Kd.R (Kd.int .i64) 3 w16 w.heap.size (fun _ => True) (.slice (some ⟨Qc, 0, none⟩) Gu.length SI) aV := (by rw [hw, dh.out]; exact aU.1); clear aU; have Bt := yf.mk (Re); have Bu := yf.mk (Aa (g := ax) (o := .cells #[.int .i64 0, .slice none 0 0] 29 (0, 0)) (kk ae) hg (Kd.Dx Be.out ae.out (by decide))); have BJ := yf.mk (Aa (g := ak) (o := .cells #[.int .i64 a0, .slice none 0 0] 29 (0, 0)) (kk aa) hg (Kd.Dx Be.out aa.out (by decide))); have Cs := yf.mk ((by rw [hw]; exact Dk (HB.out) a0B.out : Below w.heap.size w w16)); clear Be; clear ae; clear aa; clear HB; have Be := Bt; have ae := Bu; have aa := BJ; have HB := Cs; clear Bt Bu BJ Cs; clear hg hw Re))
  go_roundg k1
  case measure => have := BZ.out; omega
  case rel => exact ⟨(aV), (wrap64 (Eg + 1)), (by rfl), H', ⟨by have := BZ.out; omega⟩, ⟨kR Be⟩, ⟨kk ae⟩, ⟨kk aa⟩, ⟨bO HB⟩⟩
 rw [if_neg c11] at H;have Gv := decide_eq_false c11;clear c11;have H' := yf.mk H;clear H
 go_wp2
 go_loopg [] k1 (fun kq w' => ∃ (CQ : List Int) (aD : Int) (az : List (List Int)) (u375001 : Value), yf (ym.l1 kq a0 a1 CQ a0 az = some (r1, r2)) ∧ yf (kq ≤ k1) ∧ yf (Kd.R (Kd.int .i64) 3 w' w.heap.size (fun _ => True) v376 CQ) ∧ yf (Kd.S (Kd.slice 3 (Kd.int .i64)) 63 w' w.heap.size (fun k_ => some k_ ≠ (v376 : Value).ownBlock) u375001 az) ∧ yf (w'.heap[ax]? = some (.cells #[.int .i64 aD, (.slice none 0 0)] 29 (0, 0))) ∧ yf (w'.heap[ak]? = some (.cells #[.int .i64 a0, u375001] 29 (0, 0))) ∧ yf (Below w.heap.size w w'))
 case atStart => exact ⟨(Gu), (0), (([] : List (List Int))), (.slice none 0 0), H', ⟨Nat.le_refl _⟩, ⟨kR Be⟩, ⟨by exact Kd.TV _ _ _ _ _⟩, ⟨kk ae⟩, ⟨kk aa⟩, ⟨bO HB⟩⟩
 case round =>
 clear H' Gv;obtain ⟨CQ, aD, az, u375001, HA, DU, Be, af, ae, aa, HB⟩ := hrel
 cases gk with
 | zero => exact absurd HA.out (by simp [ym.l1])
 | succ k2 =>
  have H := HA.out;clear HA;simp only [ym.l1] at H;obtain ⟨Ow, aX⟩ : ∃ y_ : List Int, y_ = (([] : List Int)) := ⟨_, rfl⟩
  replace H : (if Ow.length + CQ.length < 17592186044416 then (if az.length < 5864062014805 then (ym.l2 k2 a0 a1 CQ (wrap64 (a1 - 1)) a0 (az ++ [(Ow ++ CQ)])) else (none)) else (none)) = some (r1, r2) := by (have H2_ := (Option.bind_some _ _).symm.trans H; rw [aX]; with_reducible exact H2_)
  have dB := yf.mk aX;clear aX
  by_cases c17 : Ow.length + CQ.length < 17592186044416
  ·
   rw [if_pos c17] at H;have di := yf.mk c17;clear c17;obtain ⟨aJ, bu⟩ : ∃ y_ : List Int, y_ = (Ow ++ CQ) := ⟨_, rfl⟩
   replace H : (if az.length < 5864062014805 then (ym.l2 k2 a0 a1 CQ (wrap64 (a1 - 1)) a0 (az ++ [aJ])) else (none)) = some (r1, r2) := by (rw [bu]; with_reducible exact H)
   have dx := yf.mk bu;clear bu
   by_cases c18 : az.length < 5864062014805
   ·
    rw [if_pos c18] at H;have dz := yf.mk c18;clear c18;obtain ⟨ag, bi⟩ : ∃ y_ : List (List Int), y_ = (az ++ [aJ]) := ⟨_, rfl⟩
    replace H : (ym.l2 k2 a0 a1 CQ (wrap64 (a1 - 1)) a0 ag) = some (r1, r2) := by (rw [bi]; with_reducible exact H)
    have bX := yf.mk bi;clear bi;have aW := yf.mk H;clear H
    try go_wp2
    replace Be := yf.mk (Kd.Cr Be.out);replace af := yf.mk (Kd.IM af.out);replace ae := yf.mk (yZ ae.out);replace aa := yf.mk (yZ aa.out);replace HB := yf.mk (ze HB.out)
    refine AV (n := 9) (S := fun w' => w'.cell? ⟨ak, 0, none⟩ = some (.int .i64 a0) ∧ w'.cell? ⟨ak, 1, none⟩ = some (u375001)) (ds := [8]) (bz 9 0) (by kernel_rfl) rfl rfl (bc2 aa) (fun hHeld => ?_); refine zQ ym.NM ym.Jf (fun yD AZ => ?_)
    generalize wr.drew = w20 at Be af ae aa HB hHeld ⊢;refine pU 0 23 9 1 yD ?_;refine pU 3 26 9 9 yD ?_
    refine BQ 1 24 9 11 yD AZ hHeld ?_
    refine BP (i := 2) (N := some 25) (bz 9 15) rfl rfl (Af yD.out (by kernel_rfl)) (by decide) (fun K hK => ?_)
    refine Kd.IK (Kd.int .i64) _ 3 ?hg (N := 25) ?hd (xs := ([] : List Int)) (inner := []) (ok := fun _ => True) (okp := fun _ => True) ?hr ?hp (fun _ hk => hk) trivial (Below.refl _ _) (Nat.le_refl _) (by simp) ?_; (case hd => rfl); (case hg => rfl); (case hr => go_simp); (case hp => exact (Bo.none _ _))
    intro v380 w21 NP hb H5 CG
    clear H5 CG
    (rw [← dB.out] at NP)
    have Bt := yf.mk (Kd.Bf (kR Be) (Kd.AO NP) hb);have Bu := yf.mk (Kd.Jd (kS af) (Kd.AO NP) hb);have BJ := yf.mk (Kd.AL (Kd.CE NP (Kd.Em (kR Be))) (yJ (bO HB)));have Cs := bB ae hb;have CJ := bB aa hb;have Db := bS HB hb;clear Be af ae aa HB;have Be := Bt;have af := Bu;have aZ := BJ;have ae := Cs;have aa := CJ;have HB := Db;clear Bt Bu BJ Cs CJ Db hb NP;obtain ⟨Mk, H6, Zl⟩ := Kd.zX Be.out
    (subst Zl)
    refine hK.out _ _ (bc2 aa) (fun hHeld => ?_)
    clear hK K
    refine Aj (a' := ?_) ?_ ?_
    rotate_left
    ·
     show Act.put _ (some 25) _ = _
     simp only [pz]
     rfl
    refine BP (i := 4) (N := some 27) (bz 9 31) rfl rfl (Af yD.out (by kernel_rfl)) (by decide) (fun K hK => ?_)
    refine Kd.IL (Kd.int .i64) (w0 := w) w.heap.size (by rfl) (.tmp 25) (.tmp 26) 63 3 (.int .i64 0) 8 rfl Try.underlying63 info3 rfl (by decide) (by omega) v380 Ow CQ _ _ _ (fun k_ => some k_ ≠ (.slice Mk CQ.length H6 : Value).ownBlock) (fun _ => False) rfl rfl ?aO ?aR (fun _ _ h => h) (fun _ h => h.elim) ?aF ?aB ?aS ?aL ?_
    (case aR => repeat (exact (Kd.zt Be.out).2.2))
    (case aB => exact (bO HB))
    (case aF => exact (fun k_ hk => Kd.fresh' (Kd.Em (kR Be)) k_ hk))
    (case aO => exact (by (with_reducible repeat (apply Kd.zl)); exact Kd.zb aZ.out (fun _ hk => hk.2)))
    (case aS => exact (yJ (bO HB)))
    (case aL => have := di.out; omega)
    intro v383 w23 ho hb hg hat
    rw [← dx.out] at ho;replace Be := yf.mk (Kd.KL (ok := (fun _ => True)) (kR Be) hg hat)
    replace af := yf.mk (Kd.KO (ok := (fun k_ => some k_ ≠ (.slice Mk CQ.length H6 : Value).ownBlock)) (kS af) hg hat)
    replace ae := yf.mk (Aa (g := ax) (o := .cells #[.int .i64 aD, .slice none 0 0] 29 (0, 0)) (kk ae) hg (Kd.Dx aZ.out ae.out (by decide)));replace aa := yf.mk (Aa (g := ak) (o := .cells #[.int .i64 a0, u375001] 29 (0, 0)) (kk aa) hg (Kd.Dx aZ.out aa.out (by decide)));have bv := yf.mk (ho);replace HB := yf.mk (hb);clear ho hb hg hat;obtain ⟨Ua, SK, Ub⟩ := Kd.zX bv.out
    (subst Ub)
    refine hK.out _ _ (bc2 aa) (fun hHeld => ?_)
    clear hK K
    refine Aj (a' := ?_) ?_ ?_
    rotate_left
    ·
     show Act.put _ (some 27) _ = _
     simp only [pz]
     rfl
    refine BP (i := 5) (N := some 28) (bz 9 63) rfl rfl (Af yD.out (by kernel_rfl)) (by decide) (fun K hK => ?_)
    refine Q0 (w1 := ?_) (v := ?_) (by rfl) rfl ?_ ?_
    rotate_left 2
    ·
     go_simp
     constructor
     ·
      rfl
     ·
      rfl
    refine hK.out _ _ ⟨(yz (Dz aa.out _) 0).trans rfl, (yz (Dz aa.out _) 1).trans rfl⟩ (fun hHeld => ?_)
    clear hK K
    refine Aj (a' := ?_) ?_ ?_
    rotate_left
    ·
     show Act.put _ (some 28) _ = _
     simp only [pz]
     rfl
    refine BP (i := 6) (N := some 29) (bz 9 127) rfl rfl (Af yD.out (by kernel_rfl)) (by decide) (fun K hK => ?_)
    refine Kd.Mi (Kd.slice 3 (Kd.int .i64)) (w0 := w) w.heap.size (by rfl) (.tmp 24) (.tmp 28) 27 63 (.slice none 0 0) 24 rfl Try.underlying27 NK rfl (by decide) (by omega) u375001 az aJ [.slice Ua aJ.length SK] (fun k_ => some k_ ≠ (.slice Mk CQ.length H6 : Value).ownBlock) (fun k_ => some k_ = (.slice Ua aJ.length SK : Value).ownBlock) rfl rfl ?aP (fun k_ BG => ((Kd.zb (ok' := fun k_ => ((fun k_ => some k_ ≠ (.slice Mk CQ.length H6 : Value).ownBlock)) k_ ∧ some k_ ≠ (u375001 : Value).ownBlock) (Kd.J7 (bv.out) (Kd.Ik af.out) (by decide)) (fun k_ hk => ⟨hk.1, hk.2⟩))).1 k_ BG.symm) ?aF ?aO ?aB ?aS ?aL ?_
    (case aP => exact Kd.R4 (Kd.zb (Kd.Fx rfl (Kd.zb (ok' := fun k_ => ((fun k_ => some k_ ≠ (.slice Mk CQ.length H6 : Value).ownBlock)) k_ ∧ some k_ ≠ (u375001 : Value).ownBlock) (Kd.J7 (bv.out) (Kd.Ik af.out) (by decide)) (fun k_ hk => ⟨hk.1, hk.2⟩))) (fun _ h_ => h_)))
    (case aB => exact (bO HB))
    (case aF => exact (fun k_ hk => Kd.fresh' (Kd.Em (kR Be)) k_ hk))
    (case aO => exact (by (with_reducible repeat (apply Kd.Bb)); exact Kd.Bw af.out (fun k_ hk => ⟨hk.1, fun e_ => hk.2 e_⟩)))
    (case aS => exact (yJ (bO HB)))
    (case aL => have := dz.out; omega)
    intro v386 w25 ho hb hg hat
    rw [← bX.out] at ho;replace Be := yf.mk (Kd.Nz (kR Be) (Kd.Ik (kS af)) (by decide) hg);replace ae := yf.mk (Aa (g := ax) (o := .cells #[.int .i64 aD, .slice none 0 0] 29 (0, 0)) (kk ae) hg (Kd.Wx af.out ae.out (by decide)));replace aa := yf.mk (Aa (g := ak) (o := .cells #[.int .i64 a0, u375001] 29 (0, 0)) (kk aa) hg (Kd.Wx af.out aa.out (by decide)));have bR := yf.mk (ho);replace HB := yf.mk (hb);clear ho hb hg hat;obtain ⟨aA, aC, cz⟩ := Kd.Es bR.out
    (subst cz)
    refine hK.out _ _ (bc2 aa) (fun hHeld => ?_)
    clear hK K
    refine Aj (a' := ?_) ?_ ?_
    rotate_left
    ·
     show Act.put _ (some 29) _ = _
     simp only [pz]
     rfl
    refine pU 7 30 9 255 yD ?_
    refine ML (i := 8) (N := none) (bz 9 511) rfl rfl (Af yD.out (by kernel_rfl)) (by decide) (fun K hK => ?_)
    have a0D : w25.cell? ⟨ak, 1, none⟩ = some (u375001) := (yz aa.out 1).trans rfl
    have Xn := zm aa.out 1;have dQ := bA.out;have dP := bq.out
    refine G5 (w1 := ?_) (by rfl) rfl ?_ ?_
    rotate_left
    ·
     go_simp
     rfl
    refine hK.out _ _ ?_
    clear hK K
    refine BI (Az yD.out (by kernel_rfl)) ?_
    go_upto_block 4 with (fail)
    go_cut [8] (fun v8 wc => ∃ (kq : Nat) (ai : Int), v8 = .int .i64 ai ∧ yf (ym.j3 kq a0 a1 CQ ai a0 ag = some (r1, r2)) ∧ yf (kq ≤ k2) ∧ yf (Kd.R (Kd.int .i64) 3 wc w.heap.size (fun _ => True) (.slice Mk CQ.length H6) CQ) ∧ yf (Kd.S (Kd.slice 3 (Kd.int .i64)) 63 wc w.heap.size (fun k_ => some k_ ≠ ((.slice Mk CQ.length H6) : Value).ownBlock) (.slice aA ag.length aC) ag) ∧ yf (wc.heap[ax]? = some (.cells #[.int .i64 aD, (.slice none 0 0)] 29 (0, 0))) ∧ yf (wc.heap[ak]? = some (.cells #[.int .i64 a0, (.slice aA ag.length aC)] 29 (0, 0))) ∧ yf (Below w.heap.size w wc))
    case first =>
     have H := aW.out;clear aW;have H' := yf.mk H;clear H
     go_wp2
     go_loopg [8] k2 (fun kq v8 w' => ∃ (Ey : Int), v8 = .int .i64 Ey ∧ yf (ym.l2 kq a0 a1 CQ Ey a0 ag = some (r1, r2)) ∧ yf (kq ≤ k2) ∧ yf (Kd.R (Kd.int .i64) 3 w' w.heap.size (fun _ => True) (.slice Mk CQ.length H6) CQ) ∧ yf (Kd.S (Kd.slice 3 (Kd.int .i64)) 63 w' w.heap.size (fun k_ => some k_ ≠ ((.slice Mk CQ.length H6) : Value).ownBlock) (.slice aA ag.length aC) ag) ∧ yf (w'.heap[ax]? = some (.cells #[.int .i64 aD, (.slice none 0 0)] 29 (0, 0))) ∧ yf (w'.heap[ak]? = some (.cells #[.int .i64 a0, (.slice aA ag.length aC)] 29 (0, 0))) ∧ yf (Below w.heap.size w w'))
     case atStart => exact ⟨(wrap64 (a1 - 1)), (by rfl), H', ⟨Nat.le_refl _⟩, ⟨by (with_reducible repeat (apply Kd.zl)); exact Kd.zb (GG (g := ak) (Kd.AU Be.out aa.out (by decide)) (fun _ hk => hk.2)) (fun _ hk => trivial)⟩, ⟨by (with_reducible repeat (apply Kd.Bb)); exact Kd.Bw (Lc (g := ak) (Kd.BD bR.out aa.out (by decide)) (fun _ hk => hk.2)) (fun _ hk => hk.1)⟩, bK ae rfl, bK aa rfl, ⟨bO HB⟩⟩
     case round =>
      clear H';obtain ⟨Ey, rfl, HA, FH, Be, af, ae, aa, HB⟩ := hrel
      cases gk with
      | zero => exact absurd HA.out (by simp [ym.l2])
      | succ k3 =>
       have H := HA.out;clear HA;simp only [ym.l2] at H
       by_cases Ml : Ey ≥ 0
       ·
        rw [if_pos Ml] at H;have Oz := decide_eq_true Ml;clear Ml
        (skip)
        by_cases Qd : 0 ≤ Ey
        ·
         rw [if_pos Qd] at H;have Xo := decide_eq_true Qd;clear Qd
         by_cases c31 : Ey < (CQ.length : Int)
         ·
          rw [if_pos c31] at H;have MO := decide_eq_true c31;clear c31
          by_cases c32 : (rd CQ Ey) = (wrap64 ((wrap64 (a0 - a1)) + Ey))
          ·
           rw [if_pos c32] at H;have OA := beq_iff_eq.mpr c32
           have d9 : ((rd CQ Ey) != (wrap64 ((wrap64 (a0 - a1)) + Ey))) = false := bne_eq_false_iff_eq.mpr c32
           clear c32;have H' := yf.mk H;clear H
           have aH : 0 ≤ (Ey : Int) := of_decide_eq_true ‹_›
           have aG : Ey < (CQ.length : Int) := of_decide_eq_true ‹_›
           obtain ⟨cK, bC, dC⟩ := Kd.Bv (Kd.zt Be.out).2.2 Ey aH aG;cases bC;replace aH := eq_true aH;replace aG := eq_true aG
           go_wp2
           go_roundg k3
           case measure => have := BZ.out; have := DU.out; have := FH.out; omega
           case rel => exact ⟨(wrap64 (Ey - 1)), (by rfl), H', ⟨by have := BZ.out; have := DU.out; have := FH.out; omega⟩, ⟨kR Be⟩, ⟨kS af⟩, ⟨kk ae⟩, ⟨kk aa⟩, ⟨bO HB⟩⟩
          ·
           rw [if_neg c32] at H;have OA := beq_eq_false_iff_ne.mpr c32;have d9 := bne_iff_ne.mpr c32;have H' := yf.mk H;clear H
           have aH : 0 ≤ (Ey : Int) := of_decide_eq_true ‹_›
           have aG : Ey < (CQ.length : Int) := of_decide_eq_true ‹_›
           obtain ⟨cK, bC, dC⟩ := Kd.Bv (Kd.zt Be.out).2.2 Ey aH aG;cases bC;replace aH := eq_true aH;replace aG := eq_true aG
           go_wp2
           go_meet
           case rel => exact ⟨_, (Ey), (by rfl), H', ⟨by have := BZ.out; have := DU.out; have := FH.out; omega⟩, ⟨kR Be⟩, ⟨kS af⟩, ⟨kk ae⟩, ⟨kk aa⟩, ⟨bO HB⟩⟩
         ·
          rw [if_neg c31] at H;exact absurd H (by simp)
        ·
         rw [if_neg Qd] at H;exact absurd H (by simp)
       ·
        rw [if_neg Ml] at H;have Oz := decide_eq_false Ml;clear Ml
        (skip)
        have H' := yf.mk H;clear H
        go_wp2
        go_meet
        case rel => exact ⟨_, (Ey), (by rfl), H', ⟨by have := BZ.out; have := DU.out; have := FH.out; omega⟩, ⟨kR Be⟩, ⟨kS af⟩, ⟨kk ae⟩, ⟨kk aa⟩, ⟨bO HB⟩⟩
    case rest =>
     clear aW;obtain ⟨kq, ai, rfl, HA, aN, Be, af, ae, aa, HB⟩ := hcut
     cases kq with
     | zero => exact absurd HA.out (by simp [ym.j3])
     | succ aY =>
      have H := HA.out;clear HA;simp only [ym.j3] at H
      by_cases aI : ai < 0
      ·
       rw [if_pos aI] at H;have bU := decide_eq_true aI;clear aI;simp only [Option.some.injEq, Prod.mk.injEq] at H;obtain ⟨rfl, rfl⟩ := H;have Uc := bq.out;have Ud := bA.out;have Ue := bc2 aa;have Uf := bf aa;have Rf := bc2 ae;have Rh := bf ae
       go_wp2
       refine bodyPost_ret (results_cell_row rfl _ _ ax 29 #[.int .i64 a0, .slice aA ag.length aC] (0, 0) _ rfl (CF ae rfl) Try.underlying29 rfl (by kernel_rfl)) rfl ?_
       exact ⟨_, by rfl, by (with_reducible repeat (apply Kd.Bb)); exact Kd.Bw (Lc (g := ax) (Kd.BD af.out ae.out (by decide)) (fun _ hk => hk.2)) (fun _ hk => trivial), bO HB⟩
      ·
       rw [if_neg aI] at H;have bU := decide_eq_false aI;clear aI
       by_cases c37 : 0 ≤ ai
       ·
        rw [if_pos c37] at H;have Ri := decide_eq_true c37;clear c37
        by_cases Jh : ai < (CQ.length : Int)
        ·
         rw [if_pos Jh] at H;have MP := decide_eq_true Jh;clear Jh;obtain ⟨aT, bn⟩ : ∃ y_ : List Int, y_ = (CQ.set (ai : Int).toNat (wrap64 ((rd CQ ai) + 1))) := ⟨_, rfl⟩
         replace H : (ym.l3 aY a0 a1 aT (wrap64 (ai + 1)) a0 ag) = some (r1, r2) := by (rw [bn]; with_reducible exact H)
         have cu := yf.mk bn;clear bn;have H' := yf.mk H;clear H
         have aQ : 0 ≤ (ai : Int) := of_decide_eq_true ‹_›
         have aK : ai < (CQ.length : Int) := of_decide_eq_true ‹_›
         obtain ⟨dJ, dA, bT⟩ := Kd.Bv (Kd.zt Be.out).2.2 ai aQ aK;cases dA;replace aQ := eq_true aQ;replace aK := eq_true aK
         have p39 : 0 ≤ (ai : Int) := of_decide_eq_true ‹_›
         have aM : (ai : Int) < ((CQ.length : Int) : Int) := of_decide_eq_true ‹_›
         obtain ⟨av, dE, dm, bP, df, dO, bV⟩ := Kd.He Be.out (by omega)
         (cases dm)
         have bN := yf.mk bP;have dI := yf.mk bV;clear bP df bV
         (simp only [add_plain] at bT)
         obtain ⟨dn, dN⟩ := Kd.FY 0 Be.out (ai : Int) p39 aM;replace p39 := eq_true p39;replace aM := eq_true aM;have bI := Kd.NC Be.out (ai : Int) (wrap64 ((rd CQ ai) + 1))
         go_wp2_with (((with_reducible refine FJ (t := 3) (p := 57) rfl ?_); refine F7 (t := 3) (p := 57) (v := ?vo_w41) (w1 := (wc.setCell ⟨av, (ai : Int).toNat, none⟩ (.int .i64 (wrap64 ((rd CQ ai) + 1))))) ?hg ?ho ?hn ?hr ?_; (case ho => rfl); (case hg => rfl); (case hn => rfl); (case hr => go_simp); intro w41 hw; have hg : wc.grownBy w41 (some av) := (by rw [hw]; exact bI.2); have Re : Kd.R (Kd.int .i64) 3 w41 w.heap.size (fun _ => True) (.slice (some ⟨av, 0, none⟩) CQ.length H6) aT := (by rw [hw, cu.out]; exact bI.1); clear bI; have Bt := yf.mk (Re); have Bu := yf.mk (Kd.KO (v := (.slice (some ⟨av, 0, none⟩) CQ.length H6)) (v1 := (.slice (some ⟨av, 0, none⟩) CQ.length H6)) (ok := (fun _ => True)) (by (with_reducible repeat (apply Kd.Bb)); exact Kd.Bw af.out (fun _ hk => ⟨trivial, hk⟩)) hg (.inl rfl)); have BJ := yf.mk (Aa (g := ax) (o := .cells #[.int .i64 aD, .slice none 0 0] 29 (0, 0)) (kk ae) hg (Kd.Dx Be.out ae.out (by decide))); have Cs := yf.mk (Aa (g := ak) (o := .cells #[.int .i64 a0, .slice aA ag.length aC] 29 (0, 0)) (kk aa) hg (Kd.Dx Be.out aa.out (by decide))); have CJ := yf.mk ((by rw [hw]; exact Dk (HB.out) bN.out : Below w.heap.size w w41)); clear Be; clear af; clear ae; clear aa; clear HB; have Be := Bt; have af := Bu; have ae := BJ; have aa := Cs; have HB := CJ; clear Bt Bu BJ Cs CJ; clear hg hw Re))
         go_loopg [9] aY (fun kq v9 w' => ∃ (aj : List Int) (ah : Int), v9 = .int .i64 ah ∧ yf (ym.l3 kq a0 a1 aj ah a0 ag = some (r1, r2)) ∧ yf (kq ≤ aY) ∧ yf (Kd.R (Kd.int .i64) 3 w' w.heap.size (fun _ => True) (.slice (some ⟨av, 0, none⟩) CQ.length H6) aj) ∧ yf (Kd.S (Kd.slice 3 (Kd.int .i64)) 63 w' w.heap.size (fun k_ => some k_ ≠ ((.slice (some ⟨av, 0, none⟩) CQ.length H6) : Value).ownBlock) (.slice aA ag.length aC) ag) ∧ yf (w'.heap[ax]? = some (.cells #[.int .i64 aD, (.slice none 0 0)] 29 (0, 0))) ∧ yf (w'.heap[ak]? = some (.cells #[.int .i64 a0, (.slice aA ag.length aC)] 29 (0, 0))) ∧ yf (Below w.heap.size w w'))
         case atStart => exact ⟨(aT), (wrap64 (ai + 1)), (by rfl), H', ⟨Nat.le_refl _⟩, ⟨kR Be⟩, ⟨by (with_reducible repeat (apply Kd.Bb)); exact Kd.Bw af.out (fun _ hk => hk.2)⟩, ⟨kk ae⟩, ⟨kk aa⟩, ⟨bO HB⟩⟩
         case round =>
          clear H' bU Ri MP p39 aM bT dn aQ aK;obtain ⟨aj, ah, rfl, HA, NQ, Be, af, ae, aa, HB⟩ := hrel;have au := (Kd.zt Be.out).1;rw [au] at Be
          (try simp only [au])
          (try simp only [au] at ae)
          (try simp only [au] at aa)
          (try simp only [au] at af)
          cases gk with
          | zero => exact absurd HA.out (by simp [ym.l3])
          | succ k4 =>
           have H := HA.out;clear HA;simp only [ym.l3] at H
           by_cases IQ : ah < a1
           ·
            rw [if_pos IQ] at H;have Lj := decide_eq_true IQ;clear IQ;obtain ⟨ay, bW⟩ : ∃ j_ : Int, (wrap64 (ah - 1)) = j_ := ⟨_, rfl⟩
            replace H : (if 0 ≤ (ay) then (if (ay) < (aj.length : Int) then (if 0 ≤ ah then (if ah < (aj.length : Int) then (ym.l3 k4 a0 a1 (aj.set (ah : Int).toNat (wrap64 ((rd aj (ay)) + 1))) (wrap64 (ah + 1)) a0 ag) else (none)) else (none)) else (none)) else (none)) = some (r1, r2) := by (rw [bW] at H; exact H)
            have hji43w : (IntKind.i64.wrap (ah - 1)) = ay := (i64_w _).trans bW
            by_cases Mm : 0 ≤ (ay)
            ·
             rw [if_pos Mm] at H;have Rj := decide_eq_true Mm;clear Mm
             by_cases PO : (ay) < (aj.length : Int)
             ·
              rw [if_pos PO] at H;have Ug := decide_eq_true PO;clear PO
              by_cases c46 : 0 ≤ ah
              ·
               rw [if_pos c46] at H;have a0E := decide_eq_true c46;clear c46
               by_cases Ji : ah < (aj.length : Int)
               ·
                rw [if_pos Ji] at H;have Ll := decide_eq_true Ji;clear Ji;obtain ⟨bD, bg⟩ : ∃ y_ : List Int, y_ = (aj.set (ah : Int).toNat (wrap64 ((rd aj (ay)) + 1))) := ⟨_, rfl⟩
                replace H : (ym.l3 k4 a0 a1 bD (wrap64 (ah + 1)) a0 ag) = some (r1, r2) := by (rw [bg]; with_reducible exact H)
                have bY := yf.mk bg;clear bg;have H' := yf.mk H;clear H
                have bM : 0 ≤ ((ay) : Int) := of_decide_eq_true ‹_›
                have bH : (ay) < (aj.length : Int) := of_decide_eq_true ‹_›
                obtain ⟨dD, bZ, cZ⟩ := Kd.Bv (Kd.zt Be.out).2.2 (ay) bM bH;obtain rfl : (⟨av, 0, none⟩ : Addr) = dD := (by injection bZ)
                (simp only [add_plain] at cZ)
                replace bM := eq_true bM;replace bH := eq_true bH
                have p48 : 0 ≤ (ah : Int) := of_decide_eq_true ‹_›
                have bL : (ah : Int) < ((aj.length : Int) : Int) := of_decide_eq_true ‹_›
                obtain ⟨dL, dG⟩ := Kd.FY 0 Be.out (ah : Int) p48 bL;replace p48 := eq_true p48;replace bL := eq_true bL;have Qe := Kd.NC Be.out (ah : Int) (wrap64 ((rd aj (ay)) + 1))
                go_wp2_with (((with_reducible refine FJ (t := 3) (p := 73) rfl ?_); refine F7 (t := 3) (p := 73) (v := ?vo_w50) (w1 := (wr.setCell ⟨av, (ah : Int).toNat, none⟩ (.int .i64 (wrap64 ((rd aj (ay)) + 1))))) ?hg ?ho ?hn ?hr ?_; (case ho => rfl); (case hg => rfl); (case hn => rfl); (case hr => go_simp); intro w50 hw; have hg : wr.grownBy w50 (some av) := (by rw [hw]; exact Qe.2); have Re : Kd.R (Kd.int .i64) 3 w50 w.heap.size (fun _ => True) (.slice (some ⟨av, 0, none⟩) aj.length H6) bD := (by rw [hw, bY.out]; exact Qe.1); clear Qe; have Bt := yf.mk (Re); have Bu := yf.mk (Kd.KO (v := (.slice (some ⟨av, 0, none⟩) aj.length H6)) (v1 := (.slice (some ⟨av, 0, none⟩) aj.length H6)) (ok := (fun _ => True)) (by (with_reducible repeat (apply Kd.Bb)); exact Kd.Bw af.out (fun _ hk => ⟨trivial, hk⟩)) hg (.inl rfl)); have BJ := yf.mk (Aa (g := ax) (o := .cells #[.int .i64 aD, .slice none 0 0] 29 (0, 0)) (kk ae) hg (Kd.Dx Be.out ae.out (by decide))); have Cs := yf.mk (Aa (g := ak) (o := .cells #[.int .i64 a0, .slice aA ag.length aC] 29 (0, 0)) (kk aa) hg (Kd.Dx Be.out aa.out (by decide))); have CJ := yf.mk ((by rw [hw]; exact Dk (HB.out) bN.out : Below w.heap.size w w50)); clear Be; clear af; clear ae; clear aa; clear HB; have Be := Bt; have af := Bu; have ae := BJ; have aa := Cs; have HB := CJ; clear Bt Bu BJ Cs CJ; clear hg hw Re))
                (try simp only [← au])
                go_roundg k4
                case measure => have := BZ.out; have := DU.out; have := aN.out; have := NQ.out; omega
                case rel => exact ⟨(bD), (wrap64 (ah + 1)), (by rfl), H', ⟨by have := BZ.out; have := DU.out; have := aN.out; have := NQ.out; omega⟩, ⟨by (try simp only [au]); (with_reducible repeat (apply Kd.zl)); exact Be.out⟩, ⟨by (try simp only [au]); (with_reducible repeat (apply Kd.Bb)); exact Kd.Bw af.out (fun _ hk => hk.2)⟩, ⟨by (try simp only [au]); refine kp ?_; exact ae.out⟩, ⟨by (try simp only [au]); refine kp ?_; exact aa.out⟩, ⟨bO HB⟩⟩
               ·
                rw [if_neg Ji] at H;exact absurd H (by simp)
              ·
               rw [if_neg c46] at H;exact absurd H (by simp)
             ·
              rw [if_neg PO] at H;exact absurd H (by simp)
            ·
             rw [if_neg Mm] at H;exact absurd H (by simp)
           ·
            rw [if_neg IQ] at H;have Lj := decide_eq_false IQ;clear IQ;have H' := yf.mk H;clear H
            go_wp2
            (try simp only [← au])
            go_roundg k4
            case measure => have := BZ.out; have := DU.out; have := aN.out; have := NQ.out; omega
            case rel => exact ⟨(aj), (aD), (ag), (.slice aA ag.length aC), H', ⟨by have := BZ.out; have := DU.out; have := aN.out; have := NQ.out; omega⟩, ⟨by (try simp only [au]); (with_reducible repeat (apply Kd.zl)); exact Be.out⟩, ⟨by (try simp only [au]); (with_reducible repeat (apply Kd.Bb)); exact af.out⟩, ⟨by (try simp only [au]); refine kp ?_; exact ae.out⟩, ⟨by (try simp only [au]); refine kp ?_; exact aa.out⟩, ⟨bO HB⟩⟩
        ·
         rw [if_neg Jh] at H;exact absurd H (by simp)
       ·
        rw [if_neg c37] at H;exact absurd H (by simp)
   ·
    rw [if_neg c18] at H;exact absurd H (by simp)
  ·
   rw [if_neg c17] at H;exact absurd H (by simp)
end Go.Proofs.Ytjonnfmoocijlaa.P
