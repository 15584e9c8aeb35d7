/- Texts of a claim, packed. -/
import Derived.Test.YtjonnfmoocijlaaC4
set_option linter.all false
namespace Go.Proofs.Ytjonnfmoocijlaa.P
open Go.RowKit Go.Proofs.YtjonnfmoocijlaaKW.PrintWords Go.Proofs.YtjonnfmoocijlaaKW.PrintLast Go.Proofs.YtjonnfmoocijlaaKW.PrintMore
attribute [local go_sem] zO zP Aj Ak zC zD zQ zR
mutual
def ym.l0 : Nat → Int → Int → List Int → Int → Int → Option (Int × (List (List Int)))
 | 0, _, _, _, _, _ => none
 | k + 1, x0, x1, x6, x7, aa => if x7 < x1 then (if 0 ≤ x7 then (if x7 < (x6.length : Int) then (ym.l0 k x0 x1 (x6.set (x7 : Int).toNat x7) (wrap64 (x7 + 1)) aa) else (none)) else (none)) else (ym.l1 k x0 x1 x6 aa ([] : List (List Int)))
def ym.l1 : Nat → Int → Int → List Int → Int → List (List Int) → Option (Int × (List (List Int)))
 | 0, _, _, _, _, _ => none
 | k + 1, x0, x1, x6, aa, ae => (some (([] : List Int) : List Int)).bind fun QE => (if QE.length + x6.length < 17592186044416 then (if ae.length < 5864062014805 then (ym.l2 k x0 x1 x6 (wrap64 (x1 - 1)) aa (ae ++ [(QE ++ x6)])) else (none)) else (none))
def ym.j3 : Nat → Int → Int → List Int → Int → Int → List (List Int) → Option (Int × (List (List Int)))
 | 0, _, _, _, _, _, _ => none
 | k + 1, x0, x1, x6, x8, aa, ae => if x8 < 0 then (some (aa, ae)) else (if 0 ≤ x8 then (if x8 < (x6.length : Int) then (ym.l3 k x0 x1 (x6.set (x8 : Int).toNat (wrap64 ((rd x6 x8) + 1))) (wrap64 (x8 + 1)) aa ae) else (none)) else (none))
def ym.l3 : Nat → Int → Int → List Int → Int → Int → List (List Int) → Option (Int × (List (List Int)))
 | 0, _, _, _, _, _, _ => none
 | k + 1, x0, x1, x6, x9, aa, ae => if x9 < x1 then (if 0 ≤ (wrap64 (x9 - 1)) then (if (wrap64 (x9 - 1)) < (x6.length : Int) then (if 0 ≤ x9 then (if x9 < (x6.length : Int) then (ym.l3 k x0 x1 (x6.set (x9 : Int).toNat (wrap64 ((rd x6 (wrap64 (x9 - 1))) + 1))) (wrap64 (x9 + 1)) aa ae) else (none)) else (none)) else (none)) else (none)) else (ym.l1 k x0 x1 x6 aa ae)
def ym.l2 : Nat → Int → Int → List Int → Int → Int → List (List Int) → Option (Int × (List (List Int)))
 | 0, _, _, _, _, _, _ => none
 | k + 1, x0, x1, x6, x8, aa, ae => if x8 ≥ 0 then (if 0 ≤ x8 then (if x8 < (x6.length : Int) then (if (rd x6 x8) = (wrap64 ((wrap64 (x0 - x1)) + x8)) then (ym.l2 k x0 x1 x6 (wrap64 (x8 - 1)) aa ae) else (ym.j3 k x0 x1 x6 x8 aa ae)) else (none)) else (none)) else (ym.j3 k x0 x1 x6 x8 aa ae)
end
def ym.f (k : Nat) (a0 : Int) (a1 : Int) : Option (Int × (List (List Int))) := if 0 ≤ a1 then (if (a1 : Int).toNat ≤ 35184372088832 then (ym.l0 k a0 a1 (List.replicate (a1 : Int).toNat 0) 0 a0) else (none)) else (none)
theorem ym.mono_l : ∀ k, (∀ y0 y1 y2 y3 y4, BP (ym.l0 k y0 y1 y2 y3 y4) (ym.l0 (k + 1) y0 y1 y2 y3 y4)) ∧ (∀ y0 y1 y2 y3 y4, BP (ym.l1 k y0 y1 y2 y3 y4) (ym.l1 (k + 1) y0 y1 y2 y3 y4)) ∧ (∀ y0 y1 y2 y3 y4 y5, BP (ym.j3 k y0 y1 y2 y3 y4 y5) (ym.j3 (k + 1) y0 y1 y2 y3 y4 y5)) ∧ (∀ y0 y1 y2 y3 y4 y5, BP (ym.l3 k y0 y1 y2 y3 y4 y5) (ym.l3 (k + 1) y0 y1 y2 y3 y4 y5)) ∧ (∀ y0 y1 y2 y3 y4 y5, BP (ym.l2 k y0 y1 y2 y3 y4 y5) (ym.l2 (k + 1) y0 y1 y2 y3 y4 y5))
 | 0 => ⟨fun _ _ _ _ _ r h => by simp [ym.l0] at h, fun _ _ _ _ _ r h => by simp [ym.l1] at h, fun _ _ _ _ _ _ r h => by simp [ym.j3] at h, fun _ _ _ _ _ _ r h => by simp [ym.l3] at h, fun _ _ _ _ _ _ r h => by simp [ym.l2] at h⟩
 | k + 1 => by
  obtain ⟨Gg, ih1, ih2, ih3, Su⟩ := ym.mono_l k
  refine ⟨?_, ?_, ?_, ?_, ?_⟩
  ·
   intro y0 y1 y2 y3 y4
   unfold ym.l0
   repeat' first
   | exact Gg _ _ _ _ _
   | exact ih1 _ _ _ _ _
   | exact ih2 _ _ _ _ _ _
   | exact ih3 _ _ _ _ _ _
   | exact Su _ _ _ _ _ _
   | exact BP.refl _
   | exact BP.none _
   | refine BP.ite ?_ ?_
   | refine BP.bind ?_ (fun _ => ?_)
  ·
   intro y0 y1 y2 y3 y4
   unfold ym.l1
   repeat' first
   | exact Gg _ _ _ _ _
   | exact ih1 _ _ _ _ _
   | exact ih2 _ _ _ _ _ _
   | exact ih3 _ _ _ _ _ _
   | exact Su _ _ _ _ _ _
   | exact BP.refl _
   | exact BP.none _
   | refine BP.ite ?_ ?_
   | refine BP.bind ?_ (fun _ => ?_)
  ·
   intro y0 y1 y2 y3 y4 y5
   unfold ym.j3
   repeat' first
   | exact Gg _ _ _ _ _
   | exact ih1 _ _ _ _ _
   | exact ih2 _ _ _ _ _ _
   | exact ih3 _ _ _ _ _ _
   | exact Su _ _ _ _ _ _
   | exact BP.refl _
   | exact BP.none _
   | refine BP.ite ?_ ?_
   | refine BP.bind ?_ (fun _ => ?_)
  ·
   intro y0 y1 y2 y3 y4 y5
   unfold ym.l3
   repeat' first
   | exact Gg _ _ _ _ _
   | exact ih1 _ _ _ _ _
   | exact ih2 _ _ _ _ _ _
   | exact ih3 _ _ _ _ _ _
   | exact Su _ _ _ _ _ _
   | exact BP.refl _
   | exact BP.none _
   | refine BP.ite ?_ ?_
   | refine BP.bind ?_ (fun _ => ?_)
  ·
   intro y0 y1 y2 y3 y4 y5
   unfold ym.l2
   repeat' first
   | exact Gg _ _ _ _ _
   | exact ih1 _ _ _ _ _
   | exact ih2 _ _ _ _ _ _
   | exact ih3 _ _ _ _ _ _
   | exact Su _ _ _ _ _ _
   | exact BP.refl _
   | exact BP.none _
   | refine BP.ite ?_ ?_
   | refine BP.bind ?_ (fun _ => ?_)
theorem ym.mono : ∀ a0 a1 k, BP (ym.f k a0 a1) (ym.f (k + 1) a0 a1) := by
 intro a0 a1 k
 obtain ⟨Gg, ih1, ih2, ih3, Su⟩ := ym.mono_l k
 unfold ym.f
 repeat' first
  | exact Gg _ _ _ _ _
  | exact ih1 _ _ _ _ _
  | exact ih2 _ _ _ _ _ _
  | exact ih3 _ _ _ _ _ _
  | exact Su _ _ _ _ _ _
  | exact BP.refl _
  | exact BP.none _
  | refine BP.ite ?_ ?_
  | refine BP.bind ?_ (fun _ => ?_)
def ym.T7 : Bool × List (List Nat × List Nat) := (true, [([], []), ([0], [0]), ([], []), ([], []), ([2, 3], [2, 3]), ([4], [4]), ([1, 5, 4], [1, 5]), ([0, 1, 2, 3, 4, 5, 6], []), ([7, 6, 6, 0, 1, 2, 3, 4, 5, 6], [6, 7])])
def ym.B7 : List Nat := [0, 1, 0, 0, 12, 28, 63, 127, 255]
theorem ym.PX : CZ .any (opsOf Try.f30 7) = ym.T7 := by kernel_rfl
theorem ym.KE : BD ym.T7.2 ym.B7 = true := by kernel_rfl
set_option maxHeartbeats 8000000 in
set_option maxRecDepth 100000 in
theorem ym.calls (k : Nat) (a0 : Int) (a1 : Int) (r1 : Int) (r2 : List (List Int)) (w : World) (h : ym.f k a0 a1 = some (r1, r2)) :
  Calls Try.prog 30 #[.int .i64 a0, .int .i64 a1] w fun e w' => ∃ U8 : Value, e = .returned (.agg #[.int .i64 r1, U8]) ∧ Kd.S (Kd.slice 3 (Kd.int .i64)) 63 w' w.heap.size (fun _ => True) U8 r2 ∧ Below w.heap.size w w' := by
 have PY := Try.underlying29;have HB := yf.mk (Below.refl w.heap.size w)
 have H : (if 0 ≤ a1 then (if (a1 : Int).toNat ≤ 35184372088832 then (ym.l0 k a0 a1 (List.replicate (a1 : Int).toNat 0) 0 a0) else (none)) else (none)) = some (r1, r2) := h
 clear h
 by_cases c3 : 0 ≤ a1
 rotate_left
 ·
  rw [if_neg c3] at H;exact absurd H (by simp)
 rw [if_pos c3] at H;have G5 := eq_true c3;have JM := decide_eq_true c3;clear c3
 by_cases c4 : (a1 : Int).toNat ≤ 35184372088832
 rotate_left
 ·
  rw [if_neg c4] at H;exact absurd H (by simp)
 rw [if_pos c4] at H;have ES := eq_true c4;have Lx := decide_eq_true c4;clear c4;obtain ⟨bJ, aT⟩ : ∃ y_ : List Int, y_ = (List.replicate (a1 : Int).toNat 0) := ⟨_, rfl⟩
 replace H : (ym.l0 k a0 a1 bJ 0 a0) = some (r1, r2) := by (rw [aT]; with_reducible exact H)
 have dh := yf.mk aT;clear aT;have H' := yf.mk H;clear H
 go_enter Try.func30, Try.ntmps30
 go_wp2_with (first | ((with_reducible refine yI (N := 4) rfl ?_); refine yG rfl (N := 4) rfl (cs := #[.int .i64 0, .slice none 0 0]) (t := 29) (by go_simp) ?_; intro av hg w5 yJ hb; have ae := yf.mk (yJ); have dD := bG (w := w) hg; have dI := bG (w := w) hg; replace HB := bS HB hb; clear hb yJ hg) | ((with_reducible refine yI (N := 5) rfl ?_); refine yG rfl (N := 5) rfl (cs := #[.int .i64 0, .slice none 0 0]) (t := 29) (by go_simp) ?_; intro ak hg w6 yJ hb; have aa := yf.mk (yJ); have dx := bG (w := w) hg; have dn := bG (w := w) hg; have aU := Co ae hg; have bq := Ar ae hg; replace ae := bB ae hb; replace HB := bS HB hb; clear hb yJ hg; have a1Y := bq.out; have a1Z := aU.out; have SL := bc2 aa; have SN := bf aa) | ((with_reducible refine yI (N := 13) rfl ?_); refine Kd.MS (Kd.int .i64) _ 3 rfl (N := 13) rfl 63 _ _ rfl a1 rfl rfl Try.underlying63 (.int .i64 0) 8 info3 rfl (by decide) (by omega) 0 (ok := fun _ => True) (okp := fun _ => True) rfl (fun _ hk => hk) trivial (of_decide_eq_true ‹_›) (Nat.le_trans (Nat.mul_le_mul_right _ (of_decide_eq_true ‹_› : a1.toNat ≤ 35184372088832)) (by omega)) (Below.refl _ _) (Nat.le_refl _) ?_; intro v376 w9 SQ hb JN DW; clear JN DW; (rw [← dh.out] at SQ); have df := yf.mk (Kd.Ay SQ (yL (bO HB))); replace ae := yf.mk (yS (g := av) (o := .cells #[.int .i64 0, .slice none 0 0] 29 (0, 0)) (CJ ae rfl) hb); replace aa := yf.mk (yS (g := ak) (o := .cells #[.int .i64 a0, .slice none 0 0] 29 (0, 0)) (CJ aa rfl) hb); replace HB := bS HB hb; clear hb SQ))
 go_loopg [7] k (fun kq v7 w' => ∃ (Bu : List Int) (Ag : Int), v7 = .int .i64 Ag ∧ yf (ym.l0 kq a0 a1 Bu Ag a0 = some (r1, r2)) ∧ yf (kq ≤ k) ∧ yf (Kd.R (Kd.int .i64) 3 w' w.heap.size (fun _ => True) v376 Bu) ∧ yf (w'.heap[av]? = some (.cells #[.int .i64 0, (.slice none 0 0)] 29 (0, 0))) ∧ yf (w'.heap[ak]? = some (.cells #[.int .i64 a0, (.slice none 0 0)] 29 (0, 0))) ∧ yf (Below w.heap.size w w'))
 case atStart => exact ⟨(bJ), (0), (by rfl), H', ⟨Nat.le_refl _⟩, ⟨kR df⟩, ⟨kk ae⟩, ⟨kk aa⟩, ⟨bO HB⟩⟩
 case round =>
 clear H' G5 JM ES Lx SL SN;obtain ⟨Bu, Ag, rfl, HA, BJ, BV, ae, aa, HB⟩ := hrel
 cases gk with
 | zero => exact absurd HA.out (by simp [ym.l0])
 | succ k1 =>
 have H := HA.out;clear HA;simp only [ym.l0] at H
 by_cases c11 : Ag < a1
 ·
  rw [if_pos c11] at H;have GD := decide_eq_true c11;clear c11
  by_cases c12 : 0 ≤ Ag
  rotate_left
  ·
   rw [if_neg c12] at H;exact absurd H (by simp)
  rw [if_pos c12] at H;have Gh := decide_eq_true c12;clear c12
  by_cases c13 : Ag < (Bu.length : Int)
  rotate_left
  ·
   rw [if_neg c13] at H;exact absurd H (by simp)
  rw [if_pos c13] at H;have J9 := decide_eq_true c13;clear c13;obtain ⟨bA, aK⟩ : ∃ y_ : List Int, y_ = (Bu.set (Ag : Int).toNat Ag) := ⟨_, rfl⟩
  replace H : (ym.l0 k1 a0 a1 bA (wrap64 (Ag + 1)) a0) = some (r1, r2) := by (rw [aK]; with_reducible exact H)
  have cu := yf.mk aK;clear aK;have H' := yf.mk H;clear H
  have p14 : 0 ≤ (Ag : Int) := of_decide_eq_true ‹_›
  have q14 : (Ag : Int) < ((Bu.length : Int) : Int) := of_decide_eq_true ‹_›
  obtain ⟨SS, Zc, SV, Wi, a2c, a6v, Wj⟩ := Kd.HZ BV.out (by omega)
  (cases SV)
  have a4m := yf.mk Wi;have a4n := yf.mk Wj;clear Wi a2c Wj;obtain ⟨Wl, Wm⟩ := Kd.FJ 0 BV.out (Ag : Int) p14 q14;replace p14 := eq_true p14;replace q14 := eq_true q14;have aQ := Kd.Lm BV.out (Ag : Int) Ag
  go_wp2_with (((with_reducible refine Fu (t := 3) (p := 22) rfl ?_); refine EU (t := 3) (p := 22) (v := ?vo_w16) (w1 := (wr.setCell ⟨SS, (Ag : Int).toNat, none⟩ (.int .i64 Ag))) ?hg ?ho ?hn ?hr ?_; (case ho => rfl); (case hg => rfl); (case hn => rfl); (case hr => go_simp); intro w16 hw; have hg : wr.grownBy w16 (some SS) := (by rw [hw]; exact aQ.2); have OP : Kd.R (Kd.int .i64) 3 w16 w.heap.size (fun _ => True) (.slice (some ⟨SS, 0, none⟩) Bu.length Zc) bA := (by rw [hw, cu.out]; exact aQ.1); clear aQ; have BL := yf.mk (OP); have BN := yf.mk (zY (g := av) (o := .cells #[.int .i64 0, .slice none 0 0] 29 (0, 0)) (kk ae) hg (Kd.EI BV.out ae.out (by decide))); have BX := yf.mk (zY (g := ak) (o := .cells #[.int .i64 a0, .slice none 0 0] 29 (0, 0)) (kk aa) hg (Kd.EI BV.out aa.out (by decide))); have Cr := yf.mk ((by rw [hw]; exact DL (HB.out) a4m.out : Below w.heap.size w w16)); clear BV; clear ae; clear aa; clear HB; have BV := BL; have ae := BN; have aa := BX; have HB := Cr; clear BL BN BX Cr; clear hg hw OP))
  go_roundg k1
  case measure => have := BJ.out; omega
  case rel => exact ⟨(bA), (wrap64 (Ag + 1)), (by rfl), H', ⟨by have := BJ.out; omega⟩, ⟨kR BV⟩, ⟨kk ae⟩, ⟨kk aa⟩, ⟨bO HB⟩⟩
 rw [if_neg c11] at H;have GD := decide_eq_false c11;clear c11;have H' := yf.mk H;clear H
 go_wp2
 go_loopg [] k1 (fun kq w' => ∃ (Dm : List Int) (aA : Int) (az : List (List Int)) (u375001 : Value), yf (ym.l1 kq a0 a1 Dm a0 az = some (r1, r2)) ∧ yf (kq ≤ k1) ∧ yf (Kd.R (Kd.int .i64) 3 w' w.heap.size (fun _ => True) v376 Dm) ∧ yf (Kd.S (Kd.slice 3 (Kd.int .i64)) 63 w' w.heap.size (fun k_ => some k_ ≠ (v376 : Value).ownBlock) u375001 az) ∧ yf (w'.heap[av]? = some (.cells #[.int .i64 aA, (.slice none 0 0)] 29 (0, 0))) ∧ yf (w'.heap[ak]? = some (.cells #[.int .i64 a0, u375001] 29 (0, 0))) ∧ yf (Below w.heap.size w w'))
 case atStart => exact ⟨(Bu), (0), (([] : List (List Int))), (.slice none 0 0), H', ⟨Nat.le_refl _⟩, ⟨kR BV⟩, ⟨by exact Kd.VU _ _ _ _ _⟩, ⟨kk ae⟩, ⟨kk aa⟩, ⟨bO HB⟩⟩
 case round =>
 clear H' GD;obtain ⟨Dm, aA, az, u375001, HA, D6, BV, af, ae, aa, HB⟩ := hrel
 cases gk with
 | zero => exact absurd HA.out (by simp [ym.l1])
 | succ k2 =>
  have H := HA.out;clear HA;simp only [ym.l1] at H;obtain ⟨QE, aZ⟩ : ∃ y_ : List Int, y_ = (([] : List Int)) := ⟨_, rfl⟩
  replace H : (if QE.length + Dm.length < 17592186044416 then (if az.length < 5864062014805 then (ym.l2 k2 a0 a1 Dm (wrap64 (a1 - 1)) a0 (az ++ [(QE ++ Dm)])) else (none)) else (none)) = some (r1, r2) := by (have H2_ := (Option.bind_some _ _).symm.trans H; rw [aZ]; with_reducible exact H2_)
  have cO := yf.mk aZ;clear aZ
  by_cases c17 : QE.length + Dm.length < 17592186044416
  ·
   rw [if_pos c17] at H;have dm := yf.mk c17;clear c17;obtain ⟨aG, aM⟩ : ∃ y_ : List Int, y_ = (QE ++ Dm) := ⟨_, rfl⟩
   replace H : (if az.length < 5864062014805 then (ym.l2 k2 a0 a1 Dm (wrap64 (a1 - 1)) a0 (az ++ [aG])) else (none)) = some (r1, r2) := by (rw [aM]; with_reducible exact H)
   have bW := yf.mk aM;clear aM
   by_cases c18 : az.length < 5864062014805
   ·
    rw [if_pos c18] at H;have bR := yf.mk c18;clear c18;obtain ⟨ag, bv⟩ : ∃ y_ : List (List Int), y_ = (az ++ [aG]) := ⟨_, rfl⟩
    replace H : (ym.l2 k2 a0 a1 Dm (wrap64 (a1 - 1)) a0 ag) = some (r1, r2) := by (rw [bv]; with_reducible exact H)
    have bY := yf.mk bv;clear bv;have Nf := yf.mk H;clear H
    try go_wp2
    replace BV := yf.mk (Kd.AQ BV.out);replace af := yf.mk (Kd.Ea af.out);replace ae := yf.mk (yO ae.out);replace aa := yf.mk (yO aa.out);replace HB := yf.mk (za HB.out)
    refine Bc (n := 9) (S := fun w' => w'.cell? ⟨ak, 0, none⟩ = some (.int .i64 a0) ∧ w'.cell? ⟨ak, 1, none⟩ = some (u375001)) (ds := [8]) (bz 9 0) (by kernel_rfl) rfl rfl (bc2 aa) (fun hHeld => ?_); refine zF ym.PX ym.KE (fun yz Bi => ?_)
    generalize wr.drew = w20 at BV af ae aa HB hHeld ⊢;refine pU 0 23 9 1 yz ?_;refine pU 3 26 9 9 yz ?_
    refine BO 1 24 9 11 yz Bi hHeld ?_
    refine Ck (i := 2) (N := some 25) (bz 9 15) rfl rfl (Af yz.out (by kernel_rfl)) (by decide) (fun K hK => ?_)
    refine Kd.MW (Kd.int .i64) _ 3 ?hg (N := 25) ?hd (xs := ([] : List Int)) (inner := []) (ok := fun _ => True) (okp := fun _ => True) ?hr ?hp (fun _ hk => hk) trivial (Below.refl _ _) (Nat.le_refl _) (by simp) ?_; (case hd => rfl); (case hg => rfl); (case hr => go_simp); (case hp => exact (Cj.none _ _))
    intro v380 w21 PZ hb JN DW
    clear JN DW
    (rw [← cO.out] at PZ)
    have BL := yf.mk (Kd.Bb (kR BV) (Kd.Bh PZ) hb);have BN := yf.mk (Kd.Na (kS af) (Kd.Bh PZ) hb);have BX := yf.mk (Kd.Ay (Kd.C8 PZ (Kd.DV (kR BV))) (yL (bO HB)));have Cr := bB ae hb;have CG := bB aa hb;have CU := bS HB hb;clear BV af ae aa HB;have BV := BL;have af := BN;have aN := BX;have ae := Cr;have aa := CG;have HB := CU;clear BL BN BX Cr CG CU hb PZ;obtain ⟨IC, Fv, a2e⟩ := Kd.zJ BV.out
    (subst a2e)
    refine hK.out _ _ (bc2 aa) (fun hHeld => ?_)
    clear hK K
    refine AR (a' := ?_) ?_ ?_
    rotate_left
    ·
     show Act.put _ (some 25) _ = _
     simp only [pz]
     rfl
    refine Ck (i := 4) (N := some 27) (bz 9 31) rfl rfl (Af yz.out (by kernel_rfl)) (by decide) (fun K hK => ?_)
    refine Kd.K4 (Kd.int .i64) (w0 := w) w.heap.size (by rfl) (.tmp 25) (.tmp 26) 63 3 (.int .i64 0) 8 rfl Try.underlying63 info3 rfl (by decide) (by omega) v380 QE Dm _ _ _ (fun k_ => some k_ ≠ (.slice IC Dm.length Fv : Value).ownBlock) (fun _ => False) rfl rfl ?aO ?aR (fun _ _ h => h) (fun _ h => h.elim) ?aF ?aB ?aS ?aL ?_
    (case aR => repeat (exact (Kd.yT BV.out).2.2))
    (case aB => exact (bO HB))
    (case aF => exact (fun k_ hk => Kd.fresh' (Kd.DV (kR BV)) k_ hk))
    (case aO => exact (by (with_reducible repeat (apply Kd.yZ)); exact Kd.yX aN.out (fun _ hk => hk.2)))
    (case aS => exact (yL (bO HB)))
    (case aL => have := dm.out; omega)
    intro v383 w23 ho hb hg hat
    rw [← bW.out] at ho;replace BV := yf.mk (Kd.Iy (ok := (fun _ => True)) (kR BV) hg hat)
    replace af := yf.mk (Kd.MN (ok := (fun k_ => some k_ ≠ (.slice IC Dm.length Fv : Value).ownBlock)) (kS af) hg hat)
    replace ae := yf.mk (zY (g := av) (o := .cells #[.int .i64 aA, .slice none 0 0] 29 (0, 0)) (kk ae) hg (Kd.EI aN.out ae.out (by decide)));replace aa := yf.mk (zY (g := ak) (o := .cells #[.int .i64 a0, u375001] 29 (0, 0)) (kk aa) hg (Kd.EI aN.out aa.out (by decide)));have bC := yf.mk (ho);replace HB := yf.mk (hb);clear ho hb hg hat;obtain ⟨DJ, Dt, SX⟩ := Kd.zJ bC.out
    (subst SX)
    refine hK.out _ _ (bc2 aa) (fun hHeld => ?_)
    clear hK K
    refine AR (a' := ?_) ?_ ?_
    rotate_left
    ·
     show Act.put _ (some 27) _ = _
     simp only [pz]
     rfl
    refine Ck (i := 5) (N := some 28) (bz 9 63) rfl rfl (Af yz.out (by kernel_rfl)) (by decide) (fun K hK => ?_)
    refine SE (w1 := ?_) (v := ?_) (by rfl) rfl ?_ ?_
    rotate_left 2
    ·
     go_simp
     constructor
     ·
      rfl
     ·
      rfl
    refine hK.out _ _ ⟨(yA (Ex aa.out _) 0).trans rfl, (yA (Ex aa.out _) 1).trans rfl⟩ (fun hHeld => ?_)
    clear hK K
    refine AR (a' := ?_) ?_ ?_
    rotate_left
    ·
     show Act.put _ (some 28) _ = _
     simp only [pz]
     rfl
    refine Ck (i := 6) (N := some 29) (bz 9 127) rfl rfl (Af yz.out (by kernel_rfl)) (by decide) (fun K hK => ?_)
    refine Kd.Oj (Kd.slice 3 (Kd.int .i64)) (w0 := w) w.heap.size (by rfl) (.tmp 24) (.tmp 28) 27 63 (.slice none 0 0) 24 rfl Try.underlying27 PW rfl (by decide) (by omega) u375001 az aG [.slice DJ aG.length Dt] (fun k_ => some k_ ≠ (.slice IC Dm.length Fv : Value).ownBlock) (fun k_ => some k_ = (.slice DJ aG.length Dt : Value).ownBlock) rfl rfl ?aP (fun k_ E8 => ((Kd.yX (ok' := fun k_ => ((fun k_ => some k_ ≠ (.slice IC Dm.length Fv : Value).ownBlock)) k_ ∧ some k_ ≠ (u375001 : Value).ownBlock) (Kd.Kv (bC.out) (Kd.JF af.out) (by decide)) (fun k_ hk => ⟨hk.1, hk.2⟩))).1 k_ E8.symm) ?aF ?aO ?aB ?aS ?aL ?_
    (case aP => exact Kd.U0 (Kd.yX (Kd.Ht rfl (Kd.yX (ok' := fun k_ => ((fun k_ => some k_ ≠ (.slice IC Dm.length Fv : Value).ownBlock)) k_ ∧ some k_ ≠ (u375001 : Value).ownBlock) (Kd.Kv (bC.out) (Kd.JF af.out) (by decide)) (fun k_ hk => ⟨hk.1, hk.2⟩))) (fun _ h_ => h_)))
    (case aB => exact (bO HB))
    (case aF => exact (fun k_ hk => Kd.fresh' (Kd.DV (kR BV)) k_ hk))
    (case aO => exact (by (with_reducible repeat (apply Kd.Az)); exact Kd.Bo af.out (fun k_ hk => ⟨hk.1, fun e_ => hk.2 e_⟩)))
    (case aS => exact (yL (bO HB)))
    (case aL => have := bR.out; omega)
    intro v386 w25 ho hb hg hat
    rw [← bY.out] at ho;replace BV := yf.mk (Kd.Ku (kR BV) (Kd.JF (kS af)) (by decide) hg);replace ae := yf.mk (zY (g := av) (o := .cells #[.int .i64 aA, .slice none 0 0] 29 (0, 0)) (kk ae) hg (Kd.YX af.out ae.out (by decide)));replace aa := yf.mk (zY (g := ak) (o := .cells #[.int .i64 a0, u375001] 29 (0, 0)) (kk aa) hg (Kd.YX af.out aa.out (by decide)));have bP := yf.mk (ho);replace HB := yf.mk (hb);clear ho hb hg hat;obtain ⟨Gv, Gw, Q0⟩ := Kd.Eb bP.out
    (subst Q0)
    refine hK.out _ _ (bc2 aa) (fun hHeld => ?_)
    clear hK K
    refine AR (a' := ?_) ?_ ?_
    rotate_left
    ·
     show Act.put _ (some 29) _ = _
     simp only [pz]
     rfl
    refine pU 7 30 9 255 yz ?_
    refine OL (i := 8) (N := none) (bz 9 511) rfl rfl (Af yz.out (by kernel_rfl)) (by decide) (fun K hK => ?_)
    have a4o : w25.cell? ⟨ak, 1, none⟩ = some (u375001) := (yA aa.out 1).trans rfl
    have ZY := zH aa.out 1;have dA := aU.out;have dw := bq.out
    refine IR (w1 := ?_) (by rfl) rfl ?_ ?_
    rotate_left
    ·
     go_simp
     rfl
    refine hK.out _ _ ?_
    clear hK K
    refine BG (Al yz.out (by kernel_rfl)) ?_
    go_upto_block 4 with (fail)
    go_cut [8] (fun v8 wc => ∃ (kq : Nat) (ah : Int), v8 = .int .i64 ah ∧ yf (ym.j3 kq a0 a1 Dm ah a0 ag = some (r1, r2)) ∧ yf (kq ≤ k2) ∧ yf (Kd.R (Kd.int .i64) 3 wc w.heap.size (fun _ => True) (.slice IC Dm.length Fv) Dm) ∧ yf (Kd.S (Kd.slice 3 (Kd.int .i64)) 63 wc w.heap.size (fun k_ => some k_ ≠ ((.slice IC Dm.length Fv) : Value).ownBlock) (.slice Gv ag.length Gw) ag) ∧ yf (wc.heap[av]? = some (.cells #[.int .i64 aA, (.slice none 0 0)] 29 (0, 0))) ∧ yf (wc.heap[ak]? = some (.cells #[.int .i64 a0, (.slice Gv ag.length Gw)] 29 (0, 0))) ∧ yf (Below w.heap.size w wc))
    case first =>
     have H := Nf.out;clear Nf;have H' := yf.mk H;clear H
     go_wp2
     go_loopg [8] k2 (fun kq v8 w' => ∃ (Fw : Int), v8 = .int .i64 Fw ∧ yf (ym.l2 kq a0 a1 Dm Fw a0 ag = some (r1, r2)) ∧ yf (kq ≤ k2) ∧ yf (Kd.R (Kd.int .i64) 3 w' w.heap.size (fun _ => True) (.slice IC Dm.length Fv) Dm) ∧ yf (Kd.S (Kd.slice 3 (Kd.int .i64)) 63 w' w.heap.size (fun k_ => some k_ ≠ ((.slice IC Dm.length Fv) : Value).ownBlock) (.slice Gv ag.length Gw) ag) ∧ yf (w'.heap[av]? = some (.cells #[.int .i64 aA, (.slice none 0 0)] 29 (0, 0))) ∧ yf (w'.heap[ak]? = some (.cells #[.int .i64 a0, (.slice Gv ag.length Gw)] 29 (0, 0))) ∧ yf (Below w.heap.size w w'))
     case atStart => exact ⟨(wrap64 (a1 - 1)), (by rfl), H', ⟨Nat.le_refl _⟩, ⟨by (with_reducible repeat (apply Kd.yZ)); exact Kd.yX (F4 (g := ak) (Kd.Aw BV.out aa.out (by decide)) (fun _ hk => hk.2)) (fun _ hk => trivial)⟩, ⟨by (with_reducible repeat (apply Kd.Az)); exact Kd.Bo (GA (g := ak) (Kd.AO bP.out aa.out (by decide)) (fun _ hk => hk.2)) (fun _ hk => hk.1)⟩, bK ae rfl, bK aa rfl, ⟨bO HB⟩⟩
     case round =>
      clear H';obtain ⟨Fw, rfl, HA, GV, BV, af, ae, aa, HB⟩ := hrel
      cases gk with
      | zero => exact absurd HA.out (by simp [ym.l2])
      | succ k3 =>
       have H := HA.out;clear HA;simp only [ym.l2] at H
       by_cases Oq : Fw ≥ 0
       ·
        rw [if_pos Oq] at H;have QF := decide_eq_true Oq;clear Oq
        (skip)
        by_cases SY : 0 ≤ Fw
        ·
         rw [if_pos SY] at H;have ZZ := decide_eq_true SY;clear SY
         by_cases c31 : Fw < (Dm.length : Int)
         ·
          rw [if_pos c31] at H;have OQ := decide_eq_true c31;clear c31
          by_cases c32 : (rd Dm Fw) = (wrap64 ((wrap64 (a0 - a1)) + Fw))
          ·
           rw [if_pos c32] at H;have M4 := beq_iff_eq.mpr c32
           have QG : ((rd Dm Fw) != (wrap64 ((wrap64 (a0 - a1)) + Fw))) = false := bne_eq_false_iff_eq.mpr c32
           clear c32;have H' := yf.mk H;clear H
           have aD : 0 ≤ (Fw : Int) := of_decide_eq_true ‹_›
           have aC : Fw < (Dm.length : Int) := of_decide_eq_true ‹_›
           obtain ⟨cK, aV, bX⟩ := Kd.C9 (Kd.yT BV.out).2.2 Fw aD aC;cases aV;replace aD := eq_true aD;replace aC := eq_true aC
           go_wp2
           go_roundg k3
           case measure => have := BJ.out; have := D6.out; have := GV.out; omega
           case rel => exact ⟨(wrap64 (Fw - 1)), (by rfl), H', ⟨by have := BJ.out; have := D6.out; have := GV.out; omega⟩, ⟨kR BV⟩, ⟨kS af⟩, ⟨kk ae⟩, ⟨kk aa⟩, ⟨bO HB⟩⟩
          ·
           rw [if_neg c32] at H;have M4 := beq_eq_false_iff_ne.mpr c32;have QG := bne_iff_ne.mpr c32;have H' := yf.mk H;clear H
           have aD : 0 ≤ (Fw : Int) := of_decide_eq_true ‹_›
           have aC : Fw < (Dm.length : Int) := of_decide_eq_true ‹_›
           obtain ⟨cK, aV, bX⟩ := Kd.C9 (Kd.yT BV.out).2.2 Fw aD aC;cases aV;replace aD := eq_true aD;replace aC := eq_true aC
           go_wp2
           go_meet
           case rel => exact ⟨_, (Fw), (by rfl), H', ⟨by have := BJ.out; have := D6.out; have := GV.out; omega⟩, ⟨kR BV⟩, ⟨kS af⟩, ⟨kk ae⟩, ⟨kk aa⟩, ⟨bO HB⟩⟩
         ·
          rw [if_neg c31] at H;exact absurd H (by simp)
        ·
         rw [if_neg SY] at H;exact absurd H (by simp)
       ·
        rw [if_neg Oq] at H;have QF := decide_eq_false Oq;clear Oq
        (skip)
        have H' := yf.mk H;clear H
        go_wp2
        go_meet
        case rel => exact ⟨_, (Fw), (by rfl), H', ⟨by have := BJ.out; have := D6.out; have := GV.out; omega⟩, ⟨kR BV⟩, ⟨kS af⟩, ⟨kk ae⟩, ⟨kk aa⟩, ⟨bO HB⟩⟩
    case rest =>
     clear Nf;obtain ⟨kq, ah, rfl, HA, Hd, BV, af, ae, aa, HB⟩ := hcut
     cases kq with
     | zero => exact absurd HA.out (by simp [ym.j3])
     | succ ME =>
      have H := HA.out;clear HA;simp only [ym.j3] at H
      by_cases Wn : ah < 0
      ·
       rw [if_pos Wn] at H;have bL := decide_eq_true Wn;clear Wn;simp only [Option.some.injEq, Prod.mk.injEq] at H;obtain ⟨rfl, rfl⟩ := H;have U9 := bq.out;have Ua := aU.out;have OT := bc2 aa;have OU := bf aa;have QH := bc2 ae;have QI := bf ae
       go_wp2
       refine bodyPost_ret (results_cell_row rfl _ _ av 29 #[.int .i64 a0, .slice Gv ag.length Gw] (0, 0) _ rfl (CJ ae rfl) Try.underlying29 rfl (by kernel_rfl)) rfl ?_
       exact ⟨_, by rfl, by (with_reducible repeat (apply Kd.Az)); exact Kd.Bo (GA (g := av) (Kd.AO af.out ae.out (by decide)) (fun _ hk => hk.2)) (fun _ hk => trivial), bO HB⟩
      ·
       rw [if_neg Wn] at H;have bL := decide_eq_false Wn;clear Wn
       by_cases c37 : 0 ≤ ah
       ·
        rw [if_pos c37] at H;have a00 := decide_eq_true c37;clear c37
        by_cases Km : ah < (Dm.length : Int)
        ·
         rw [if_pos Km] at H;have Ng := decide_eq_true Km;clear Km;obtain ⟨bu, bi⟩ : ∃ y_ : List Int, y_ = (Dm.set (ah : Int).toNat (wrap64 ((rd Dm ah) + 1))) := ⟨_, rfl⟩
         replace H : (ym.l3 ME a0 a1 bu (wrap64 (ah + 1)) a0 ag) = some (r1, r2) := by (rw [bi]; with_reducible exact H)
         have bT := yf.mk bi;clear bi;have H' := yf.mk H;clear H
         have aJ : 0 ≤ (ah : Int) := of_decide_eq_true ‹_›
         have aH : ah < (Dm.length : Int) := of_decide_eq_true ‹_›
         obtain ⟨dF, bZ, bI⟩ := Kd.C9 (Kd.yT BV.out).2.2 ah aJ aH;cases bZ;replace aJ := eq_true aJ;replace aH := eq_true aH
         have p39 : 0 ≤ (ah : Int) := of_decide_eq_true ‹_›
         have aI : (ah : Int) < ((Dm.length : Int) : Int) := of_decide_eq_true ‹_›
         obtain ⟨ax, dC, cz, bF, d9, dH, bM⟩ := Kd.HZ BV.out (by omega)
         (cases cz)
         have bH := yf.mk bF;have dG := yf.mk bM;clear bF d9 bM
         (simp only [add_plain] at bI)
         obtain ⟨bV, dB⟩ := Kd.FJ 0 BV.out (ah : Int) p39 aI;replace p39 := eq_true p39;replace aI := eq_true aI;have bn := Kd.Lm BV.out (ah : Int) (wrap64 ((rd Dm ah) + 1))
         go_wp2_with (((with_reducible refine Fu (t := 3) (p := 57) rfl ?_); refine EU (t := 3) (p := 57) (v := ?vo_w41) (w1 := (wc.setCell ⟨ax, (ah : Int).toNat, none⟩ (.int .i64 (wrap64 ((rd Dm ah) + 1))))) ?hg ?ho ?hn ?hr ?_; (case ho => rfl); (case hg => rfl); (case hn => rfl); (case hr => go_simp); intro w41 hw; have hg : wc.grownBy w41 (some ax) := (by rw [hw]; exact bn.2); have OP : Kd.R (Kd.int .i64) 3 w41 w.heap.size (fun _ => True) (.slice (some ⟨ax, 0, none⟩) Dm.length Fv) bu := (by rw [hw, bT.out]; exact bn.1); clear bn; have BL := yf.mk (OP); have BN := yf.mk (Kd.MN (v := (.slice (some ⟨ax, 0, none⟩) Dm.length Fv)) (v1 := (.slice (some ⟨ax, 0, none⟩) Dm.length Fv)) (ok := (fun _ => True)) (by (with_reducible repeat (apply Kd.Az)); exact Kd.Bo af.out (fun _ hk => ⟨trivial, hk⟩)) hg (.inl rfl)); have BX := yf.mk (zY (g := av) (o := .cells #[.int .i64 aA, .slice none 0 0] 29 (0, 0)) (kk ae) hg (Kd.EI BV.out ae.out (by decide))); have Cr := yf.mk (zY (g := ak) (o := .cells #[.int .i64 a0, .slice Gv ag.length Gw] 29 (0, 0)) (kk aa) hg (Kd.EI BV.out aa.out (by decide))); have CG := yf.mk ((by rw [hw]; exact DL (HB.out) bH.out : Below w.heap.size w w41)); clear BV; clear af; clear ae; clear aa; clear HB; have BV := BL; have af := BN; have ae := BX; have aa := Cr; have HB := CG; clear BL BN BX Cr CG; clear hg hw OP))
         go_loopg [9] ME (fun kq v9 w' => ∃ (aj : List Int) (ai : Int), v9 = .int .i64 ai ∧ yf (ym.l3 kq a0 a1 aj ai a0 ag = some (r1, r2)) ∧ yf (kq ≤ ME) ∧ yf (Kd.R (Kd.int .i64) 3 w' w.heap.size (fun _ => True) (.slice (some ⟨ax, 0, none⟩) Dm.length Fv) aj) ∧ yf (Kd.S (Kd.slice 3 (Kd.int .i64)) 63 w' w.heap.size (fun k_ => some k_ ≠ ((.slice (some ⟨ax, 0, none⟩) Dm.length Fv) : Value).ownBlock) (.slice Gv ag.length Gw) ag) ∧ yf (w'.heap[av]? = some (.cells #[.int .i64 aA, (.slice none 0 0)] 29 (0, 0))) ∧ yf (w'.heap[ak]? = some (.cells #[.int .i64 a0, (.slice Gv ag.length Gw)] 29 (0, 0))) ∧ yf (Below w.heap.size w w'))
         case atStart => exact ⟨(bu), (wrap64 (ah + 1)), (by rfl), H', ⟨Nat.le_refl _⟩, ⟨kR BV⟩, ⟨by (with_reducible repeat (apply Kd.Az)); exact Kd.Bo af.out (fun _ hk => hk.2)⟩, ⟨kk ae⟩, ⟨kk aa⟩, ⟨bO HB⟩⟩
         case round =>
          clear H' bL a00 Ng p39 aI bI bV aJ aH;obtain ⟨aj, ai, rfl, HA, Ja, BV, af, ae, aa, HB⟩ := hrel;have au := (Kd.yT BV.out).1;rw [au] at BV
          (try simp only [au])
          (try simp only [au] at ae)
          (try simp only [au] at aa)
          (try simp only [au] at af)
          cases gk with
          | zero => exact absurd HA.out (by simp [ym.l3])
          | succ k4 =>
           have H := HA.out;clear HA;simp only [ym.l3] at H
           by_cases Hu : ai < a1
           ·
            rw [if_pos Hu] at H;have JU := decide_eq_true Hu;clear Hu;obtain ⟨ay, bN⟩ : ∃ j_ : Int, (wrap64 (ai - 1)) = j_ := ⟨_, rfl⟩
            replace H : (if 0 ≤ (ay) then (if (ay) < (aj.length : Int) then (if 0 ≤ ai then (if ai < (aj.length : Int) then (ym.l3 k4 a0 a1 (aj.set (ai : Int).toNat (wrap64 ((rd aj (ay)) + 1))) (wrap64 (ai + 1)) a0 ag) else (none)) else (none)) else (none)) else (none)) = some (r1, r2) := by (rw [bN] at H; exact H)
            have hji43w : (IntKind.i64.wrap (ai - 1)) = ay := (i64_w _).trans bN
            by_cases M5 : 0 ≤ (ay)
            ·
             rw [if_pos M5] at H;have Ub := decide_eq_true M5;clear M5
             by_cases Ot : (ay) < (aj.length : Int)
             ·
              rw [if_pos Ot] at H;have Wo := decide_eq_true Ot;clear Ot
              by_cases c46 : 0 ≤ ai
              ·
               rw [if_pos c46] at H;have Wp := decide_eq_true c46;clear c46
               by_cases J2 : ai < (aj.length : Int)
               ·
                rw [if_pos J2] at H;have KF := decide_eq_true J2;clear J2;obtain ⟨aX, aY⟩ : ∃ y_ : List Int, y_ = (aj.set (ai : Int).toNat (wrap64 ((rd aj (ay)) + 1))) := ⟨_, rfl⟩
                replace H : (ym.l3 k4 a0 a1 aX (wrap64 (ai + 1)) a0 ag) = some (r1, r2) := by (rw [aY]; with_reducible exact H)
                have di := yf.mk aY;clear aY;have H' := yf.mk H;clear H
                have aW : 0 ≤ ((ay) : Int) := of_decide_eq_true ‹_›
                have bg : (ay) < (aj.length : Int) := of_decide_eq_true ‹_›
                obtain ⟨bQ, cZ, bU⟩ := Kd.C9 (Kd.yT BV.out).2.2 (ay) aW bg;obtain rfl : (⟨ax, 0, none⟩ : Addr) = bQ := (by injection cZ)
                (simp only [add_plain] at bU)
                replace aW := eq_true aW;replace bg := eq_true bg
                have p48 : 0 ≤ (ai : Int) := of_decide_eq_true ‹_›
                have bD : (ai : Int) < ((aj.length : Int) : Int) := of_decide_eq_true ‹_›
                obtain ⟨dE, dz⟩ := Kd.FJ 0 BV.out (ai : Int) p48 bD;replace p48 := eq_true p48;replace bD := eq_true bD;have Ta := Kd.Lm BV.out (ai : Int) (wrap64 ((rd aj (ay)) + 1))
                go_wp2_with (((with_reducible refine Fu (t := 3) (p := 73) rfl ?_); refine EU (t := 3) (p := 73) (v := ?vo_w50) (w1 := (wr.setCell ⟨ax, (ai : Int).toNat, none⟩ (.int .i64 (wrap64 ((rd aj (ay)) + 1))))) ?hg ?ho ?hn ?hr ?_; (case ho => rfl); (case hg => rfl); (case hn => rfl); (case hr => go_simp); intro w50 hw; have hg : wr.grownBy w50 (some ax) := (by rw [hw]; exact Ta.2); have OP : Kd.R (Kd.int .i64) 3 w50 w.heap.size (fun _ => True) (.slice (some ⟨ax, 0, none⟩) aj.length Fv) aX := (by rw [hw, di.out]; exact Ta.1); clear Ta; have BL := yf.mk (OP); have BN := yf.mk (Kd.MN (v := (.slice (some ⟨ax, 0, none⟩) aj.length Fv)) (v1 := (.slice (some ⟨ax, 0, none⟩) aj.length Fv)) (ok := (fun _ => True)) (by (with_reducible repeat (apply Kd.Az)); exact Kd.Bo af.out (fun _ hk => ⟨trivial, hk⟩)) hg (.inl rfl)); have BX := yf.mk (zY (g := av) (o := .cells #[.int .i64 aA, .slice none 0 0] 29 (0, 0)) (kk ae) hg (Kd.EI BV.out ae.out (by decide))); have Cr := yf.mk (zY (g := ak) (o := .cells #[.int .i64 a0, .slice Gv ag.length Gw] 29 (0, 0)) (kk aa) hg (Kd.EI BV.out aa.out (by decide))); have CG := yf.mk ((by rw [hw]; exact DL (HB.out) bH.out : Below w.heap.size w w50)); clear BV; clear af; clear ae; clear aa; clear HB; have BV := BL; have af := BN; have ae := BX; have aa := Cr; have HB := CG; clear BL BN BX Cr CG; clear hg hw OP))
                (try simp only [← au])
                go_roundg k4
                case measure => have := BJ.out; have := D6.out; have := Hd.out; have := Ja.out; omega
                case rel => exact ⟨(aX), (wrap64 (ai + 1)), (by rfl), H', ⟨by have := BJ.out; have := D6.out; have := Hd.out; have := Ja.out; omega⟩, ⟨by (try simp only [au]); (with_reducible repeat (apply Kd.yZ)); exact BV.out⟩, ⟨by (try simp only [au]); (with_reducible repeat (apply Kd.Az)); exact Kd.Bo af.out (fun _ hk => hk.2)⟩, ⟨by (try simp only [au]); refine kp ?_; exact ae.out⟩, ⟨by (try simp only [au]); refine kp ?_; exact aa.out⟩, ⟨bO HB⟩⟩
               ·
                rw [if_neg J2] at H;exact absurd H (by simp)
              ·
               rw [if_neg c46] at H;exact absurd H (by simp)
             ·
              rw [if_neg Ot] at H;exact absurd H (by simp)
            ·
             rw [if_neg M5] at H;exact absurd H (by simp)
           ·
            rw [if_neg Hu] at H;have JU := decide_eq_false Hu;clear Hu;have H' := yf.mk H;clear H
            go_wp2
            (try simp only [← au])
            go_roundg k4
            case measure => have := BJ.out; have := D6.out; have := Hd.out; have := Ja.out; omega
            case rel => exact ⟨(aj), (aA), (ag), (.slice Gv ag.length Gw), H', ⟨by have := BJ.out; have := D6.out; have := Hd.out; have := Ja.out; omega⟩, ⟨by (try simp only [au]); (with_reducible repeat (apply Kd.yZ)); exact BV.out⟩, ⟨by (try simp only [au]); (with_reducible repeat (apply Kd.Az)); exact af.out⟩, ⟨by (try simp only [au]); refine kp ?_; exact ae.out⟩, ⟨by (try simp only [au]); refine kp ?_; exact aa.out⟩, ⟨bO HB⟩⟩
        ·
         rw [if_neg Km] at H;exact absurd H (by simp)
       ·
        rw [if_neg c37] at H;exact absurd H (by simp)
   ·
    rw [if_neg c18] at H;exact absurd H (by simp)
  ·
   rw [if_neg c17] at H;exact absurd H (by simp)
end Go.Proofs.Ytjonnfmoocijlaa.P
