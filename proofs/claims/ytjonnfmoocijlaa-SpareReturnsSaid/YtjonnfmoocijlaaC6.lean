/- Texts of a claim, packed. -/
import Derived.Test.YtjonnfmoocijlaaC4
set_option linter.all false
namespace Go.Proofs.Ytjonnfmoocijlaa.P
open Go.RowKit Go.Proofs.YtjonnfmoocijlaaKW.PrintWords Go.Proofs.YtjonnfmoocijlaaKW.PrintLast Go.Proofs.YtjonnfmoocijlaaKW.PrintMore
attribute [local go_sem] zO zP Aj Ak zC zD zQ zR
mutual
def yC.l0 : Nat → Int → List (JS) → Int → Option ((List (JS)))
 | 0, _, _, _ => none
 | k + 1, x0, x3, x4 => if x4 < x0 then (yC.l1 k x0 x3 x4 0) else (some x3)
def yC.l1 : Nat → Int → List (JS) → Int → Int → Option ((List (JS)))
 | 0, _, _, _, _ => none
 | k + 1, x0, x3, x4, x5 => if x5 < x0 then (yC.l2 k x0 x3 x4 x5 0) else (yC.l0 k x0 x3 (wrap64 (x4 + 1)))
def yC.l2 : Nat → Int → List (JS) → Int → Int → Int → Option ((List (JS)))
 | 0, _, _, _, _, _ => none
 | k + 1, x0, x3, x4, x5, x6 => if x6 < x0 then (if x4 = 1 then (yC.j3 k x0 x3 x4 x5 x6 true) else (if x4 = 0 then (if x5 = 1 then (yC.j3 k x0 x3 x4 x5 x6 true) else (if x5 = 0 then (yC.j3 k x0 x3 x4 x5 x6 (x6 == 1)) else (yC.j3 k x0 x3 x4 x5 x6 false))) else (yC.j3 k x0 x3 x4 x5 x6 false))) else (yC.l1 k x0 x3 x4 (wrap64 (x5 + 1)))
def yC.j3 : Nat → Int → List (JS) → Int → Int → Int → Bool → Option ((List (JS)))
 | 0, _, _, _, _, _, _ => none
 | k + 1, x0, x3, x4, x5, x6, x43 => if x43 = true then (if x3.length < 5864062014805 then (yC.l2 k x0 (x3 ++ [(⟨x4, x5, x6⟩ : JS)]) x4 x5 (wrap64 (x6 + 1))) else (none)) else (yC.l2 k x0 x3 x4 x5 (wrap64 (x6 + 1)))
end
def yC.f (k : Nat) (a0 : Int) : Option ((List (JS))) := yC.l0 k a0 ([] : List (JS)) 0
theorem yC.mono_l : ∀ k, (∀ y0 y1 y2, BP (yC.l0 k y0 y1 y2) (yC.l0 (k + 1) y0 y1 y2)) ∧ (∀ y0 y1 y2 y3, BP (yC.l1 k y0 y1 y2 y3) (yC.l1 (k + 1) y0 y1 y2 y3)) ∧ (∀ y0 y1 y2 y3 y4, BP (yC.l2 k y0 y1 y2 y3 y4) (yC.l2 (k + 1) y0 y1 y2 y3 y4)) ∧ (∀ y0 y1 y2 y3 y4 y5, BP (yC.j3 k y0 y1 y2 y3 y4 y5) (yC.j3 (k + 1) y0 y1 y2 y3 y4 y5))
 | 0 => ⟨fun _ _ _ r h => by simp [yC.l0] at h, fun _ _ _ _ r h => by simp [yC.l1] at h, fun _ _ _ _ _ r h => by simp [yC.l2] at h, fun _ _ _ _ _ _ r h => by simp [yC.j3] at h⟩
 | k + 1 => by
  obtain ⟨Gg, ih1, ih2, ih3⟩ := yC.mono_l k
  refine ⟨?_, ?_, ?_, ?_⟩
  ·
   intro y0 y1 y2
   unfold yC.l0
   repeat' first
   | exact Gg _ _ _
   | exact ih1 _ _ _ _
   | exact ih2 _ _ _ _ _
   | exact ih3 _ _ _ _ _ _
   | exact BP.refl _
   | exact BP.none _
   | refine BP.ite ?_ ?_
   | refine BP.bind ?_ (fun _ => ?_)
  ·
   intro y0 y1 y2 y3
   unfold yC.l1
   repeat' first
   | exact Gg _ _ _
   | exact ih1 _ _ _ _
   | exact ih2 _ _ _ _ _
   | exact ih3 _ _ _ _ _ _
   | exact BP.refl _
   | exact BP.none _
   | refine BP.ite ?_ ?_
   | refine BP.bind ?_ (fun _ => ?_)
  ·
   intro y0 y1 y2 y3 y4
   unfold yC.l2
   repeat' first
   | exact Gg _ _ _
   | exact ih1 _ _ _ _
   | exact ih2 _ _ _ _ _
   | exact ih3 _ _ _ _ _ _
   | exact BP.refl _
   | exact BP.none _
   | refine BP.ite ?_ ?_
   | refine BP.bind ?_ (fun _ => ?_)
  ·
   intro y0 y1 y2 y3 y4 y5
   unfold yC.j3
   repeat' first
   | exact Gg _ _ _
   | exact ih1 _ _ _ _
   | exact ih2 _ _ _ _ _
   | exact ih3 _ _ _ _ _ _
   | exact BP.refl _
   | exact BP.none _
   | refine BP.ite ?_ ?_
   | refine BP.bind ?_ (fun _ => ?_)
theorem yC.mono : ∀ a0 k, BP (yC.f k a0) (yC.f (k + 1) a0) := by
 intro a0 k
 obtain ⟨Gg, ih1, ih2, ih3⟩ := yC.mono_l k
 unfold yC.f
 repeat' first
  | exact Gg _ _ _
  | exact ih1 _ _ _ _
  | exact ih2 _ _ _ _ _
  | exact ih3 _ _ _ _ _ _
  | exact BP.refl _
  | exact BP.none _
  | refine BP.ite ?_ ?_
  | refine BP.bind ?_ (fun _ => ?_)
set_option maxHeartbeats 8000000 in
set_option maxRecDepth 100000 in
theorem yC.calls (k : Nat) (a0 : Int) (r : List (JS)) (w : World) (h : yC.f k a0 = some r) :
  Calls Try.prog 57 #[.int .i64 a0] w fun e w' => ∃ GG : Value, e = .returned (GG) ∧ Kd.R VG 98 w' w.heap.size (fun _ => True) GG r ∧ Below w.heap.size w w' := by
 have ax := Try.underlying98;have HB := yf.mk (Below.refl w.heap.size w)
 have H : (yC.l0 k a0 ([] : List (JS)) 0) = some r := h
 clear h;have H' := yf.mk H;clear H
 go_enter Try.func57, Try.ntmps57
 go_wp2
 go_loopg [3, 4] k (fun kq v3 v4 w' => ∃ (aj : List (JS)) (aa : Int), v4 = .int .i64 aa ∧ yf (yC.l0 kq a0 aj aa = some r) ∧ yf (kq ≤ k) ∧ yf (Kd.R VG 98 w' w.heap.size (fun _ => True) v3 aj) ∧ yf (Below w.heap.size w w'))
 case atStart => exact ⟨(([] : List (JS))), (0), (by rfl), H', ⟨Nat.le_refl _⟩, ⟨by exact Kd.Er _ _ _ _ _⟩, ⟨bO HB⟩⟩
 case round =>
 clear H';obtain ⟨aj, aa, rfl, HA, BJ, CW, HB⟩ := hrel
 cases gk with
 | zero => exact absurd HA.out (by simp [yC.l0])
 | succ k1 =>
 have H := HA.out;clear HA;simp only [yC.l0] at H
 by_cases c2 : aa < a0
 rotate_left
 ·
  rw [if_neg c2] at H;have V5 := decide_eq_false c2;clear c2;obtain rfl := Option.some.inj H
  go_wp2
  go_ret
  exact ⟨_, by rfl, by (with_reducible repeat (apply Kd.yZ)); exact CW.out, bO HB⟩
 rw [if_pos c2] at H;have V5 := decide_eq_true c2;clear c2;have H' := yf.mk H;clear H
 go_wp2
 go_loopg [3, 5] k1 (fun kq v3 v5 w' => ∃ (ah : List (JS)) (ae : Int), v5 = .int .i64 ae ∧ yf (yC.l1 kq a0 ah aa ae = some r) ∧ yf (kq ≤ k1) ∧ yf (Kd.R VG 98 w' w.heap.size (fun _ => True) v3 ah) ∧ yf (Below w.heap.size w w'))
 case atStart => exact ⟨(aj), (0), (by rfl), H', ⟨Nat.le_refl _⟩, ⟨kR CW⟩, ⟨bO HB⟩⟩
 case round =>
 clear H' V5;obtain ⟨ah, ae, rfl, HA, D6, CW, HB⟩ := hrel
 cases gk with
 | zero => exact absurd HA.out (by simp [yC.l1])
 | succ k2 =>
  have H := HA.out;clear HA;simp only [yC.l1] at H
  by_cases c3 : ae < a0
  ·
   rw [if_pos c3] at H;have G5 := decide_eq_true c3;clear c3;have H' := yf.mk H;clear H
   go_wp2
   go_loopg [3, 6] k2 (fun kq v3 v6 w' => ∃ (ag : List (JS)) (af : Int), v6 = .int .i64 af ∧ yf (yC.l2 kq a0 ag aa ae af = some r) ∧ yf (kq ≤ k2) ∧ yf (Kd.R VG 98 w' w.heap.size (fun _ => True) v3 ag) ∧ yf (Below w.heap.size w w'))
   case atStart => exact ⟨(ah), (0), (by rfl), H', ⟨Nat.le_refl _⟩, ⟨kR CW⟩, ⟨bO HB⟩⟩
   case round =>
    clear H' G5;obtain ⟨ag, af, rfl, HA, GV, CW, HB⟩ := hrel
    cases gk with
    | zero => exact absurd HA.out (by simp [yC.l2])
    | succ k3 =>
     have H := HA.out;clear HA;simp only [yC.l2] at H
     by_cases c4 : af < a0
     ·
      rw [if_pos c4] at H;have ES := decide_eq_true c4;clear c4;have HC5 := yf.mk H;clear H
      go_upto_region 11 with (fail)
      go_cut [43] (fun v43 wc => ∃ (kq : Nat) (ai : Bool), v43 = .bool ai ∧ yf (yC.j3 kq a0 ag aa ae af ai = some r) ∧ yf (kq ≤ k3) ∧ yf (Kd.R VG 98 wc w.heap.size (fun _ => True) u3 ag) ∧ yf (Below w.heap.size w wc))
      case first =>
       have H := HC5.out;clear HC5
       by_cases c6 : aa = 1
       ·
        rw [if_pos c6] at H;have EJ := beq_iff_eq.mpr c6
        have IX : (aa != 1) = false := bne_eq_false_iff_eq.mpr c6
        clear c6
        (skip)
        have H' := yf.mk H;clear H
        go_wp2
        go_meet
        case rel => exact ⟨_, (true), (by rfl), H', ⟨by have := BJ.out; have := D6.out; have := GV.out; omega⟩, ⟨kR CW⟩, ⟨bO HB⟩⟩
       ·
        rw [if_neg c6] at H;have EJ := beq_eq_false_iff_ne.mpr c6;have IX := bne_iff_ne.mpr c6
        (skip)
        by_cases c7 : aa = 0
        ·
         rw [if_pos c7] at H;have GN := beq_iff_eq.mpr c7
         have Ou : (aa != 0) = false := bne_eq_false_iff_eq.mpr c7
         clear c7
         by_cases c8 : ae = 1
         ·
          rw [if_pos c8] at H;have GZ := beq_iff_eq.mpr c8
          have Nh : (ae != 1) = false := bne_eq_false_iff_eq.mpr c8
          clear c8;have H' := yf.mk H;clear H
          go_wp2
          go_meet
          case rel => exact ⟨_, (true), (by rfl), H', ⟨by have := BJ.out; have := D6.out; have := GV.out; omega⟩, ⟨kR CW⟩, ⟨bO HB⟩⟩
         ·
          rw [if_neg c8] at H;have GZ := beq_eq_false_iff_ne.mpr c8;have Nh := bne_iff_ne.mpr c8
          by_cases c9 : ae = 0
          ·
           rw [if_pos c9] at H;have IE := beq_iff_eq.mpr c9
           have QJ : (ae != 0) = false := bne_eq_false_iff_eq.mpr c9
           clear c9;have H' := yf.mk H;clear H
           go_wp2
           go_meet
           case rel => exact ⟨_, ((af == 1)), (by rfl), H', ⟨by have := BJ.out; have := D6.out; have := GV.out; omega⟩, ⟨kR CW⟩, ⟨bO HB⟩⟩
          ·
           rw [if_neg c9] at H;have IE := beq_eq_false_iff_ne.mpr c9;have QJ := bne_iff_ne.mpr c9;have H' := yf.mk H;clear H
           go_wp2
           go_meet
           case rel => exact ⟨_, (false), (by rfl), H', ⟨by have := BJ.out; have := D6.out; have := GV.out; omega⟩, ⟨kR CW⟩, ⟨bO HB⟩⟩
        ·
         rw [if_neg c7] at H;have GN := beq_eq_false_iff_ne.mpr c7;have Ou := bne_iff_ne.mpr c7;have H' := yf.mk H;clear H
         go_wp2
         go_meet
         case rel => exact ⟨_, (false), (by rfl), H', ⟨by have := BJ.out; have := D6.out; have := GV.out; omega⟩, ⟨kR CW⟩, ⟨bO HB⟩⟩
      case rest =>
       clear HC5 ES;obtain ⟨kq, ai, rfl, HA, HJ4, CW, HB⟩ := hcut
       cases kq with
       | zero => exact absurd HA.out (by simp [yC.j3])
       | succ kj4 =>
        have H := HA.out;clear HA;simp only [yC.j3] at H
        by_cases c10 : ai = true
        ·
         subst c10;rw [if_pos rfl] at H
         by_cases c11 : ag.length < 5864062014805
         ·
          rw [if_pos c11] at H;have ak := yf.mk c11;clear c11;obtain ⟨y101, hy101⟩ : ∃ y_ : List (JS), y_ = (ag ++ [(⟨aa, ae, af⟩ : JS)]) := ⟨_, rfl⟩
          replace H : (yC.l2 kj4 a0 y101 aa ae (wrap64 (af + 1))) = some r := by (rw [hy101]; with_reducible exact H)
          have au := yf.mk hy101;clear hy101;have H' := yf.mk H;clear H
          go_wp2_with (((with_reducible refine BH (b := .append) (xs := #[.tmp 44, .tmp 49]) rfl ?_); at_builtin; refine Kd.El VG (w0 := w) w.heap.size rfl (.tmp 44) (.tmp 49) 95 98 (.agg #[(.int .i64 0), (.int .i64 0), (.int .i64 0)]) 24 rfl Try.underlying95 a1X rfl (by decide) (by omega) u3 ag (⟨aa, ae, af⟩ : JS) [.int .i64 aa, .int .i64 ae, .int .i64 af] (fun _ => True) (fun _ => False) rfl rfl ?aP (fun _ hk => hk.elim) ?aF ?aO ?aB ?aS ?aL ?_; (case aP => exact Za _ _ _ (⟨aa, ae, af⟩ : JS)); (case aB => exact (bO HB)); (case aF => exact (fun _ _ => trivial)); (case aO => exact (kR CW)); (case aS => exact (yL (bO HB))); (case aL => have := ak.out; omega); intro v102 w12 ho hb hg hat; rw [← au.out] at ho; have BL := yf.mk (hb); have BN := yf.mk (ho); clear HB; clear CW; have HB := BL; have av := BN; clear BL BN; clear ho hb hg hat))
          go_roundg kj4
          case measure => have := BJ.out; have := D6.out; have := GV.out; have := HJ4.out; omega
          case rel => exact ⟨(y101), (wrap64 (af + 1)), (by rfl), H', ⟨by have := BJ.out; have := D6.out; have := GV.out; have := HJ4.out; omega⟩, ⟨kR av⟩, ⟨bO HB⟩⟩
         ·
          rw [if_neg c11] at H;exact absurd H (by simp)
        ·
         replace c10 := Bool.eq_false_iff.mpr c10;subst c10
         rw [if_neg (show ¬ (false = true) by decide)] at H
         have H' := yf.mk H;clear H
         go_wp2
         go_roundg kj4
         case measure => have := BJ.out; have := D6.out; have := GV.out; have := HJ4.out; omega
         case rel => exact ⟨(ag), (wrap64 (af + 1)), (by rfl), H', ⟨by have := BJ.out; have := D6.out; have := GV.out; have := HJ4.out; omega⟩, ⟨kR CW⟩, ⟨bO HB⟩⟩
     ·
      rw [if_neg c4] at H;have ES := decide_eq_false c4;clear c4;have H' := yf.mk H;clear H
      go_wp2
      go_roundg k3
      case measure => have := BJ.out; have := D6.out; have := GV.out; omega
      case rel => exact ⟨(ag), (wrap64 (ae + 1)), (by rfl), H', ⟨by have := BJ.out; have := D6.out; have := GV.out; omega⟩, ⟨kR CW⟩, ⟨bO HB⟩⟩
  ·
   rw [if_neg c3] at H;have G5 := decide_eq_false c3;clear c3;have H' := yf.mk H;clear H
   go_wp2
   go_roundg k2
   case measure => have := BJ.out; have := D6.out; omega
   case rel => exact ⟨(ah), (wrap64 (aa + 1)), (by rfl), H', ⟨by have := BJ.out; have := D6.out; omega⟩, ⟨kR CW⟩, ⟨bO HB⟩⟩
def zf.j0 : Nat → Int → Int → Bool → Option (Int × Int)
 | 0, _, _, _ => none
 | k + 1, x0, x4, x5 => if x5 = true then (some (x0, 1)) else (if x4 = 4 then (some (2, 2)) else (if x4 = 8 then (some (2, 3)) else (if x4 = 9 then (some (3, 2)) else (some (0, 0)))))
def zf.f (k : Nat) (a0 : Int) : Option (Int × Int) := if a0 = 2 then (zf.j0 k a0 a0 (a0 == 2)) else (if a0 = 3 then (zf.j0 k a0 a0 (a0 == 3)) else (if a0 = 5 then (zf.j0 k a0 a0 (a0 == 5)) else (zf.j0 k a0 a0 (a0 == 7))))
theorem zf.mono_l : ∀ k, (∀ y0 y1 y2, BP (zf.j0 k y0 y1 y2) (zf.j0 (k + 1) y0 y1 y2))
 | 0 => fun _ _ _ r h => by simp [zf.j0] at h
 | k + 1 => by
  have Gg := zf.mono_l k
  ·
   intro y0 y1 y2
   unfold zf.j0
   repeat' first
   | exact Gg _ _ _
   | exact BP.refl _
   | exact BP.none _
   | refine BP.ite ?_ ?_
   | refine BP.bind ?_ (fun _ => ?_)
theorem zf.mono : ∀ a0 k, BP (zf.f k a0) (zf.f (k + 1) a0) := by
 intro a0 k
 have Gg := zf.mono_l k
 unfold zf.f
 repeat' first
  | exact Gg _ _ _
  | exact BP.refl _
  | exact BP.none _
  | refine BP.ite ?_ ?_
  | refine BP.bind ?_ (fun _ => ?_)
set_option maxHeartbeats 8000000 in
set_option maxRecDepth 100000 in
theorem zf.calls (k : Nat) (a0 : Int) (r1 : Int) (r2 : Int) (w : World) (h : zf.f k a0 = some (r1, r2)) :
  Calls Try.prog 76 #[.int .i64 a0] w fun e w' => e = .returned (.tuple #[.int .i64 r1, .int .i64 r2]) ∧ zV w w' := by
 have H : (if a0 = 2 then (zf.j0 k a0 a0 (a0 == 2)) else (if a0 = 3 then (zf.j0 k a0 a0 (a0 == 3)) else (if a0 = 5 then (zf.j0 k a0 a0 (a0 == 5)) else (zf.j0 k a0 a0 (a0 == 7))))) = some (r1, r2) := h
 clear h;have Wq := yf.mk H;clear H
 go_enter Try.func76, Try.ntmps76
 go_upto_if 5 with (fail)
 go_cut [5] (fun v5 wc => ∃ (kq : Nat) (yN : Bool), v5 = .bool yN ∧ yf (zf.j0 kq a0 a0 yN = some (r1, r2)) ∧ yf (kq ≤ k) ∧ zV w wc)
 case first =>
  have H := Wq.out;clear Wq
  by_cases c3 : a0 = 2
  ·
   rw [if_pos c3] at H;have G5 := beq_iff_eq.mpr c3
   have JM : (a0 != 2) = false := bne_eq_false_iff_eq.mpr c3
   clear c3
   (rw [G5])
   have H' := yf.mk H;clear H
   go_wp2
   go_meet
   case rel => exact ⟨_, ((a0 == 2)), (by simp [*]), H', ⟨by omega⟩, by repeat (exact zV.refl _)⟩
  rw [if_neg c3] at H;have G5 := beq_eq_false_iff_ne.mpr c3;have JM := bne_iff_ne.mpr c3
  (rw [G5])
  by_cases c4 : a0 = 3
  ·
   rw [if_pos c4] at H;have ES := beq_iff_eq.mpr c4
   have Lx : (a0 != 3) = false := bne_eq_false_iff_eq.mpr c4
   clear c4;have H' := yf.mk H;clear H
   go_wp2
   go_meet
   case rel => exact ⟨_, ((a0 == 3)), (by simp [*]), H', ⟨by omega⟩, by repeat (exact zV.refl _)⟩
  rw [if_neg c4] at H;have ES := beq_eq_false_iff_ne.mpr c4;have Lx := bne_iff_ne.mpr c4
  by_cases c5 : a0 = 5
  ·
   rw [if_pos c5] at H;have FE := beq_iff_eq.mpr c5
   have MF : (a0 != 5) = false := bne_eq_false_iff_eq.mpr c5
   clear c5;have H' := yf.mk H;clear H
   go_wp2
   go_meet
   case rel => exact ⟨_, ((a0 == 5)), (by simp [*]), H', ⟨by omega⟩, by repeat (exact zV.refl _)⟩
  rw [if_neg c5] at H;have FE := beq_eq_false_iff_ne.mpr c5;have MF := bne_iff_ne.mpr c5;have H' := yf.mk H;clear H
  go_wp2
  go_meet
  case rel => exact ⟨_, ((a0 == 7)), (by rfl), H', ⟨by omega⟩, by repeat (exact zV.refl _)⟩
 case rest =>
 clear Wq;obtain ⟨kq, yN, rfl, HA, YN, ⟨aa, rfl⟩⟩ := hcut
 cases kq with
 | zero => exact absurd HA.out (by simp [zf.j0])
 | succ YO =>
  have H := HA.out;clear HA;simp only [zf.j0] at H
  by_cases c6 : yN = true
  ·
   subst c6;rw [if_pos rfl] at H;simp only [Option.some.injEq, Prod.mk.injEq] at H;obtain ⟨rfl, rfl⟩ := H
   go_wp2
   go_ret2
   exact ⟨by rfl, by repeat (first | exact zV.refl _ | apply zV.step)⟩
  ·
   replace c6 := Bool.eq_false_iff.mpr c6;subst c6
   rw [if_neg (show ¬ (false = true) by decide)] at H
   by_cases c7 : a0 = 4
   ·
    rw [if_pos c7] at H;have GN := beq_iff_eq.mpr c7
    have Ou : (a0 != 4) = false := bne_eq_false_iff_eq.mpr c7
    clear c7;simp only [Option.some.injEq, Prod.mk.injEq] at H;obtain ⟨rfl, rfl⟩ := H
    go_wp2
    go_ret2
    exact ⟨by rfl, by repeat (first | exact zV.refl _ | apply zV.step)⟩
   ·
    rw [if_neg c7] at H;have GN := beq_eq_false_iff_ne.mpr c7;have Ou := bne_iff_ne.mpr c7
    by_cases c8 : a0 = 8
    ·
     rw [if_pos c8] at H;have GZ := beq_iff_eq.mpr c8
     have Nh : (a0 != 8) = false := bne_eq_false_iff_eq.mpr c8
     clear c8;simp only [Option.some.injEq, Prod.mk.injEq] at H;obtain ⟨rfl, rfl⟩ := H
     go_wp2
     go_ret2
     exact ⟨by rfl, by repeat (first | exact zV.refl _ | apply zV.step)⟩
    ·
     rw [if_neg c8] at H;have GZ := beq_eq_false_iff_ne.mpr c8;have Nh := bne_iff_ne.mpr c8
     by_cases c9 : a0 = 9
     ·
      rw [if_pos c9] at H;have IE := beq_iff_eq.mpr c9
      have QJ : (a0 != 9) = false := bne_eq_false_iff_eq.mpr c9
      clear c9;simp only [Option.some.injEq, Prod.mk.injEq] at H;obtain ⟨rfl, rfl⟩ := H
      go_wp2
      go_ret2
      exact ⟨by rfl, by repeat (first | exact zV.refl _ | apply zV.step)⟩
     ·
      rw [if_neg c9] at H;have IE := beq_eq_false_iff_ne.mpr c9;have QJ := bne_iff_ne.mpr c9;simp only [Option.some.injEq, Prod.mk.injEq] at H;obtain ⟨rfl, rfl⟩ := H
      go_wp2
      go_ret2
      exact ⟨by rfl, by repeat (first | exact zV.refl _ | apply zV.step)⟩
def yY.l0 : Nat → Int → Int → Int → List Int → Int → Option (List Int)
 | 0, _, _, _, _, _ => none
 | k + 1, x0, x1, x2, x7, x8 => if x8 < x2 then (if x1 = 0 then (none) else (if x7.length < 17592186044416 then (yY.l0 k (wrap64 (Int.tdiv x0 x1)) x1 x2 (x7 ++ [Int.tmod x0 x1]) (wrap64 (x8 + 1))) else (none))) else (some x7)
def yY.f (k : Nat) (a0 : Int) (a1 : Int) (a2 : Int) : Option (List Int) := yY.l0 k a0 a1 a2 ([] : List Int) 0
theorem yY.mono_l : ∀ k, (∀ y0 y1 y2 y3 y4, BP (yY.l0 k y0 y1 y2 y3 y4) (yY.l0 (k + 1) y0 y1 y2 y3 y4))
 | 0 => fun _ _ _ _ _ r h => by simp [yY.l0] at h
 | k + 1 => by
  have Gg := yY.mono_l k
  ·
   intro y0 y1 y2 y3 y4
   unfold yY.l0
   repeat' first
   | exact Gg _ _ _ _ _
   | exact BP.refl _
   | exact BP.none _
   | refine BP.ite ?_ ?_
   | refine BP.bind ?_ (fun _ => ?_)
theorem yY.mono : ∀ a0 a1 a2 k, BP (yY.f k a0 a1 a2) (yY.f (k + 1) a0 a1 a2) := by
 intro a0 a1 a2 k
 have Gg := yY.mono_l k
 unfold yY.f
 repeat' first
  | exact Gg _ _ _ _ _
  | exact BP.refl _
  | exact BP.none _
  | refine BP.ite ?_ ?_
  | refine BP.bind ?_ (fun _ => ?_)
set_option maxHeartbeats 8000000 in
set_option maxRecDepth 100000 in
theorem yY.calls (k : Nat) (a0 : Int) (a1 : Int) (a2 : Int) (r : List Int) (w : World) (h : yY.f k a0 a1 a2 = some r) :
  Calls Try.prog 77 #[.int .i64 a0, .int .i64 a1, .int .i64 a2] w fun e w' => ∃ GG : Value, e = .returned (GG) ∧ Kd.R (Kd.int .i64) 3 w' w.heap.size (fun _ => True) GG r ∧ Below w.heap.size w w' := by
 have HB := yf.mk (Below.refl w.heap.size w)
 have H : (yY.l0 k a0 a1 a2 ([] : List Int) 0) = some r := h
 clear h;have H' := yf.mk H;clear H
 go_enter Try.func77, Try.ntmps77
 go_wp2
 go_loopg [0, 7, 8] k (fun kq v0 v7 v8 w' => ∃ (aa : Int) (Ag : List Int) (Dh : Int), v0 = .int .i64 aa ∧ v8 = .int .i64 Dh ∧ yf (yY.l0 kq aa a1 a2 Ag Dh = some r) ∧ yf (kq ≤ k) ∧ yf (Kd.R (Kd.int .i64) 3 w' w.heap.size (fun _ => True) v7 Ag) ∧ yf (Below w.heap.size w w'))
 case atStart => exact ⟨(a0), (([] : List Int)), (0), (by rfl), (by rfl), H', ⟨Nat.le_refl _⟩, ⟨by exact Kd.Er _ _ _ _ _⟩, ⟨bO HB⟩⟩
 case round =>
 clear H';obtain ⟨aa, Ag, Dh, rfl, rfl, HA, BJ, EP, HB⟩ := hrel
 cases gk with
 | zero => exact absurd HA.out (by simp [yY.l0])
 | succ k1 =>
 have H := HA.out;clear HA;simp only [yY.l0] at H
 by_cases c4 : Dh < a2
 rotate_left
 ·
  rw [if_neg c4] at H;have ES := decide_eq_false c4;clear c4;obtain rfl := Option.some.inj H
  go_wp2
  go_ret
  exact ⟨_, by rfl, by (with_reducible repeat (apply Kd.yZ)); exact EP.out, bO HB⟩
 rw [if_pos c4] at H;have ES := decide_eq_true c4;clear c4
 by_cases c5 : a1 = 0
 ·
  rw [if_pos c5] at H;exact absurd H (by simp)
 rw [if_neg c5] at H;have FE := beq_eq_false_iff_ne.mpr c5;have MF := bne_iff_ne.mpr c5
 by_cases c6 : Ag.length < 17592186044416
 rotate_left
 ·
  rw [if_neg c6] at H;exact absurd H (by simp)
 rw [if_pos c6] at H;have ag := yf.mk c6;clear c6;obtain ⟨y104, hy104⟩ : ∃ y_ : List Int, y_ = (Ag ++ [Int.tmod aa a1]) := ⟨_, rfl⟩
 replace H : (yY.l0 k1 (wrap64 (Int.tdiv aa a1)) a1 a2 y104 (wrap64 (Dh + 1))) = some r := by (rw [hy104]; with_reducible exact H)
 have af := yf.mk hy104;clear hy104;have H' := yf.mk H;clear H
 go_wp2_with (((with_reducible refine BH (b := .append) (xs := #[.tmp 14, .tmp 18]) rfl ?_); at_builtin; refine Kd.El (Kd.int .i64) (w0 := w) w.heap.size rfl (.tmp 14) (.tmp 18) 63 3 (.int .i64 0) 8 rfl Try.underlying63 info3 rfl (by decide) (by omega) u7 Ag (Int.tmod aa a1) [.int .i64 (Int.tmod aa a1)] (fun _ => True) (fun _ => False) rfl rfl ?aP (fun _ hk => hk.elim) ?aF ?aO ?aB ?aS ?aL ?_; (case aP => exact rfl); (case aB => exact (bO HB)); (case aF => exact (fun _ _ => trivial)); (case aO => exact (kR EP)); (case aS => exact (yL (bO HB))); (case aL => have := ag.out; omega); intro v105 w7 ho hb hg hat; rw [← af.out] at ho; have BL := yf.mk (hb); have BN := yf.mk (ho); clear HB; clear EP; have HB := BL; have ae := BN; clear BL BN; clear ho hb hg hat))
 go_roundg k1
 case measure => have := BJ.out; omega
 case rel => exact ⟨(wrap64 (Int.tdiv aa a1)), (y104), (wrap64 (Dh + 1)), (by rfl), (by rfl), H', ⟨by have := BJ.out; omega⟩, ⟨kR ae⟩, ⟨bO HB⟩⟩
def zo.l0 : Nat → List Int → Int → Int → Int → Option (Int)
 | 0, _, _, _, _ => none
 | k + 1, x0, x1, x5, x6 => if x6 ≥ 0 then (if 0 ≤ x6 then (if x6 < (x0.length : Int) then (zo.l0 k x0 x1 (wrap64 ((wrap64 (x5 * x1)) + (rd x0 x6))) (wrap64 (x6 - 1))) else (none)) else (none)) else (some x5)
def zo.f (k : Nat) (l0 : List Int) (a1 : Int) : Option (Int) := zo.l0 k l0 a1 0 (wrap64 ((l0.length : Int) - 1))
theorem zo.mono_l : ∀ k, (∀ y0 y1 y2 y3, BP (zo.l0 k y0 y1 y2 y3) (zo.l0 (k + 1) y0 y1 y2 y3))
 | 0 => fun _ _ _ _ r h => by simp [zo.l0] at h
 | k + 1 => by
  have Gg := zo.mono_l k
  ·
   intro y0 y1 y2 y3
   unfold zo.l0
   repeat' first
   | exact Gg _ _ _ _
   | exact BP.refl _
   | exact BP.none _
   | refine BP.ite ?_ ?_
   | refine BP.bind ?_ (fun _ => ?_)
theorem zo.mono : ∀ a0 a1 k, BP (zo.f k a0 a1) (zo.f (k + 1) a0 a1) := by
 intro a0 a1 k
 have Gg := zo.mono_l k
 unfold zo.f
 repeat' first
  | exact Gg _ _ _ _
  | exact BP.refl _
  | exact BP.none _
  | refine BP.ite ?_ ?_
  | refine BP.bind ?_ (fun _ => ?_)
set_option maxHeartbeats 8000000 in
set_option maxRecDepth 100000 in
theorem zo.calls (k : Nat) (A0 : Option Addr) (c0 : Nat) (l0 : List Int) (a1 : Int) (r : Int) (w : World) (hr0 : Kd.C (Kd.int .i64) w A0 l0.length l0) (hc0 : l0.length ≤ c0) (h : zo.f k l0 a1 = some r) :
  Calls Try.prog 78 #[.slice A0 l0.length c0, .int .i64 a1] w fun e w' => e = .returned (.int .i64 r) ∧ zV w w' := by
 have Li := yf.mk hr0;have Ws := yf.mk hc0;clear hr0 hc0
 have H : (zo.l0 k l0 a1 0 (wrap64 ((l0.length : Int) - 1))) = some r := h
 clear h;have H' := yf.mk H;clear H
 go_enter Try.func78, Try.ntmps78
 go_wp2
 go_loopg [5, 6] k (fun kq v5 v6 w' => ∃ (yN : Int) (Bu : Int), v5 = .int .i64 yN ∧ v6 = .int .i64 Bu ∧ yf (zo.l0 kq l0 a1 yN Bu = some r) ∧ yf (kq ≤ k) ∧ zV w w')
 case atStart => exact ⟨(0), (wrap64 ((l0.length : Int) - 1)), (by rfl), (by rfl), H', ⟨Nat.le_refl _⟩, by repeat (exact zV.refl _)⟩
 case round =>
 clear H';obtain ⟨yN, Bu, rfl, rfl, HA, BJ, ⟨m1, rfl⟩⟩ := hrel
 cases gk with
 | zero => exact absurd HA.out (by simp [zo.l0])
 | succ k1 =>
 have H := HA.out;clear HA;simp only [zo.l0] at H
 by_cases c3 : Bu ≥ 0
 rotate_left
 ·
  rw [if_neg c3] at H;have G5 := decide_eq_false c3;clear c3;obtain rfl := Option.some.inj H
  go_wp2
  go_ret
  exact ⟨by rfl, by repeat (first | exact zV.refl _ | apply zV.step)⟩
 rw [if_pos c3] at H;have G5 := decide_eq_true c3;clear c3
 by_cases c4 : 0 ≤ Bu
 rotate_left
 ·
  rw [if_neg c4] at H;exact absurd H (by simp)
 rw [if_pos c4] at H;have ES := decide_eq_true c4;clear c4
 by_cases c5 : Bu < (l0.length : Int)
 rotate_left
 ·
  rw [if_neg c5] at H;exact absurd H (by simp)
 rw [if_pos c5] at H;have FE := decide_eq_true c5;clear c5;have H' := yf.mk H;clear H
 have ae : 0 ≤ (Bu : Int) := of_decide_eq_true ‹_›
 have aa : Bu < (l0.length : Int) := of_decide_eq_true ‹_›
 obtain ⟨ah, af, ag⟩ := Kd.C9 Li.out Bu ae aa;cases af;replace ae := eq_true ae;replace aa := eq_true aa
 go_wp2
 go_roundg k1
 case measure => have := BJ.out; omega
 case rel => exact ⟨(wrap64 ((wrap64 (yN * a1)) + (rd l0 Bu))), (wrap64 (Bu - 1)), (by rfl), (by rfl), H', ⟨by have := BJ.out; omega⟩, by repeat (first | exact zV.refl _ | apply zV.step)⟩
end Go.Proofs.Ytjonnfmoocijlaa.P
