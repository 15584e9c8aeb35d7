/- Texts of a claim, packed. -/
import Derived.Test.YtjonnfmoocijlaaD4
set_option linter.all false
namespace Go.Proofs.Ytjonnfmoocijlaa.P
open Go.RowKit Go.Proofs.YtjonnfmoocijlaaKW.PrintWords Go.Proofs.YtjonnfmoocijlaaKW.PrintLast Go.Proofs.YtjonnfmoocijlaaKW.PrintMore
attribute [local go_sem] zz zA zS zT zn zo zB zC
mutual
def yw.l0 : Nat → Int → List (Iz) → Int → Option ((List (Iz)))
 | 0, _, _, _ => none
 | k + 1, x0, x3, x4 => if x4 < x0 then (yw.l1 k x0 x3 x4 0) else (some x3)
def yw.l1 : Nat → Int → List (Iz) → Int → Int → Option ((List (Iz)))
 | 0, _, _, _, _ => none
 | k + 1, x0, x3, x4, x5 => if x5 < x0 then (yw.l2 k x0 x3 x4 x5 0) else (yw.l0 k x0 x3 (wrap64 (x4 + 1)))
def yw.l2 : Nat → Int → List (Iz) → Int → Int → Int → Option ((List (Iz)))
 | 0, _, _, _, _, _ => none
 | k + 1, x0, x3, x4, x5, x6 => if x6 < x0 then (if x4 = 1 then (yw.j3 k x0 x3 x4 x5 x6 true) else (if x4 = 0 then (if x5 = 1 then (yw.j3 k x0 x3 x4 x5 x6 true) else (if x5 = 0 then (yw.j3 k x0 x3 x4 x5 x6 (x6 == 1)) else (yw.j3 k x0 x3 x4 x5 x6 false))) else (yw.j3 k x0 x3 x4 x5 x6 false))) else (yw.l1 k x0 x3 x4 (wrap64 (x5 + 1)))
def yw.j3 : Nat → Int → List (Iz) → Int → Int → Int → Bool → Option ((List (Iz)))
 | 0, _, _, _, _, _, _ => none
 | k + 1, x0, x3, x4, x5, x6, x43 => if x43 = true then (if x3.length < 5864062014805 then (yw.l2 k x0 (x3 ++ [(⟨x4, x5, x6⟩ : Iz)]) x4 x5 (wrap64 (x6 + 1))) else (none)) else (yw.l2 k x0 x3 x4 x5 (wrap64 (x6 + 1)))
end
def yw.f (k : Nat) (a0 : Int) : Option ((List (Iz))) := yw.l0 k a0 ([] : List (Iz)) 0
theorem yw.mono_l : ∀ k, (∀ y0 y1 y2, zZ (yw.l0 k y0 y1 y2) (yw.l0 (k + 1) y0 y1 y2)) ∧ (∀ y0 y1 y2 y3, zZ (yw.l1 k y0 y1 y2 y3) (yw.l1 (k + 1) y0 y1 y2 y3)) ∧ (∀ y0 y1 y2 y3 y4, zZ (yw.l2 k y0 y1 y2 y3 y4) (yw.l2 (k + 1) y0 y1 y2 y3 y4)) ∧ (∀ y0 y1 y2 y3 y4 y5, zZ (yw.j3 k y0 y1 y2 y3 y4 y5) (yw.j3 (k + 1) y0 y1 y2 y3 y4 y5))
 | 0 => ⟨fun _ _ _ r h => by simp [yw.l0] at h, fun _ _ _ _ r h => by simp [yw.l1] at h, fun _ _ _ _ _ r h => by simp [yw.l2] at h, fun _ _ _ _ _ _ r h => by simp [yw.j3] at h⟩
 | k + 1 => by
  obtain ⟨DN, ih1, ih2, ih3⟩ := yw.mono_l k
  refine ⟨?_, ?_, ?_, ?_⟩
  ·
   intro y0 y1 y2
   unfold yw.l0
   repeat' first
   | exact DN _ _ _
   | exact ih1 _ _ _ _
   | exact ih2 _ _ _ _ _
   | exact ih3 _ _ _ _ _ _
   | exact zZ.refl _
   | exact zZ.none _
   | refine zZ.ite ?_ ?_
   | refine zZ.bind ?_ (fun _ => ?_)
  ·
   intro y0 y1 y2 y3
   unfold yw.l1
   repeat' first
   | exact DN _ _ _
   | exact ih1 _ _ _ _
   | exact ih2 _ _ _ _ _
   | exact ih3 _ _ _ _ _ _
   | exact zZ.refl _
   | exact zZ.none _
   | refine zZ.ite ?_ ?_
   | refine zZ.bind ?_ (fun _ => ?_)
  ·
   intro y0 y1 y2 y3 y4
   unfold yw.l2
   repeat' first
   | exact DN _ _ _
   | exact ih1 _ _ _ _
   | exact ih2 _ _ _ _ _
   | exact ih3 _ _ _ _ _ _
   | exact zZ.refl _
   | exact zZ.none _
   | refine zZ.ite ?_ ?_
   | refine zZ.bind ?_ (fun _ => ?_)
  ·
   intro y0 y1 y2 y3 y4 y5
   unfold yw.j3
   repeat' first
   | exact DN _ _ _
   | exact ih1 _ _ _ _
   | exact ih2 _ _ _ _ _
   | exact ih3 _ _ _ _ _ _
   | exact zZ.refl _
   | exact zZ.none _
   | refine zZ.ite ?_ ?_
   | refine zZ.bind ?_ (fun _ => ?_)
theorem yw.mono : ∀ a0 k, zZ (yw.f k a0) (yw.f (k + 1) a0) := by
 intro a0 k
 obtain ⟨DN, ih1, ih2, ih3⟩ := yw.mono_l k
 unfold yw.f
 repeat' first
  | exact DN _ _ _
  | exact ih1 _ _ _ _
  | exact ih2 _ _ _ _ _
  | exact ih3 _ _ _ _ _ _
  | exact zZ.refl _
  | exact zZ.none _
  | refine zZ.ite ?_ ?_
  | refine zZ.bind ?_ (fun _ => ?_)
set_option maxHeartbeats 8000000 in
set_option maxRecDepth 100000 in
theorem yw.calls (k : Nat) (a0 : Int) (r : List (Iz)) (w : World) (h : yw.f k a0 = some r) :
  Calls Try.prog 57 #[.int .i64 a0] w fun e w' => ∃ Gw : Value, e = .returned (Gw) ∧ Kd.R TG 98 w' w.heap.size (fun _ => True) Gw r ∧ Below w.heap.size w w' := by
 have ax := Try.underlying98;have HB := yf.mk (Below.refl w.heap.size w)
 have H : (yw.l0 k a0 ([] : List (Iz)) 0) = some r := h
 clear h;have H' := yf.mk H;clear H
 go_enter Try.func57, Try.ntmps57
 go_wp2
 go_loopg [3, 4] k (fun kq v3 v4 w' => ∃ (aj : List (Iz)) (aa : Int), v4 = .int .i64 aa ∧ yf (yw.l0 kq a0 aj aa = some r) ∧ yf (kq ≤ k) ∧ yf (Kd.R TG 98 w' w.heap.size (fun _ => True) v3 aj) ∧ yf (Below w.heap.size w w'))
 case atStart => exact ⟨(([] : List (Iz))), (0), (by rfl), H', ⟨Nat.le_refl _⟩, ⟨by exact Kd.Dh _ _ _ _ _⟩, ⟨bO HB⟩⟩
 case round =>
 clear H';obtain ⟨aj, aa, rfl, HA, BZ, Co, HB⟩ := hrel
 cases gk with
 | zero => exact absurd HA.out (by simp [yw.l0])
 | succ k1 =>
 have H := HA.out;clear HA;simp only [yw.l0] at H
 by_cases c2 : aa < a0
 rotate_left
 ·
  rw [if_neg c2] at H;have SL := decide_eq_false c2;clear c2;obtain rfl := Option.some.inj H
  go_wp2
  go_ret
  exact ⟨_, by rfl, by (with_reducible repeat (apply Kd.zl)); exact Co.out, bO HB⟩
 rw [if_pos c2] at H;have SL := decide_eq_true c2;clear c2;have H' := yf.mk H;clear H
 go_wp2
 go_loopg [3, 5] k1 (fun kq v3 v5 w' => ∃ (ah : List (Iz)) (ae : Int), v5 = .int .i64 ae ∧ yf (yw.l1 kq a0 ah aa ae = some r) ∧ yf (kq ≤ k1) ∧ yf (Kd.R TG 98 w' w.heap.size (fun _ => True) v3 ah) ∧ yf (Below w.heap.size w w'))
 case atStart => exact ⟨(aj), (0), (by rfl), H', ⟨Nat.le_refl _⟩, ⟨kR Co⟩, ⟨bO HB⟩⟩
 case round =>
 clear H' SL;obtain ⟨ah, ae, rfl, HA, DU, Co, HB⟩ := hrel
 cases gk with
 | zero => exact absurd HA.out (by simp [yw.l1])
 | succ k2 =>
  have H := HA.out;clear HA;simp only [yw.l1] at H
  by_cases c3 : ae < a0
  ·
   rw [if_pos c3] at H;have FM := decide_eq_true c3;clear c3;have H' := yf.mk H;clear H
   go_wp2
   go_loopg [3, 6] k2 (fun kq v3 v6 w' => ∃ (ag : List (Iz)) (af : Int), v6 = .int .i64 af ∧ yf (yw.l2 kq a0 ag aa ae af = some r) ∧ yf (kq ≤ k2) ∧ yf (Kd.R TG 98 w' w.heap.size (fun _ => True) v3 ag) ∧ yf (Below w.heap.size w w'))
   case atStart => exact ⟨(ah), (0), (by rfl), H', ⟨Nat.le_refl _⟩, ⟨kR Co⟩, ⟨bO HB⟩⟩
   case round =>
    clear H' FM;obtain ⟨ag, af, rfl, HA, FH, Co, HB⟩ := hrel
    cases gk with
    | zero => exact absurd HA.out (by simp [yw.l2])
    | succ k3 =>
     have H := HA.out;clear HA;simp only [yw.l2] at H
     by_cases c4 : af < a0
     ·
      rw [if_pos c4] at H;have Ex := decide_eq_true c4;clear c4;have Zm := yf.mk H;clear H
      go_upto_region 11 with (fail)
      go_cut [43] (fun v43 wc => ∃ (kq : Nat) (ai : Bool), v43 = .bool ai ∧ yf (yw.j3 kq a0 ag aa ae af ai = some r) ∧ yf (kq ≤ k3) ∧ yf (Kd.R TG 98 wc w.heap.size (fun _ => True) u3 ag) ∧ yf (Below w.heap.size w wc))
      case first =>
       have H := Zm.out;clear Zm
       by_cases c6 : aa = 1
       ·
        rw [if_pos c6] at H;have EU := beq_iff_eq.mpr c6
        have SN : (aa != 1) = false := bne_eq_false_iff_eq.mpr c6
        clear c6
        (skip)
        have H' := yf.mk H;clear H
        go_wp2
        go_meet
        case rel => exact ⟨_, (true), (by rfl), H', ⟨by have := BZ.out; have := DU.out; have := FH.out; omega⟩, ⟨kR Co⟩, ⟨bO HB⟩⟩
       ·
        rw [if_neg c6] at H;have EU := beq_eq_false_iff_ne.mpr c6;have SN := bne_iff_ne.mpr c6
        (skip)
        by_cases c7 : aa = 0
        ·
         rw [if_pos c7] at H;have FR := beq_iff_eq.mpr c7
         have Mo : (aa != 0) = false := bne_eq_false_iff_eq.mpr c7
         clear c7
         by_cases c8 : ae = 1
         ·
          rw [if_pos c8] at H;have Gl := beq_iff_eq.mpr c8
          have Mq : (ae != 1) = false := bne_eq_false_iff_eq.mpr c8
          clear c8;have H' := yf.mk H;clear H
          go_wp2
          go_meet
          case rel => exact ⟨_, (true), (by rfl), H', ⟨by have := BZ.out; have := DU.out; have := FH.out; omega⟩, ⟨kR Co⟩, ⟨bO HB⟩⟩
         ·
          rw [if_neg c8] at H;have Gl := beq_eq_false_iff_ne.mpr c8;have Mq := bne_iff_ne.mpr c8
          by_cases c9 : ae = 0
          ·
           rw [if_pos c9] at H;have Hr := beq_iff_eq.mpr c9
           have OB : (ae != 0) = false := bne_eq_false_iff_eq.mpr c9
           clear c9;have H' := yf.mk H;clear H
           go_wp2
           go_meet
           case rel => exact ⟨_, ((af == 1)), (by rfl), H', ⟨by have := BZ.out; have := DU.out; have := FH.out; omega⟩, ⟨kR Co⟩, ⟨bO HB⟩⟩
          ·
           rw [if_neg c9] at H;have Hr := beq_eq_false_iff_ne.mpr c9;have OB := bne_iff_ne.mpr c9;have H' := yf.mk H;clear H
           go_wp2
           go_meet
           case rel => exact ⟨_, (false), (by rfl), H', ⟨by have := BZ.out; have := DU.out; have := FH.out; omega⟩, ⟨kR Co⟩, ⟨bO HB⟩⟩
        ·
         rw [if_neg c7] at H;have FR := beq_eq_false_iff_ne.mpr c7;have Mo := bne_iff_ne.mpr c7;have H' := yf.mk H;clear H
         go_wp2
         go_meet
         case rel => exact ⟨_, (false), (by rfl), H', ⟨by have := BZ.out; have := DU.out; have := FH.out; omega⟩, ⟨kR Co⟩, ⟨bO HB⟩⟩
      case rest =>
       clear Zm Ex;obtain ⟨kq, ai, rfl, HA, Xp, Co, HB⟩ := hcut
       cases kq with
       | zero => exact absurd HA.out (by simp [yw.j3])
       | succ kj4 =>
        have H := HA.out;clear HA;simp only [yw.j3] at H
        by_cases c10 : ai = true
        ·
         subst c10;rw [if_pos rfl] at H
         by_cases c11 : ag.length < 5864062014805
         ·
          rw [if_pos c11] at H;have ak := yf.mk c11;clear c11;obtain ⟨y101, hy101⟩ : ∃ y_ : List (Iz), y_ = (ag ++ [(⟨aa, ae, af⟩ : Iz)]) := ⟨_, rfl⟩
          replace H : (yw.l2 kj4 a0 y101 aa ae (wrap64 (af + 1))) = some r := by (rw [hy101]; with_reducible exact H)
          have av := yf.mk hy101;clear hy101;have H' := yf.mk H;clear H
          go_wp2_with (((with_reducible refine Bz (b := .append) (xs := #[.tmp 44, .tmp 49]) rfl ?_); at_builtin; refine Kd.El TG (w0 := w) w.heap.size rfl (.tmp 44) (.tmp 49) 95 98 (.agg #[(.int .i64 0), (.int .i64 0), (.int .i64 0)]) 24 rfl Try.underlying95 Zd rfl (by decide) (by omega) u3 ag (⟨aa, ae, af⟩ : Iz) [.int .i64 aa, .int .i64 ae, .int .i64 af] (fun _ => True) (fun _ => False) rfl rfl ?aP (fun _ hk => hk.elim) ?aF ?aO ?aB ?aS ?aL ?_; (case aP => exact WK _ _ _ (⟨aa, ae, af⟩ : Iz)); (case aB => exact (bO HB)); (case aF => exact (fun _ _ => trivial)); (case aO => exact (kR Co)); (case aS => exact (yJ (bO HB))); (case aL => have := ak.out; omega); intro v102 w12 ho hb hg hat; rw [← av.out] at ho; have Bt := yf.mk (hb); have Bu := yf.mk (ho); clear HB; clear Co; have HB := Bt; have au := Bu; clear Bt Bu; clear ho hb hg hat))
          go_roundg kj4
          case measure => have := BZ.out; have := DU.out; have := FH.out; have := Xp.out; omega
          case rel => exact ⟨(y101), (wrap64 (af + 1)), (by rfl), H', ⟨by have := BZ.out; have := DU.out; have := FH.out; have := Xp.out; omega⟩, ⟨kR au⟩, ⟨bO HB⟩⟩
         ·
          rw [if_neg c11] at H;exact absurd H (by simp)
        ·
         replace c10 := Bool.eq_false_iff.mpr c10;subst c10
         rw [if_neg (show ¬ (false = true) by decide)] at H
         have H' := yf.mk H;clear H
         go_wp2
         go_roundg kj4
         case measure => have := BZ.out; have := DU.out; have := FH.out; have := Xp.out; omega
         case rel => exact ⟨(ag), (wrap64 (af + 1)), (by rfl), H', ⟨by have := BZ.out; have := DU.out; have := FH.out; have := Xp.out; omega⟩, ⟨kR Co⟩, ⟨bO HB⟩⟩
     ·
      rw [if_neg c4] at H;have Ex := decide_eq_false c4;clear c4;have H' := yf.mk H;clear H
      go_wp2
      go_roundg k3
      case measure => have := BZ.out; have := DU.out; have := FH.out; omega
      case rel => exact ⟨(ag), (wrap64 (ae + 1)), (by rfl), H', ⟨by have := BZ.out; have := DU.out; have := FH.out; omega⟩, ⟨kR Co⟩, ⟨bO HB⟩⟩
  ·
   rw [if_neg c3] at H;have FM := decide_eq_false c3;clear c3;have H' := yf.mk H;clear H
   go_wp2
   go_roundg k2
   case measure => have := BZ.out; have := DU.out; omega
   case rel => exact ⟨(ah), (wrap64 (aa + 1)), (by rfl), H', ⟨by have := BZ.out; have := DU.out; omega⟩, ⟨kR Co⟩, ⟨bO HB⟩⟩
def yV.j0 : Nat → Int → Int → Bool → Option (Int × Int)
 | 0, _, _, _ => none
 | k + 1, x0, x4, x5 => if x5 = true then (some (x0, 1)) else (if x4 = 4 then (some (2, 2)) else (if x4 = 8 then (some (2, 3)) else (if x4 = 9 then (some (3, 2)) else (some (0, 0)))))
def yV.f (k : Nat) (a0 : Int) : Option (Int × Int) := if a0 = 2 then (yV.j0 k a0 a0 (a0 == 2)) else (if a0 = 3 then (yV.j0 k a0 a0 (a0 == 3)) else (if a0 = 5 then (yV.j0 k a0 a0 (a0 == 5)) else (yV.j0 k a0 a0 (a0 == 7))))
theorem yV.mono_l : ∀ k, (∀ y0 y1 y2, zZ (yV.j0 k y0 y1 y2) (yV.j0 (k + 1) y0 y1 y2))
 | 0 => fun _ _ _ r h => by simp [yV.j0] at h
 | k + 1 => by
  have DN := yV.mono_l k
  ·
   intro y0 y1 y2
   unfold yV.j0
   repeat' first
   | exact DN _ _ _
   | exact zZ.refl _
   | exact zZ.none _
   | refine zZ.ite ?_ ?_
   | refine zZ.bind ?_ (fun _ => ?_)
theorem yV.mono : ∀ a0 k, zZ (yV.f k a0) (yV.f (k + 1) a0) := by
 intro a0 k
 have DN := yV.mono_l k
 unfold yV.f
 repeat' first
  | exact DN _ _ _
  | exact zZ.refl _
  | exact zZ.none _
  | refine zZ.ite ?_ ?_
  | refine zZ.bind ?_ (fun _ => ?_)
set_option maxHeartbeats 8000000 in
set_option maxRecDepth 100000 in
theorem yV.calls (k : Nat) (a0 : Int) (r1 : Int) (r2 : Int) (w : World) (h : yV.f k a0 = some (r1, r2)) :
  Calls Try.prog 76 #[.int .i64 a0] w fun e w' => e = .returned (.tuple #[.int .i64 r1, .int .i64 r2]) ∧ zN w w' := by
 have H : (if a0 = 2 then (yV.j0 k a0 a0 (a0 == 2)) else (if a0 = 3 then (yV.j0 k a0 a0 (a0 == 3)) else (if a0 = 5 then (yV.j0 k a0 a0 (a0 == 5)) else (yV.j0 k a0 a0 (a0 == 7))))) = some (r1, r2) := h
 clear h;have Uh := yf.mk H;clear H
 go_enter Try.func76, Try.ntmps76
 go_upto_if 5 with (fail)
 go_cut [5] (fun v5 wc => ∃ (kq : Nat) (yQ : Bool), v5 = .bool yQ ∧ yf (yV.j0 kq a0 a0 yQ = some (r1, r2)) ∧ yf (kq ≤ k) ∧ zN w wc)
 case first =>
  have H := Uh.out;clear Uh
  by_cases c3 : a0 = 2
  ·
   rw [if_pos c3] at H;have FM := beq_iff_eq.mpr c3
   have Lg : (a0 != 2) = false := bne_eq_false_iff_eq.mpr c3
   clear c3
   (rw [FM])
   have H' := yf.mk H;clear H
   go_wp2
   go_meet
   case rel => exact ⟨_, ((a0 == 2)), (by simp [*]), H', ⟨by omega⟩, by repeat (exact zN.refl _)⟩
  rw [if_neg c3] at H;have FM := beq_eq_false_iff_ne.mpr c3;have Lg := bne_iff_ne.mpr c3
  (rw [FM])
  by_cases c4 : a0 = 3
  ·
   rw [if_pos c4] at H;have Ex := beq_iff_eq.mpr c4
   have KA : (a0 != 3) = false := bne_eq_false_iff_eq.mpr c4
   clear c4;have H' := yf.mk H;clear H
   go_wp2
   go_meet
   case rel => exact ⟨_, ((a0 == 3)), (by simp [*]), H', ⟨by omega⟩, by repeat (exact zN.refl _)⟩
  rw [if_neg c4] at H;have Ex := beq_eq_false_iff_ne.mpr c4;have KA := bne_iff_ne.mpr c4
  by_cases c5 : a0 = 5
  ·
   rw [if_pos c5] at H;have Ez := beq_iff_eq.mpr c5
   have Jj : (a0 != 5) = false := bne_eq_false_iff_eq.mpr c5
   clear c5;have H' := yf.mk H;clear H
   go_wp2
   go_meet
   case rel => exact ⟨_, ((a0 == 5)), (by simp [*]), H', ⟨by omega⟩, by repeat (exact zN.refl _)⟩
  rw [if_neg c5] at H;have Ez := beq_eq_false_iff_ne.mpr c5;have Jj := bne_iff_ne.mpr c5;have H' := yf.mk H;clear H
  go_wp2
  go_meet
  case rel => exact ⟨_, ((a0 == 7)), (by rfl), H', ⟨by omega⟩, by repeat (exact zN.refl _)⟩
 case rest =>
 clear Uh;obtain ⟨kq, yQ, rfl, HA, Wm, ⟨aa, rfl⟩⟩ := hcut
 cases kq with
 | zero => exact absurd HA.out (by simp [yV.j0])
 | succ Wn =>
  have H := HA.out;clear HA;simp only [yV.j0] at H
  by_cases c6 : yQ = true
  ·
   subst c6;rw [if_pos rfl] at H;simp only [Option.some.injEq, Prod.mk.injEq] at H;obtain ⟨rfl, rfl⟩ := H
   go_wp2
   go_ret2
   exact ⟨by rfl, by repeat (first | exact zN.refl _ | apply zN.step)⟩
  ·
   replace c6 := Bool.eq_false_iff.mpr c6;subst c6
   rw [if_neg (show ¬ (false = true) by decide)] at H
   by_cases c7 : a0 = 4
   ·
    rw [if_pos c7] at H;have FR := beq_iff_eq.mpr c7
    have Mo : (a0 != 4) = false := bne_eq_false_iff_eq.mpr c7
    clear c7;simp only [Option.some.injEq, Prod.mk.injEq] at H;obtain ⟨rfl, rfl⟩ := H
    go_wp2
    go_ret2
    exact ⟨by rfl, by repeat (first | exact zN.refl _ | apply zN.step)⟩
   ·
    rw [if_neg c7] at H;have FR := beq_eq_false_iff_ne.mpr c7;have Mo := bne_iff_ne.mpr c7
    by_cases c8 : a0 = 8
    ·
     rw [if_pos c8] at H;have Gl := beq_iff_eq.mpr c8
     have Mq : (a0 != 8) = false := bne_eq_false_iff_eq.mpr c8
     clear c8;simp only [Option.some.injEq, Prod.mk.injEq] at H;obtain ⟨rfl, rfl⟩ := H
     go_wp2
     go_ret2
     exact ⟨by rfl, by repeat (first | exact zN.refl _ | apply zN.step)⟩
    ·
     rw [if_neg c8] at H;have Gl := beq_eq_false_iff_ne.mpr c8;have Mq := bne_iff_ne.mpr c8
     by_cases c9 : a0 = 9
     ·
      rw [if_pos c9] at H;have Hr := beq_iff_eq.mpr c9
      have OB : (a0 != 9) = false := bne_eq_false_iff_eq.mpr c9
      clear c9;simp only [Option.some.injEq, Prod.mk.injEq] at H;obtain ⟨rfl, rfl⟩ := H
      go_wp2
      go_ret2
      exact ⟨by rfl, by repeat (first | exact zN.refl _ | apply zN.step)⟩
     ·
      rw [if_neg c9] at H;have Hr := beq_eq_false_iff_ne.mpr c9;have OB := bne_iff_ne.mpr c9;simp only [Option.some.injEq, Prod.mk.injEq] at H;obtain ⟨rfl, rfl⟩ := H
      go_wp2
      go_ret2
      exact ⟨by rfl, by repeat (first | exact zN.refl _ | apply zN.step)⟩
def yR.l0 : Nat → Int → Int → Int → List Int → Int → Option (List Int)
 | 0, _, _, _, _, _ => none
 | k + 1, x0, x1, x2, x7, x8 => if x8 < x2 then (if x1 = 0 then (none) else (if x7.length < 17592186044416 then (yR.l0 k (wrap64 (Int.tdiv x0 x1)) x1 x2 (x7 ++ [Int.tmod x0 x1]) (wrap64 (x8 + 1))) else (none))) else (some x7)
def yR.f (k : Nat) (a0 : Int) (a1 : Int) (a2 : Int) : Option (List Int) := yR.l0 k a0 a1 a2 ([] : List Int) 0
theorem yR.mono_l : ∀ k, (∀ y0 y1 y2 y3 y4, zZ (yR.l0 k y0 y1 y2 y3 y4) (yR.l0 (k + 1) y0 y1 y2 y3 y4))
 | 0 => fun _ _ _ _ _ r h => by simp [yR.l0] at h
 | k + 1 => by
  have DN := yR.mono_l k
  ·
   intro y0 y1 y2 y3 y4
   unfold yR.l0
   repeat' first
   | exact DN _ _ _ _ _
   | exact zZ.refl _
   | exact zZ.none _
   | refine zZ.ite ?_ ?_
   | refine zZ.bind ?_ (fun _ => ?_)
theorem yR.mono : ∀ a0 a1 a2 k, zZ (yR.f k a0 a1 a2) (yR.f (k + 1) a0 a1 a2) := by
 intro a0 a1 a2 k
 have DN := yR.mono_l k
 unfold yR.f
 repeat' first
  | exact DN _ _ _ _ _
  | exact zZ.refl _
  | exact zZ.none _
  | refine zZ.ite ?_ ?_
  | refine zZ.bind ?_ (fun _ => ?_)
set_option maxHeartbeats 8000000 in
set_option maxRecDepth 100000 in
theorem yR.calls (k : Nat) (a0 : Int) (a1 : Int) (a2 : Int) (r : List Int) (w : World) (h : yR.f k a0 a1 a2 = some r) :
  Calls Try.prog 77 #[.int .i64 a0, .int .i64 a1, .int .i64 a2] w fun e w' => ∃ Gw : Value, e = .returned (Gw) ∧ Kd.R (Kd.int .i64) 3 w' w.heap.size (fun _ => True) Gw r ∧ Below w.heap.size w w' := by
 have HB := yf.mk (Below.refl w.heap.size w)
 have H : (yR.l0 k a0 a1 a2 ([] : List Int) 0) = some r := h
 clear h;have H' := yf.mk H;clear H
 go_enter Try.func77, Try.ntmps77
 go_wp2
 go_loopg [0, 7, 8] k (fun kq v0 v7 v8 w' => ∃ (aa : Int) (Eg : List Int) (Di : Int), v0 = .int .i64 aa ∧ v8 = .int .i64 Di ∧ yf (yR.l0 kq aa a1 a2 Eg Di = some r) ∧ yf (kq ≤ k) ∧ yf (Kd.R (Kd.int .i64) 3 w' w.heap.size (fun _ => True) v7 Eg) ∧ yf (Below w.heap.size w w'))
 case atStart => exact ⟨(a0), (([] : List Int)), (0), (by rfl), (by rfl), H', ⟨Nat.le_refl _⟩, ⟨by exact Kd.Dh _ _ _ _ _⟩, ⟨bO HB⟩⟩
 case round =>
 clear H';obtain ⟨aa, Eg, Di, rfl, rfl, HA, BZ, Fz, HB⟩ := hrel
 cases gk with
 | zero => exact absurd HA.out (by simp [yR.l0])
 | succ k1 =>
 have H := HA.out;clear HA;simp only [yR.l0] at H
 by_cases c4 : Di < a2
 rotate_left
 ·
  rw [if_neg c4] at H;have Ex := decide_eq_false c4;clear c4;obtain rfl := Option.some.inj H
  go_wp2
  go_ret
  exact ⟨_, by rfl, by (with_reducible repeat (apply Kd.zl)); exact Fz.out, bO HB⟩
 rw [if_pos c4] at H;have Ex := decide_eq_true c4;clear c4
 by_cases c5 : a1 = 0
 ·
  rw [if_pos c5] at H;exact absurd H (by simp)
 rw [if_neg c5] at H;have Ez := beq_eq_false_iff_ne.mpr c5;have Jj := bne_iff_ne.mpr c5
 by_cases c6 : Eg.length < 17592186044416
 rotate_left
 ·
  rw [if_neg c6] at H;exact absurd H (by simp)
 rw [if_pos c6] at H;have ag := yf.mk c6;clear c6;obtain ⟨y104, hy104⟩ : ∃ y_ : List Int, y_ = (Eg ++ [Int.tmod aa a1]) := ⟨_, rfl⟩
 replace H : (yR.l0 k1 (wrap64 (Int.tdiv aa a1)) a1 a2 y104 (wrap64 (Di + 1))) = some r := by (rw [hy104]; with_reducible exact H)
 have af := yf.mk hy104;clear hy104;have H' := yf.mk H;clear H
 go_wp2_with (((with_reducible refine Bz (b := .append) (xs := #[.tmp 14, .tmp 18]) rfl ?_); at_builtin; refine Kd.El (Kd.int .i64) (w0 := w) w.heap.size rfl (.tmp 14) (.tmp 18) 63 3 (.int .i64 0) 8 rfl Try.underlying63 info3 rfl (by decide) (by omega) u7 Eg (Int.tmod aa a1) [.int .i64 (Int.tmod aa a1)] (fun _ => True) (fun _ => False) rfl rfl ?aP (fun _ hk => hk.elim) ?aF ?aO ?aB ?aS ?aL ?_; (case aP => exact rfl); (case aB => exact (bO HB)); (case aF => exact (fun _ _ => trivial)); (case aO => exact (kR Fz)); (case aS => exact (yJ (bO HB))); (case aL => have := ag.out; omega); intro v105 w7 ho hb hg hat; rw [← af.out] at ho; have Bt := yf.mk (hb); have Bu := yf.mk (ho); clear HB; clear Fz; have HB := Bt; have ae := Bu; clear Bt Bu; clear ho hb hg hat))
 go_roundg k1
 case measure => have := BZ.out; omega
 case rel => exact ⟨(wrap64 (Int.tdiv aa a1)), (y104), (wrap64 (Di + 1)), (by rfl), (by rfl), H', ⟨by have := BZ.out; omega⟩, ⟨kR ae⟩, ⟨bO HB⟩⟩
def z8.l0 : Nat → List Int → Int → Int → Int → Option (Int)
 | 0, _, _, _, _ => none
 | k + 1, x0, x1, x5, x6 => if x6 ≥ 0 then (if 0 ≤ x6 then (if x6 < (x0.length : Int) then (z8.l0 k x0 x1 (wrap64 ((wrap64 (x5 * x1)) + (rd x0 x6))) (wrap64 (x6 - 1))) else (none)) else (none)) else (some x5)
def z8.f (k : Nat) (l0 : List Int) (a1 : Int) : Option (Int) := z8.l0 k l0 a1 0 (wrap64 ((l0.length : Int) - 1))
theorem z8.mono_l : ∀ k, (∀ y0 y1 y2 y3, zZ (z8.l0 k y0 y1 y2 y3) (z8.l0 (k + 1) y0 y1 y2 y3))
 | 0 => fun _ _ _ _ r h => by simp [z8.l0] at h
 | k + 1 => by
  have DN := z8.mono_l k
  ·
   intro y0 y1 y2 y3
   unfold z8.l0
   repeat' first
   | exact DN _ _ _ _
   | exact zZ.refl _
   | exact zZ.none _
   | refine zZ.ite ?_ ?_
   | refine zZ.bind ?_ (fun _ => ?_)
theorem z8.mono : ∀ a0 a1 k, zZ (z8.f k a0 a1) (z8.f (k + 1) a0 a1) := by
 intro a0 a1 k
 have DN := z8.mono_l k
 unfold z8.f
 repeat' first
  | exact DN _ _ _ _
  | exact zZ.refl _
  | exact zZ.none _
  | refine zZ.ite ?_ ?_
  | refine zZ.bind ?_ (fun _ => ?_)
set_option maxHeartbeats 8000000 in
set_option maxRecDepth 100000 in
theorem z8.calls (k : Nat) (A0 : Option Addr) (c0 : Nat) (l0 : List Int) (a1 : Int) (r : Int) (w : World) (hr0 : Kd.C (Kd.int .i64) w A0 l0.length l0) (hc0 : l0.length ≤ c0) (h : z8.f k l0 a1 = some r) :
  Calls Try.prog 78 #[.slice A0 l0.length c0, .int .i64 a1] w fun e w' => e = .returned (.int .i64 r) ∧ zN w w' := by
 have Lm := yf.mk hr0;have WM := yf.mk hc0;clear hr0 hc0
 have H : (z8.l0 k l0 a1 0 (wrap64 ((l0.length : Int) - 1))) = some r := h
 clear h;have H' := yf.mk H;clear H
 go_enter Try.func78, Try.ntmps78
 go_wp2
 go_loopg [5, 6] k (fun kq v5 v6 w' => ∃ (yQ : Int) (Gu : Int), v5 = .int .i64 yQ ∧ v6 = .int .i64 Gu ∧ yf (z8.l0 kq l0 a1 yQ Gu = some r) ∧ yf (kq ≤ k) ∧ zN w w')
 case atStart => exact ⟨(0), (wrap64 ((l0.length : Int) - 1)), (by rfl), (by rfl), H', ⟨Nat.le_refl _⟩, by repeat (exact zN.refl _)⟩
 case round =>
 clear H';obtain ⟨yQ, Gu, rfl, rfl, HA, BZ, ⟨m1, rfl⟩⟩ := hrel
 cases gk with
 | zero => exact absurd HA.out (by simp [z8.l0])
 | succ k1 =>
 have H := HA.out;clear HA;simp only [z8.l0] at H
 by_cases c3 : Gu ≥ 0
 rotate_left
 ·
  rw [if_neg c3] at H;have FM := decide_eq_false c3;clear c3;obtain rfl := Option.some.inj H
  go_wp2
  go_ret
  exact ⟨by rfl, by repeat (first | exact zN.refl _ | apply zN.step)⟩
 rw [if_pos c3] at H;have FM := decide_eq_true c3;clear c3
 by_cases c4 : 0 ≤ Gu
 rotate_left
 ·
  rw [if_neg c4] at H;exact absurd H (by simp)
 rw [if_pos c4] at H;have Ex := decide_eq_true c4;clear c4
 by_cases c5 : Gu < (l0.length : Int)
 rotate_left
 ·
  rw [if_neg c5] at H;exact absurd H (by simp)
 rw [if_pos c5] at H;have Ez := decide_eq_true c5;clear c5;have H' := yf.mk H;clear H
 have aa : 0 ≤ (Gu : Int) := of_decide_eq_true ‹_›
 have ae : Gu < (l0.length : Int) := of_decide_eq_true ‹_›
 obtain ⟨ag, af, ah⟩ := Kd.Bv Lm.out Gu aa ae;cases af;replace aa := eq_true aa;replace ae := eq_true ae
 go_wp2
 go_roundg k1
 case measure => have := BZ.out; omega
 case rel => exact ⟨(wrap64 ((wrap64 (yQ * a1)) + (rd l0 Gu))), (wrap64 (Gu - 1)), (by rfl), (by rfl), H', ⟨by have := BZ.out; omega⟩, by repeat (first | exact zN.refl _ | apply zN.step)⟩
end Go.Proofs.Ytjonnfmoocijlaa.P
