/- Texts of a claim, packed. -/
import Derived.Test.YtjonnfmoocijlaaGreatE4
set_option linter.all false
namespace Go.Proofs.YtjonnfmoocijlaaGreat.P
open Go.RowKit Go.Proofs.YtjonnfmoocijlaaGreatKW.PrintWords Go.Proofs.YtjonnfmoocijlaaGreatKW.PrintLast Go.Proofs.YtjonnfmoocijlaaGreatKW.PrintMore
attribute [local go_sem] zN zP Af Ag zz zA zO zQ
mutual
def yw.l0 : Nat → Int → List (JD) → Int → Option ((List (JD)))
 | 0,_,_,_ => none
 | k + 1,x0,x3,x4 => if x4 < x0 then (yw.l1 k x0 x3 x4 0) else (some x3)
def yw.l1 : Nat → Int → List (JD) → Int → Int → Option ((List (JD)))
 | 0,_,_,_,_ => none
 | k + 1,x0,x3,x4,x5 => if x5 < x0 then (yw.l2 k x0 x3 x4 x5 0) else (yw.l0 k x0 x3 (wrap64 (x4 + 1)))
def yw.l2 : Nat → Int → List (JD) → Int → Int → Int → Option ((List (JD)))
 | 0,_,_,_,_,_ => none
 | k + 1,x0,x3,x4,x5,x6 => if x6 < x0 then (if x4 = 1 then (yw.j3 k x0 x3 x4 x5 x6 true) else (if x4 = 0 then (if x5 = 1 then (yw.j3 k x0 x3 x4 x5 x6 true) else (if x5 = 0 then (yw.j3 k x0 x3 x4 x5 x6 (x6 == 1)) else (yw.j3 k x0 x3 x4 x5 x6 false))) else (yw.j3 k x0 x3 x4 x5 x6 false))) else (yw.l1 k x0 x3 x4 (wrap64 (x5 + 1)))
def yw.j3 : Nat → Int → List (JD) → Int → Int → Int → Bool → Option ((List (JD)))
 | 0,_,_,_,_,_,_ => none
 | k + 1,x0,x3,x4,x5,x6,x43 => if x43 = true then (if x3.length < 5864062014805 then (yw.l2 k x0 (x3 ++ [(⟨x4,x5,x6⟩ : JD)]) x4 x5 (wrap64 (x6 + 1))) else (none)) else (yw.l2 k x0 x3 x4 x5 (wrap64 (x6 + 1)))
end
def yw.f (k : Nat) (a0 : Int) : Option ((List (JD))) := yw.l0 k a0 ([] : List (JD)) 0
theorem yw.mono_l : ∀ k,(∀ y0 y1 y2,Bh (yw.l0 k y0 y1 y2) (yw.l0 (k + 1) y0 y1 y2)) ∧ (∀ y0 y1 y2 y3,Bh (yw.l1 k y0 y1 y2 y3) (yw.l1 (k + 1) y0 y1 y2 y3)) ∧ (∀ y0 y1 y2 y3 y4,Bh (yw.l2 k y0 y1 y2 y3 y4) (yw.l2 (k + 1) y0 y1 y2 y3 y4)) ∧ (∀ y0 y1 y2 y3 y4 y5,Bh (yw.j3 k y0 y1 y2 y3 y4 y5) (yw.j3 (k + 1) y0 y1 y2 y3 y4 y5))
 | 0 => ⟨fun _ _ _ r h => by simp [yw.l0] at h,fun _ _ _ _ r h => by simp [yw.l1] at h,fun _ _ _ _ _ r h => by simp [yw.l2] at h,fun _ _ _ _ _ _ r h => by simp [yw.j3] at h⟩
 | k + 1 => by
  obtain ⟨Fz,ih1,ih2,ih3⟩ := yw.mono_l k
  refine ⟨?_,?_,?_,?_⟩
  ·
   intro y0 y1 y2
   unfold yw.l0
   repeat' first
   | exact Fz _ _ _
   | exact ih1 _ _ _ _
   | exact ih2 _ _ _ _ _
   | exact ih3 _ _ _ _ _ _
   | exact Bh.refl _
   | exact Bh.none _
   | refine Bh.ite ?_ ?_
   | refine Bh.bind ?_ (fun _ => ?_)
  ·
   intro y0 y1 y2 y3
   unfold yw.l1
   repeat' first
   | exact Fz _ _ _
   | exact ih1 _ _ _ _
   | exact ih2 _ _ _ _ _
   | exact ih3 _ _ _ _ _ _
   | exact Bh.refl _
   | exact Bh.none _
   | refine Bh.ite ?_ ?_
   | refine Bh.bind ?_ (fun _ => ?_)
  ·
   intro y0 y1 y2 y3 y4
   unfold yw.l2
   repeat' first
   | exact Fz _ _ _
   | exact ih1 _ _ _ _
   | exact ih2 _ _ _ _ _
   | exact ih3 _ _ _ _ _ _
   | exact Bh.refl _
   | exact Bh.none _
   | refine Bh.ite ?_ ?_
   | refine Bh.bind ?_ (fun _ => ?_)
  ·
   intro y0 y1 y2 y3 y4 y5
   unfold yw.j3
   repeat' first
   | exact Fz _ _ _
   | exact ih1 _ _ _ _
   | exact ih2 _ _ _ _ _
   | exact ih3 _ _ _ _ _ _
   | exact Bh.refl _
   | exact Bh.none _
   | refine Bh.ite ?_ ?_
   | refine Bh.bind ?_ (fun _ => ?_)
theorem yw.mono : ∀ a0 k,Bh (yw.f k a0) (yw.f (k + 1) a0) := by
 intro a0 k
 obtain ⟨Fz,ih1,ih2,ih3⟩ := yw.mono_l k
 unfold yw.f
 repeat' first
  | exact Fz _ _ _
  | exact ih1 _ _ _ _
  | exact ih2 _ _ _ _ _
  | exact ih3 _ _ _ _ _ _
  | exact Bh.refl _
  | exact Bh.none _
  | refine Bh.ite ?_ ?_
  | refine Bh.bind ?_ (fun _ => ?_)
set_option maxHeartbeats 8000000 in
set_option maxRecDepth 100000 in
theorem yw.calls (k : Nat) (a0 : Int) (r : List (JD)) (w : World) (h : yw.f k a0 = some r) :
  Calls Tryz.prog 44 #[.int .i64 a0] w fun e w' => ∃ G7 : Value,e = .returned (G7) ∧ Kd.R Vr 88 w' w.heap.size (fun _ => True) G7 r ∧ Below w.heap.size w w' := by
 have ax := Tryz.underlying88;have HB := yf.mk (Below.refl w.heap.size w)
 have H : (yw.l0 k a0 ([] : List (JD)) 0) = some r := h
 clear h;have H' := yf.mk H;clear H
 go_enter Tryz.func44,Tryz.ntmps44
 go_wp2
 go_loopg [3,4] k (fun kq v3 v4 w' => ∃ (ai : List (JD)) (aa : Int),v4 = .int .i64 aa ∧ yf (yw.l0 kq a0 ai aa = some r) ∧ yf (kq ≤ k) ∧ yf (Kd.R Vr 88 w' w.heap.size (fun _ => True) v3 ai) ∧ yf (Below w.heap.size w w'))
 case atStart => exact ⟨(([] : List (JD))),(0),(by rfl),H',⟨Nat.le_refl _⟩,⟨by exact Kd.Dc _ _ _ _ _⟩,⟨bO HB⟩⟩
 case round =>
 clear H';obtain ⟨ai,aa,rfl,HA,Bn,CW,HB⟩ := hrel
 cases gk with
 | zero => exact absurd HA.out (by simp [yw.l0])
 | succ k1 =>
 have H := HA.out;clear HA;simp only [yw.l0] at H
 by_cases c2 : aa < a0
 rotate_left
 ·
  rw [if_neg c2] at H;have Uz := decide_eq_false c2;clear c2;obtain rfl := Option.some.inj H
  go_wp2
  go_ret
  exact ⟨_,by rfl,by (with_reducible repeat (apply Kd.zg));exact CW.out,bO HB⟩
 rw [if_pos c2] at H;have Uz := decide_eq_true c2;clear c2;have H' := yf.mk H;clear H
 go_wp2
 go_loopg [3,5] k1 (fun kq v3 v5 w' => ∃ (ah : List (JD)) (ae : Int),v5 = .int .i64 ae ∧ yf (yw.l1 kq a0 ah aa ae = some r) ∧ yf (kq ≤ k1) ∧ yf (Kd.R Vr 88 w' w.heap.size (fun _ => True) v3 ah) ∧ yf (Below w.heap.size w w'))
 case atStart => exact ⟨(ai),(0),(by rfl),H',⟨Nat.le_refl _⟩,⟨kR CW⟩,⟨bO HB⟩⟩
 case round =>
 clear H' Uz;obtain ⟨ah,ae,rfl,HA,Di,CW,HB⟩ := hrel
 cases gk with
 | zero => exact absurd HA.out (by simp [yw.l1])
 | succ k2 =>
  have H := HA.out;clear HA;simp only [yw.l1] at H
  by_cases c3 : ae < a0
  ·
   rw [if_pos c3] at H;have Gz := decide_eq_true c3;clear c3;have H' := yf.mk H;clear H
   go_wp2
   go_loopg [3,6] k2 (fun kq v3 v6 w' => ∃ (ag : List (JD)) (af : Int),v6 = .int .i64 af ∧ yf (yw.l2 kq a0 ag aa ae af = some r) ∧ yf (kq ≤ k2) ∧ yf (Kd.R Vr 88 w' w.heap.size (fun _ => True) v3 ag) ∧ yf (Below w.heap.size w w'))
   case atStart => exact ⟨(ah),(0),(by rfl),H',⟨Nat.le_refl _⟩,⟨kR CW⟩,⟨bO HB⟩⟩
   case round =>
    clear H' Gz;obtain ⟨ag,af,rfl,HA,Fx,CW,HB⟩ := hrel
    cases gk with
    | zero => exact absurd HA.out (by simp [yw.l2])
    | succ k3 =>
     have H := HA.out;clear HA;simp only [yw.l2] at H
     by_cases c4 : af < a0
     ·
      rw [if_pos c4] at H;have ER := decide_eq_true c4;clear c4;have HC5 := yf.mk H;clear H
      go_upto_region 11 with (fail)
      go_cut [43] (fun v43 wc => ∃ (kq : Nat) (aj : Bool),v43 = .bool aj ∧ yf (yw.j3 kq a0 ag aa ae af aj = some r) ∧ yf (kq ≤ k3) ∧ yf (Kd.R Vr 88 wc w.heap.size (fun _ => True) u3 ag) ∧ yf (Below w.heap.size w wc))
      case first =>
       have H := HC5.out;clear HC5
       by_cases c6 : aa = 1
       ·
        rw [if_pos c6] at H;have Eu := beq_iff_eq.mpr c6
        have Ml : (aa != 1) = false := bne_eq_false_iff_eq.mpr c6
        clear c6
        (skip)
        have H' := yf.mk H;clear H
        go_wp2
        go_meet
        case rel => exact ⟨_,(true),(by rfl),H',⟨by have := Bn.out;have := Di.out;have := Fx.out;omega⟩,⟨kR CW⟩,⟨bO HB⟩⟩
       ·
        rw [if_neg c6] at H;have Eu := beq_eq_false_iff_ne.mpr c6;have Ml := bne_iff_ne.mpr c6
        (skip)
        by_cases c7 : aa = 0
        ·
         rw [if_pos c7] at H;have GL := beq_iff_eq.mpr c7
         have O7 : (aa != 0) = false := bne_eq_false_iff_eq.mpr c7
         clear c7
         by_cases c8 : ae = 1
         ·
          rw [if_pos c8] at H;have GN := beq_iff_eq.mpr c8
          have Nk : (ae != 1) = false := bne_eq_false_iff_eq.mpr c8
          clear c8;have H' := yf.mk H;clear H
          go_wp2
          go_meet
          case rel => exact ⟨_,(true),(by rfl),H',⟨by have := Bn.out;have := Di.out;have := Fx.out;omega⟩,⟨kR CW⟩,⟨bO HB⟩⟩
         ·
          rw [if_neg c8] at H;have GN := beq_eq_false_iff_ne.mpr c8;have Nk := bne_iff_ne.mpr c8
          by_cases c9 : ae = 0
          ·
           rw [if_pos c9] at H;have I5 := beq_iff_eq.mpr c9
           have Qo : (ae != 0) = false := bne_eq_false_iff_eq.mpr c9
           clear c9;have H' := yf.mk H;clear H
           go_wp2
           go_meet
           case rel => exact ⟨_,((af == 1)),(by rfl),H',⟨by have := Bn.out;have := Di.out;have := Fx.out;omega⟩,⟨kR CW⟩,⟨bO HB⟩⟩
          ·
           rw [if_neg c9] at H;have I5 := beq_eq_false_iff_ne.mpr c9;have Qo := bne_iff_ne.mpr c9;have H' := yf.mk H;clear H
           go_wp2
           go_meet
           case rel => exact ⟨_,(false),(by rfl),H',⟨by have := Bn.out;have := Di.out;have := Fx.out;omega⟩,⟨kR CW⟩,⟨bO HB⟩⟩
        ·
         rw [if_neg c7] at H;have GL := beq_eq_false_iff_ne.mpr c7;have O7 := bne_iff_ne.mpr c7;have H' := yf.mk H;clear H
         go_wp2
         go_meet
         case rel => exact ⟨_,(false),(by rfl),H',⟨by have := Bn.out;have := Di.out;have := Fx.out;omega⟩,⟨kR CW⟩,⟨bO HB⟩⟩
      case rest =>
       clear HC5 ER;obtain ⟨kq,aj,rfl,HA,ZJ,CW,HB⟩ := hcut
       cases kq with
       | zero => exact absurd HA.out (by simp [yw.j3])
       | succ kj4 =>
        have H := HA.out;clear HA;simp only [yw.j3] at H
        by_cases c10 : aj = true
        ·
         subst c10;rw [if_pos rfl] at H
         by_cases c11 : ag.length < 5864062014805
         ·
          rw [if_pos c11] at H;have au := yf.mk c11;clear c11;obtain ⟨y101,hy101⟩ : ∃ y_ : List (JD),y_ = (ag ++ [(⟨aa,ae,af⟩ : JD)]) := ⟨_,rfl⟩
          replace H : (yw.l2 kj4 a0 y101 aa ae (wrap64 (af + 1))) = some r := by (rw [hy101];with_reducible exact H)
          have av := yf.mk hy101;clear hy101;have H' := yf.mk H;clear H
          go_wp2_with (((with_reducible refine Bf (b := .append) (xs := #[.tmp 44,.tmp 49]) rfl ?_);at_builtin;refine Kd.Dz Vr (w0 := w) w.heap.size rfl (.tmp 44) (.tmp 49) 85 88 (.agg #[(.int .i64 0),(.int .i64 0),(.int .i64 0)]) 24 rfl Tryz.underlying85 a2D rfl (by decide) (by omega) u3 ag (⟨aa,ae,af⟩ : JD) [.int .i64 aa,.int .i64 ae,.int .i64 af] (fun _ => True) (fun _ => False) rfl rfl ?aP (fun _ hk => hk.elim) ?aF ?aO ?aB ?aS ?aL ?_;(case aP => exact Zg _ _ _ (⟨aa,ae,af⟩ : JD));(case aB => exact (bO HB));(case aF => exact (fun _ _ => trivial));(case aO => exact (kR CW));(case aS => exact (yF (bO HB)));(case aL => have := au.out;omega);intro v102 w12 ho hb hg hat;rw [← av.out] at ho;have BR := yf.mk (hb);have BS := yf.mk (ho);clear HB;clear CW;have HB := BR;have ak := BS;clear BR BS;clear ho hb hg hat))
          go_roundg kj4
          case measure => have := Bn.out;have := Di.out;have := Fx.out;have := ZJ.out;omega
          case rel => exact ⟨(y101),(wrap64 (af + 1)),(by rfl),H',⟨by have := Bn.out;have := Di.out;have := Fx.out;have := ZJ.out;omega⟩,⟨kR ak⟩,⟨bO HB⟩⟩
         ·
          rw [if_neg c11] at H;exact absurd H (by simp)
        ·
         replace c10 := Bool.eq_false_iff.mpr c10;subst c10
         rw [if_neg (show ¬ (false = true) by decide)] at H
         have H' := yf.mk H;clear H
         go_wp2
         go_roundg kj4
         case measure => have := Bn.out;have := Di.out;have := Fx.out;have := ZJ.out;omega
         case rel => exact ⟨(ag),(wrap64 (af + 1)),(by rfl),H',⟨by have := Bn.out;have := Di.out;have := Fx.out;have := ZJ.out;omega⟩,⟨kR CW⟩,⟨bO HB⟩⟩
     ·
      rw [if_neg c4] at H;have ER := decide_eq_false c4;clear c4;have H' := yf.mk H;clear H
      go_wp2
      go_roundg k3
      case measure => have := Bn.out;have := Di.out;have := Fx.out;omega
      case rel => exact ⟨(ag),(wrap64 (ae + 1)),(by rfl),H',⟨by have := Bn.out;have := Di.out;have := Fx.out;omega⟩,⟨kR CW⟩,⟨bO HB⟩⟩
  ·
   rw [if_neg c3] at H;have Gz := decide_eq_false c3;clear c3;have H' := yf.mk H;clear H
   go_wp2
   go_roundg k2
   case measure => have := Bn.out;have := Di.out;omega
   case rel => exact ⟨(ah),(wrap64 (aa + 1)),(by rfl),H',⟨by have := Bn.out;have := Di.out;omega⟩,⟨kR CW⟩,⟨bO HB⟩⟩
def z8.j0 : Nat → Int → Int → Bool → Option (Int × Int)
 | 0,_,_,_ => none
 | k + 1,x0,x4,x5 => if x5 = true then (some (x0,1)) else (if x4 = 4 then (some (2,2)) else (if x4 = 8 then (some (2,3)) else (if x4 = 9 then (some (3,2)) else (some (0,0)))))
def z8.f (k : Nat) (a0 : Int) : Option (Int × Int) := if a0 = 2 then (z8.j0 k a0 a0 (a0 == 2)) else (if a0 = 3 then (z8.j0 k a0 a0 (a0 == 3)) else (if a0 = 5 then (z8.j0 k a0 a0 (a0 == 5)) else (z8.j0 k a0 a0 (a0 == 7))))
theorem z8.mono_l : ∀ k,(∀ y0 y1 y2,Bh (z8.j0 k y0 y1 y2) (z8.j0 (k + 1) y0 y1 y2))
 | 0 => fun _ _ _ r h => by simp [z8.j0] at h
 | k + 1 => by
  have Fz := z8.mono_l k
  ·
   intro y0 y1 y2
   unfold z8.j0
   repeat' first
   | exact Fz _ _ _
   | exact Bh.refl _
   | exact Bh.none _
   | refine Bh.ite ?_ ?_
   | refine Bh.bind ?_ (fun _ => ?_)
theorem z8.mono : ∀ a0 k,Bh (z8.f k a0) (z8.f (k + 1) a0) := by
 intro a0 k
 have Fz := z8.mono_l k
 unfold z8.f
 repeat' first
  | exact Fz _ _ _
  | exact Bh.refl _
  | exact Bh.none _
  | refine Bh.ite ?_ ?_
  | refine Bh.bind ?_ (fun _ => ?_)
set_option maxHeartbeats 8000000 in
set_option maxRecDepth 100000 in
theorem z8.calls (k : Nat) (a0 : Int) (r1 : Int) (r2 : Int) (w : World) (h : z8.f k a0 = some (r1,r2)) :
  Calls Tryz.prog 68 #[.int .i64 a0] w fun e w' => e = .returned (.tuple #[.int .i64 r1,.int .i64 r2]) ∧ zZ w w' := by
 have H : (if a0 = 2 then (z8.j0 k a0 a0 (a0 == 2)) else (if a0 = 3 then (z8.j0 k a0 a0 (a0 == 3)) else (if a0 = 5 then (z8.j0 k a0 a0 (a0 == 5)) else (z8.j0 k a0 a0 (a0 == 7))))) = some (r1,r2) := h
 clear h;have Vz := yf.mk H;clear H
 go_enter Tryz.func68,Tryz.ntmps68
 go_upto_if 5 with (fail)
 go_cut [5] (fun v5 wc => ∃ (kq : Nat) (yP : Bool),v5 = .bool yP ∧ yf (z8.j0 kq a0 a0 yP = some (r1,r2)) ∧ yf (kq ≤ k) ∧ zZ w wc)
 case first =>
  have H := Vz.out;clear Vz
  by_cases c3 : a0 = 2
  ·
   rw [if_pos c3] at H;have Gz := beq_iff_eq.mpr c3
   have Nh : (a0 != 2) = false := bne_eq_false_iff_eq.mpr c3
   clear c3
   (rw [Gz])
   have H' := yf.mk H;clear H
   go_wp2
   go_meet
   case rel => exact ⟨_,((a0 == 2)),(by simp [*]),H',⟨by omega⟩,by repeat (exact zZ.refl _)⟩
  rw [if_neg c3] at H;have Gz := beq_eq_false_iff_ne.mpr c3;have Nh := bne_iff_ne.mpr c3
  (rw [Gz])
  by_cases c4 : a0 = 3
  ·
   rw [if_pos c4] at H;have ER := beq_iff_eq.mpr c4
   have Mh : (a0 != 3) = false := bne_eq_false_iff_eq.mpr c4
   clear c4;have H' := yf.mk H;clear H
   go_wp2
   go_meet
   case rel => exact ⟨_,((a0 == 3)),(by simp [*]),H',⟨by omega⟩,by repeat (exact zZ.refl _)⟩
  rw [if_neg c4] at H;have ER := beq_eq_false_iff_ne.mpr c4;have Mh := bne_iff_ne.mpr c4
  by_cases c5 : a0 = 5
  ·
   rw [if_pos c5] at H;have ES := beq_iff_eq.mpr c5
   have Mj : (a0 != 5) = false := bne_eq_false_iff_eq.mpr c5
   clear c5;have H' := yf.mk H;clear H
   go_wp2
   go_meet
   case rel => exact ⟨_,((a0 == 5)),(by simp [*]),H',⟨by omega⟩,by repeat (exact zZ.refl _)⟩
  rw [if_neg c5] at H;have ES := beq_eq_false_iff_ne.mpr c5;have Mj := bne_iff_ne.mpr c5;have H' := yf.mk H;clear H
  go_wp2
  go_meet
  case rel => exact ⟨_,((a0 == 7)),(by rfl),H',⟨by omega⟩,by repeat (exact zZ.refl _)⟩
 case rest =>
 clear Vz;obtain ⟨kq,yP,rfl,HA,Yl,⟨aa,rfl⟩⟩ := hcut
 cases kq with
 | zero => exact absurd HA.out (by simp [z8.j0])
 | succ Yo =>
  have H := HA.out;clear HA;simp only [z8.j0] at H
  by_cases c6 : yP = true
  ·
   subst c6;rw [if_pos rfl] at H;simp only [Option.some.injEq,Prod.mk.injEq] at H;obtain ⟨rfl,rfl⟩ := H
   go_wp2
   go_ret2
   exact ⟨by rfl,by repeat (first | exact zZ.refl _ | apply zZ.step)⟩
  ·
   replace c6 := Bool.eq_false_iff.mpr c6;subst c6
   rw [if_neg (show ¬ (false = true) by decide)] at H
   by_cases c7 : a0 = 4
   ·
    rw [if_pos c7] at H;have GL := beq_iff_eq.mpr c7
    have O7 : (a0 != 4) = false := bne_eq_false_iff_eq.mpr c7
    clear c7;simp only [Option.some.injEq,Prod.mk.injEq] at H;obtain ⟨rfl,rfl⟩ := H
    go_wp2
    go_ret2
    exact ⟨by rfl,by repeat (first | exact zZ.refl _ | apply zZ.step)⟩
   ·
    rw [if_neg c7] at H;have GL := beq_eq_false_iff_ne.mpr c7;have O7 := bne_iff_ne.mpr c7
    by_cases c8 : a0 = 8
    ·
     rw [if_pos c8] at H;have GN := beq_iff_eq.mpr c8
     have Nk : (a0 != 8) = false := bne_eq_false_iff_eq.mpr c8
     clear c8;simp only [Option.some.injEq,Prod.mk.injEq] at H;obtain ⟨rfl,rfl⟩ := H
     go_wp2
     go_ret2
     exact ⟨by rfl,by repeat (first | exact zZ.refl _ | apply zZ.step)⟩
    ·
     rw [if_neg c8] at H;have GN := beq_eq_false_iff_ne.mpr c8;have Nk := bne_iff_ne.mpr c8
     by_cases c9 : a0 = 9
     ·
      rw [if_pos c9] at H;have I5 := beq_iff_eq.mpr c9
      have Qo : (a0 != 9) = false := bne_eq_false_iff_eq.mpr c9
      clear c9;simp only [Option.some.injEq,Prod.mk.injEq] at H;obtain ⟨rfl,rfl⟩ := H
      go_wp2
      go_ret2
      exact ⟨by rfl,by repeat (first | exact zZ.refl _ | apply zZ.step)⟩
     ·
      rw [if_neg c9] at H;have I5 := beq_eq_false_iff_ne.mpr c9;have Qo := bne_iff_ne.mpr c9;simp only [Option.some.injEq,Prod.mk.injEq] at H;obtain ⟨rfl,rfl⟩ := H
      go_wp2
      go_ret2
      exact ⟨by rfl,by repeat (first | exact zZ.refl _ | apply zZ.step)⟩
def yT.l0 : Nat → Int → Int → Int → List Int → Int → Option (List Int)
 | 0,_,_,_,_,_ => none
 | k + 1,x0,x1,x2,x7,x8 => if x8 < x2 then (if x1 = 0 then (none) else (if x7.length < 17592186044416 then (yT.l0 k (wrap64 (Int.tdiv x0 x1)) x1 x2 (x7 ++ [Int.tmod x0 x1]) (wrap64 (x8 + 1))) else (none))) else (some x7)
def yT.f (k : Nat) (a0 : Int) (a1 : Int) (a2 : Int) : Option (List Int) := yT.l0 k a0 a1 a2 ([] : List Int) 0
theorem yT.mono_l : ∀ k,(∀ y0 y1 y2 y3 y4,Bh (yT.l0 k y0 y1 y2 y3 y4) (yT.l0 (k + 1) y0 y1 y2 y3 y4))
 | 0 => fun _ _ _ _ _ r h => by simp [yT.l0] at h
 | k + 1 => by
  have Fz := yT.mono_l k
  ·
   intro y0 y1 y2 y3 y4
   unfold yT.l0
   repeat' first
   | exact Fz _ _ _ _ _
   | exact Bh.refl _
   | exact Bh.none _
   | refine Bh.ite ?_ ?_
   | refine Bh.bind ?_ (fun _ => ?_)
theorem yT.mono : ∀ a0 a1 a2 k,Bh (yT.f k a0 a1 a2) (yT.f (k + 1) a0 a1 a2) := by
 intro a0 a1 a2 k
 have Fz := yT.mono_l k
 unfold yT.f
 repeat' first
  | exact Fz _ _ _ _ _
  | exact Bh.refl _
  | exact Bh.none _
  | refine Bh.ite ?_ ?_
  | refine Bh.bind ?_ (fun _ => ?_)
set_option maxHeartbeats 8000000 in
set_option maxRecDepth 100000 in
theorem yT.calls (k : Nat) (a0 : Int) (a1 : Int) (a2 : Int) (r : List Int) (w : World) (h : yT.f k a0 a1 a2 = some r) :
  Calls Tryz.prog 69 #[.int .i64 a0,.int .i64 a1,.int .i64 a2] w fun e w' => ∃ G7 : Value,e = .returned (G7) ∧ Kd.R (Kd.int .i64) 3 w' w.heap.size (fun _ => True) G7 r ∧ Below w.heap.size w w' := by
 have HB := yf.mk (Below.refl w.heap.size w)
 have H : (yT.l0 k a0 a1 a2 ([] : List Int) 0) = some r := h
 clear h;have H' := yf.mk H;clear H
 go_enter Tryz.func69,Tryz.ntmps69
 go_wp2
 go_loopg [0,7,8] k (fun kq v0 v7 v8 w' => ∃ (aa : Int) (Am : List Int) (BX : Int),v0 = .int .i64 aa ∧ v8 = .int .i64 BX ∧ yf (yT.l0 kq aa a1 a2 Am BX = some r) ∧ yf (kq ≤ k) ∧ yf (Kd.R (Kd.int .i64) 3 w' w.heap.size (fun _ => True) v7 Am) ∧ yf (Below w.heap.size w w'))
 case atStart => exact ⟨(a0),(([] : List Int)),(0),(by rfl),(by rfl),H',⟨Nat.le_refl _⟩,⟨by exact Kd.Dc _ _ _ _ _⟩,⟨bO HB⟩⟩
 case round =>
 clear H';obtain ⟨aa,Am,BX,rfl,rfl,HA,Bn,CX,HB⟩ := hrel
 cases gk with
 | zero => exact absurd HA.out (by simp [yT.l0])
 | succ k1 =>
 have H := HA.out;clear HA;simp only [yT.l0] at H
 by_cases c4 : BX < a2
 rotate_left
 ·
  rw [if_neg c4] at H;have ER := decide_eq_false c4;clear c4;obtain rfl := Option.some.inj H
  go_wp2
  go_ret
  exact ⟨_,by rfl,by (with_reducible repeat (apply Kd.zg));exact CX.out,bO HB⟩
 rw [if_pos c4] at H;have ER := decide_eq_true c4;clear c4
 by_cases c5 : a1 = 0
 ·
  rw [if_pos c5] at H;exact absurd H (by simp)
 rw [if_neg c5] at H;have ES := beq_eq_false_iff_ne.mpr c5;have Mj := bne_iff_ne.mpr c5
 by_cases c6 : Am.length < 17592186044416
 rotate_left
 ·
  rw [if_neg c6] at H;exact absurd H (by simp)
 rw [if_pos c6] at H;have af := yf.mk c6;clear c6;obtain ⟨y104,hy104⟩ : ∃ y_ : List Int,y_ = (Am ++ [Int.tmod aa a1]) := ⟨_,rfl⟩
 replace H : (yT.l0 k1 (wrap64 (Int.tdiv aa a1)) a1 a2 y104 (wrap64 (BX + 1))) = some r := by (rw [hy104];with_reducible exact H)
 have ag := yf.mk hy104;clear hy104;have H' := yf.mk H;clear H
 go_wp2_with (((with_reducible refine Bf (b := .append) (xs := #[.tmp 14,.tmp 18]) rfl ?_);at_builtin;refine Kd.Dz (Kd.int .i64) (w0 := w) w.heap.size rfl (.tmp 14) (.tmp 18) 37 3 (.int .i64 0) 8 rfl Tryz.underlying37 info3 rfl (by decide) (by omega) u7 Am (Int.tmod aa a1) [.int .i64 (Int.tmod aa a1)] (fun _ => True) (fun _ => False) rfl rfl ?aP (fun _ hk => hk.elim) ?aF ?aO ?aB ?aS ?aL ?_;(case aP => exact rfl);(case aB => exact (bO HB));(case aF => exact (fun _ _ => trivial));(case aO => exact (kR CX));(case aS => exact (yF (bO HB)));(case aL => have := af.out;omega);intro v105 w7 ho hb hg hat;rw [← ag.out] at ho;have BR := yf.mk (hb);have BS := yf.mk (ho);clear HB;clear CX;have HB := BR;have ae := BS;clear BR BS;clear ho hb hg hat))
 go_roundg k1
 case measure => have := Bn.out;omega
 case rel => exact ⟨(wrap64 (Int.tdiv aa a1)),(y104),(wrap64 (BX + 1)),(by rfl),(by rfl),H',⟨by have := Bn.out;omega⟩,⟨kR ae⟩,⟨bO HB⟩⟩
def zh.l0 : Nat → List Int → Int → Int → Int → Option (Int)
 | 0,_,_,_,_ => none
 | k + 1,x0,x1,x5,x6 => if x6 ≥ 0 then (if 0 ≤ x6 then (if x6 < (x0.length : Int) then (zh.l0 k x0 x1 (wrap64 ((wrap64 (x5 * x1)) + (rd x0 x6))) (wrap64 (x6 - 1))) else (none)) else (none)) else (some x5)
def zh.f (k : Nat) (l0 : List Int) (a1 : Int) : Option (Int) := zh.l0 k l0 a1 0 (wrap64 ((l0.length : Int) - 1))
theorem zh.mono_l : ∀ k,(∀ y0 y1 y2 y3,Bh (zh.l0 k y0 y1 y2 y3) (zh.l0 (k + 1) y0 y1 y2 y3))
 | 0 => fun _ _ _ _ r h => by simp [zh.l0] at h
 | k + 1 => by
  have Fz := zh.mono_l k
  ·
   intro y0 y1 y2 y3
   unfold zh.l0
   repeat' first
   | exact Fz _ _ _ _
   | exact Bh.refl _
   | exact Bh.none _
   | refine Bh.ite ?_ ?_
   | refine Bh.bind ?_ (fun _ => ?_)
theorem zh.mono : ∀ a0 a1 k,Bh (zh.f k a0 a1) (zh.f (k + 1) a0 a1) := by
 intro a0 a1 k
 have Fz := zh.mono_l k
 unfold zh.f
 repeat' first
  | exact Fz _ _ _ _
  | exact Bh.refl _
  | exact Bh.none _
  | refine Bh.ite ?_ ?_
  | refine Bh.bind ?_ (fun _ => ?_)
set_option maxHeartbeats 8000000 in
set_option maxRecDepth 100000 in
theorem zh.calls (k : Nat) (A0 : Option Addr) (c0 : Nat) (l0 : List Int) (a1 : Int) (r : Int) (w : World) (hr0 : Kd.C (Kd.int .i64) w A0 l0.length l0) (hc0 : l0.length ≤ c0) (h : zh.f k l0 a1 = some r) :
  Calls Tryz.prog 70 #[.slice A0 l0.length c0,.int .i64 a1] w fun e w' => e = .returned (.int .i64 r) ∧ zZ w w' := by
 have MS := yf.mk hr0;have Yy := yf.mk hc0;clear hr0 hc0
 have H : (zh.l0 k l0 a1 0 (wrap64 ((l0.length : Int) - 1))) = some r := h
 clear h;have H' := yf.mk H;clear H
 go_enter Tryz.func70,Tryz.ntmps70
 go_wp2
 go_loopg [5,6] k (fun kq v5 v6 w' => ∃ (yP : Int) (Bi : Int),v5 = .int .i64 yP ∧ v6 = .int .i64 Bi ∧ yf (zh.l0 kq l0 a1 yP Bi = some r) ∧ yf (kq ≤ k) ∧ zZ w w')
 case atStart => exact ⟨(0),(wrap64 ((l0.length : Int) - 1)),(by rfl),(by rfl),H',⟨Nat.le_refl _⟩,by repeat (exact zZ.refl _)⟩
 case round =>
 clear H';obtain ⟨yP,Bi,rfl,rfl,HA,Bn,⟨m1,rfl⟩⟩ := hrel
 cases gk with
 | zero => exact absurd HA.out (by simp [zh.l0])
 | succ k1 =>
 have H := HA.out;clear HA;simp only [zh.l0] at H
 by_cases c3 : Bi ≥ 0
 rotate_left
 ·
  rw [if_neg c3] at H;have Gz := decide_eq_false c3;clear c3;obtain rfl := Option.some.inj H
  go_wp2
  go_ret
  exact ⟨by rfl,by repeat (first | exact zZ.refl _ | apply zZ.step)⟩
 rw [if_pos c3] at H;have Gz := decide_eq_true c3;clear c3
 by_cases c4 : 0 ≤ Bi
 rotate_left
 ·
  rw [if_neg c4] at H;exact absurd H (by simp)
 rw [if_pos c4] at H;have ER := decide_eq_true c4;clear c4
 by_cases c5 : Bi < (l0.length : Int)
 rotate_left
 ·
  rw [if_neg c5] at H;exact absurd H (by simp)
 rw [if_pos c5] at H;have ES := decide_eq_true c5;clear c5;have H' := yf.mk H;clear H
 have aa : 0 ≤ (Bi : Int) := of_decide_eq_true ‹_›
 have ae : Bi < (l0.length : Int) := of_decide_eq_true ‹_›
 obtain ⟨ag,af,ah⟩ := Kd.BG MS.out Bi aa ae;cases af;replace aa := eq_true aa;replace ae := eq_true ae
 go_wp2
 go_roundg k1
 case measure => have := Bn.out;omega
 case rel => exact ⟨(wrap64 ((wrap64 (yP * a1)) + (rd l0 Bi))),(wrap64 (Bi - 1)),(by rfl),(by rfl),H',⟨by have := Bn.out;omega⟩,by repeat (first | exact zZ.refl _ | apply zZ.step)⟩
end Go.Proofs.YtjonnfmoocijlaaGreat.P
