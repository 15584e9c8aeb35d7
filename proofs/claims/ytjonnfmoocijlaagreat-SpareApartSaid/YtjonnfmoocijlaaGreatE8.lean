/- Texts of a claim, packed. -/
import Derived.Test.YtjonnfmoocijlaaGreatE6
set_option linter.all false
namespace Go.Proofs.YtjonnfmoocijlaaGreat.P
open Go.RowKit Go.Proofs.YtjonnfmoocijlaaGreatKW.PrintWords Go.Proofs.YtjonnfmoocijlaaGreatKW.PrintLast Go.Proofs.YtjonnfmoocijlaaGreatKW.PrintMore
attribute [local go_sem] zN zP Af Ag zz zA zO zQ
mutual
def yu.l0 : Nat → Int → Int → Int → List Int → List Int → List Int → Int → Option (Int)
 | 0,_,_,_,_,_,_,_ => none
 | k + 1,x0,x7,x8,x9,EU,DX,F5 => if F5 < x8 then (yu.l1 k x0 x7 x8 x9 EU DX F5 0) else (if x0 = 8 then (yu.j2 k x0 x7 x8 DX (([1,1,0] : List Int))) else (yu.j2 k x0 x7 x8 DX (([1,1] : List Int))))
def yu.l1 : Nat → Int → Int → Int → List Int → List Int → List Int → Int → Int → Option (Int)
 | 0,_,_,_,_,_,_,_,_ => none
 | k + 1,x0,x7,x8,x9,EU,DX,F5,G8 => if G8 < x8 then (if 0 ≤ (wrap64 (F5 + G8)) then (if (wrap64 (F5 + G8)) < (DX.length : Int) then (if 0 ≤ F5 then (if F5 < (x9.length : Int) then (if 0 ≤ G8 then (if G8 < (EU.length : Int) then (if x7 = 0 then (none) else (yu.l1 k x0 x7 x8 x9 EU (DX.set ((wrap64 (F5 + G8)) : Int).toNat (Int.tmod (wrap64 ((rd DX (wrap64 (F5 + G8))) + (wrap64 ((rd x9 F5) * (rd EU G8))))) x7)) F5 (wrap64 (G8 + 1)))) else (none)) else (none)) else (none)) else (none)) else (none)) else (none)) else (yu.l0 k x0 x7 x8 x9 EU DX (wrap64 (F5 + 1)))
def yu.j2 : Nat → Int → Int → Int → List Int → List Int → Option (Int)
 | 0,_,_,_,_,_ => none
 | k + 1,x0,x7,x8,DX,IQ => if x0 = 9 then (yu.j3 k x7 x8 DX (([1,0] : List Int))) else (yu.j3 k x7 x8 DX IQ)
def yu.j3 : Nat → Int → Int → List Int → List Int → Option (Int)
 | 0,_,_,_,_ => none
 | k + 1,x7,x8,DX,IQ => yu.l2 k x7 x8 DX IQ (wrap64 ((wrap64 (2 * x8)) - 2))
def yu.l2 : Nat → Int → Int → List Int → List Int → Int → Option (Int)
 | 0,_,_,_,_,_ => none
 | k + 1,x7,x8,DX,IQ,KT => if KT ≥ x8 then (yu.l3 k x7 x8 DX IQ KT 0) else (if 0 ≤ x8 then (if x8 ≤ (DX.length : Int) then ((zh.f k (DX.take (x8 : Int).toNat) x7).bind fun XL => (some XL)) else (none)) else (none))
def yu.l3 : Nat → Int → Int → List Int → List Int → Int → Int → Option (Int)
 | 0,_,_,_,_,_,_ => none
 | k + 1,x7,x8,DX,IQ,KT,P6 => if P6 < x8 then (if 0 ≤ (wrap64 ((wrap64 (KT - x8)) + P6)) then (if (wrap64 ((wrap64 (KT - x8)) + P6)) < (DX.length : Int) then (if 0 ≤ KT then (if KT < (DX.length : Int) then (if 0 ≤ P6 then (if P6 < (IQ.length : Int) then (if x7 = 0 then (none) else (yu.l3 k x7 x8 (DX.set ((wrap64 ((wrap64 (KT - x8)) + P6)) : Int).toNat (Int.tmod (wrap64 ((rd DX (wrap64 ((wrap64 (KT - x8)) + P6))) + (wrap64 ((rd DX KT) * (wrap64 (x7 - (rd IQ P6))))))) x7)) IQ KT (wrap64 (P6 + 1)))) else (none)) else (none)) else (none)) else (none)) else (none)) else (none)) else (if 0 ≤ KT then (if KT < (DX.length : Int) then (yu.l2 k x7 x8 (DX.set (KT : Int).toNat 0) IQ (wrap64 (KT - 1))) else (none)) else (none))
end
def yu.f (k : Nat) (a0 : Int) (a1 : Int) (a2 : Int) : Option (Int) := (z8.f k a0).bind fun Et => (if Et.2 = 1 then (if Et.1 = 0 then (none) else (some (Int.tmod (wrap64 (a1 * a2)) Et.1))) else ((yT.f k a1 Et.1 Et.2).bind fun GQ => ((yT.f k a2 Et.1 Et.2).bind fun GR => (if 0 ≤ (wrap64 ((wrap64 (2 * Et.2)) - 1)) then (if (wrap64 ((wrap64 (2 * Et.2)) - 1) : Int).toNat ≤ 35184372088832 then (yu.l0 k a0 Et.1 Et.2 GQ GR (List.replicate (wrap64 ((wrap64 (2 * Et.2)) - 1) : Int).toNat 0) 0) else (none)) else (none)))))
theorem yu.mono_l : ∀ k,(∀ y0 y1 y2 y3 y4 y5 y6,Bh (yu.l0 k y0 y1 y2 y3 y4 y5 y6) (yu.l0 (k + 1) y0 y1 y2 y3 y4 y5 y6)) ∧ (∀ y0 y1 y2 y3 y4 y5 y6 y7,Bh (yu.l1 k y0 y1 y2 y3 y4 y5 y6 y7) (yu.l1 (k + 1) y0 y1 y2 y3 y4 y5 y6 y7)) ∧ (∀ y0 y1 y2 y3 y4,Bh (yu.j2 k y0 y1 y2 y3 y4) (yu.j2 (k + 1) y0 y1 y2 y3 y4)) ∧ (∀ y0 y1 y2 y3,Bh (yu.j3 k y0 y1 y2 y3) (yu.j3 (k + 1) y0 y1 y2 y3)) ∧ (∀ y0 y1 y2 y3 y4,Bh (yu.l2 k y0 y1 y2 y3 y4) (yu.l2 (k + 1) y0 y1 y2 y3 y4)) ∧ (∀ y0 y1 y2 y3 y4 y5,Bh (yu.l3 k y0 y1 y2 y3 y4 y5) (yu.l3 (k + 1) y0 y1 y2 y3 y4 y5))
 | 0 => ⟨fun _ _ _ _ _ _ _ r h => by simp [yu.l0] at h,fun _ _ _ _ _ _ _ _ r h => by simp [yu.l1] at h,fun _ _ _ _ _ r h => by simp [yu.j2] at h,fun _ _ _ _ r h => by simp [yu.j3] at h,fun _ _ _ _ _ r h => by simp [yu.l2] at h,fun _ _ _ _ _ _ r h => by simp [yu.l3] at h⟩
 | k + 1 => by
  obtain ⟨Fz,ih1,ih2,ih3,Rv,ih5⟩ := yu.mono_l k
  refine ⟨?_,?_,?_,?_,?_,?_⟩
  ·
   intro y0 y1 y2 y3 y4 y5 y6
   unfold yu.l0
   repeat' first
   | exact Fz _ _ _ _ _ _ _
   | exact ih1 _ _ _ _ _ _ _ _
   | exact ih2 _ _ _ _ _
   | exact ih3 _ _ _ _
   | exact Rv _ _ _ _ _
   | exact ih5 _ _ _ _ _ _
   | exact z8.mono _ _
   | exact yT.mono _ _ _ _
   | exact zh.mono _ _ _
   | exact Bh.refl _
   | exact Bh.none _
   | refine Bh.ite ?_ ?_
   | refine Bh.bind ?_ (fun _ => ?_)
  ·
   intro y0 y1 y2 y3 y4 y5 y6 y7
   unfold yu.l1
   repeat' first
   | exact Fz _ _ _ _ _ _ _
   | exact ih1 _ _ _ _ _ _ _ _
   | exact ih2 _ _ _ _ _
   | exact ih3 _ _ _ _
   | exact Rv _ _ _ _ _
   | exact ih5 _ _ _ _ _ _
   | exact z8.mono _ _
   | exact yT.mono _ _ _ _
   | exact zh.mono _ _ _
   | exact Bh.refl _
   | exact Bh.none _
   | refine Bh.ite ?_ ?_
   | refine Bh.bind ?_ (fun _ => ?_)
  ·
   intro y0 y1 y2 y3 y4
   unfold yu.j2
   repeat' first
   | exact Fz _ _ _ _ _ _ _
   | exact ih1 _ _ _ _ _ _ _ _
   | exact ih2 _ _ _ _ _
   | exact ih3 _ _ _ _
   | exact Rv _ _ _ _ _
   | exact ih5 _ _ _ _ _ _
   | exact z8.mono _ _
   | exact yT.mono _ _ _ _
   | exact zh.mono _ _ _
   | exact Bh.refl _
   | exact Bh.none _
   | refine Bh.ite ?_ ?_
   | refine Bh.bind ?_ (fun _ => ?_)
  ·
   intro y0 y1 y2 y3
   unfold yu.j3
   repeat' first
   | exact Fz _ _ _ _ _ _ _
   | exact ih1 _ _ _ _ _ _ _ _
   | exact ih2 _ _ _ _ _
   | exact ih3 _ _ _ _
   | exact Rv _ _ _ _ _
   | exact ih5 _ _ _ _ _ _
   | exact z8.mono _ _
   | exact yT.mono _ _ _ _
   | exact zh.mono _ _ _
   | exact Bh.refl _
   | exact Bh.none _
   | refine Bh.ite ?_ ?_
   | refine Bh.bind ?_ (fun _ => ?_)
  ·
   intro y0 y1 y2 y3 y4
   unfold yu.l2
   repeat' first
   | exact Fz _ _ _ _ _ _ _
   | exact ih1 _ _ _ _ _ _ _ _
   | exact ih2 _ _ _ _ _
   | exact ih3 _ _ _ _
   | exact Rv _ _ _ _ _
   | exact ih5 _ _ _ _ _ _
   | exact z8.mono _ _
   | exact yT.mono _ _ _ _
   | exact zh.mono _ _ _
   | exact Bh.refl _
   | exact Bh.none _
   | refine Bh.ite ?_ ?_
   | refine Bh.bind ?_ (fun _ => ?_)
  ·
   intro y0 y1 y2 y3 y4 y5
   unfold yu.l3
   repeat' first
   | exact Fz _ _ _ _ _ _ _
   | exact ih1 _ _ _ _ _ _ _ _
   | exact ih2 _ _ _ _ _
   | exact ih3 _ _ _ _
   | exact Rv _ _ _ _ _
   | exact ih5 _ _ _ _ _ _
   | exact z8.mono _ _
   | exact yT.mono _ _ _ _
   | exact zh.mono _ _ _
   | exact Bh.refl _
   | exact Bh.none _
   | refine Bh.ite ?_ ?_
   | refine Bh.bind ?_ (fun _ => ?_)
theorem yu.mono : ∀ a0 a1 a2 k,Bh (yu.f k a0 a1 a2) (yu.f (k + 1) a0 a1 a2) := by
 intro a0 a1 a2 k
 obtain ⟨Fz,ih1,ih2,ih3,Rv,ih5⟩ := yu.mono_l k
 unfold yu.f
 repeat' first
  | exact Fz _ _ _ _ _ _ _
  | exact ih1 _ _ _ _ _ _ _ _
  | exact ih2 _ _ _ _ _
  | exact ih3 _ _ _ _
  | exact Rv _ _ _ _ _
  | exact ih5 _ _ _ _ _ _
  | exact z8.mono _ _
  | exact yT.mono _ _ _ _
  | exact zh.mono _ _ _
  | exact Bh.refl _
  | exact Bh.none _
  | refine Bh.ite ?_ ?_
  | refine Bh.bind ?_ (fun _ => ?_)
def yu.T12 : Bool × List (List Nat × List Nat) := (true,[([],[]),([],[]),([],[]),([1,2],[1,2]),([],[]),([],[]),([],[]),([5,6],[5,6]),([4,7],[4,7]),([8],[8]),([],[]),([],[]),([10,11],[10,11]),([12],[12]),([],[]),([],[]),([14,15],[14,15]),([16],[16]),([13,17],[13,17]),([9,18],[9,18]),([],[]),([19,20],[19,20]),([0,3,0,1,2,3,4,5,6,7,8,9,10,11,12,13,14,15,16,17,18,19,20,21],[0,3]),([22,21,0,1,2,3,4,5,6,7,8,9,10,11,12,13,14,15,16,17,18,19,20,21],[21,22])])
def yu.B12 : List Nat := [0,0,0,6,0,0,0,96,240,496,0,0,3072,7168,0,0,49152,114688,261120,524272,0,2097136,4194303,8388607]
theorem yu.Y9 : Dv .any (opsOf Tryz.f46 12) = yu.T12 := by kernel_rfl
theorem yu.RU : BH yu.T12.2 yu.B12 = true := by kernel_rfl
def yu.T24 : Bool × List (List Nat × List Nat) := (true,[([],[]),([],[]),([],[]),([1,2],[1,2]),([],[]),([3,4],[3,4]),([],[]),([],[]),([],[]),([7,8],[7,8]),([],[]),([9,10],[9,10]),([6,11],[6,11]),([12],[12]),([],[]),([],[]),([14,15],[14,15]),([16],[16]),([],[]),([],[]),([],[]),([19,20],[19,20]),([21],[21]),([18,22],[18,22]),([17,23],[17,23]),([13,24],[13,24]),([],[]),([25,26],[25,26]),([0,5,0,1,2,3,4,5,6,7,8,9,10,11,12,13,14,15,16,17,18,19,20,21,22,23,24,25,26,27],[0,5]),([28,27,0,1,2,3,4,5,6,7,8,9,10,11,12,13,14,15,16,17,18,19,20,21,22,23,24,25,26,27],[27,28])])
def yu.B24 : List Nat := [0,0,0,6,0,30,0,0,0,384,0,1920,4032,8128,0,0,49152,114688,0,0,0,1572864,3670016,8126464,16760832,33554368,0,134217664,268435455,536870911]
theorem yu.a5k : Dv .any (opsOf Tryz.f46 24) = yu.T24 := by kernel_rfl
theorem yu.a1J : BH yu.T24.2 yu.B24 = true := by kernel_rfl
set_option maxHeartbeats 8000000 in
set_option maxRecDepth 100000 in
theorem yu.calls (k : Nat) (a0 : Int) (a1 : Int) (a2 : Int) (r : Int) (w : World) (h : yu.f k a0 a1 a2 = some r) :
  Calls Tryz.prog 46 #[.int .i64 a0,.int .i64 a1,.int .i64 a2] w fun e w' => e = .returned (.int .i64 r) ∧ Below w.heap.size w w' := by
 have HB := yf.mk (Below.refl w.heap.size w)
 have H : ((z8.f k a0).bind fun Et => (if Et.2 = 1 then (if Et.1 = 0 then (none) else (some (Int.tmod (wrap64 (a1 * a2)) Et.1))) else ((yT.f k a1 Et.1 Et.2).bind fun GQ => ((yT.f k a2 Et.1 Et.2).bind fun GR => (if 0 ≤ (wrap64 ((wrap64 (2 * Et.2)) - 1)) then (if (wrap64 ((wrap64 (2 * Et.2)) - 1) : Int).toNat ≤ 35184372088832 then (yu.l0 k a0 Et.1 Et.2 GQ GR (List.replicate (wrap64 ((wrap64 (2 * Et.2)) - 1) : Int).toNat 0) 0) else (none)) else (none)))))) = some r := h
 clear h;obtain ⟨⟨aa,ae⟩,A4,H⟩ := bE H
 try dsimp only at H
 by_cases c5 : ae = 1
 ·
  rw [if_pos c5] at H;have ES := beq_iff_eq.mpr c5
  have Mj : (ae != 1) = false := bne_eq_false_iff_eq.mpr c5
  clear c5
  by_cases c6 : aa = 0
  ·
   rw [if_pos c6] at H;exact absurd H (by simp)
  rw [if_neg c6] at H;have Eu := beq_eq_false_iff_ne.mpr c6;have Ml := bne_iff_ne.mpr c6;obtain rfl := Option.some.inj H
  go_enter Tryz.func46,Tryz.ntmps46
  go_wp2_with (((with_reducible refine yz (f := 68) rfl ?_);refine gL (some 19) Tryz.func68 #[.int .i64 a0] ?_;(with_reducible refine (z8.calls k a0 aa ae _ A4.out).mono ?_);rintro e w' ⟨rfl,⟨nd,rfl⟩⟩;refine ⟨_,rfl,?_⟩))
  go_ret
  exact ⟨by rfl,bO HB⟩
 rw [if_neg c5] at H;have ES := beq_eq_false_iff_ne.mpr c5;have Mj := bne_iff_ne.mpr c5;obtain ⟨GQ,A7,H⟩ := bE H
 try dsimp only at H
 obtain ⟨GR,A8,H⟩ := bE H
 try dsimp only at H
 obtain ⟨K8,SI⟩ : ∃ j_ : Int,(wrap64 ((wrap64 (2 * ae)) - 1)) = j_ := ⟨_,rfl⟩
 replace H : (if 0 ≤ (K8) then (if (K8 : Int).toNat ≤ 35184372088832 then (yu.l0 k a0 aa ae GQ GR (List.replicate (K8 : Int).toNat 0) 0) else (none)) else (none)) = some r := by (rw [SI] at H;exact H)
 (try rw [SI] at A4)
 (try rw [SI] at A7)
 (try rw [SI] at A8)
 have hji9w : (IntKind.i64.wrap ((wrap64 (2 * ae)) - 1)) = K8 := (i64_w _).trans SI
 by_cases c10 : 0 ≤ (K8)
 rotate_left
 ·
  rw [if_neg c10] at H;exact absurd H (by simp)
 rw [if_pos c10] at H;have Fu := eq_true c10;have N9 := decide_eq_true c10;clear c10
 by_cases c11 : (K8 : Int).toNat ≤ 35184372088832
 rotate_left
 ·
  rw [if_neg c11] at H;exact absurd H (by simp)
 rw [if_pos c11] at H;have Fv := eq_true c11;have Oq := decide_eq_true c11;clear c11;obtain ⟨dH,hy128⟩ : ∃ y_ : List Int,y_ = (List.replicate (K8 : Int).toNat 0) := ⟨_,rfl⟩
 replace H : (yu.l0 k a0 aa ae GQ GR dH 0) = some r := by (rw [hy128];with_reducible exact H)
 have dX := yf.mk hy128;clear hy128;have H' := yf.mk H;clear H
 go_enter Tryz.func46,Tryz.ntmps46
 go_wp2_with (first | ((with_reducible refine yz (f := 68) rfl ?_);refine gL (some 19) Tryz.func68 #[.int .i64 a0] ?_;(with_reducible refine (z8.calls k a0 aa ae _ A4.out).mono ?_);rintro e w' ⟨rfl,⟨nd,rfl⟩⟩;refine ⟨_,rfl,?_⟩) | ((with_reducible refine yz (f := 69) rfl ?_);refine gL (some 32) Tryz.func69 #[.int .i64 a1,.int .i64 aa,.int .i64 ae] ?_;(with_reducible refine (yT.calls k a1 aa ae GQ _ A7.out).mono ?_);rintro e w12 ⟨v123,rfl,ho0,hb⟩;refine ⟨_,rfl,?_⟩;have av := yf.mk (Kd.AC ho0 (yF (bO HB)));replace HB := bS HB hb;clear hb;clear ho0) | ((with_reducible refine yz (f := 69) rfl ?_);refine gL (some 36) Tryz.func69 #[.int .i64 a2,.int .i64 aa,.int .i64 ae] ?_;(with_reducible refine (yT.calls k a2 aa ae GR _ A8.out).mono ?_);rintro e w13 ⟨v126,rfl,ho0,hb⟩;refine ⟨_,rfl,?_⟩;have aJ := yf.mk (Kd.AC (Kd.CV ho0 (Kd.EL (kR av))) (yF (bO HB)));replace av := yf.mk (Kd.Bu (kR av) (Kd.Ba ho0) hb);replace HB := bS HB hb;clear hb;clear ho0) | ((with_reducible refine yG (N := 40) rfl ?_);refine Kd.MW (Kd.int .i64) _ 3 rfl (N := 40) rfl 37 _ _ rfl K8 rfl rfl Tryz.underlying37 (.int .i64 0) 8 info3 rfl (by decide) (by omega) 0 (ok := fun _ => True) (okp := fun _ => True) rfl (fun _ hk => hk) trivial (of_decide_eq_true ‹_›) (Nat.le_trans (Nat.mul_le_mul_right _ (of_decide_eq_true ‹_› : K8.toNat ≤ 35184372088832)) (by omega)) (Below.refl _ _) (Nat.le_refl _) ?_;intro v129 w14 aC hb JY DL;clear JY DL;(rw [← dX.out] at aC);have dS := yf.mk (Kd.AC (Kd.CV (Kd.CV aC (Kd.EL (kR av))) (Kd.EL (kR aJ))) (yF (bO HB)));replace av := yf.mk (Kd.Bu (kR av) (Kd.Ba aC) hb);replace aJ := yf.mk (Kd.Bu (kR aJ) (Kd.Ba aC) hb);replace HB := bS HB hb;clear hb aC))
 go_loopg [12] k (fun kq v12 w' => ∃ (Ae : List Int) (AV : Int),v12 = .int .i64 AV ∧ yf (yu.l0 kq a0 aa ae GQ GR Ae AV = some r) ∧ yf (kq ≤ k) ∧ yf (Kd.R (Kd.int .i64) 3 w' w.heap.size (fun k_ => some k_ ≠ (v126 : Value).ownBlock ∧ some k_ ≠ (v129 : Value).ownBlock) v123 GQ) ∧ yf (Kd.R (Kd.int .i64) 3 w' w.heap.size (fun k_ => some k_ ≠ (v123 : Value).ownBlock ∧ some k_ ≠ (v129 : Value).ownBlock) v126 GR) ∧ yf (Kd.R (Kd.int .i64) 3 w' w.heap.size (fun k_ => some k_ ≠ (v123 : Value).ownBlock ∧ some k_ ≠ (v126 : Value).ownBlock) v129 Ae) ∧ yf (Below w.heap.size w w'))
 case atStart => exact ⟨(dH),(0),(by rfl),H',⟨Nat.le_refl _⟩,⟨by (with_reducible repeat (apply Kd.zg));exact Kd.zf av.out (fun _ hk => ⟨hk.1.2,hk.2⟩)⟩,⟨by (with_reducible repeat (apply Kd.zg));exact Kd.zf aJ.out (fun _ hk => ⟨hk.1.2,hk.2⟩)⟩,⟨by (with_reducible repeat (apply Kd.zg));exact Kd.zf dS.out (fun _ hk => ⟨hk.1.2,hk.2⟩)⟩,⟨bO HB⟩⟩
 case round =>
 clear H' c5 ES Mj Fu N9 Fv Oq;obtain ⟨Ae,AV,rfl,HA,Bn,Dj,ze,Bc,HB⟩ := hrel
 cases gk with
 | zero => exact absurd HA.out (by simp [yu.l0])
 | succ k1 =>
 have H := HA.out;clear HA;simp only [yu.l0] at H
 by_cases c16 : AV < ae
 ·
  rw [if_pos c16] at H;have FC := decide_eq_true c16;clear c16;have H' := yf.mk H;clear H
  go_wp2
  go_loopg [13] k1 (fun kq v13 w' => ∃ (au : List Int) (Cy : Int),v13 = .int .i64 Cy ∧ yf (yu.l1 kq a0 aa ae GQ GR au AV Cy = some r) ∧ yf (kq ≤ k1) ∧ yf (Kd.R (Kd.int .i64) 3 w' w.heap.size (fun k_ => some k_ ≠ (v126 : Value).ownBlock ∧ some k_ ≠ (v129 : Value).ownBlock) v123 GQ) ∧ yf (Kd.R (Kd.int .i64) 3 w' w.heap.size (fun k_ => some k_ ≠ (v123 : Value).ownBlock ∧ some k_ ≠ (v129 : Value).ownBlock) v126 GR) ∧ yf (Kd.R (Kd.int .i64) 3 w' w.heap.size (fun k_ => some k_ ≠ (v123 : Value).ownBlock ∧ some k_ ≠ (v126 : Value).ownBlock) v129 au) ∧ yf (Below w.heap.size w w'))
  case atStart => exact ⟨(Ae),(0),(by rfl),H',⟨Nat.le_refl _⟩,⟨kR Dj⟩,⟨kR ze⟩,⟨kR Bc⟩,⟨bO HB⟩⟩
  case round =>
  clear H' FC;obtain ⟨au,Cy,rfl,HA,Di,Dj,ze,Bc,HB⟩ := hrel
  cases gk with
  | zero => exact absurd HA.out (by simp [yu.l1])
  | succ k2 =>
   have H := HA.out;clear HA;simp only [yu.l1] at H
   by_cases c17 : Cy < ae
   ·
    rw [if_pos c17] at H;have Nc := decide_eq_true c17;clear c17;obtain ⟨ah,dz⟩ : ∃ j_ : Int,(wrap64 (AV + Cy)) = j_ := ⟨_,rfl⟩
    replace H : (if 0 ≤ (ah) then (if (ah) < (au.length : Int) then (if 0 ≤ AV then (if AV < (GQ.length : Int) then (if 0 ≤ Cy then (if Cy < (GR.length : Int) then (if aa = 0 then (none) else (yu.l1 k2 a0 aa ae GQ GR (au.set ((ah) : Int).toNat (Int.tmod (wrap64 ((rd au (ah)) + (wrap64 ((rd GQ AV) * (rd GR Cy))))) aa)) AV (wrap64 (Cy + 1)))) else (none)) else (none)) else (none)) else (none)) else (none)) else (none)) = some r := by (rw [dz] at H;exact H)
    have hji18w : (IntKind.i64.wrap (AV + Cy)) = ah := (i64_w _).trans dz
    by_cases c19 : 0 ≤ (ah)
    ·
     rw [if_pos c19] at H;have Qi := decide_eq_true c19;clear c19
     by_cases c20 : (ah) < (au.length : Int)
     ·
      rw [if_pos c20] at H;have Ki := decide_eq_true c20;clear c20
      by_cases c21 : 0 ≤ AV
      ·
       rw [if_pos c21] at H;have Qj := decide_eq_true c21;clear c21
       by_cases I4 : AV < (GQ.length : Int)
       ·
        rw [if_pos I4] at H;have JE := decide_eq_true I4;clear I4
        by_cases c23 : 0 ≤ Cy
        ·
         rw [if_pos c23] at H;have Qk := decide_eq_true c23;clear c23
         by_cases c24 : Cy < (GR.length : Int)
         ·
          rw [if_pos c24] at H;have Kj := decide_eq_true c24;clear c24
          by_cases LF : aa = 0
          ·
           rw [if_pos LF] at H;exact absurd H (by simp)
          ·
           rw [if_neg LF] at H;have Ou := beq_eq_false_iff_ne.mpr LF;have ZQ := bne_iff_ne.mpr LF;obtain ⟨dI,bq⟩ : ∃ y_ : List Int,y_ = (au.set ((ah) : Int).toNat (Int.tmod (wrap64 ((rd au (ah)) + (wrap64 ((rd GQ AV) * (rd GR Cy))))) aa)) := ⟨_,rfl⟩
           replace H : (yu.l1 k2 a0 aa ae GQ GR dI AV (wrap64 (Cy + 1))) = some r := by (rw [bq];with_reducible exact H)
           have dY := yf.mk bq;clear bq;have H' := yf.mk H;clear H
           try go_wp2
           replace Dj := yf.mk (Kd.DI Dj.out);replace ze := yf.mk (Kd.DI ze.out);replace Bc := yf.mk (Kd.DI Bc.out);replace HB := yf.mk (zt HB.out);obtain ⟨fG,gB,eZ⟩ := Kd.zB Bc.out
           (subst eZ)
           have bI : 0 ≤ ((ah) : Int) := of_decide_eq_true ‹_›
           have bQ : (ah) < (au.length : Int) := of_decide_eq_true ‹_›
           obtain ⟨fQ,eP,bg⟩ := Kd.BG (Kd.zb Bc.out).2.2 (ah) bI bQ;cases eP;replace bI := eq_true bI;replace bQ := eq_true bQ;obtain ⟨fH,gD,fe⟩ := Kd.zB Dj.out
           (subst fe)
           have bJ : 0 ≤ (AV : Int) := of_decide_eq_true ‹_›
           have bR : AV < (GQ.length : Int) := of_decide_eq_true ‹_›
           obtain ⟨eD,eQ,dC⟩ := Kd.BG (Kd.zb Dj.out).2.2 AV bJ bR;cases eQ;replace bJ := eq_true bJ;replace bR := eq_true bR;obtain ⟨fI,gF,fo⟩ := Kd.zB ze.out
           (subst fo)
           have bL : 0 ≤ (Cy : Int) := of_decide_eq_true ‹_›
           have bT : Cy < (GR.length : Int) := of_decide_eq_true ‹_›
           obtain ⟨eF,eT,dD⟩ := Kd.BG (Kd.zb ze.out).2.2 Cy bL bT;cases eT;replace bL := eq_true bL;replace bT := eq_true bT
           have p26 : 0 ≤ ((ah) : Int) := of_decide_eq_true ‹_›
           have bX : ((ah) : Int) < ((au.length : Int) : Int) := of_decide_eq_true ‹_›
           obtain ⟨az,UD,Wx,di,fq,gu,cK⟩ := Kd.Hm Bc.out (by omega)
           (cases Wx)
           have fJ := yf.mk di;have dP := yf.mk cK;clear di fq cK
           (simp only [add_plain] at bg)
           obtain ⟨fE,fB⟩ := Kd.Fh 0 Bc.out ((ah) : Int) p26 bX;replace p26 := eq_true p26;replace bX := eq_true bX;have aW := Kd.Pg Bc.out ((ah) : Int) (Int.tmod (wrap64 ((rd au (ah)) + (wrap64 ((rd GQ AV) * (rd GR Cy))))) aa);rw [← dY.out] at aW;have d9 := yf.mk aW;clear aW
           refine Bt (n := 24) (S := fun w' => w'.cell? ⟨az,((ah)).toNat,none⟩ = some (.int .i64 (rd au (ah))) ∧ w'.cell? (eD.add (AV).toNat) = some (.int .i64 (rd GQ AV)) ∧ w'.cell? (eF.add (Cy).toNat) = some (.int .i64 (rd GR Cy))) (ds := [23]) (bz 24 0) (by kernel_rfl) rfl rfl ⟨bg,dC,dD⟩ (fun hHeld => ?_);refine Ab yu.Y9 yu.RU (fun yJ Bv => ?_)
           generalize wr.drew = w27 at Dj ze Bc HB dP d9 fB bg dC dD fE hHeld ⊢;refine pU 0 51 24 1 yJ ?_;refine pU 1 52 24 3 yJ ?_;refine pU 2 53 24 7 yJ ?_;refine pU 3 54 24 15 yJ ?_;refine pU 4 55 24 31 yJ ?_;refine pU 5 56 24 63 yJ ?_;refine pU 6 57 24 127 yJ ?_;refine pU 7 58 24 255 yJ ?_;refine pU 8 59 24 511 yJ ?_;refine pU 10 61 24 1535 yJ ?_;refine pU 11 62 24 3583 yJ ?_;refine pU 12 63 24 7679 yJ ?_;refine pU 14 65 24 24063 yJ ?_;refine pU 15 66 24 56831 yJ ?_;refine pU 16 67 24 122367 yJ ?_;refine pU 20 71 24 1170943 yJ ?_
           refine Co 9 60 24 1171455 yJ Bv hHeld ?_
           refine Co 13 64 24 1179647 yJ Bv hHeld ?_
           refine Co 17 68 24 1310719 yJ Bv hHeld ?_
           refine pU 18 69 24 1572863 yJ ?_;refine pU 19 70 24 2097151 yJ ?_;refine pU 21 72 24 4194303 yJ ?_;refine pU 22 73 24 8388607 yJ ?_
           refine OO (i := 23) (N := none) (bz 24 16777215) rfl rfl (Ar yJ.out (by kernel_rfl)) (by decide) (fun K hK => ?_)
           refine Ia (w1 := ?_) (by rfl) rfl ?_ ?_
           rotate_left
           ·
            go_simp
            rfl
           refine hK.out _ _ ?_
           clear hK K
           refine Cn (AZ yJ.out (by kernel_rfl)) ?_
           try go_wp2
           go_roundg k2
           case measure => have := Bn.out;have := Di.out;omega
           case rel => exact ⟨(dI),(wrap64 (Cy + 1)),(by rfl),H',⟨by have := Bn.out;have := Di.out;omega⟩,⟨by (with_reducible repeat (apply Kd.zg));exact Kd.zf (Kd.Ka (p := ⟨az,((ah) : Int).toNat,none⟩) (Kd.zf Dj.out (fun k_ hk => (⟨hk,fun e_ => hk.2 (by rw [e_];rfl)⟩ : _ ∧ k_ ≠ az))) (fun _ hk => hk.2) (.int .i64 (Int.tmod (wrap64 ((rd au (ah)) + (wrap64 ((rd GQ AV) * (rd GR Cy))))) aa))) (fun _ hk => ⟨hk.1.1,hk.1.2⟩)⟩,⟨by (with_reducible repeat (apply Kd.zg));exact Kd.zf (Kd.Ka (p := ⟨az,((ah) : Int).toNat,none⟩) (Kd.zf ze.out (fun k_ hk => (⟨hk,fun e_ => hk.2 (by rw [e_];rfl)⟩ : _ ∧ k_ ≠ az))) (fun _ hk => hk.2) (.int .i64 (Int.tmod (wrap64 ((rd au (ah)) + (wrap64 ((rd GQ AV) * (rd GR Cy))))) aa))) (fun _ hk => ⟨hk.1.1,hk.1.2⟩)⟩,⟨kR d9⟩,⟨bO HB⟩⟩
         ·
          rw [if_neg c24] at H;exact absurd H (by simp)
        ·
         rw [if_neg c23] at H;exact absurd H (by simp)
       ·
        rw [if_neg I4] at H;exact absurd H (by simp)
      ·
       rw [if_neg c21] at H;exact absurd H (by simp)
     ·
      rw [if_neg c20] at H;exact absurd H (by simp)
    ·
     rw [if_neg c19] at H;exact absurd H (by simp)
   ·
    rw [if_neg c17] at H;have Nc := decide_eq_false c17;clear c17;have H' := yf.mk H;clear H
    go_wp2
    go_roundg k2
    case measure => have := Bn.out;have := Di.out;omega
    case rel => exact ⟨(au),(wrap64 (AV + 1)),(by rfl),H',⟨by have := Bn.out;have := Di.out;omega⟩,⟨kR Dj⟩,⟨kR ze⟩,⟨kR Bc⟩,⟨bO HB⟩⟩
 rw [if_neg c16] at H;have FC := decide_eq_false c16;clear c16;obtain ⟨dJ,bu⟩ : ∃ y_ : List Int,y_ = (([1,1] : List Int)) := ⟨_,rfl⟩
 replace H : (if a0 = 8 then (yu.j2 k1 a0 aa ae Ae (([1,1,0] : List Int))) else (yu.j2 k1 a0 aa ae Ae dJ)) = some r := by (rw [bu];with_reducible exact H)
 have dZ := yf.mk bu;clear bu;have aU := yf.mk H;clear H
 go_upto_if 76 with (((with_reducible refine yG (N := 74) rfl ?_);refine Kd.JC (Kd.int .i64) _ 3 ?hg (N := 74) ?hd (xs := ([1,1] : List Int)) (inner := [.int .i64 1,.int .i64 1]) (ok := fun _ => True) (okp := fun _ => True) ?hr ?hp (fun _ hk => hk) trivial (Below.refl _ _) (Nat.le_refl _) (by simp) ?_;(case hd => rfl);(case hg => rfl);(case hr => go_simp);(case hp => exact (BQ.one (show Kd.M (Kd.int .i64) _ _ _ 1 [.int .i64 1] from rfl) (BQ.one (show Kd.M (Kd.int .i64) _ _ _ 1 [.int .i64 1] from rfl) (BQ.none _ _))));intro v136 w33 ay hb JY DL;clear JY DL;(rw [← dZ.out] at ay);have aK := yf.mk (Kd.AC (Kd.CV (Kd.CV (Kd.CV ay (Kd.EL (kR Dj))) (Kd.EL (kR ze))) (Kd.EL (kR Bc))) (yF (bO HB)));replace Dj := yf.mk (Kd.Bu (kR Dj) (Kd.Ba ay) hb);replace ze := yf.mk (Kd.Bu (kR ze) (Kd.Ba ay) hb);replace Bc := yf.mk (Kd.Bu (kR Bc) (Kd.Ba ay) hb);replace HB := bS HB hb;clear hb ay))
 (try simp only [pz])
 go_cut [14] (fun v14 wc => ∃ (kq : Nat) (aT : List Int),yf (yu.j2 kq a0 aa ae Ae aT = some r) ∧ yf (kq ≤ k1) ∧ yf (Kd.R (Kd.int .i64) 3 wc w.heap.size (fun k_ => some k_ ≠ (v14 : Value).ownBlock) v129 Ae) ∧ yf (Kd.R (Kd.int .i64) 3 wc w.heap.size (fun k_ => some k_ ≠ (v129 : Value).ownBlock) v14 aT) ∧ yf (Below w.heap.size w wc))
 case first =>
  have H := aU.out;clear aU
  by_cases Mg : a0 = 8
  rotate_left
  ·
   rw [if_neg Mg] at H;have Qm := beq_eq_false_iff_ne.mpr Mg;have VT := bne_iff_ne.mpr Mg
   (rw [Qm])
   have H' := yf.mk H;clear H
   go_wp2
   go_meet
   case rel => exact ⟨_,(dJ),H',⟨by have := Bn.out;omega⟩,⟨by (with_reducible repeat (apply Kd.zg));exact Kd.zf Bc.out (fun _ hk => hk.2)⟩,⟨by (with_reducible repeat (apply Kd.zg));exact Kd.zf aK.out (fun _ hk => hk.2)⟩,⟨bO HB⟩⟩
  rw [if_pos Mg] at H;have Qm := beq_iff_eq.mpr Mg
  have VT : (a0 != 8) = false := bne_eq_false_iff_eq.mpr Mg
  clear Mg
  (rw [Qm])
  obtain ⟨dK,bv⟩ : ∃ y_ : List Int,y_ = (([1,1,0] : List Int)) := ⟨_,rfl⟩
  replace H : (yu.j2 k1 a0 aa ae Ae dK) = some r := by (rw [bv];with_reducible exact H)
  have ed := yf.mk bv;clear bv;have H' := yf.mk H;clear H
  go_wp2_with (((with_reducible refine yG (N := 77) rfl ?_);refine Kd.JC (Kd.int .i64) _ 3 ?hg (N := 77) ?hd (xs := ([1,1,0] : List Int)) (inner := [.int .i64 1,.int .i64 1,.int .i64 0]) (ok := fun _ => True) (okp := fun _ => True) ?hr ?hp (fun _ hk => hk) trivial (Below.refl _ _) (Nat.le_refl _) (by simp) ?_;(case hd => rfl);(case hg => rfl);(case hr => go_simp);(case hp => exact (BQ.one (show Kd.M (Kd.int .i64) _ _ _ 1 [.int .i64 1] from rfl) (BQ.one (show Kd.M (Kd.int .i64) _ _ _ 1 [.int .i64 1] from rfl) (BQ.one (show Kd.M (Kd.int .i64) _ _ _ 0 [.int .i64 0] from rfl) (BQ.none _ _)))));intro v139 w36 NI hb JY DL;clear JY DL;(rw [← ed.out] at NI);have dU := yf.mk (Kd.AC (Kd.CV (Kd.CV (Kd.CV (Kd.CV NI (Kd.EL (kR Dj))) (Kd.EL (kR ze))) (Kd.EL (kR Bc))) (Kd.EL (kR aK))) (yF (bO HB)));replace Dj := yf.mk (Kd.Bu (kR Dj) (Kd.Ba NI) hb);replace ze := yf.mk (Kd.Bu (kR ze) (Kd.Ba NI) hb);replace Bc := yf.mk (Kd.Bu (kR Bc) (Kd.Ba NI) hb);replace aK := yf.mk (Kd.Bu (kR aK) (Kd.Ba NI) hb);replace HB := bS HB hb;clear hb NI))
  go_meet
  case rel => exact ⟨_,(dK),H',⟨by have := Bn.out;omega⟩,⟨by (with_reducible repeat (apply Kd.zg));exact Kd.zf Bc.out (fun _ hk => hk.2)⟩,⟨by (with_reducible repeat (apply Kd.zg));exact Kd.zf dU.out (fun _ hk => hk.1.2)⟩,⟨bO HB⟩⟩
 case rest =>
 clear aU FC;obtain ⟨kq,aT,HA,ax,Bc,Eb,HB⟩ := hcut
 cases kq with
 | zero => exact absurd HA.out (by simp [yu.j2])
 | succ dF =>
  have H := HA.out;clear HA;simp only [yu.j2] at H;have aV := yf.mk H;clear H
  go_upto_if 79 with (fail)
  go_cut [14] (fun v14 wc => ∃ (kq : Nat) (ak : List Int),yf (yu.j3 kq aa ae Ae ak = some r) ∧ yf (kq ≤ dF) ∧ yf (Kd.R (Kd.int .i64) 3 wc w.heap.size (fun k_ => some k_ ≠ (v14 : Value).ownBlock) v129 Ae) ∧ yf (Kd.R (Kd.int .i64) 3 wc w.heap.size (fun k_ => some k_ ≠ (v129 : Value).ownBlock) v14 ak) ∧ yf (Below w.heap.size w wc))
  case first =>
   have H := aV.out;clear aV
   by_cases Il : a0 = 9
   ·
    rw [if_pos Il] at H;have LG := beq_iff_eq.mpr Il
    have VX : (a0 != 9) = false := bne_eq_false_iff_eq.mpr Il
    clear Il
    (rw [LG])
    obtain ⟨dL,bA⟩ : ∃ y_ : List Int,y_ = (([1,0] : List Int)) := ⟨_,rfl⟩
    replace H : (yu.j3 dF aa ae Ae dL) = some r := by (rw [bA];with_reducible exact H)
    have ek := yf.mk bA;clear bA;have H' := yf.mk H;clear H
    go_wp2_with (((with_reducible refine yG (N := 80) rfl ?_);refine Kd.JC (Kd.int .i64) _ 3 ?hg (N := 80) ?hd (xs := ([1,0] : List Int)) (inner := [.int .i64 1,.int .i64 0]) (ok := fun _ => True) (okp := fun _ => True) ?hr ?hp (fun _ hk => hk) trivial (Below.refl _ _) (Nat.le_refl _) (by simp) ?_;(case hd => rfl);(case hg => rfl);(case hr => go_simp);(case hp => exact (BQ.one (show Kd.M (Kd.int .i64) _ _ _ 1 [.int .i64 1] from rfl) (BQ.one (show Kd.M (Kd.int .i64) _ _ _ 0 [.int .i64 0] from rfl) (BQ.none _ _))));intro v142 w40 aD hb JY DL;clear JY DL;(rw [← ek.out] at aD);have dV := yf.mk (Kd.AC (Kd.CV (Kd.CV aD (Kd.EL (kR Bc))) (Kd.EL (kR Eb))) (yF (bO HB)));replace Bc := yf.mk (Kd.Bu (kR Bc) (Kd.Ba aD) hb);replace Eb := yf.mk (Kd.Bu (kR Eb) (Kd.Ba aD) hb);replace HB := bS HB hb;clear hb aD))
    go_meet
    case rel => exact ⟨_,(dL),H',⟨by have := Bn.out;have := ax.out;omega⟩,⟨by (with_reducible repeat (apply Kd.zg));exact Kd.zf Bc.out (fun _ hk => hk.2)⟩,⟨by (with_reducible repeat (apply Kd.zg));exact Kd.zf dV.out (fun _ hk => hk.1.2)⟩,⟨bO HB⟩⟩
   ·
    rw [if_neg Il] at H;have LG := beq_eq_false_iff_ne.mpr Il;have VX := bne_iff_ne.mpr Il
    (rw [LG])
    have H' := yf.mk H;clear H
    go_wp2
    go_meet
    case rel => exact ⟨_,(aT),H',⟨by have := Bn.out;have := ax.out;omega⟩,⟨kR Bc⟩,⟨kR Eb⟩,⟨bO HB⟩⟩
  case rest =>
   clear aV;obtain ⟨kq,ak,HA,aH,Bc,Eb,HB⟩ := hcut
   cases kq with
   | zero => exact absurd HA.out (by simp [yu.j3])
   | succ dG =>
    have H := HA.out;clear HA;simp only [yu.j3] at H;have H' := yf.mk H;clear H
    go_wp2
    go_loopg [15] dG (fun kq v15 w' => ∃ (EQ : List Int) (af : Int),v15 = .int .i64 af ∧ yf (yu.l2 kq aa ae EQ ak af = some r) ∧ yf (kq ≤ dG) ∧ yf (Kd.R (Kd.int .i64) 3 w' w.heap.size (fun k_ => some k_ ≠ (u14 : Value).ownBlock) v129 EQ) ∧ yf (Kd.R (Kd.int .i64) 3 w' w.heap.size (fun k_ => some k_ ≠ (v129 : Value).ownBlock) u14 ak) ∧ yf (Below w.heap.size w w'))
    case atStart => exact ⟨(Ae),(wrap64 ((wrap64 (2 * ae)) - 2)),(by rfl),H',⟨Nat.le_refl _⟩,⟨kR Bc⟩,⟨kR Eb⟩,⟨bO HB⟩⟩
    case round =>
     clear H';obtain ⟨EQ,af,rfl,HA,Lv,Bc,Eb,HB⟩ := hrel
     cases gk with
     | zero => exact absurd HA.out (by simp [yu.l2])
     | succ k4 =>
      have H := HA.out;clear HA;simp only [yu.l2] at H
      by_cases Iz : af ≥ ae
      ·
       rw [if_pos Iz] at H;have Kl := decide_eq_true Iz;clear Iz;have H' := yf.mk H;clear H
       go_wp2
       go_loopg [16] k4 (fun kq v16 w' => ∃ (ag : List Int) (ai : Int),v16 = .int .i64 ai ∧ yf (yu.l3 kq aa ae ag ak af ai = some r) ∧ yf (kq ≤ k4) ∧ yf (Kd.R (Kd.int .i64) 3 w' w.heap.size (fun k_ => some k_ ≠ (u14 : Value).ownBlock) v129 ag) ∧ yf (Kd.R (Kd.int .i64) 3 w' w.heap.size (fun k_ => some k_ ≠ (v129 : Value).ownBlock) u14 ak) ∧ yf (Below w.heap.size w w'))
       case atStart => exact ⟨(EQ),(0),(by rfl),H',⟨Nat.le_refl _⟩,⟨kR Bc⟩,⟨kR Eb⟩,⟨bO HB⟩⟩
       case round =>
        clear H' Kl;obtain ⟨ag,ai,rfl,HA,aI,Bc,Eb,HB⟩ := hrel
        cases gk with
        | zero => exact absurd HA.out (by simp [yu.l3])
        | succ k5 =>
         have H := HA.out;clear HA;simp only [yu.l3] at H
         by_cases Rq : ai < ae
         ·
          rw [if_pos Rq] at H;have VY := decide_eq_true Rq;clear Rq;obtain ⟨aj,dA⟩ : ∃ j_ : Int,(wrap64 ((wrap64 (af - ae)) + ai)) = j_ := ⟨_,rfl⟩
          replace H : (if 0 ≤ (aj) then (if (aj) < (ag.length : Int) then (if 0 ≤ af then (if af < (ag.length : Int) then (if 0 ≤ ai then (if ai < (ak.length : Int) then (if aa = 0 then (none) else (yu.l3 k5 aa ae (ag.set ((aj) : Int).toNat (Int.tmod (wrap64 ((rd ag (aj)) + (wrap64 ((rd ag af) * (wrap64 (aa - (rd ak ai))))))) aa)) ak af (wrap64 (ai + 1)))) else (none)) else (none)) else (none)) else (none)) else (none)) else (none)) = some r := by (rw [dA] at H;exact H)
          have hji44w : (IntKind.i64.wrap ((wrap64 (af - ae)) + ai)) = aj := (i64_w _).trans dA
          by_cases LJ : 0 ≤ (aj)
          ·
           rw [if_pos LJ] at H;have TD := decide_eq_true LJ;clear LJ
           by_cases c46 : (aj) < (ag.length : Int)
           ·
            rw [if_pos c46] at H;have ZT := decide_eq_true c46;clear c46
            by_cases IR : 0 ≤ af
            ·
             rw [if_pos IR] at H;have Km := decide_eq_true IR;clear IR
             by_cases aM : af < (ag.length : Int)
             ·
              rw [if_pos aM] at H;have fT := decide_eq_true aM;clear aM
              by_cases c49 : 0 ≤ ai
              ·
               rw [if_pos c49] at H;have fU := decide_eq_true c49;clear c49
               by_cases TE : ai < (ak.length : Int)
               ·
                rw [if_pos TE] at H;have fV := decide_eq_true TE;clear TE
                by_cases c51 : aa = 0
                ·
                 rw [if_pos c51] at H;exact absurd H (by simp)
                ·
                 rw [if_neg c51] at H;have TF := beq_eq_false_iff_ne.mpr c51;have fZ := bne_iff_ne.mpr c51;obtain ⟨dM,bC⟩ : ∃ y_ : List Int,y_ = (ag.set ((aj) : Int).toNat (Int.tmod (wrap64 ((rd ag (aj)) + (wrap64 ((rd ag af) * (wrap64 (aa - (rd ak ai))))))) aa)) := ⟨_,rfl⟩
                 replace H : (yu.l3 k5 aa ae dM ak af (wrap64 (ai + 1))) = some r := by (rw [bC];with_reducible exact H)
                 have eu := yf.mk bC;clear bC;have H' := yf.mk H;clear H
                 try go_wp2
                 replace Bc := yf.mk (Kd.DI Bc.out);replace Eb := yf.mk (Kd.DI Eb.out);replace HB := yf.mk (zt HB.out);obtain ⟨a1g,a1L,SB⟩ := Kd.zB Bc.out
                 (subst SB)
                 have bM : 0 ≤ ((aj) : Int) := of_decide_eq_true ‹_›
                 have bU : (aj) < (ag.length : Int) := of_decide_eq_true ‹_›
                 obtain ⟨eG,eU,bi⟩ := Kd.BG (Kd.zb Bc.out).2.2 (aj) bM bU;cases eU;replace bM := eq_true bM;replace bU := eq_true bU
                 have bN : 0 ≤ (af : Int) := of_decide_eq_true ‹_›
                 have bV : af < (ag.length : Int) := of_decide_eq_true ‹_›
                 obtain ⟨eH,eX,bn⟩ := Kd.BG (Kd.zb Bc.out).2.2 af bN bV;obtain rfl : eG = eH := (by injection eX);replace bN := eq_true bN;replace bV := eq_true bV;obtain ⟨a5C,a5V,a1X⟩ := Kd.zB Eb.out
                 (subst a1X)
                 have bP : 0 ≤ (ai : Int) := of_decide_eq_true ‹_›
                 have bW : ai < (ak.length : Int) := of_decide_eq_true ‹_›
                 obtain ⟨eO,eY,dE⟩ := Kd.BG (Kd.zb Eb.out).2.2 ai bP bW;cases eY;replace bP := eq_true bP;replace bW := eq_true bW
                 have p52 : 0 ≤ ((aj) : Int) := of_decide_eq_true ‹_›
                 have bY : ((aj) : Int) < ((ag.length : Int) : Int) := of_decide_eq_true ‹_›
                 obtain ⟨aQ,a5U,a1W,dm,fu,gy,cO⟩ := Kd.Hm Bc.out (by omega)
                 (cases a1W)
                 have fK := yf.mk dm;have dQ := yf.mk cO;clear dm fu cO
                 (simp only [add_plain] at bi)
                 (simp only [add_plain] at bn)
                 obtain ⟨fF,fC⟩ := Kd.Fh 0 Bc.out ((aj) : Int) p52 bY;replace p52 := eq_true p52;replace bY := eq_true bY;have aX := Kd.Pg Bc.out ((aj) : Int) (Int.tmod (wrap64 ((rd ag (aj)) + (wrap64 ((rd ag af) * (wrap64 (aa - (rd ak ai))))))) aa);rw [← eu.out] at aX;have df := yf.mk aX;clear aX
                 refine Bt (n := 30) (S := fun w' => w'.cell? ⟨aQ,((aj)).toNat,none⟩ = some (.int .i64 (rd ag (aj))) ∧ w'.cell? ⟨aQ,(af).toNat,none⟩ = some (.int .i64 (rd ag af)) ∧ w'.cell? (eO.add (ai).toNat) = some (.int .i64 (rd ak ai))) (ds := [29]) (bz 30 0) (by kernel_rfl) rfl rfl ⟨bi,bn,dE⟩ (fun hHeld => ?_);refine Ab yu.a5k yu.a1J (fun yJ Bv => ?_)
                 generalize wr.drew = w53 at Bc Eb HB dQ df fC bi bn dE fF hHeld ⊢;refine pU 0 94 30 1 yJ ?_;refine pU 1 95 30 3 yJ ?_;refine pU 2 96 30 7 yJ ?_;refine pU 3 97 30 15 yJ ?_;refine pU 4 98 30 31 yJ ?_;refine pU 5 99 30 63 yJ ?_;refine pU 6 100 30 127 yJ ?_;refine pU 7 101 30 255 yJ ?_;refine pU 8 102 30 511 yJ ?_;refine pU 9 103 30 1023 yJ ?_;refine pU 10 104 30 2047 yJ ?_;refine pU 11 105 30 4095 yJ ?_;refine pU 12 106 30 8191 yJ ?_;refine pU 14 108 30 24575 yJ ?_;refine pU 15 109 30 57343 yJ ?_;refine pU 16 110 30 122879 yJ ?_;refine pU 18 112 30 385023 yJ ?_;refine pU 19 113 30 909311 yJ ?_;refine pU 20 114 30 1957887 yJ ?_;refine pU 21 115 30 4055039 yJ ?_;refine pU 26 120 30 71163903 yJ ?_
                 refine Co 13 107 30 71172095 yJ Bv hHeld ?_
                 refine Co 17 111 30 71303167 yJ Bv hHeld ?_
                 refine Co 22 116 30 75497471 yJ Bv hHeld ?_
                 refine pU 23 117 30 83886079 yJ ?_;refine pU 24 118 30 100663295 yJ ?_;refine pU 25 119 30 134217727 yJ ?_;refine pU 27 121 30 268435455 yJ ?_;refine pU 28 122 30 536870911 yJ ?_
                 refine OO (i := 29) (N := none) (bz 30 1073741823) rfl rfl (Ar yJ.out (by kernel_rfl)) (by decide) (fun K hK => ?_)
                 refine Ia (w1 := ?_) (by rfl) rfl ?_ ?_
                 rotate_left
                 ·
                  go_simp
                  rfl
                 refine hK.out _ _ ?_
                 clear hK K
                 refine Cn (AZ yJ.out (by kernel_rfl)) ?_
                 try go_wp2
                 go_roundg k5
                 case measure => have := Bn.out;have := ax.out;have := aH.out;have := Lv.out;have := aI.out;omega
                 case rel => exact ⟨(dM),(wrap64 (ai + 1)),(by rfl),H',⟨by have := Bn.out;have := ax.out;have := aH.out;have := Lv.out;have := aI.out;omega⟩,⟨kR df⟩,⟨by (with_reducible repeat (apply Kd.zg));exact Kd.zf (Kd.Ka (p := ⟨aQ,((aj) : Int).toNat,none⟩) (Kd.zf Eb.out (fun k_ hk => (⟨hk,fun e_ => hk (by rw [e_];rfl)⟩ : _ ∧ k_ ≠ aQ))) (fun _ hk => hk.2) (.int .i64 (Int.tmod (wrap64 ((rd ag (aj)) + (wrap64 ((rd ag af) * (wrap64 (aa - (rd ak ai))))))) aa))) (fun _ hk => hk.1)⟩,⟨bO HB⟩⟩
               ·
                rw [if_neg TE] at H;exact absurd H (by simp)
              ·
               rw [if_neg c49] at H;exact absurd H (by simp)
             ·
              rw [if_neg aM] at H;exact absurd H (by simp)
            ·
             rw [if_neg IR] at H;exact absurd H (by simp)
           ·
            rw [if_neg c46] at H;exact absurd H (by simp)
          ·
           rw [if_neg LJ] at H;exact absurd H (by simp)
         ·
          rw [if_neg Rq] at H;have VY := decide_eq_false Rq;clear Rq
          by_cases aN : 0 ≤ af
          ·
           rw [if_pos aN] at H;have gp := decide_eq_true aN;clear aN
           by_cases Rt : af < (ag.length : Int)
           ·
            rw [if_pos Rt] at H;have W9 := decide_eq_true Rt;clear Rt;obtain ⟨cz,bD⟩ : ∃ y_ : List Int,y_ = (ag.set (af : Int).toNat 0) := ⟨_,rfl⟩
            replace H : (yu.l2 k5 aa ae cz ak (wrap64 (af - 1))) = some r := by (rw [bD];with_reducible exact H)
            have eB := yf.mk bD;clear bD;have H' := yf.mk H;clear H
            have p59 : 0 ≤ (af : Int) := of_decide_eq_true ‹_›
            have bZ : (af : Int) < ((ag.length : Int) : Int) := of_decide_eq_true ‹_›
            obtain ⟨aA,YV,a2a,dn,fw,gz,cZ⟩ := Kd.Hm Bc.out (by omega)
            (cases a2a)
            have dO := yf.mk dn;have fM := yf.mk cZ;clear dn fw cZ;obtain ⟨gH,gG⟩ := Kd.Fh 0 Bc.out (af : Int) p59 bZ;replace p59 := eq_true p59;replace bZ := eq_true bZ;have aY := Kd.KW Bc.out (af : Int) 0
            go_wp2_with (((with_reducible refine F8 (t := 3) (p := 125) rfl ?_);refine EI (t := 3) (p := 125) (v := ?vo_w61) (w1 := (wr.setCell ⟨aA,(af : Int).toNat,none⟩ (.int .i64 0))) ?hg ?ho ?hn ?hr ?_;(case ho => rfl);(case hg => rfl);(case hn => rfl);(case hr => go_simp);intro w61 hw;have hg : wr.grownBy w61 (some aA) := (by rw [hw];exact aY.2);have OL : Kd.R (Kd.int .i64) 3 w61 w.heap.size (fun k_ => some k_ ≠ (u14 : Value).ownBlock) (.slice (some ⟨aA,0,none⟩) ag.length YV) cz := (by rw [hw,eB.out];exact aY.1);clear aY;replace Bc := yf.mk (OL);replace Eb := yf.mk (Kd.Mx (v := (.slice (some ⟨aA,0,none⟩) ag.length YV)) (v1 := (.slice (some ⟨aA,0,none⟩) ag.length YV)) (ok := (fun _ => True)) (by (with_reducible repeat (apply Kd.zg));exact Kd.zf Eb.out (fun _ hk => ⟨trivial,hk⟩)) hg (.inl rfl));replace HB := yf.mk ((by rw [hw];exact Dw (HB.out) dO.out : Below w.heap.size w w61));clear hg hw OL))
            go_roundg k5
            case measure => have := Bn.out;have := ax.out;have := aH.out;have := Lv.out;have := aI.out;omega
            case rel => exact ⟨(cz),(wrap64 (af - 1)),(by rfl),H',⟨by have := Bn.out;have := ax.out;have := aH.out;have := Lv.out;have := aI.out;omega⟩,⟨kR Bc⟩,⟨by (with_reducible repeat (apply Kd.zg));exact Kd.zf Eb.out (fun _ hk => hk.2)⟩,⟨bO HB⟩⟩
           ·
            rw [if_neg Rt] at H;exact absurd H (by simp)
          ·
           rw [if_neg aN] at H;exact absurd H (by simp)
      ·
       rw [if_neg Iz] at H;have Kl := decide_eq_false Iz;clear Iz
       by_cases JF : 0 ≤ ae
       ·
        rw [if_pos JF] at H;have Oy := eq_true JF;have ZX := decide_eq_true JF;clear JF
        by_cases Mk : ae ≤ (EQ.length : Int)
        ·
         rw [if_pos Mk] at H;have ZY := eq_true Mk;have gq := decide_eq_true Mk;clear Mk;obtain ⟨aG,bF⟩ : ∃ y_ : List Int,y_ = (EQ.take (ae : Int).toNat) := ⟨_,rfl⟩
         replace H : ((zh.f k4 aG aa).bind fun XL => (some XL)) = some r := by (rw [bF];with_reducible exact H)
         have dh := yf.mk bF;clear bF;obtain ⟨XL,dN,H⟩ := bE H
         try dsimp only at H
         obtain rfl := Option.some.inj H;obtain ⟨Vw,UE,WC⟩ := Kd.zB Bc.out;subst WC
         have cu : (ae : Int) ≤ ((EQ.length : Int) : Int) := of_decide_eq_true ‹_›
         obtain ⟨gI,dx,_,fD,_⟩ := info_parts info3
         have dB : EQ.length ≤ UE := (Kd.zb Bc.out).2.1
         have dw : Kd.C (Kd.int .i64) _ Vw EQ.length EQ := (Kd.zb Bc.out).2.2
         have fA := a1N (P := Tryz.prog) 37 3 .i64 Tryz.underlying37 dx Vw EQ.length UE ae (of_decide_eq_true ‹_›) cu dB;have aZ := Kd.a1i (m := (ae : Int).toNat) dw (by omega)
         have bH : aG.length = (ae : Int).toNat := (by rw [dh.out,List.length_take];omega)
         rw [← dh.out] at aZ;rw [← bH] at fA;have dW := yf.mk aZ;have dR := yf.mk (show aG.length ≤ UE from by omega);clear aZ dw dB dx fD;have fP := yf.mk bH;clear bH
         have fO := yf.mk (show (ae : Int).toNat ≤ EQ.length from by omega)
         replace cu := eq_true cu
         go_wp2_with (((with_reducible refine yz (f := 70) rfl ?_);refine gL (some 130) Tryz.func70 #[.slice Vw aG.length UE,.int .i64 aa] ?_;(with_reducible refine (zh.calls k4 _ _ aG aa XL _ ?yB ?yC dN.out).mono ?_);(case yB => repeat (exact (by repeat ((with_reducible exact dW.out)))));(case yC => exact dR.out);rintro e w' ⟨rfl,⟨nd,rfl⟩⟩;refine ⟨_,rfl,?_⟩))
         go_ret
         exact ⟨by rfl,bO HB⟩
        ·
         rw [if_neg Mk] at H;exact absurd H (by simp)
       ·
        rw [if_neg JF] at H;exact absurd H (by simp)
end Go.Proofs.YtjonnfmoocijlaaGreat.P
