/- Texts of a claim, packed. -/
import Derived.Test.YtjonnfmoocijlaaD6
set_option linter.all false
namespace Go.Proofs.Ytjonnfmoocijlaa.P
open Go.RowKit Go.Proofs.YtjonnfmoocijlaaKW.PrintWords Go.Proofs.YtjonnfmoocijlaaKW.PrintLast Go.Proofs.YtjonnfmoocijlaaKW.PrintMore
attribute [local go_sem] zz zA zS zT zn zo zB zC
def za.l0 : Nat → Int → Int → List Int → List Int → Int → Option (Int)
 | 0, _, _, _, _, _ => none
 | k + 1, x7, x8, x9, Fj, EO => if EO < x8 then (if 0 ≤ EO then (if EO < (x9.length : Int) then (if EO < (Fj.length : Int) then (if x7 = 0 then (none) else (za.l0 k x7 x8 (x9.set (EO : Int).toNat (Int.tmod (wrap64 ((rd x9 EO) + (rd Fj EO))) x7)) Fj (wrap64 (EO + 1)))) else (none)) else (none)) else (none)) else ((z8.f k x9 x7).bind fun t119 => (some t119))
def za.f (k : Nat) (a0 : Int) (a1 : Int) (a2 : Int) : Option (Int) := (yV.f k a0).bind fun Gx => ((yR.f k a1 Gx.1 Gx.2).bind fun SQ => ((yR.f k a2 Gx.1 Gx.2).bind fun Jk => (za.l0 k Gx.1 Gx.2 SQ Jk 0)))
theorem za.mono_l : ∀ k, (∀ y0 y1 y2 y3 y4, zZ (za.l0 k y0 y1 y2 y3 y4) (za.l0 (k + 1) y0 y1 y2 y3 y4))
 | 0 => fun _ _ _ _ _ r h => by simp [za.l0] at h
 | k + 1 => by
  have DN := za.mono_l k
  ·
   intro y0 y1 y2 y3 y4
   unfold za.l0
   repeat' first
   | exact DN _ _ _ _ _
   | exact yV.mono _ _
   | exact yR.mono _ _ _ _
   | exact z8.mono _ _ _
   | exact zZ.refl _
   | exact zZ.none _
   | refine zZ.ite ?_ ?_
   | refine zZ.bind ?_ (fun _ => ?_)
theorem za.mono : ∀ a0 a1 a2 k, zZ (za.f k a0 a1 a2) (za.f (k + 1) a0 a1 a2) := by
 intro a0 a1 a2 k
 have DN := za.mono_l k
 unfold za.f
 repeat' first
  | exact DN _ _ _ _ _
  | exact yV.mono _ _
  | exact yR.mono _ _ _ _
  | exact z8.mono _ _ _
  | exact zZ.refl _
  | exact zZ.none _
  | refine zZ.ite ?_ ?_
  | refine zZ.bind ?_ (fun _ => ?_)
def za.T6 : Bool × List (List Nat × List Nat) := (true, [([], []), ([], []), ([], []), ([], []), ([2, 3], [2, 3]), ([4], [4]), ([], []), ([], []), ([6, 7], [6, 7]), ([8], [8]), ([5, 9], [5, 9]), ([], []), ([10, 11], [10, 11]), ([0, 1, 0, 1, 2, 3, 4, 5, 6, 7, 8, 9, 10, 11, 12], [0, 1]), ([13, 12, 0, 1, 2, 3, 4, 5, 6, 7, 8, 9, 10, 11, 12], [12, 13])])
def za.B6 : List Nat := [0, 0, 0, 0, 12, 28, 0, 0, 192, 448, 1020, 0, 4092, 8191, 16383]
theorem za.a2S : CX .any (opsOf Try.f58 6) = za.T6 := by kernel_rfl
theorem za.a0G : Bi za.T6.2 za.B6 = true := by kernel_rfl
set_option maxHeartbeats 8000000 in
set_option maxRecDepth 100000 in
theorem za.calls (k : Nat) (a0 : Int) (a1 : Int) (a2 : Int) (r : Int) (w : World) (h : za.f k a0 a1 a2 = some r) :
  Calls Try.prog 58 #[.int .i64 a0, .int .i64 a1, .int .i64 a2] w fun e w' => e = .returned (.int .i64 r) ∧ Below w.heap.size w w' := by
 have HB := yf.mk (Below.refl w.heap.size w)
 have H : ((yV.f k a0).bind fun Gx => ((yR.f k a1 Gx.1 Gx.2).bind fun SQ => ((yR.f k a2 Gx.1 Gx.2).bind fun Jk => (za.l0 k Gx.1 Gx.2 SQ Jk 0)))) = some r := h
 clear h;obtain ⟨⟨aa, t109⟩, A4, H⟩ := bE H
 try dsimp only at H
 obtain ⟨SQ, A5, H⟩ := bE H
 try dsimp only at H
 obtain ⟨Jk, A6, H⟩ := bE H
 try dsimp only at H
 have H' := yf.mk H;clear H
 go_enter Try.func58, Try.ntmps58
 go_wp2_with (first | ((with_reducible refine yB (f := 76) rfl ?_); refine gL (some 14) Try.func76 #[.int .i64 a0] ?_; (with_reducible refine (yV.calls k a0 aa t109 _ A4.out).mono ?_); rintro e w' ⟨rfl, ⟨nd, rfl⟩⟩; refine ⟨_, rfl, ?_⟩) | ((with_reducible refine yB (f := 77) rfl ?_); refine gL (some 20) Try.func77 #[.int .i64 a1, .int .i64 aa, .int .i64 t109] ?_; (with_reducible refine (yR.calls k a1 aa t109 SQ _ A5.out).mono ?_); rintro e w7 ⟨v111, rfl, ho0, hb⟩; refine ⟨_, rfl, ?_⟩; have ae := yf.mk (Kd.AL ho0 (yJ (bO HB))); replace HB := bS HB hb; clear hb; clear ho0) | ((with_reducible refine yB (f := 77) rfl ?_); refine gL (some 24) Try.func77 #[.int .i64 a2, .int .i64 aa, .int .i64 t109] ?_; (with_reducible refine (yR.calls k a2 aa t109 Jk _ A6.out).mono ?_); rintro e w8 ⟨v114, rfl, ho0, hb⟩; refine ⟨_, rfl, ?_⟩; have aA := yf.mk (Kd.AL (Kd.CE ho0 (Kd.Em (kR ae))) (yJ (bO HB))); replace ae := yf.mk (Kd.Bf (kR ae) (Kd.AO ho0) hb); replace HB := bS HB hb; clear hb; clear ho0))
 go_loopg [11] k (fun kq v11 w' => ∃ (Bj : List Int) (Ay : Int), v11 = .int .i64 Ay ∧ yf (za.l0 kq aa t109 Bj Jk Ay = some r) ∧ yf (kq ≤ k) ∧ yf (Kd.R (Kd.int .i64) 3 w' w.heap.size (fun k_ => some k_ ≠ (v114 : Value).ownBlock) v111 Bj) ∧ yf (Kd.R (Kd.int .i64) 3 w' w.heap.size (fun k_ => some k_ ≠ (v111 : Value).ownBlock) v114 Jk) ∧ yf (Below w.heap.size w w'))
 case atStart => exact ⟨(SQ), (0), (by rfl), H', ⟨Nat.le_refl _⟩, ⟨by (with_reducible repeat (apply Kd.zl)); exact Kd.zb ae.out (fun _ hk => hk.2)⟩, ⟨by (with_reducible repeat (apply Kd.zl)); exact Kd.zb aA.out (fun _ hk => hk.2)⟩, ⟨bO HB⟩⟩
 case round =>
 clear H';obtain ⟨Bj, Ay, rfl, HA, BZ, EW, zk, HB⟩ := hrel
 cases gk with
 | zero => exact absurd HA.out (by simp [za.l0])
 | succ k1 =>
 have H := HA.out;clear HA;simp only [za.l0] at H
 by_cases c9 : Ay < t109
 rotate_left
 ·
  rw [if_neg c9] at H;have Hr := decide_eq_false c9;clear c9;obtain ⟨t119, aC, H⟩ := bE H
  try dsimp only at H
  obtain rfl := Option.some.inj H;obtain ⟨NR, Lp, Ui⟩ := Kd.zX EW.out;subst Ui
  go_wp2_with (((with_reducible refine yB (f := 78) rfl ?_); refine gL (some 46) Try.func78 #[.slice NR Bj.length Lp, .int .i64 aa] ?_; (with_reducible refine (z8.calls k1 _ _ Bj aa t119 _ ?yF ?yM aC.out).mono ?_); (case yF => exact Kz EW); (case yM => exact (Kd.zt EW.out).2.1); rintro e w' ⟨rfl, ⟨nd, rfl⟩⟩; refine ⟨_, rfl, ?_⟩))
  go_ret
  exact ⟨by rfl, bO HB⟩
 rw [if_pos c9] at H;have Hr := decide_eq_true c9;clear c9
 by_cases c10 : 0 ≤ Ay
 rotate_left
 ·
  rw [if_neg c10] at H;exact absurd H (by simp)
 rw [if_pos c10] at H;have Fv := decide_eq_true c10;clear c10
 by_cases c11 : Ay < (Bj.length : Int)
 rotate_left
 ·
  rw [if_neg c11] at H;exact absurd H (by simp)
 rw [if_pos c11] at H;have Gv := decide_eq_true c11;clear c11
 by_cases c12 : Ay < (Jk.length : Int)
 rotate_left
 ·
  rw [if_neg c12] at H;exact absurd H (by simp)
 rw [if_pos c12] at H;have Jg := decide_eq_true c12;clear c12
 by_cases c13 : aa = 0
 ·
  rw [if_pos c13] at H;exact absurd H (by simp)
 rw [if_neg c13] at H;have Lh := beq_eq_false_iff_ne.mpr c13;have a0H := bne_iff_ne.mpr c13;obtain ⟨av, af⟩ : ∃ y_ : List Int, y_ = (Bj.set (Ay : Int).toNat (Int.tmod (wrap64 ((rd Bj Ay) + (rd Jk Ay))) aa)) := ⟨_, rfl⟩
 replace H : (za.l0 k1 aa t109 av Jk (wrap64 (Ay + 1))) = some r := by (rw [af]; with_reducible exact H)
 have aD := yf.mk af;clear af;have H' := yf.mk H;clear H
 try go_wp2
 replace EW := yf.mk (Kd.Cr EW.out);replace zk := yf.mk (Kd.Cr zk.out);replace HB := yf.mk (ze HB.out);obtain ⟨NS, NT, Zn⟩ := Kd.zX EW.out
 (subst Zn)
 have ak : 0 ≤ (Ay : Int) := of_decide_eq_true ‹_›
 have ai : Ay < (Bj.length : Int) := of_decide_eq_true ‹_›
 obtain ⟨aG, e116, aj⟩ := Kd.Bv (Kd.zt EW.out).2.2 Ay ak ai;cases e116;replace ak := eq_true ak;replace ai := eq_true ai;obtain ⟨NU, NV, Zo⟩ := Kd.zX zk.out
 (subst Zo)
 have ag : 0 ≤ (Ay : Int) := of_decide_eq_true ‹_›
 have au : Ay < (Jk.length : Int) := of_decide_eq_true ‹_›
 obtain ⟨az, e117, ax⟩ := Kd.Bv (Kd.zt zk.out).2.2 Ay ag au;cases e117;replace ag := eq_true ag;replace au := eq_true au
 have Zi : 0 ≤ (Ay : Int) := of_decide_eq_true ‹_›
 have Zj : (Ay : Int) < ((Bj.length : Int) : Int) := of_decide_eq_true ‹_›
 obtain ⟨Qc, SI, Li, U6, Zk, a2Q, U7⟩ := Kd.He EW.out (by omega)
 (cases Li)
 have a0B := yf.mk U6;have a0C := yf.mk U7;clear U6 Zk U7
 (simp only [add_plain] at aj)
 obtain ⟨U8, U9⟩ := Kd.FY 0 EW.out (Ay : Int) Zi Zj;replace Zi := eq_true Zi;replace Zj := eq_true Zj;have ah := Kd.NA EW.out (Ay : Int) (Int.tmod (wrap64 ((rd Bj Ay) + (rd Jk Ay))) aa);rw [← aD.out] at ah;have ay := yf.mk ah;clear ah
 refine AV (n := 15) (S := fun w' => w'.cell? ⟨Qc, (Ay).toNat, none⟩ = some (.int .i64 (rd Bj Ay)) ∧ w'.cell? (az.add (Ay).toNat) = some (.int .i64 (rd Jk Ay))) (ds := [14]) (bz 15 0) (by kernel_rfl) rfl rfl ⟨aj, ax⟩ (fun hHeld => ?_); refine zQ za.a2S za.a0G (fun yD AZ => ?_)
 generalize wr.drew = w15 at EW zk HB a0C ay U9 aj ax U8 hHeld ⊢;refine pU 0 30 15 1 yD ?_;refine pU 1 31 15 3 yD ?_;refine pU 2 32 15 7 yD ?_;refine pU 3 33 15 15 yD ?_;refine pU 4 34 15 31 yD ?_;refine pU 6 36 15 95 yD ?_;refine pU 7 37 15 223 yD ?_;refine pU 8 38 15 479 yD ?_;refine pU 11 41 15 2527 yD ?_
 refine BQ 5 35 15 2559 yD AZ hHeld ?_
 refine BQ 9 39 15 3071 yD AZ hHeld ?_
 refine pU 10 40 15 4095 yD ?_;refine pU 12 42 15 8191 yD ?_;refine pU 13 43 15 16383 yD ?_
 refine ML (i := 14) (N := none) (bz 15 32767) rfl rfl (Af yD.out (by kernel_rfl)) (by decide) (fun K hK => ?_)
 refine G5 (w1 := ?_) (by rfl) rfl ?_ ?_
 rotate_left
 ·
  go_simp
  rfl
 refine hK.out _ _ ?_
 clear hK K
 refine BI (Az yD.out (by kernel_rfl)) ?_
 try go_wp2
 go_roundg k1
 case measure => have := BZ.out; omega
 case rel => exact ⟨(av), (wrap64 (Ay + 1)), (by rfl), H', ⟨by have := BZ.out; omega⟩, ⟨kR ay⟩, ⟨by (with_reducible repeat (apply Kd.zl)); exact Kd.zb (Kd.J6 (p := ⟨Qc, (Ay : Int).toNat, none⟩) (Kd.zb zk.out (fun k_ hk => (⟨hk, fun e_ => hk (by rw [e_]; rfl)⟩ : _ ∧ k_ ≠ Qc))) (fun _ hk => hk.2) (.int .i64 (Int.tmod (wrap64 ((rd Bj Ay) + (rd Jk Ay))) aa))) (fun _ hk => hk.1)⟩, ⟨bO HB⟩⟩
end Go.Proofs.Ytjonnfmoocijlaa.P
