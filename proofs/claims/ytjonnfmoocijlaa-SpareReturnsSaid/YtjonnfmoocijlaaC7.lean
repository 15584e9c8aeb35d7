/- Texts of a claim, packed. -/
import Derived.Test.YtjonnfmoocijlaaC6
set_option linter.all false
namespace Go.Proofs.Ytjonnfmoocijlaa.P
open Go.RowKit Go.Proofs.YtjonnfmoocijlaaKW.PrintWords Go.Proofs.YtjonnfmoocijlaaKW.PrintLast Go.Proofs.YtjonnfmoocijlaaKW.PrintMore
attribute [local go_sem] zO zP Aj Ak zC zD zQ zR
def zu.l0 : Nat → Int → Int → List Int → List Int → Int → Option (Int)
 | 0, _, _, _, _, _ => none
 | k + 1, x7, x8, x9, F5, EK => if EK < x8 then (if 0 ≤ EK then (if EK < (x9.length : Int) then (if EK < (F5.length : Int) then (if x7 = 0 then (none) else (zu.l0 k x7 x8 (x9.set (EK : Int).toNat (Int.tmod (wrap64 ((rd x9 EK) + (rd F5 EK))) x7)) F5 (wrap64 (EK + 1)))) else (none)) else (none)) else (none)) else ((zo.f k x9 x7).bind fun t119 => (some t119))
def zu.f (k : Nat) (a0 : Int) (a1 : Int) (a2 : Int) : Option (Int) := (zf.f k a0).bind fun Ie => ((yY.f k a1 Ie.1 Ie.2).bind fun V6 => ((yY.f k a2 Ie.1 Ie.2).bind fun KH => (zu.l0 k Ie.1 Ie.2 V6 KH 0)))
theorem zu.mono_l : ∀ k, (∀ y0 y1 y2 y3 y4, BP (zu.l0 k y0 y1 y2 y3 y4) (zu.l0 (k + 1) y0 y1 y2 y3 y4))
 | 0 => fun _ _ _ _ _ r h => by simp [zu.l0] at h
 | k + 1 => by
  have Gg := zu.mono_l k
  ·
   intro y0 y1 y2 y3 y4
   unfold zu.l0
   repeat' first
   | exact Gg _ _ _ _ _
   | exact zf.mono _ _
   | exact yY.mono _ _ _ _
   | exact zo.mono _ _ _
   | exact BP.refl _
   | exact BP.none _
   | refine BP.ite ?_ ?_
   | refine BP.bind ?_ (fun _ => ?_)
theorem zu.mono : ∀ a0 a1 a2 k, BP (zu.f k a0 a1 a2) (zu.f (k + 1) a0 a1 a2) := by
 intro a0 a1 a2 k
 have Gg := zu.mono_l k
 unfold zu.f
 repeat' first
  | exact Gg _ _ _ _ _
  | exact zf.mono _ _
  | exact yY.mono _ _ _ _
  | exact zo.mono _ _ _
  | exact BP.refl _
  | exact BP.none _
  | refine BP.ite ?_ ?_
  | refine BP.bind ?_ (fun _ => ?_)
def zu.T6 : Bool × List (List Nat × List Nat) := (true, [([], []), ([], []), ([], []), ([], []), ([2, 3], [2, 3]), ([4], [4]), ([], []), ([], []), ([6, 7], [6, 7]), ([8], [8]), ([5, 9], [5, 9]), ([], []), ([10, 11], [10, 11]), ([0, 1, 0, 1, 2, 3, 4, 5, 6, 7, 8, 9, 10, 11, 12], [0, 1]), ([13, 12, 0, 1, 2, 3, 4, 5, 6, 7, 8, 9, 10, 11, 12], [12, 13])])
def zu.B6 : List Nat := [0, 0, 0, 0, 12, 28, 0, 0, 192, 448, 1020, 0, 4092, 8191, 16383]
theorem zu.a2g : CZ .any (opsOf Try.f58 6) = zu.T6 := by kernel_rfl
theorem zu.Wt : BD zu.T6.2 zu.B6 = true := by kernel_rfl
set_option maxHeartbeats 8000000 in
set_option maxRecDepth 100000 in
theorem zu.calls (k : Nat) (a0 : Int) (a1 : Int) (a2 : Int) (r : Int) (w : World) (h : zu.f k a0 a1 a2 = some r) :
  Calls Try.prog 58 #[.int .i64 a0, .int .i64 a1, .int .i64 a2] w fun e w' => e = .returned (.int .i64 r) ∧ Below w.heap.size w w' := by
 have HB := yf.mk (Below.refl w.heap.size w)
 have H : ((zf.f k a0).bind fun Ie => ((yY.f k a1 Ie.1 Ie.2).bind fun V6 => ((yY.f k a2 Ie.1 Ie.2).bind fun KH => (zu.l0 k Ie.1 Ie.2 V6 KH 0)))) = some r := h
 clear h;obtain ⟨⟨aa, t109⟩, A4, H⟩ := bE H
 try dsimp only at H
 obtain ⟨V6, A5, H⟩ := bE H
 try dsimp only at H
 obtain ⟨KH, A6, H⟩ := bE H
 try dsimp only at H
 have H' := yf.mk H;clear H
 go_enter Try.func58, Try.ntmps58
 go_wp2_with (first | ((with_reducible refine yw (f := 76) rfl ?_); refine gL (some 14) Try.func76 #[.int .i64 a0] ?_; (with_reducible refine (zf.calls k a0 aa t109 _ A4.out).mono ?_); rintro e w' ⟨rfl, ⟨nd, rfl⟩⟩; refine ⟨_, rfl, ?_⟩) | ((with_reducible refine yw (f := 77) rfl ?_); refine gL (some 20) Try.func77 #[.int .i64 a1, .int .i64 aa, .int .i64 t109] ?_; (with_reducible refine (yY.calls k a1 aa t109 V6 _ A5.out).mono ?_); rintro e w7 ⟨v111, rfl, ho0, hb⟩; refine ⟨_, rfl, ?_⟩; have ae := yf.mk (Kd.Ay ho0 (yL (bO HB))); replace HB := bS HB hb; clear hb; clear ho0) | ((with_reducible refine yw (f := 77) rfl ?_); refine gL (some 24) Try.func77 #[.int .i64 a2, .int .i64 aa, .int .i64 t109] ?_; (with_reducible refine (yY.calls k a2 aa t109 KH _ A6.out).mono ?_); rintro e w8 ⟨v114, rfl, ho0, hb⟩; refine ⟨_, rfl, ?_⟩; have aC := yf.mk (Kd.Ay (Kd.C8 ho0 (Kd.DV (kR ae))) (yL (bO HB))); replace ae := yf.mk (Kd.Bb (kR ae) (Kd.Bh ho0) hb); replace HB := bS HB hb; clear hb; clear ho0))
 go_loopg [11] k (fun kq v11 w' => ∃ (Ce : List Int) (AV : Int), v11 = .int .i64 AV ∧ yf (zu.l0 kq aa t109 Ce KH AV = some r) ∧ yf (kq ≤ k) ∧ yf (Kd.R (Kd.int .i64) 3 w' w.heap.size (fun k_ => some k_ ≠ (v114 : Value).ownBlock) v111 Ce) ∧ yf (Kd.R (Kd.int .i64) 3 w' w.heap.size (fun k_ => some k_ ≠ (v111 : Value).ownBlock) v114 KH) ∧ yf (Below w.heap.size w w'))
 case atStart => exact ⟨(V6), (0), (by rfl), H', ⟨Nat.le_refl _⟩, ⟨by (with_reducible repeat (apply Kd.yZ)); exact Kd.yX ae.out (fun _ hk => hk.2)⟩, ⟨by (with_reducible repeat (apply Kd.yZ)); exact Kd.yX aC.out (fun _ hk => hk.2)⟩, ⟨bO HB⟩⟩
 case round =>
 clear H';obtain ⟨Ce, AV, rfl, HA, BJ, zT, zB, HB⟩ := hrel
 cases gk with
 | zero => exact absurd HA.out (by simp [zu.l0])
 | succ k1 =>
 have H := HA.out;clear HA;simp only [zu.l0] at H
 by_cases c9 : AV < t109
 rotate_left
 ·
  rw [if_neg c9] at H;have IE := decide_eq_false c9;clear c9;obtain ⟨t119, aD, H⟩ := bE H
  try dsimp only at H
  obtain rfl := Option.some.inj H;obtain ⟨DX, Dn, Q3⟩ := Kd.zJ zT.out;subst Q3
  go_wp2_with (((with_reducible refine yw (f := 78) rfl ?_); refine gL (some 46) Try.func78 #[.slice DX Ce.length Dn, .int .i64 aa] ?_; (with_reducible refine (zo.calls k1 _ _ Ce aa t119 _ ?yD ?yF aD.out).mono ?_); (case yD => exact G7 zT); (case yF => exact (Kd.yT zT.out).2.1); rintro e w' ⟨rfl, ⟨nd, rfl⟩⟩; refine ⟨_, rfl, ?_⟩))
  go_ret
  exact ⟨by rfl, bO HB⟩
 rw [if_pos c9] at H;have IE := decide_eq_true c9;clear c9
 by_cases c10 : 0 ≤ AV
 rotate_left
 ·
  rw [if_neg c10] at H;exact absurd H (by simp)
 rw [if_pos c10] at H;have Gi := decide_eq_true c10;clear c10
 by_cases c11 : AV < (Ce.length : Int)
 rotate_left
 ·
  rw [if_neg c11] at H;exact absurd H (by simp)
 rw [if_pos c11] at H;have GD := decide_eq_true c11;clear c11
 by_cases c12 : AV < (KH.length : Int)
 rotate_left
 ·
  rw [if_neg c12] at H;exact absurd H (by simp)
 rw [if_pos c12] at H;have Gh := decide_eq_true c12;clear c12
 by_cases c13 : aa = 0
 ·
  rw [if_pos c13] at H;exact absurd H (by simp)
 rw [if_neg c13] at H;have J9 := beq_eq_false_iff_ne.mpr c13;have a02 := bne_iff_ne.mpr c13;obtain ⟨ay, af⟩ : ∃ y_ : List Int, y_ = (Ce.set (AV : Int).toNat (Int.tmod (wrap64 ((rd Ce AV) + (rd KH AV))) aa)) := ⟨_, rfl⟩
 replace H : (zu.l0 k1 aa t109 ay KH (wrap64 (AV + 1))) = some r := by (rw [af]; with_reducible exact H)
 have az := yf.mk af;clear af;have H' := yf.mk H;clear H
 try go_wp2
 replace zT := yf.mk (Kd.AQ zT.out);replace zB := yf.mk (Kd.AQ zB.out);replace HB := yf.mk (za HB.out);obtain ⟨Q4, Q5, a2h⟩ := Kd.zJ zT.out
 (subst a2h)
 have ah : 0 ≤ (AV : Int) := of_decide_eq_true ‹_›
 have au : AV < (Ce.length : Int) := of_decide_eq_true ‹_›
 obtain ⟨aG, e116, ai⟩ := Kd.C9 (Kd.yT zT.out).2.2 AV ah au;cases e116;replace ah := eq_true ah;replace au := eq_true au;obtain ⟨Q6, Q7, a2i⟩ := Kd.zJ zB.out
 (subst a2i)
 have ag : 0 ≤ (AV : Int) := of_decide_eq_true ‹_›
 have ak : AV < (KH.length : Int) := of_decide_eq_true ‹_›
 obtain ⟨aA, e117, ax⟩ := Kd.C9 (Kd.yT zB.out).2.2 AV ag ak;cases e117;replace ag := eq_true ag;replace ak := eq_true ak
 have p14 : 0 ≤ (AV : Int) := of_decide_eq_true ‹_›
 have q14 : (AV : Int) < ((Ce.length : Int) : Int) := of_decide_eq_true ‹_›
 obtain ⟨SS, Zc, SV, Wi, a2c, a6v, Wj⟩ := Kd.HZ zT.out (by omega)
 (cases SV)
 have a4m := yf.mk Wi;have a4n := yf.mk Wj;clear Wi a2c Wj
 (simp only [add_plain] at ai)
 obtain ⟨Wl, Wm⟩ := Kd.FJ 0 zT.out (AV : Int) p14 q14;replace p14 := eq_true p14;replace q14 := eq_true q14;have aj := Kd.PQ zT.out (AV : Int) (Int.tmod (wrap64 ((rd Ce AV) + (rd KH AV))) aa);rw [← az.out] at aj;have av := yf.mk aj;clear aj
 refine Bc (n := 15) (S := fun w' => w'.cell? ⟨SS, (AV).toNat, none⟩ = some (.int .i64 (rd Ce AV)) ∧ w'.cell? (aA.add (AV).toNat) = some (.int .i64 (rd KH AV))) (ds := [14]) (bz 15 0) (by kernel_rfl) rfl rfl ⟨ai, ax⟩ (fun hHeld => ?_); refine zF zu.a2g zu.Wt (fun yz Bi => ?_)
 generalize wr.drew = w15 at zT zB HB a4n av Wm ai ax Wl hHeld ⊢;refine pU 0 30 15 1 yz ?_;refine pU 1 31 15 3 yz ?_;refine pU 2 32 15 7 yz ?_;refine pU 3 33 15 15 yz ?_;refine pU 4 34 15 31 yz ?_;refine pU 6 36 15 95 yz ?_;refine pU 7 37 15 223 yz ?_;refine pU 8 38 15 479 yz ?_;refine pU 11 41 15 2527 yz ?_
 refine BO 5 35 15 2559 yz Bi hHeld ?_
 refine BO 9 39 15 3071 yz Bi hHeld ?_
 refine pU 10 40 15 4095 yz ?_;refine pU 12 42 15 8191 yz ?_;refine pU 13 43 15 16383 yz ?_
 refine OL (i := 14) (N := none) (bz 15 32767) rfl rfl (Af yz.out (by kernel_rfl)) (by decide) (fun K hK => ?_)
 refine IR (w1 := ?_) (by rfl) rfl ?_ ?_
 rotate_left
 ·
  go_simp
  rfl
 refine hK.out _ _ ?_
 clear hK K
 refine BG (Al yz.out (by kernel_rfl)) ?_
 try go_wp2
 go_roundg k1
 case measure => have := BJ.out; omega
 case rel => exact ⟨(ay), (wrap64 (AV + 1)), (by rfl), H', ⟨by have := BJ.out; omega⟩, ⟨kR av⟩, ⟨by (with_reducible repeat (apply Kd.yZ)); exact Kd.yX (Kd.Kt (p := ⟨SS, (AV : Int).toNat, none⟩) (Kd.yX zB.out (fun k_ hk => (⟨hk, fun e_ => hk (by rw [e_]; rfl)⟩ : _ ∧ k_ ≠ SS))) (fun _ hk => hk.2) (.int .i64 (Int.tmod (wrap64 ((rd Ce AV) + (rd KH AV))) aa))) (fun _ hk => hk.1)⟩, ⟨bO HB⟩⟩
end Go.Proofs.Ytjonnfmoocijlaa.P
