/- Texts of a claim, packed. -/
import Derived.Test.YtjonnfmoocijlaaD12
import Derived.Test.YtjonnfmoocijlaaD14
set_option linter.all false
namespace Go.Proofs.Ytjonnfmoocijlaa.P
open Go.RowKit Go.Proofs.YtjonnfmoocijlaaKW.PrintWords Go.Proofs.YtjonnfmoocijlaaKW.PrintLast Go.Proofs.YtjonnfmoocijlaaKW.PrintMore
attribute [local go_sem] zz zA zS zT zn zo zB zC
mutual
def yC.j0 : Nat → Int → Bool → Int → List (List Int) → Int → Int → Int → List (List Int) → Int → Int → Int → Int → Int → Int → Int → Option (Int × (List (List Int)) × Int × Int × Int × Int × Int × (List (List Int)) × (List (List Int)) × Int × Int × Bool)
 | 0, _, _, _, _, _, _, _, _, _, _, _, _, _, _, _ => none
 | k + 1, x4, aA, aj, ax, aa, ae, ak, au, ah, av, ai, ag, af, ay, az => if aA = true then (some (0, ([] : List (List Int)), 0, 0, 0, 0, 0, ([] : List (List Int)), ([] : List (List Int)), 0, 0, false)) else (if (wrap64 (aa * af)) > 4096 then (yC.j1 k true aj ax aa ae ak au ah av ai ag af (wrap64 (aa * x4)) (wrap64 ((wrap64 (aa * x4)) + ae))) else ((Cx.f ak au ah av ai ag af ([] : List (List Int)) ([] : List (List Int)) (wrap64 (aa * x4)) (wrap64 ((wrap64 (aa * x4)) + ae))).bind fun Mw => (if (wrap64 ((wrap64 (aa * af)) * Mw)) > 65536 then (yC.j1 k true aj ax aa ae ak au ah av ai ag af (wrap64 (aa * x4)) (wrap64 ((wrap64 (aa * x4)) + ae))) else (yC.j1 k (decide ((wrap64 ((wrap64 (aa * x4)) + ae)) > 65536)) aj ax aa ae ak au ah av ai ag af (wrap64 (aa * x4)) (wrap64 ((wrap64 (aa * x4)) + ae))))))
def yC.j1 : Nat → Bool → Int → List (List Int) → Int → Int → Int → List (List Int) → Int → Int → Int → Int → Int → Int → Int → Option (Int × (List (List Int)) × Int × Int × Int × Int × Int × (List (List Int)) × (List (List Int)) × Int × Int × Bool)
 | 0, _, _, _, _, _, _, _, _, _, _, _, _, _, _ => none
 | k + 1, x97, aj, ax, aa, ae, ak, au, ah, av, ai, ag, af, ay, az => if x97 = true then (some (0, ([] : List (List Int)), 0, 0, 0, 0, 0, ([] : List (List Int)), ([] : List (List Int)), 0, 0, false)) else (if 0 ≤ aj then (if (aj : Int).toNat ≤ 11728124029610 then (layout_measure_fin ak au ah av ai ag af ay az) else (none)) else (none))
end
def yC.f (k : Nat) (yn : Int) (yg : List (List Int)) (yo : Int) (yt : Int) : Option (Int × (List (List Int)) × Int × Int × Int × Int × Int × (List (List Int)) × (List (List Int)) × Int × Int × Bool) := (CV.f yn yg).bind fun BC => (if BC.2.2 = 0 then (if 0 < (yg.length : Int) then (if ((yT yg 0).length : Int) ≤ 3 then (yC.j0 k BC.1 true yn yg yo yt yn yg yo yt ((yT yg 0).length : Int) BC.1 (yg.length : Int) 0 0) else (if ((yT yg 0).length : Int) > 16 then (yC.j0 k BC.1 true yn yg yo yt yn yg yo yt ((yT yg 0).length : Int) BC.1 (yg.length : Int) 0 0) else (if yo < 1 then (yC.j0 k BC.1 true yn yg yo yt yn yg yo yt ((yT yg 0).length : Int) BC.1 (yg.length : Int) 0 0) else (if yo > 256 then (yC.j0 k BC.1 true yn yg yo yt yn yg yo yt ((yT yg 0).length : Int) BC.1 (yg.length : Int) 0 0) else (if yt < 0 then (yC.j0 k BC.1 true yn yg yo yt yn yg yo yt ((yT yg 0).length : Int) BC.1 (yg.length : Int) 0 0) else (yC.j0 k BC.1 (decide (yt > 65536)) yn yg yo yt yn yg yo yt ((yT yg 0).length : Int) BC.1 (yg.length : Int) 0 0)))))) else (none)) else (some (0, ([] : List (List Int)), 0, 0, 0, 0, 0, ([] : List (List Int)), ([] : List (List Int)), 0, 0, false)))
theorem yC.mono_l : ∀ k, (∀ y0 y1 y2 y3 y4 y5 y6 y7 y8 y9 JL LM LP y13 Qu, zZ (yC.j0 k y0 y1 y2 y3 y4 y5 y6 y7 y8 y9 JL LM LP y13 Qu) (yC.j0 (k + 1) y0 y1 y2 y3 y4 y5 y6 y7 y8 y9 JL LM LP y13 Qu)) ∧ (∀ y0 y1 y2 y3 y4 y5 y6 y7 y8 y9 JL LM LP y13, zZ (yC.j1 k y0 y1 y2 y3 y4 y5 y6 y7 y8 y9 JL LM LP y13) (yC.j1 (k + 1) y0 y1 y2 y3 y4 y5 y6 y7 y8 y9 JL LM LP y13))
 | 0 => ⟨fun _ _ _ _ _ _ _ _ _ _ _ _ _ _ _ r h => by simp [yC.j0] at h, fun _ _ _ _ _ _ _ _ _ _ _ _ _ _ r h => by simp [yC.j1] at h⟩
 | k + 1 => by
  obtain ⟨DN, ih1⟩ := yC.mono_l k
  refine ⟨?_, ?_⟩
  ·
   intro y0 y1 y2 y3 y4 y5 y6 y7 y8 y9 JL LM LP y13 Qu
   unfold yC.j0
   repeat' first
   | exact DN _ _ _ _ _ _ _ _ _ _ _ _ _ _ _
   | exact ih1 _ _ _ _ _ _ _ _ _ _ _ _ _ _
   | exact zZ.refl _
   | exact zZ.none _
   | refine zZ.ite ?_ ?_
   | refine zZ.bind ?_ (fun _ => ?_)
  ·
   intro y0 y1 y2 y3 y4 y5 y6 y7 y8 y9 JL LM LP y13
   unfold yC.j1
   repeat' first
   | exact DN _ _ _ _ _ _ _ _ _ _ _ _ _ _ _
   | exact ih1 _ _ _ _ _ _ _ _ _ _ _ _ _ _
   | exact zZ.refl _
   | exact zZ.none _
   | refine zZ.ite ?_ ?_
   | refine zZ.bind ?_ (fun _ => ?_)
theorem yC.mono : ∀ a0 a1 a2 a3 k, zZ (yC.f k a0 a1 a2 a3) (yC.f (k + 1) a0 a1 a2 a3) := by
 intro a0 a1 a2 a3 k
 obtain ⟨DN, ih1⟩ := yC.mono_l k
 unfold yC.f
 repeat' first
  | exact DN _ _ _ _ _ _ _ _ _ _ _ _ _ _ _
  | exact ih1 _ _ _ _ _ _ _ _ _ _ _ _ _ _
  | exact zZ.refl _
  | exact zZ.none _
  | refine zZ.ite ?_ ?_
  | refine zZ.bind ?_ (fun _ => ?_)
def yC.T4 : Bool × List (List Nat × List Nat) := (true, [([], []), ([], []), ([1], [1]), ([2], [2]), ([3], [3]), ([4], [4]), ([5], [5]), ([], []), ([], []), ([8], [8]), ([9], [9]), ([10], [10]), ([0, 6, 7, 11], [0, 6, 7, 11]), ([], []), ([13, 12, 0, 1, 2, 3, 4, 5, 6, 7, 8, 9, 10, 11, 12, 13], [12, 13])])
def yC.B4 : List Nat := [0, 0, 2, 6, 14, 30, 62, 0, 0, 256, 768, 1792, 4095, 0, 16383]
theorem yC.ZG : CX .any (opsOf Try.f61 4) = yC.T4 := by kernel_rfl
theorem yC.UY : Bi yC.T4.2 yC.B4 = true := by kernel_rfl
def yC.T9 : Bool × List (List Nat × List Nat) := (true, [([], []), ([0], [0]), ([], []), ([2], [2]), ([1, 3], [1, 3]), ([4], [4]), ([5], [5]), ([6], [6]), ([7, 6], [6, 7]), ([6], [6]), ([9, 6], [6, 9]), ([8, 10, 6], [6, 8, 10]), ([6], [6]), ([12, 6, 6], [6, 12]), ([11, 13, 6], [6, 11, 13]), ([14, 6], [6, 14]), ([6, 15], [6, 15]), ([16, 13], [16]), ([17], [17]), ([18, 17], [17, 18]), ([19, 17], [17, 19]), ([17, 20], [17, 20])])
def yC.B9 : List Nat := [0, 1, 0, 4, 15, 31, 63, 127, 255, 127, 639, 2047, 127, 4223, 16383, 32767, 65535, 131071, 262143, 524287, 1048575, 2097151]
theorem yC.P5 : CX .any (opsOf Try.f61 9) = yC.T9 := by kernel_rfl
theorem yC.Ke : Bi yC.T9.2 yC.B9 = true := by kernel_rfl
set_option maxHeartbeats 8000000 in
set_option maxRecDepth 100000 in
theorem yC.calls (k : Nat) (yn : Int) (EK : Nat → Prop) (yP : Option Addr) (yI : Nat) (yg : List (List Int)) (yo : Int) (yt : Int) (r1 : Int) (r2 : List (List Int)) (r3 : Int) (r4 : Int) (r5 : Int) (r6 : Int) (r7 : Int) (r8 : List (List Int)) (r9 : List (List Int)) (aU : Int) (aY : Int) (aW : Bool) (w : World) (IE : Kd.V (Kd.slice 3 (Kd.int .i64)) 63 w w.heap.size (fun k_ => EK k_) (.slice yP yg.length yI) yg) (h : yC.f k yn yg yo yt = some (r1, r2, r3, r4, r5, r6, r7, r8, r9, aU, aY, aW)) :
  Calls Try.prog 61 #[.agg #[.int .i64 yn, .slice yP yg.length yI, .int .i64 yo, .int .i64 yt]] w fun e w' => ∃ Rc cu bU : Value, e = .returned (.tuple #[.agg #[.int .i64 r1, Rc, .int .i64 r3, .int .i64 r4, .int .i64 r5, .int .i64 r6, .int .i64 r7, cu, bU, .int .i64 aU, .int .i64 aY], .bool aW]) ∧ Kd.V (Kd.slice 3 (Kd.int .i64)) 63 w' w.heap.size (fun k_ => (EK k_ ∨ w.heap.size ≤ k_)) Rc r2 ∧ Kd.V (Kd.slice 3 (Kd.int .i64)) 63 w' w.heap.size (fun k_ => (EK k_ ∨ w.heap.size ≤ k_)) cu r8 ∧ Kd.V (Kd.slice 3 (Kd.int .i64)) 63 w' w.heap.size (fun k_ => (EK k_ ∨ w.heap.size ≤ k_)) bU r9 ∧ Below w.heap.size w w' := by
 have FB := Try.underlying31;have Jm := Try.underlying102;have NN := Try.underlying29
 have ah := yf.mk (show Kd.V (Kd.slice 3 (Kd.int .i64)) 63 w w.heap.size (fun k_ => (EK k_ ∨ w.heap.size ≤ k_)) (.slice yP yg.length yI) yg from Kd.yH IE (fun k_ hk => .inl hk))
 have HB := yf.mk (Below.refl w.heap.size w)
 have H : ((CV.f yn yg).bind fun BC => (if BC.2.2 = 0 then (if 0 < (yg.length : Int) then (if ((yT yg 0).length : Int) ≤ 3 then (yC.j0 k BC.1 true yn yg yo yt yn yg yo yt ((yT yg 0).length : Int) BC.1 (yg.length : Int) 0 0) else (if ((yT yg 0).length : Int) > 16 then (yC.j0 k BC.1 true yn yg yo yt yn yg yo yt ((yT yg 0).length : Int) BC.1 (yg.length : Int) 0 0) else (if yo < 1 then (yC.j0 k BC.1 true yn yg yo yt yn yg yo yt ((yT yg 0).length : Int) BC.1 (yg.length : Int) 0 0) else (if yo > 256 then (yC.j0 k BC.1 true yn yg yo yt yn yg yo yt ((yT yg 0).length : Int) BC.1 (yg.length : Int) 0 0) else (if yt < 0 then (yC.j0 k BC.1 true yn yg yo yt yn yg yo yt ((yT yg 0).length : Int) BC.1 (yg.length : Int) 0 0) else (yC.j0 k BC.1 (decide (yt > 65536)) yn yg yo yt yn yg yo yt ((yT yg 0).length : Int) BC.1 (yg.length : Int) 0 0)))))) else (none)) else (some (0, ([] : List (List Int)), 0, 0, 0, 0, 0, ([] : List (List Int)), ([] : List (List Int)), 0, 0, false)))) = some (r1, r2, r3, r4, r5, r6, r7, r8, r9, aU, aY, aW) := h
 clear h;obtain ⟨⟨t206, P6, t208⟩, A2, H⟩ := bE H
 try dsimp only at H
 by_cases c3 : t208 = 0
 rotate_left
 ·
  rw [if_neg c3] at H;have FM := beq_eq_false_iff_ne.mpr c3;have Lg := bne_iff_ne.mpr c3;simp only [Option.some.injEq, Prod.mk.injEq] at H;obtain ⟨rfl, rfl, rfl, rfl, rfl, rfl, rfl, rfl, rfl, rfl, rfl, rfl⟩ := H
  go_enter Try.func61, Try.ntmps61
  go_wp2_with (first | ((with_reducible refine yK (N := 1) rfl ?_); refine yE rfl (N := 1) rfl (cs := #[.int .i64 yn, .slice yP yg.length yI, .int .i64 yo, .int .i64 yt]) (t := 31) (by go_simp) ?_; intro Cz hg w91 yG hb; replace ah := yf.mk (Kd.zg (Kd.zu (kV ah) Cz (Nat.le_of_eq hg.symm)) hb); have zM := yf.mk (yG); have XY := bG (w := w) hg; have XZ := bG (w := w) hg; replace HB := bS HB hb; clear hb yG hg) | ((with_reducible refine yK (N := 2) rfl ?_); refine yE rfl (N := 2) rfl (cs := #[.int .i64 0, .slice none 0 0, .int .i64 0, .int .i64 0, .int .i64 0, .int .i64 0, .int .i64 0, .slice none 0 0, .slice none 0 0, .int .i64 0, .int .i64 0]) (t := 102) (by go_simp) ?_; intro CB hg w92 yG hb; have Ah := yf.mk (yG); have P7 := bG (w := w) hg; have Y0 := bG (w := w) hg; have aA := BL zM hg; have az := Ag zM hg; replace ah := yf.mk (Kd.zg (Kd.zu (kV ah) CB (Nat.le_of_eq hg.symm)) hb); replace zM := bB zM hb; replace HB := bS HB hb; clear hb yG hg; have a1a := aA.out; have a1b := az.out; have dX := AR zM; have fq := bf zM) | ((with_reducible refine yB (f := 79) rfl ?_); refine gL (some 16) Try.func79 #[.agg #[.int .i64 yn, .slice yP yg.length yI]] ?_; (with_reducible refine (CV.calls yn _ _ yg t206 P6 t208 _ ?yF ?yM A2.out).mono ?_); (case yF => exact KQ ah); (case yM => exact (Kd.zx ah.out).2.1); rintro e w95 ⟨rfl, hb⟩; refine ⟨_, rfl, ?_⟩; replace ah := KP ah hb; replace zM := bB zM hb; replace Ah := bB Ah hb; replace HB := bS HB hb; clear hb; have fK := Dt Ah; have dW := bf Ah))
  refine bodyPost_ret (Bg rfl _ _ CB 102 #[.int .i64 0, .slice none 0 0, .int .i64 0, .int .i64 0, .int .i64 0, .int .i64 0, .int .i64 0, .slice none 0 0, .slice none 0 0, .int .i64 0, .int .i64 0] (0, 0) _ rfl (CF Ah rfl) Try.underlying102 rfl (by kernel_rfl)) rfl ?_
  exact ⟨_, _, _, by rfl, Kd.EJ _ _ _ _ _, Kd.EJ _ _ _ _ _, Kd.EJ _ _ _ _ _, bO HB⟩
 rw [if_pos c3] at H;have FM := beq_iff_eq.mpr c3
 have Lg : (t208 != 0) = false := bne_eq_false_iff_eq.mpr c3
 clear c3
 by_cases c4 : 0 < (yg.length : Int)
 rotate_left
 ·
  rw [if_neg c4] at H;exact absurd H (by simp)
 rw [if_pos c4] at H;have Ex := decide_eq_true c4
 have KA : decide (0 < yg.length) = true := decide_eq_true (by omega)
 clear c4;have Zm := yf.mk H;clear H
 go_enter Try.func61, Try.ntmps61
 try go_wp2_with (first | ((with_reducible refine yK (N := 1) rfl ?_); refine yE rfl (N := 1) rfl (cs := #[.int .i64 yn, .slice yP yg.length yI, .int .i64 yo, .int .i64 yt]) (t := 31) (by go_simp) ?_; intro Cz hg w6 yG hb; replace ah := yf.mk (Kd.zg (Kd.zu (kV ah) Cz (Nat.le_of_eq hg.symm)) hb); have zM := yf.mk (yG); have XY := bG (w := w) hg; have XZ := bG (w := w) hg; replace HB := bS HB hb; clear hb yG hg) | ((with_reducible refine yK (N := 2) rfl ?_); refine yE rfl (N := 2) rfl (cs := #[.int .i64 0, .slice none 0 0, .int .i64 0, .int .i64 0, .int .i64 0, .int .i64 0, .int .i64 0, .slice none 0 0, .slice none 0 0, .int .i64 0, .int .i64 0]) (t := 102) (by go_simp) ?_; intro CB hg w7 yG hb; have Ah := yf.mk (yG); have P7 := bG (w := w) hg; have Y0 := bG (w := w) hg; have aA := BL zM hg; have az := Ag zM hg; replace ah := yf.mk (Kd.zg (Kd.zu (kV ah) CB (Nat.le_of_eq hg.symm)) hb); replace zM := bB zM hb; replace HB := bS HB hb; clear hb yG hg; have a1c := aA.out; have a1d := az.out; have NW := AR zM; have NY := bf zM) | ((with_reducible refine yB (f := 79) rfl ?_); refine gL (some 16) Try.func79 #[.agg #[.int .i64 yn, .slice yP yg.length yI]] ?_; (with_reducible refine (CV.calls yn _ _ yg t206 P6 t208 _ ?yF ?yM A2.out).mono ?_); (case yF => exact KQ ah); (case yM => exact (Kd.zx ah.out).2.1); rintro e w10 ⟨rfl, hb⟩; refine ⟨_, rfl, ?_⟩; replace ah := KP ah hb; replace zM := bB zM hb; replace Ah := bB Ah hb; replace HB := bS HB hb; clear hb))
 replace ah := yf.mk (Kd.IP ah.out);replace zM := yf.mk (yZ zM.out);replace Ah := yf.mk (yZ Ah.out);replace HB := yf.mk (ze HB.out)
 have aK : 0 ≤ (0 : Int) := (by omega)
 have aN : 0 < (yg.length : Int) := of_decide_eq_true ‹_›
 obtain ⟨ag, bT, dn, e209, aI, bR, bL⟩ := Dw (Kd.zx ah.out).2.2 0 aK aN;cases e209
 have HADB : yf (ag.block < w.heap.size) := (by obtain ⟨fT, gz, iI, e_, h_, _⟩ := Dw (Kd.zx IE).2.2 0 aK aN; cases e_; rw [show ((0 : Int)).toNat = 0 from rfl, Addr.add_zero'] at h_; exact ⟨World.block_lt_of_cell? w _ h_⟩)
 obtain ⟨iH, dK, dz, bW⟩ := Kd.a0A ah.out [] 0 aK (by exact aN);obtain ⟨eD, eF, rfl, bD, bH⟩ := Kd.Mj dz;have bu := bW 0 _ rfl;rw [Nat.add_zero, show ((Kd.slice 3 (Kd.int .i64))).sz = 1 from rfl, Nat.mul_one] at bu;replace bu := Option.some.inj (bu.symm.trans aI)
 injection bu with bQ dB bZ
 rw [bQ] at bH;rw [bZ] at bD;have aC := yf.mk (show Kd.V (Kd.int .i64) 3 _ w.heap.size _ _ (yT yg 0) from Kd.E8 bD bH);clear bQ dB bZ bH bD bW dK
 have il : (0 < yg.length) = True := eq_true (by omega)
 (try rw [show ((0 : Int)).toNat = 0 from rfl] at aI)
 (try rw [Addr.add_zero'] at aI)
 have aT := yf.mk bL;have ek := yf.mk bR;clear bL bR;replace aK := eq_true aK;replace aN := eq_true aN
 refine AV (n := 15) (S := fun w' => w'.cell? ⟨Cz, 0, none⟩ = some (.int .i64 yn) ∧ w'.cell? ⟨Cz, 1, none⟩ = some (.slice (some ag) yg.length yI) ∧ w'.cell? ⟨Cz, 2, none⟩ = some (.int .i64 yo) ∧ w'.cell? ⟨Cz, 3, none⟩ = some (.int .i64 yt) ∧ w'.cell? ag = some (.slice bT (yT yg 0).length dn)) (ds := []) (bz 15 0) (by kernel_rfl) rfl rfl ⟨(yz zM.out 0).trans rfl, (yz zM.out 1).trans rfl, (yz zM.out 2).trans rfl, (yz zM.out 3).trans rfl, aI⟩ (fun hHeld => ?_); refine zQ yC.ZG yC.UY (fun yD AZ => ?_)
 generalize w10.drew = w11 at ah zM Ah HB aC aT aI hHeld ⊢;refine pU 1 24 15 2 yD ?_;refine pU 2 25 15 6 yD ?_;refine pU 7 30 15 134 yD ?_;refine pU 8 31 15 390 yD ?_;refine pU 9 32 15 902 yD ?_
 refine BQ 0 23 15 903 yD AZ hHeld ?_
 refine BQ 3 26 15 911 yD AZ hHeld ?_
 refine pU 4 27 15 927 yD ?_
 refine BQ 5 28 15 959 yD AZ hHeld ?_
 refine pU 6 29 15 1023 yD ?_
 refine BQ 10 33 15 2047 yD AZ hHeld ?_
 refine pU 11 34 15 4095 yD ?_;refine pU 12 35 15 8191 yD ?_
 refine BP (i := 13) (N := some 7) (bz 15 16383) rfl rfl (Af yD.out (by kernel_rfl)) (by decide) (fun K hK => ?_)
 refine D8 ?hg (N := 7) ?hd (cs := #[.int .i64 0, .slice none 0 0, .int .i64 0, .int .i64 0, .int .i64 0, .int .i64 0, .int .i64 0, .slice none 0 0, .slice none 0 0, .int .i64 0, .int .i64 0]) (t := 102) ?hr ?_; (case hd => rfl); (case hg => rfl); (case hr => go_simp)
 intro aa hg w12 yG hb
 have JK := (hb.cell (World.block_lt_of_cell? _ _ (hHeld.2.2.2.2))).trans (hHeld.2.2.2.2);have Bt := yf.mk (Kd.zg (Kd.zu (kV ah) aa (Nat.le_of_eq hg.symm)) hb);have Bu := yf.mk (Kd.zg (Kd.zu (kV aC) aa (Nat.le_of_eq hg.symm)) hb);have BJ := bB zM hb;have Cs := bB Ah hb;have CJ := yf.mk (Kd.Ci (by repeat ((with_reducible exact aT.out))) hb);have Db := bS HB hb;have Ec := yf.mk (yG);have En := bG (w := w) hg;have EB := bG (w := w) hg;have EC := BL zM hg;have Ct := Ag zM hg;have CL := BL Ah hg;have D9 := Ag Ah hg;clear ah aC zM Ah aT HB;have ah := Bt;have aC := Bu;have zM := BJ;have Ah := Cs;have aT := CJ;have HB := Db;have ae := Ec;have iA := En;have ay := EB;have af := EC;have av := Ct;have ak := CL;have au := D9;clear Bt Bu BJ Cs CJ Db Ec En EB EC Ct CL D9 hb yG hg
 refine hK.out _ _ ⟨(yz zM.out 0).trans rfl, (yz zM.out 1).trans rfl, (yz zM.out 2).trans rfl, (yz zM.out 3).trans rfl, JK⟩ (fun hHeld => ?_)
 clear hK K
 refine Aj (a' := ?_) ?_ ?_
 rotate_left
 ·
  show Act.put _ (some 7) _ = _
  simp only [pz]
  rfl
 refine BP (i := 14) (N := none) (bz 15 32767) rfl rfl (Af yD.out (by kernel_rfl)) (by decide) (fun K hK => ?_)
 have dS : w12.cell? ⟨aa, 0, none⟩ = some (.int .i64 0) := (yz ae.out 0).trans rfl
 have ib := zm ae.out 0;have fe := af.out;have gY := ak.out;have fQ := av.out;have fU := au.out
 have fI : w12.cell? ⟨aa, 1, none⟩ = some (.slice none 0 0) := (yz ae.out 1).trans rfl
 have fZ := zm ae.out 1;have gW := af.out;have fJ := ak.out;have gy := av.out;have gG := au.out
 have iJ : w12.cell? ⟨aa, 2, none⟩ = some (.int .i64 0) := (yz ae.out 2).trans rfl
 have gM := zm ae.out 2;have fB := af.out;have gB := ak.out;have dY := av.out;have fo := au.out
 have fH : w12.cell? ⟨aa, 3, none⟩ = some (.int .i64 0) := (yz ae.out 3).trans rfl
 have eU := zm ae.out 3;have iF := af.out;have eP := ak.out;have eu := av.out;have eX := au.out
 have dU : w12.cell? ⟨aa, 4, none⟩ = some (.int .i64 0) := (yz ae.out 4).trans rfl
 have gp := zm ae.out 4;have gD := af.out;have gT := ak.out;have fV := av.out;have gJ := au.out
 have ic : w12.cell? ⟨aa, 5, none⟩ = some (.int .i64 0) := (yz ae.out 5).trans rfl
 have eT := zm ae.out 5;have dN := af.out;have fw := ak.out;have dO := av.out;have fD := au.out
 have iq : w12.cell? ⟨aa, 6, none⟩ = some (.int .i64 0) := (yz ae.out 6).trans rfl
 have iy := zm ae.out 6;have fE := af.out;have eG := ak.out;have iD := av.out;have fu := au.out
 have a2X : w12.cell? ⟨aa, 7, none⟩ = some (.slice none 0 0) := (yz ae.out 7).trans rfl
 have a0W := zm ae.out 7;have WT := af.out;have gu := ak.out;have WU := av.out;have eB := au.out
 have a0X : w12.cell? ⟨aa, 8, none⟩ = some (.slice none 0 0) := (yz ae.out 8).trans rfl
 have XW := zm ae.out 8;have Rs := af.out;have ig := ak.out;have Rt := av.out;have dV := au.out
 have a3d : w12.cell? ⟨aa, 9, none⟩ = some (.int .i64 0) := (yz ae.out 9).trans rfl
 have a1e := zm ae.out 9;have WX := af.out;have gZ := ak.out;have WY := av.out;have dQ := au.out
 have gP : w12.cell? ⟨aa, 10, none⟩ = some (.int .i64 0) := (yz ae.out 10).trans rfl
 have eQ := zm ae.out 10;have iB := af.out;have fC := ak.out;have fM := av.out;have eO := au.out
 refine G5 (w1 := ?_) (by rfl) rfl ?_ ?_
 rotate_left
 ·
  go_simp
  rfl
 refine hK.out _ _ ⟨((cell_far (p := ⟨aa, _, none⟩) af.out _).trans (((cell_far (p := ⟨aa, _, none⟩) af.out _).trans (((cell_far (p := ⟨aa, _, none⟩) af.out _).trans (((cell_far (p := ⟨aa, _, none⟩) af.out _).trans (((cell_far (p := ⟨aa, _, none⟩) af.out _).trans (((cell_far (p := ⟨aa, _, none⟩) af.out _).trans (((cell_far (p := ⟨aa, _, none⟩) af.out _).trans (((cell_far (p := ⟨aa, _, none⟩) af.out _).trans (((cell_far (p := ⟨aa, _, none⟩) af.out _).trans (((cell_far (p := ⟨aa, _, none⟩) af.out _).trans (((cell_far (p := ⟨aa, _, none⟩) af.out _).trans (hHeld.1)))))))))))))))))))))), ((cell_far (p := ⟨aa, _, none⟩) af.out _).trans (((cell_far (p := ⟨aa, _, none⟩) af.out _).trans (((cell_far (p := ⟨aa, _, none⟩) af.out _).trans (((cell_far (p := ⟨aa, _, none⟩) af.out _).trans (((cell_far (p := ⟨aa, _, none⟩) af.out _).trans (((cell_far (p := ⟨aa, _, none⟩) af.out _).trans (((cell_far (p := ⟨aa, _, none⟩) af.out _).trans (((cell_far (p := ⟨aa, _, none⟩) af.out _).trans (((cell_far (p := ⟨aa, _, none⟩) af.out _).trans (((cell_far (p := ⟨aa, _, none⟩) af.out _).trans (((cell_far (p := ⟨aa, _, none⟩) af.out _).trans (hHeld.2.1)))))))))))))))))))))), ((cell_far (p := ⟨aa, _, none⟩) af.out _).trans (((cell_far (p := ⟨aa, _, none⟩) af.out _).trans (((cell_far (p := ⟨aa, _, none⟩) af.out _).trans (((cell_far (p := ⟨aa, _, none⟩) af.out _).trans (((cell_far (p := ⟨aa, _, none⟩) af.out _).trans (((cell_far (p := ⟨aa, _, none⟩) af.out _).trans (((cell_far (p := ⟨aa, _, none⟩) af.out _).trans (((cell_far (p := ⟨aa, _, none⟩) af.out _).trans (((cell_far (p := ⟨aa, _, none⟩) af.out _).trans (((cell_far (p := ⟨aa, _, none⟩) af.out _).trans (((cell_far (p := ⟨aa, _, none⟩) af.out _).trans (hHeld.2.2.1)))))))))))))))))))))), ((cell_far (p := ⟨aa, _, none⟩) af.out _).trans (((cell_far (p := ⟨aa, _, none⟩) af.out _).trans (((cell_far (p := ⟨aa, _, none⟩) af.out _).trans (((cell_far (p := ⟨aa, _, none⟩) af.out _).trans (((cell_far (p := ⟨aa, _, none⟩) af.out _).trans (((cell_far (p := ⟨aa, _, none⟩) af.out _).trans (((cell_far (p := ⟨aa, _, none⟩) af.out _).trans (((cell_far (p := ⟨aa, _, none⟩) af.out _).trans (((cell_far (p := ⟨aa, _, none⟩) af.out _).trans (((cell_far (p := ⟨aa, _, none⟩) af.out _).trans (((cell_far (p := ⟨aa, _, none⟩) af.out _).trans (hHeld.2.2.2.1)))))))))))))))))))))), ((cell_far (p := ⟨aa, _, none⟩) (Nat.ne_of_lt (Nat.lt_of_lt_of_le HADB.out ay.out)) _).trans (((cell_far (p := ⟨aa, _, none⟩) (Nat.ne_of_lt (Nat.lt_of_lt_of_le HADB.out ay.out)) _).trans (((cell_far (p := ⟨aa, _, none⟩) (Nat.ne_of_lt (Nat.lt_of_lt_of_le HADB.out ay.out)) _).trans (((cell_far (p := ⟨aa, _, none⟩) (Nat.ne_of_lt (Nat.lt_of_lt_of_le HADB.out ay.out)) _).trans (((cell_far (p := ⟨aa, _, none⟩) (Nat.ne_of_lt (Nat.lt_of_lt_of_le HADB.out ay.out)) _).trans (((cell_far (p := ⟨aa, _, none⟩) (Nat.ne_of_lt (Nat.lt_of_lt_of_le HADB.out ay.out)) _).trans (((cell_far (p := ⟨aa, _, none⟩) (Nat.ne_of_lt (Nat.lt_of_lt_of_le HADB.out ay.out)) _).trans (((cell_far (p := ⟨aa, _, none⟩) (Nat.ne_of_lt (Nat.lt_of_lt_of_le HADB.out ay.out)) _).trans (((cell_far (p := ⟨aa, _, none⟩) (Nat.ne_of_lt (Nat.lt_of_lt_of_le HADB.out ay.out)) _).trans (((cell_far (p := ⟨aa, _, none⟩) (Nat.ne_of_lt (Nat.lt_of_lt_of_le HADB.out ay.out)) _).trans (((cell_far (p := ⟨aa, _, none⟩) (Nat.ne_of_lt (Nat.lt_of_lt_of_le HADB.out ay.out)) _).trans (hHeld.2.2.2.2))))))))))))))))))))))⟩ (fun hHeld => ?_)
 clear hK K
 refine BI (Az yD.out (by kernel_rfl)) ?_
 go_upto_region 5 with (fail)
 go_cut [63] (fun v63 wc => ∃ (kq : Nat) (bi : Bool), v63 = .bool bi ∧ yf (yC.j0 kq t206 bi yn yg yo yt yn yg yo yt ((yT yg 0).length : Int) t206 (yg.length : Int) 0 0 = some (r1, r2, r3, r4, r5, r6, r7, r8, r9, aU, aY, aW)) ∧ yf (kq ≤ k) ∧ yf (Kd.V (Kd.slice 3 (Kd.int .i64)) 63 wc w.heap.size (fun k_ => (EK k_ ∨ w.heap.size ≤ k_) ∧ k_ ≠ Cz ∧ k_ ≠ CB ∧ k_ ≠ aa) (.slice (some ag) yg.length yI) yg) ∧ yf (Kd.V (Kd.slice 3 (Kd.int .i64)) 63 wc w.heap.size (fun k_ => (EK k_ ∨ w.heap.size ≤ k_) ∧ k_ ≠ Cz ∧ k_ ≠ CB ∧ k_ ≠ aa) (.slice (some ag) yg.length yI) yg) ∧ yf (wc.heap[Cz]? = some (.cells #[.int .i64 yn, (.slice (some ag) yg.length yI), .int .i64 yo, .int .i64 yt] 31 (0, 0))) ∧ yf (wc.heap[CB]? = some (.cells #[.int .i64 0, (.slice none 0 0), .int .i64 0, .int .i64 0, .int .i64 0, .int .i64 0, .int .i64 0, (.slice none 0 0), (.slice none 0 0), .int .i64 0, .int .i64 0] 102 (0, 0))) ∧ yf (wc.heap[aa]? = some (.cells #[.int .i64 yn, (.slice (some ag) yg.length yI), .int .i64 yo, .int .i64 yt, .int .i64 ((yT yg 0).length : Int), .int .i64 t206, .int .i64 (yg.length : Int), (.slice none 0 0), (.slice none 0 0), .int .i64 0, .int .i64 0] 102 (0, 0))) ∧ yf (Kd.C (Kd.int .i64) wc bT (yT yg 0).length (yT yg 0)) ∧ yf (Below w.heap.size w wc))
 case first =>
  have H := Zm.out;clear Zm
  by_cases c24 : ((yT yg 0).length : Int) ≤ 3
  ·
   rw [if_pos c24] at H;have Ls := decide_eq_true c24
   have df : decide ((yT yg 0).length ≤ 3) = true := decide_eq_true (by omega)
   clear c24
   (skip)
   have H' := yf.mk H;clear H;have Y1 := av.out;have Y2 := af.out;have UQ := au.out;have UR := ak.out;have Hu := Dt ae;have Hw := bf ae
   go_wp2
   go_meet
   case rel => exact ⟨_, (true), (by rfl), H', ⟨by omega⟩, ⟨by (with_reducible repeat (apply Kd.zh)); exact Kd.yH (E9 (g := aa) (Kd.yH ah.out (fun k_ hk => (⟨hk, hk.2⟩ : _ ∧ k_ ≠ aa))) (fun _ hk => hk.2)) (fun _ hk => ⟨hk.1.1.1.1, ⟨hk.1.1.1.2, ⟨hk.1.1.2, hk.1.2⟩⟩⟩)⟩, ⟨by (with_reducible repeat (apply Kd.zh)); exact Kd.yH (E9 (g := aa) (Kd.yH ah.out (fun k_ hk => (⟨hk, hk.2⟩ : _ ∧ k_ ≠ aa))) (fun _ hk => hk.2)) (fun _ hk => ⟨hk.1.1.1.1, ⟨hk.1.1.1.2, ⟨hk.1.1.2, hk.1.2⟩⟩⟩)⟩, bK zM rfl, bK Ah rfl, bK ae rfl, ⟨(Kd.zx (by (with_reducible repeat (apply Kd.zh)); exact (Kd.yH (E9 (g := aa) (Kd.yH aC.out (fun k_ hk => (⟨hk, hk.2⟩ : _ ∧ k_ ≠ aa))) (fun _ hk => hk.2)) (fun _ h_ => h_.1)))).2.2⟩, ⟨bO HB⟩⟩
  rw [if_neg c24] at H;have Ls := decide_eq_false c24
  have df : decide ((yT yg 0).length ≤ 3) = false := decide_eq_false (by omega)
  clear c24
  (skip)
  by_cases c28 : ((yT yg 0).length : Int) > 16
  ·
   rw [if_pos c28] at H;have MX := decide_eq_true c28
   have OL : decide (16 < (yT yg 0).length) = true := decide_eq_true (by omega)
   clear c28;have H' := yf.mk H;clear H;have Y3 := av.out;have Y4 := af.out;have MZ := au.out;have N7 := ak.out;have Lx := Dt ae;have LA := bf ae
   go_wp2
   go_meet
   case rel => exact ⟨_, (true), (by rfl), H', ⟨by omega⟩, ⟨by (with_reducible repeat (apply Kd.zh)); exact Kd.yH (E9 (g := aa) (Kd.yH ah.out (fun k_ hk => (⟨hk, hk.2⟩ : _ ∧ k_ ≠ aa))) (fun _ hk => hk.2)) (fun _ hk => ⟨hk.1.1.1.1, ⟨hk.1.1.1.2, ⟨hk.1.1.2, hk.1.2⟩⟩⟩)⟩, ⟨by (with_reducible repeat (apply Kd.zh)); exact Kd.yH (E9 (g := aa) (Kd.yH ah.out (fun k_ hk => (⟨hk, hk.2⟩ : _ ∧ k_ ≠ aa))) (fun _ hk => hk.2)) (fun _ hk => ⟨hk.1.1.1.1, ⟨hk.1.1.1.2, ⟨hk.1.1.2, hk.1.2⟩⟩⟩)⟩, bK zM rfl, bK Ah rfl, bK ae rfl, ⟨(Kd.zx (by (with_reducible repeat (apply Kd.zh)); exact (Kd.yH (E9 (g := aa) (Kd.yH aC.out (fun k_ hk => (⟨hk, hk.2⟩ : _ ∧ k_ ≠ aa))) (fun _ hk => hk.2)) (fun _ h_ => h_.1)))).2.2⟩, ⟨bO HB⟩⟩
  rw [if_neg c28] at H;have MX := decide_eq_false c28
  have OL : decide (16 < (yT yg 0).length) = false := decide_eq_false (by omega)
  clear c28
  by_cases c32 : yo < 1
  ·
   rw [if_pos c32] at H;have OA := decide_eq_true c32;clear c32;have H' := yf.mk H;clear H;have UZ := av.out;have V3 := af.out;have Uc := au.out;have Ud := ak.out;have Ue := Dt ae;have Uf := bf ae;have Rx := aA.out;have Ry := az.out;have Kg := AR zM;have Kh := bf zM
   go_wp2
   go_meet
   case rel => exact ⟨_, (true), (by rfl), H', ⟨by omega⟩, ⟨by (with_reducible repeat (apply Kd.zh)); exact Kd.yH (E9 (g := aa) (Kd.yH ah.out (fun k_ hk => (⟨hk, hk.2⟩ : _ ∧ k_ ≠ aa))) (fun _ hk => hk.2)) (fun _ hk => ⟨hk.1.1.1.1, ⟨hk.1.1.1.2, ⟨hk.1.1.2, hk.1.2⟩⟩⟩)⟩, ⟨by (with_reducible repeat (apply Kd.zh)); exact Kd.yH (E9 (g := aa) (Kd.yH ah.out (fun k_ hk => (⟨hk, hk.2⟩ : _ ∧ k_ ≠ aa))) (fun _ hk => hk.2)) (fun _ hk => ⟨hk.1.1.1.1, ⟨hk.1.1.1.2, ⟨hk.1.1.2, hk.1.2⟩⟩⟩)⟩, bK zM rfl, bK Ah rfl, bK ae rfl, ⟨(Kd.zx (by (with_reducible repeat (apply Kd.zh)); exact (Kd.yH (E9 (g := aa) (Kd.yH aC.out (fun k_ hk => (⟨hk, hk.2⟩ : _ ∧ k_ ≠ aa))) (fun _ hk => hk.2)) (fun _ h_ => h_.1)))).2.2⟩, ⟨bO HB⟩⟩
  rw [if_neg c32] at H;have OA := decide_eq_false c32;clear c32
  by_cases Jh : yo > 256
  ·
   rw [if_pos Jh] at H;have MP := decide_eq_true Jh;clear Jh;have H' := yf.mk H;clear H;have Rz := av.out;have RA := af.out;have Y5 := au.out;have Y6 := ak.out;have OM := Dt ae;have OO := bf ae;have a0P := aA.out;have a0Q := az.out;have XA := AR zM;have XB := bf zM
   go_wp2
   go_meet
   case rel => exact ⟨_, (true), (by rfl), H', ⟨by omega⟩, ⟨by (with_reducible repeat (apply Kd.zh)); exact Kd.yH (E9 (g := aa) (Kd.yH ah.out (fun k_ hk => (⟨hk, hk.2⟩ : _ ∧ k_ ≠ aa))) (fun _ hk => hk.2)) (fun _ hk => ⟨hk.1.1.1.1, ⟨hk.1.1.1.2, ⟨hk.1.1.2, hk.1.2⟩⟩⟩)⟩, ⟨by (with_reducible repeat (apply Kd.zh)); exact Kd.yH (E9 (g := aa) (Kd.yH ah.out (fun k_ hk => (⟨hk, hk.2⟩ : _ ∧ k_ ≠ aa))) (fun _ hk => hk.2)) (fun _ hk => ⟨hk.1.1.1.1, ⟨hk.1.1.1.2, ⟨hk.1.1.2, hk.1.2⟩⟩⟩)⟩, bK zM rfl, bK Ah rfl, bK ae rfl, ⟨(Kd.zx (by (with_reducible repeat (apply Kd.zh)); exact (Kd.yH (E9 (g := aa) (Kd.yH aC.out (fun k_ hk => (⟨hk, hk.2⟩ : _ ∧ k_ ≠ aa))) (fun _ hk => hk.2)) (fun _ h_ => h_.1)))).2.2⟩, ⟨bO HB⟩⟩
  rw [if_neg Jh] at H;have MP := decide_eq_false Jh;clear Jh
  by_cases Mm : yt < 0
  ·
   rw [if_pos Mm] at H;have Rj := decide_eq_true Mm;clear Mm;have H' := yf.mk H;clear H;have UH := av.out;have UI := af.out;have RB := au.out;have RD := ak.out;have Uw := Dt ae;have Ux := bf ae;have Us := aA.out;have Ut := az.out;have Xw := AR zM;have Xx := bf zM
   go_wp2
   go_meet
   case rel => exact ⟨_, (true), (by rfl), H', ⟨by omega⟩, ⟨by (with_reducible repeat (apply Kd.zh)); exact Kd.yH (E9 (g := aa) (Kd.yH ah.out (fun k_ hk => (⟨hk, hk.2⟩ : _ ∧ k_ ≠ aa))) (fun _ hk => hk.2)) (fun _ hk => ⟨hk.1.1.1.1, ⟨hk.1.1.1.2, ⟨hk.1.1.2, hk.1.2⟩⟩⟩)⟩, ⟨by (with_reducible repeat (apply Kd.zh)); exact Kd.yH (E9 (g := aa) (Kd.yH ah.out (fun k_ hk => (⟨hk, hk.2⟩ : _ ∧ k_ ≠ aa))) (fun _ hk => hk.2)) (fun _ hk => ⟨hk.1.1.1.1, ⟨hk.1.1.1.2, ⟨hk.1.1.2, hk.1.2⟩⟩⟩)⟩, bK zM rfl, bK Ah rfl, bK ae rfl, ⟨(Kd.zx (by (with_reducible repeat (apply Kd.zh)); exact (Kd.yH (E9 (g := aa) (Kd.yH aC.out (fun k_ hk => (⟨hk, hk.2⟩ : _ ∧ k_ ≠ aa))) (fun _ hk => hk.2)) (fun _ h_ => h_.1)))).2.2⟩, ⟨bO HB⟩⟩
  rw [if_neg Mm] at H;have Rj := decide_eq_false Mm;clear Mm;have H' := yf.mk H;clear H;have V4 := av.out;have V5 := af.out;have V6 := au.out;have V7 := ak.out;have RF := Dt ae;have RG := bf ae;have a1f := aA.out;have a1g := az.out;have a1h := AR zM;have a1i := bf zM
  go_wp2
  go_meet
  case rel => exact ⟨_, (decide (yt > 65536)), (by rfl), H', ⟨by omega⟩, ⟨by (with_reducible repeat (apply Kd.zh)); exact Kd.yH (E9 (g := aa) (Kd.yH ah.out (fun k_ hk => (⟨hk, hk.2⟩ : _ ∧ k_ ≠ aa))) (fun _ hk => hk.2)) (fun _ hk => ⟨hk.1.1.1.1, ⟨hk.1.1.1.2, ⟨hk.1.1.2, hk.1.2⟩⟩⟩)⟩, ⟨by (with_reducible repeat (apply Kd.zh)); exact Kd.yH (E9 (g := aa) (Kd.yH ah.out (fun k_ hk => (⟨hk, hk.2⟩ : _ ∧ k_ ≠ aa))) (fun _ hk => hk.2)) (fun _ hk => ⟨hk.1.1.1.1, ⟨hk.1.1.1.2, ⟨hk.1.1.2, hk.1.2⟩⟩⟩)⟩, bK zM rfl, bK Ah rfl, bK ae rfl, ⟨(Kd.zx (by (with_reducible repeat (apply Kd.zh)); exact (Kd.yH (E9 (g := aa) (Kd.yH aC.out (fun k_ hk => (⟨hk, hk.2⟩ : _ ∧ k_ ≠ aa))) (fun _ hk => hk.2)) (fun _ h_ => h_.1)))).2.2⟩, ⟨bO HB⟩⟩
 case rest =>
 clear Zm FM Lg Ex KA NW NY aI aK aN;obtain ⟨kq, bi, rfl, HA, Xp, aj, ai, zM, Ah, ae, aT, HB⟩ := hcut
 cases kq with
 | zero => exact absurd HA.out (by simp [yC.j0])
 | succ kj4 =>
  have H := HA.out;clear HA;simp only [yC.j0] at H
  by_cases Mx : bi = true
  ·
   subst Mx;rw [if_pos rfl] at H;simp only [Option.some.injEq, Prod.mk.injEq] at H;obtain ⟨rfl, rfl, rfl, rfl, rfl, rfl, rfl, rfl, rfl, rfl, rfl, rfl⟩ := H;have Y7 := az.out;have Y8 := aA.out;have Y9 := ak.out;have Ya := au.out;have a1j := Dt Ah;have a1k := bf Ah
   go_wp2
   refine bodyPost_ret (Bg rfl _ _ CB 102 #[.int .i64 0, .slice none 0 0, .int .i64 0, .int .i64 0, .int .i64 0, .int .i64 0, .int .i64 0, .slice none 0 0, .slice none 0 0, .int .i64 0, .int .i64 0] (0, 0) _ rfl (CF Ah rfl) Try.underlying102 rfl (by kernel_rfl)) rfl ?_
   exact ⟨_, _, _, by rfl, Kd.EJ _ _ _ _ _, Kd.EJ _ _ _ _ _, Kd.EJ _ _ _ _ _, bO HB⟩
  ·
   replace Mx := Bool.eq_false_iff.mpr Mx;subst Mx
   rw [if_neg (show ¬ (false = true) by decide)] at H
   have bv := yf.mk H;clear H;have fP := aA.out;have fA := az.out;have a1l := af.out;have a1m := av.out;have Yb := AR zM;have Yc := bf zM;have a1n := au.out;have a1o := ak.out;have gN := Dt ae;have gH := bf ae
   go_upto_region 9 with (fail)
   go_cut [97] (fun v97 wc => ∃ (kq : Nat) (bq : Bool), v97 = .bool bq ∧ yf (yC.j1 kq bq yn yg yo yt yn yg yo yt ((yT yg 0).length : Int) t206 (yg.length : Int) (wrap64 (yo * t206)) (wrap64 ((wrap64 (yo * t206)) + yt)) = some (r1, r2, r3, r4, r5, r6, r7, r8, r9, aU, aY, aW)) ∧ yf (kq ≤ kj4) ∧ yf (Kd.V (Kd.slice 3 (Kd.int .i64)) 63 wc w.heap.size (fun k_ => (EK k_ ∨ w.heap.size ≤ k_) ∧ k_ ≠ Cz ∧ k_ ≠ CB ∧ k_ ≠ aa) (.slice (some ag) yg.length yI) yg) ∧ yf (Kd.V (Kd.slice 3 (Kd.int .i64)) 63 wc w.heap.size (fun k_ => (EK k_ ∨ w.heap.size ≤ k_) ∧ k_ ≠ Cz ∧ k_ ≠ CB ∧ k_ ≠ aa) (.slice (some ag) yg.length yI) yg) ∧ yf (wc.heap[Cz]? = some (.cells #[.int .i64 yn, (.slice (some ag) yg.length yI), .int .i64 yo, .int .i64 yt] 31 (0, 0))) ∧ yf (wc.heap[CB]? = some (.cells #[.int .i64 0, (.slice none 0 0), .int .i64 0, .int .i64 0, .int .i64 0, .int .i64 0, .int .i64 0, (.slice none 0 0), (.slice none 0 0), .int .i64 0, .int .i64 0] 102 (0, 0))) ∧ yf (wc.heap[aa]? = some (.cells #[.int .i64 yn, (.slice (some ag) yg.length yI), .int .i64 yo, .int .i64 yt, .int .i64 ((yT yg 0).length : Int), .int .i64 t206, .int .i64 (yg.length : Int), (.slice none 0 0), (.slice none 0 0), .int .i64 (wrap64 (yo * t206)), .int .i64 (wrap64 ((wrap64 (yo * t206)) + yt))] 102 (0, 0))) ∧ yf (Below w.heap.size w wc))
   case first =>
    have H := bv.out;clear bv
    by_cases aM : (wrap64 (yo * (yg.length : Int))) > 4096
    ·
     rw [if_pos aM] at H;have dC := decide_eq_true aM;clear aM
     (skip)
     have H' := yf.mk H;clear H
     try go_wp2
     have Bt : yf (Kd.V (Kd.slice 3 (Kd.int .i64)) 63 ((wc.setCell ⟨aa, 9, none⟩ (.int .i64 (wrap64 (yo * t206)))).setCell ⟨aa, 10, none⟩ (.int .i64 (wrap64 ((wrap64 (yo * t206)) + yt)))) w.heap.size (fun k_ => (EK k_ ∨ w.heap.size ≤ k_) ∧ k_ ≠ Cz ∧ k_ ≠ CB ∧ k_ ≠ aa) (.slice (some ag) yg.length yI) yg) := ⟨by (with_reducible repeat (apply Kd.zh)); exact Kd.yH (E9 (g := aa) (Kd.yH aj.out (fun k_ hk => (⟨hk, hk.2.2.2⟩ : _ ∧ k_ ≠ aa))) (fun _ hk => hk.2)) (fun _ hk => ⟨hk.1.1, ⟨hk.1.2.1, ⟨hk.1.2.2.1, hk.1.2.2.2⟩⟩⟩)⟩
     have Bu : yf (Kd.V (Kd.slice 3 (Kd.int .i64)) 63 ((wc.setCell ⟨aa, 9, none⟩ (.int .i64 (wrap64 (yo * t206)))).setCell ⟨aa, 10, none⟩ (.int .i64 (wrap64 ((wrap64 (yo * t206)) + yt)))) w.heap.size (fun k_ => (EK k_ ∨ w.heap.size ≤ k_) ∧ k_ ≠ Cz ∧ k_ ≠ CB ∧ k_ ≠ aa) (.slice (some ag) yg.length yI) yg) := ⟨by (with_reducible repeat (apply Kd.zh)); exact Kd.yH (E9 (g := aa) (Kd.yH ai.out (fun k_ hk => (⟨hk, hk.2.2.2⟩ : _ ∧ k_ ≠ aa))) (fun _ hk => hk.2)) (fun _ hk => ⟨hk.1.1, ⟨hk.1.2.1, ⟨hk.1.2.2.1, hk.1.2.2.2⟩⟩⟩)⟩
     have BJ : yf (((wc.setCell ⟨aa, 9, none⟩ (.int .i64 (wrap64 (yo * t206)))).setCell ⟨aa, 10, none⟩ (.int .i64 (wrap64 ((wrap64 (yo * t206)) + yt)))).heap[Cz]? = some (.cells #[.int .i64 yn, .slice (some ag) yg.length yI, .int .i64 yo, .int .i64 yt] 31 (0, 0))) := bK zM rfl
     have Cs : yf (((wc.setCell ⟨aa, 9, none⟩ (.int .i64 (wrap64 (yo * t206)))).setCell ⟨aa, 10, none⟩ (.int .i64 (wrap64 ((wrap64 (yo * t206)) + yt)))).heap[CB]? = some (.cells #[.int .i64 0, .slice none 0 0, .int .i64 0, .int .i64 0, .int .i64 0, .int .i64 0, .int .i64 0, .slice none 0 0, .slice none 0 0, .int .i64 0, .int .i64 0] 102 (0, 0))) := bK Ah rfl
     have CJ : yf (((wc.setCell ⟨aa, 9, none⟩ (.int .i64 (wrap64 (yo * t206)))).setCell ⟨aa, 10, none⟩ (.int .i64 (wrap64 ((wrap64 (yo * t206)) + yt)))).heap[aa]? = some (.cells #[.int .i64 yn, .slice (some ag) yg.length yI, .int .i64 yo, .int .i64 yt, .int .i64 ((yT yg 0).length : Int), .int .i64 t206, .int .i64 (yg.length : Int), .slice none 0 0, .slice none 0 0, .int .i64 (wrap64 (yo * t206)), .int .i64 (wrap64 ((wrap64 (yo * t206)) + yt))] 102 (0, 0))) := bK ae rfl
     have Db : yf (Below w.heap.size w ((wc.setCell ⟨aa, 9, none⟩ (.int .i64 (wrap64 (yo * t206)))).setCell ⟨aa, 10, none⟩ (.int .i64 (wrap64 ((wrap64 (yo * t206)) + yt))))) := ⟨bO HB⟩
     clear aj ai zM Ah ae HB;generalize ((wc.setCell ⟨aa, 9, none⟩ (.int .i64 (wrap64 (yo * t206)))).setCell ⟨aa, 10, none⟩ (.int .i64 (wrap64 ((wrap64 (yo * t206)) + yt)))) = w66 at Bt Bu BJ Cs CJ Db ⊢;have aj := Bt;have ai := Bu;have zM := BJ;have Ah := Cs;have ae := CJ;have HB := Db;clear Bt Bu BJ Cs CJ Db;replace aj := yf.mk (Kd.IP aj.out);replace ai := yf.mk (Kd.IP ai.out);replace zM := yf.mk (yZ zM.out);replace Ah := yf.mk (yZ Ah.out);replace ae := yf.mk (yZ ae.out);replace HB := yf.mk (ze HB.out)
     refine AV (n := 22) (S := fun w' => w'.cell? ⟨Cz, 0, none⟩ = some (.int .i64 yn) ∧ w'.cell? ⟨Cz, 1, none⟩ = some (.slice (some ag) yg.length yI) ∧ w'.cell? ⟨Cz, 2, none⟩ = some (.int .i64 yo) ∧ w'.cell? ⟨Cz, 3, none⟩ = some (.int .i64 yt) ∧ w'.cell? ⟨aa, 0, none⟩ = some (.int .i64 yn) ∧ w'.cell? ⟨aa, 1, none⟩ = some (.slice (some ag) yg.length yI) ∧ w'.cell? ⟨aa, 2, none⟩ = some (.int .i64 yo) ∧ w'.cell? ⟨aa, 3, none⟩ = some (.int .i64 yt) ∧ w'.cell? ⟨aa, 4, none⟩ = some (.int .i64 ((yT yg 0).length : Int)) ∧ w'.cell? ⟨aa, 5, none⟩ = some (.int .i64 t206) ∧ w'.cell? ⟨aa, 6, none⟩ = some (.int .i64 (yg.length : Int)) ∧ w'.cell? ⟨aa, 7, none⟩ = some (.slice none 0 0) ∧ w'.cell? ⟨aa, 8, none⟩ = some (.slice none 0 0) ∧ w'.cell? ⟨aa, 9, none⟩ = some (.int .i64 (wrap64 (yo * t206))) ∧ w'.cell? ⟨aa, 10, none⟩ = some (.int .i64 (wrap64 ((wrap64 (yo * t206)) + yt)))) (ds := []) (bz 22 0) (by kernel_rfl) rfl rfl (Ld zM (Dt ae)) (fun hHeld => ?_); refine zQ yC.P5 yC.Ke (fun yD AZ => ?_)
     generalize w66.drew = w67 at aj ai zM Ah ae HB hHeld ⊢;refine pU 0 76 22 1 yD ?_;refine pU 2 78 22 5 yD ?_
     refine BQ 1 77 22 7 yD AZ hHeld ?_
     refine BQ 3 79 22 15 yD AZ hHeld ?_
     refine pU 4 80 22 31 yD ?_;refine pU 5 81 22 63 yD ?_;refine pU 6 82 22 127 yD ?_;refine pN 7 83 22 255 yD ?_;refine pN 8 84 22 511 yD ?_;refine pN 9 85 22 1023 yD ?_;refine pN 10 86 22 2047 yD ?_;refine pN 11 87 22 4095 yD ?_;refine pN 12 88 22 8191 yD ?_;refine pN 13 89 22 16383 yD ?_;refine pN 14 90 22 32767 yD ?_;refine pN 15 91 22 65535 yD ?_;refine pU 16 92 22 131071 yD ?_;refine pU 17 93 22 262143 yD ?_;refine pN 18 94 22 524287 yD ?_;refine pN 19 95 22 1048575 yD ?_;refine pN 20 96 22 2097151 yD ?_;refine pU 21 97 22 4194303 yD ?_
     refine BI (Az yD.out (by kernel_rfl)) ?_
     try go_wp2
     go_meet
     case rel => exact ⟨_, (true), (by rfl), H', ⟨by have := Xp.out; omega⟩, ⟨kV aj⟩, ⟨kV ai⟩, ⟨kk zM⟩, ⟨kk Ah⟩, ⟨kk ae⟩, ⟨bO HB⟩⟩
    ·
     rw [if_neg aM] at H;have dC := decide_eq_false aM;clear aM
     (skip)
     obtain ⟨Mw, A68, H⟩ := bE H
     try dsimp only at H
     by_cases V8 : (wrap64 ((wrap64 (yo * (yg.length : Int))) * Mw)) > 65536
     ·
      rw [if_pos V8] at H;have dh := decide_eq_true V8;clear V8;have H' := yf.mk H;clear H
      try go_wp2
      have Bt : yf (Kd.V (Kd.slice 3 (Kd.int .i64)) 63 ((wc.setCell ⟨aa, 9, none⟩ (.int .i64 (wrap64 (yo * t206)))).setCell ⟨aa, 10, none⟩ (.int .i64 (wrap64 ((wrap64 (yo * t206)) + yt)))) w.heap.size (fun k_ => (EK k_ ∨ w.heap.size ≤ k_) ∧ k_ ≠ Cz ∧ k_ ≠ CB ∧ k_ ≠ aa) (.slice (some ag) yg.length yI) yg) := ⟨by (with_reducible repeat (apply Kd.zh)); exact Kd.yH (E9 (g := aa) (Kd.yH aj.out (fun k_ hk => (⟨hk, hk.2.2.2⟩ : _ ∧ k_ ≠ aa))) (fun _ hk => hk.2)) (fun _ hk => ⟨hk.1.1, ⟨hk.1.2.1, ⟨hk.1.2.2.1, hk.1.2.2.2⟩⟩⟩)⟩
      have Bu : yf (Kd.V (Kd.slice 3 (Kd.int .i64)) 63 ((wc.setCell ⟨aa, 9, none⟩ (.int .i64 (wrap64 (yo * t206)))).setCell ⟨aa, 10, none⟩ (.int .i64 (wrap64 ((wrap64 (yo * t206)) + yt)))) w.heap.size (fun k_ => (EK k_ ∨ w.heap.size ≤ k_) ∧ k_ ≠ Cz ∧ k_ ≠ CB ∧ k_ ≠ aa) (.slice (some ag) yg.length yI) yg) := ⟨by (with_reducible repeat (apply Kd.zh)); exact Kd.yH (E9 (g := aa) (Kd.yH ai.out (fun k_ hk => (⟨hk, hk.2.2.2⟩ : _ ∧ k_ ≠ aa))) (fun _ hk => hk.2)) (fun _ hk => ⟨hk.1.1, ⟨hk.1.2.1, ⟨hk.1.2.2.1, hk.1.2.2.2⟩⟩⟩)⟩
      have BJ : yf (((wc.setCell ⟨aa, 9, none⟩ (.int .i64 (wrap64 (yo * t206)))).setCell ⟨aa, 10, none⟩ (.int .i64 (wrap64 ((wrap64 (yo * t206)) + yt)))).heap[Cz]? = some (.cells #[.int .i64 yn, .slice (some ag) yg.length yI, .int .i64 yo, .int .i64 yt] 31 (0, 0))) := bK zM rfl
      have Cs : yf (((wc.setCell ⟨aa, 9, none⟩ (.int .i64 (wrap64 (yo * t206)))).setCell ⟨aa, 10, none⟩ (.int .i64 (wrap64 ((wrap64 (yo * t206)) + yt)))).heap[CB]? = some (.cells #[.int .i64 0, .slice none 0 0, .int .i64 0, .int .i64 0, .int .i64 0, .int .i64 0, .int .i64 0, .slice none 0 0, .slice none 0 0, .int .i64 0, .int .i64 0] 102 (0, 0))) := bK Ah rfl
      have CJ : yf (((wc.setCell ⟨aa, 9, none⟩ (.int .i64 (wrap64 (yo * t206)))).setCell ⟨aa, 10, none⟩ (.int .i64 (wrap64 ((wrap64 (yo * t206)) + yt)))).heap[aa]? = some (.cells #[.int .i64 yn, .slice (some ag) yg.length yI, .int .i64 yo, .int .i64 yt, .int .i64 ((yT yg 0).length : Int), .int .i64 t206, .int .i64 (yg.length : Int), .slice none 0 0, .slice none 0 0, .int .i64 (wrap64 (yo * t206)), .int .i64 (wrap64 ((wrap64 (yo * t206)) + yt))] 102 (0, 0))) := bK ae rfl
      have Db : yf (Below w.heap.size w ((wc.setCell ⟨aa, 9, none⟩ (.int .i64 (wrap64 (yo * t206)))).setCell ⟨aa, 10, none⟩ (.int .i64 (wrap64 ((wrap64 (yo * t206)) + yt))))) := ⟨bO HB⟩
      clear aj ai zM Ah ae HB;generalize ((wc.setCell ⟨aa, 9, none⟩ (.int .i64 (wrap64 (yo * t206)))).setCell ⟨aa, 10, none⟩ (.int .i64 (wrap64 ((wrap64 (yo * t206)) + yt)))) = w70 at Bt Bu BJ Cs CJ Db ⊢;have aj := Bt;have ai := Bu;have zM := BJ;have Ah := Cs;have ae := CJ;have HB := Db;clear Bt Bu BJ Cs CJ Db;replace aj := yf.mk (Kd.IP aj.out);replace ai := yf.mk (Kd.IP ai.out);replace zM := yf.mk (yZ zM.out);replace Ah := yf.mk (yZ Ah.out);replace ae := yf.mk (yZ ae.out);replace HB := yf.mk (ze HB.out)
      refine AV (n := 22) (S := fun w' => w'.cell? ⟨Cz, 0, none⟩ = some (.int .i64 yn) ∧ w'.cell? ⟨Cz, 1, none⟩ = some (.slice (some ag) yg.length yI) ∧ w'.cell? ⟨Cz, 2, none⟩ = some (.int .i64 yo) ∧ w'.cell? ⟨Cz, 3, none⟩ = some (.int .i64 yt) ∧ w'.cell? ⟨aa, 0, none⟩ = some (.int .i64 yn) ∧ w'.cell? ⟨aa, 1, none⟩ = some (.slice (some ag) yg.length yI) ∧ w'.cell? ⟨aa, 2, none⟩ = some (.int .i64 yo) ∧ w'.cell? ⟨aa, 3, none⟩ = some (.int .i64 yt) ∧ w'.cell? ⟨aa, 4, none⟩ = some (.int .i64 ((yT yg 0).length : Int)) ∧ w'.cell? ⟨aa, 5, none⟩ = some (.int .i64 t206) ∧ w'.cell? ⟨aa, 6, none⟩ = some (.int .i64 (yg.length : Int)) ∧ w'.cell? ⟨aa, 7, none⟩ = some (.slice none 0 0) ∧ w'.cell? ⟨aa, 8, none⟩ = some (.slice none 0 0) ∧ w'.cell? ⟨aa, 9, none⟩ = some (.int .i64 (wrap64 (yo * t206))) ∧ w'.cell? ⟨aa, 10, none⟩ = some (.int .i64 (wrap64 ((wrap64 (yo * t206)) + yt)))) (ds := []) (bz 22 0) (by kernel_rfl) rfl rfl (Ld zM (Dt ae)) (fun hHeld => ?_); refine zQ yC.P5 yC.Ke (fun yD AZ => ?_)
      generalize w70.drew = w71 at aj ai zM Ah ae HB hHeld ⊢;refine pU 0 76 22 1 yD ?_;refine pU 2 78 22 5 yD ?_
      refine BQ 1 77 22 7 yD AZ hHeld ?_
      refine BQ 3 79 22 15 yD AZ hHeld ?_
      refine pU 4 80 22 31 yD ?_;refine pU 5 81 22 63 yD ?_;refine pU 6 82 22 127 yD ?_;refine pU 7 83 22 255 yD ?_;refine pU 9 85 22 767 yD ?_
      refine BQ 8 84 22 1023 yD AZ hHeld ?_
      refine BQ 10 86 22 2047 yD AZ hHeld ?_
      refine pU 11 87 22 4095 yD ?_
      refine BQ 12 88 22 8191 yD AZ hHeld ?_
      refine BP (i := 13) (N := some 89) (bz 22 16383) rfl rfl (Af yD.out (by kernel_rfl)) (by decide) (fun K hK => ?_)
      refine gO Try.func80 #[.agg #[.int .i64 yn, .slice (some ag) yg.length yI, .int .i64 yo, .int .i64 yt, .int .i64 ((yT yg 0).length : Int), .int .i64 t206, .int .i64 (yg.length : Int), .slice none 0 0, .slice none 0 0, .int .i64 (wrap64 (yo * t206)), .int .i64 (wrap64 ((wrap64 (yo * t206)) + yt))]] ?_
      refine (Cx.calls yn _ _ yg yo yt ((yT yg 0).length : Int) t206 (yg.length : Int) _ _ ([] : List (List Int)) _ _ ([] : List (List Int)) (wrap64 (yo * t206)) (wrap64 ((wrap64 (yo * t206)) + yt)) Mw _ ?yF ?yM ?zI ?zJ ?CO ?CP A68.out).mono ?_
      (case yF => exact KQ ai)
      (case yM => exact (Kd.zx ai.out).2.1)
      (case zI => exact Kd.Gs _ _)
      (case zJ => exact Nat.le_refl _)
      (case CO => exact Kd.Gs _ _)
      (case CP => exact Nat.le_refl _)
      rintro e w72 ⟨rfl, hb⟩
      refine ⟨_, rfl, ?_⟩
      replace aj := KP aj hb;replace ai := KP ai hb;replace zM := bB zM hb;replace Ah := bB Ah hb;replace ae := bB ae hb;replace HB := bS HB hb;clear hb
      refine hK.out _ _ (Ld zM (Dt ae)) (fun hHeld => ?_)
      clear hK K
      refine Aj (a' := ?_) ?_ ?_
      rotate_left
      ·
       show Act.put _ (some 89) _ = _
       simp only [pz]
       rfl
      refine pU 14 90 22 32767 yD ?_;refine pU 15 91 22 65535 yD ?_;refine pU 16 92 22 131071 yD ?_;refine pU 17 93 22 262143 yD ?_;refine pN 18 94 22 524287 yD ?_;refine pN 19 95 22 1048575 yD ?_;refine pN 20 96 22 2097151 yD ?_;refine pU 21 97 22 4194303 yD ?_
      refine BI (Az yD.out (by kernel_rfl)) ?_
      try go_wp2
      go_meet
      case rel => exact ⟨_, (true), (by rfl), H', ⟨by have := Xp.out; omega⟩, ⟨kV aj⟩, ⟨kV ai⟩, ⟨kk zM⟩, ⟨kk Ah⟩, ⟨kk ae⟩, ⟨bO HB⟩⟩
     ·
      rw [if_neg V8] at H;have dh := decide_eq_false V8;clear V8;have H' := yf.mk H;clear H
      try go_wp2
      have Bt : yf (Kd.V (Kd.slice 3 (Kd.int .i64)) 63 ((wc.setCell ⟨aa, 9, none⟩ (.int .i64 (wrap64 (yo * t206)))).setCell ⟨aa, 10, none⟩ (.int .i64 (wrap64 ((wrap64 (yo * t206)) + yt)))) w.heap.size (fun k_ => (EK k_ ∨ w.heap.size ≤ k_) ∧ k_ ≠ Cz ∧ k_ ≠ CB ∧ k_ ≠ aa) (.slice (some ag) yg.length yI) yg) := ⟨by (with_reducible repeat (apply Kd.zh)); exact Kd.yH (E9 (g := aa) (Kd.yH aj.out (fun k_ hk => (⟨hk, hk.2.2.2⟩ : _ ∧ k_ ≠ aa))) (fun _ hk => hk.2)) (fun _ hk => ⟨hk.1.1, ⟨hk.1.2.1, ⟨hk.1.2.2.1, hk.1.2.2.2⟩⟩⟩)⟩
      have Bu : yf (Kd.V (Kd.slice 3 (Kd.int .i64)) 63 ((wc.setCell ⟨aa, 9, none⟩ (.int .i64 (wrap64 (yo * t206)))).setCell ⟨aa, 10, none⟩ (.int .i64 (wrap64 ((wrap64 (yo * t206)) + yt)))) w.heap.size (fun k_ => (EK k_ ∨ w.heap.size ≤ k_) ∧ k_ ≠ Cz ∧ k_ ≠ CB ∧ k_ ≠ aa) (.slice (some ag) yg.length yI) yg) := ⟨by (with_reducible repeat (apply Kd.zh)); exact Kd.yH (E9 (g := aa) (Kd.yH ai.out (fun k_ hk => (⟨hk, hk.2.2.2⟩ : _ ∧ k_ ≠ aa))) (fun _ hk => hk.2)) (fun _ hk => ⟨hk.1.1, ⟨hk.1.2.1, ⟨hk.1.2.2.1, hk.1.2.2.2⟩⟩⟩)⟩
      have BJ : yf (((wc.setCell ⟨aa, 9, none⟩ (.int .i64 (wrap64 (yo * t206)))).setCell ⟨aa, 10, none⟩ (.int .i64 (wrap64 ((wrap64 (yo * t206)) + yt)))).heap[Cz]? = some (.cells #[.int .i64 yn, .slice (some ag) yg.length yI, .int .i64 yo, .int .i64 yt] 31 (0, 0))) := bK zM rfl
      have Cs : yf (((wc.setCell ⟨aa, 9, none⟩ (.int .i64 (wrap64 (yo * t206)))).setCell ⟨aa, 10, none⟩ (.int .i64 (wrap64 ((wrap64 (yo * t206)) + yt)))).heap[CB]? = some (.cells #[.int .i64 0, .slice none 0 0, .int .i64 0, .int .i64 0, .int .i64 0, .int .i64 0, .int .i64 0, .slice none 0 0, .slice none 0 0, .int .i64 0, .int .i64 0] 102 (0, 0))) := bK Ah rfl
      have CJ : yf (((wc.setCell ⟨aa, 9, none⟩ (.int .i64 (wrap64 (yo * t206)))).setCell ⟨aa, 10, none⟩ (.int .i64 (wrap64 ((wrap64 (yo * t206)) + yt)))).heap[aa]? = some (.cells #[.int .i64 yn, .slice (some ag) yg.length yI, .int .i64 yo, .int .i64 yt, .int .i64 ((yT yg 0).length : Int), .int .i64 t206, .int .i64 (yg.length : Int), .slice none 0 0, .slice none 0 0, .int .i64 (wrap64 (yo * t206)), .int .i64 (wrap64 ((wrap64 (yo * t206)) + yt))] 102 (0, 0))) := bK ae rfl
      have Db : yf (Below w.heap.size w ((wc.setCell ⟨aa, 9, none⟩ (.int .i64 (wrap64 (yo * t206)))).setCell ⟨aa, 10, none⟩ (.int .i64 (wrap64 ((wrap64 (yo * t206)) + yt))))) := ⟨bO HB⟩
      clear aj ai zM Ah ae HB;generalize ((wc.setCell ⟨aa, 9, none⟩ (.int .i64 (wrap64 (yo * t206)))).setCell ⟨aa, 10, none⟩ (.int .i64 (wrap64 ((wrap64 (yo * t206)) + yt)))) = w73 at Bt Bu BJ Cs CJ Db ⊢;have aj := Bt;have ai := Bu;have zM := BJ;have Ah := Cs;have ae := CJ;have HB := Db;clear Bt Bu BJ Cs CJ Db;replace aj := yf.mk (Kd.IP aj.out);replace ai := yf.mk (Kd.IP ai.out);replace zM := yf.mk (yZ zM.out);replace Ah := yf.mk (yZ Ah.out);replace ae := yf.mk (yZ ae.out);replace HB := yf.mk (ze HB.out)
      refine AV (n := 22) (S := fun w' => w'.cell? ⟨Cz, 0, none⟩ = some (.int .i64 yn) ∧ w'.cell? ⟨Cz, 1, none⟩ = some (.slice (some ag) yg.length yI) ∧ w'.cell? ⟨Cz, 2, none⟩ = some (.int .i64 yo) ∧ w'.cell? ⟨Cz, 3, none⟩ = some (.int .i64 yt) ∧ w'.cell? ⟨aa, 0, none⟩ = some (.int .i64 yn) ∧ w'.cell? ⟨aa, 1, none⟩ = some (.slice (some ag) yg.length yI) ∧ w'.cell? ⟨aa, 2, none⟩ = some (.int .i64 yo) ∧ w'.cell? ⟨aa, 3, none⟩ = some (.int .i64 yt) ∧ w'.cell? ⟨aa, 4, none⟩ = some (.int .i64 ((yT yg 0).length : Int)) ∧ w'.cell? ⟨aa, 5, none⟩ = some (.int .i64 t206) ∧ w'.cell? ⟨aa, 6, none⟩ = some (.int .i64 (yg.length : Int)) ∧ w'.cell? ⟨aa, 7, none⟩ = some (.slice none 0 0) ∧ w'.cell? ⟨aa, 8, none⟩ = some (.slice none 0 0) ∧ w'.cell? ⟨aa, 9, none⟩ = some (.int .i64 (wrap64 (yo * t206))) ∧ w'.cell? ⟨aa, 10, none⟩ = some (.int .i64 (wrap64 ((wrap64 (yo * t206)) + yt)))) (ds := []) (bz 22 0) (by kernel_rfl) rfl rfl (Ld zM (Dt ae)) (fun hHeld => ?_); refine zQ yC.P5 yC.Ke (fun yD AZ => ?_)
      generalize w73.drew = w74 at aj ai zM Ah ae HB hHeld ⊢;refine pU 0 76 22 1 yD ?_;refine pU 2 78 22 5 yD ?_
      refine BQ 1 77 22 7 yD AZ hHeld ?_
      refine BQ 3 79 22 15 yD AZ hHeld ?_
      refine pU 4 80 22 31 yD ?_;refine pU 5 81 22 63 yD ?_;refine pU 6 82 22 127 yD ?_;refine pU 7 83 22 255 yD ?_;refine pU 9 85 22 767 yD ?_
      refine BQ 8 84 22 1023 yD AZ hHeld ?_
      refine BQ 10 86 22 2047 yD AZ hHeld ?_
      refine pU 11 87 22 4095 yD ?_
      refine BQ 12 88 22 8191 yD AZ hHeld ?_
      refine BP (i := 13) (N := some 89) (bz 22 16383) rfl rfl (Af yD.out (by kernel_rfl)) (by decide) (fun K hK => ?_)
      refine gO Try.func80 #[.agg #[.int .i64 yn, .slice (some ag) yg.length yI, .int .i64 yo, .int .i64 yt, .int .i64 ((yT yg 0).length : Int), .int .i64 t206, .int .i64 (yg.length : Int), .slice none 0 0, .slice none 0 0, .int .i64 (wrap64 (yo * t206)), .int .i64 (wrap64 ((wrap64 (yo * t206)) + yt))]] ?_
      refine (Cx.calls yn _ _ yg yo yt ((yT yg 0).length : Int) t206 (yg.length : Int) _ _ ([] : List (List Int)) _ _ ([] : List (List Int)) (wrap64 (yo * t206)) (wrap64 ((wrap64 (yo * t206)) + yt)) Mw _ ?yF ?yM ?zI ?zJ ?CO ?CP A68.out).mono ?_
      (case yF => exact KQ ai)
      (case yM => exact (Kd.zx ai.out).2.1)
      (case zI => exact Kd.Gs _ _)
      (case zJ => exact Nat.le_refl _)
      (case CO => exact Kd.Gs _ _)
      (case CP => exact Nat.le_refl _)
      rintro e w75 ⟨rfl, hb⟩
      refine ⟨_, rfl, ?_⟩
      replace aj := KP aj hb;replace ai := KP ai hb;replace zM := bB zM hb;replace Ah := bB Ah hb;replace ae := bB ae hb;replace HB := bS HB hb;clear hb
      refine hK.out _ _ (Ld zM (Dt ae)) (fun hHeld => ?_)
      clear hK K
      refine Aj (a' := ?_) ?_ ?_
      rotate_left
      ·
       show Act.put _ (some 89) _ = _
       simp only [pz]
       rfl
      refine pU 14 90 22 32767 yD ?_;refine pU 15 91 22 65535 yD ?_;refine pU 16 92 22 131071 yD ?_;refine pU 17 93 22 262143 yD ?_;refine pU 18 94 22 524287 yD ?_
      refine BQ 19 95 22 1048575 yD AZ hHeld ?_
      refine pU 20 96 22 2097151 yD ?_;refine pU 21 97 22 4194303 yD ?_
      refine BI (Az yD.out (by kernel_rfl)) ?_
      try go_wp2
      go_meet
      case rel => exact ⟨_, (decide ((wrap64 ((wrap64 (yo * t206)) + yt)) > 65536)), (by rfl), H', ⟨by have := Xp.out; omega⟩, ⟨kV aj⟩, ⟨kV ai⟩, ⟨kk zM⟩, ⟨kk Ah⟩, ⟨kk ae⟩, ⟨bO HB⟩⟩
   case rest =>
    clear bv;obtain ⟨kq, bq, rfl, HA, gV, aj, ai, zM, Ah, ae, HB⟩ := hcut
    cases kq with
    | zero => exact absurd HA.out (by simp [yC.j1])
    | succ fO =>
     have H := HA.out;clear HA;simp only [yC.j1] at H
     by_cases c76 : bq = true
     ·
      subst c76;rw [if_pos rfl] at H;simp only [Option.some.injEq, Prod.mk.injEq] at H;obtain ⟨rfl, rfl, rfl, rfl, rfl, rfl, rfl, rfl, rfl, rfl, rfl, rfl⟩ := H;have a1p := az.out;have a1q := aA.out;have V9 := ak.out;have Va := au.out;have a1r := Dt Ah;have a1s := bf Ah
      go_wp2
      refine bodyPost_ret (Bg rfl _ _ CB 102 #[.int .i64 0, .slice none 0 0, .int .i64 0, .int .i64 0, .int .i64 0, .int .i64 0, .int .i64 0, .slice none 0 0, .slice none 0 0, .int .i64 0, .int .i64 0] (0, 0) _ rfl (CF Ah rfl) Try.underlying102 rfl (by kernel_rfl)) rfl ?_
      exact ⟨_, _, _, by rfl, Kd.EJ _ _ _ _ _, Kd.EJ _ _ _ _ _, Kd.EJ _ _ _ _ _, bO HB⟩
     ·
      replace c76 := Bool.eq_false_iff.mpr c76;subst c76
      rw [if_neg (show ¬ (false = true) by decide)] at H
      by_cases c80 : 0 ≤ yn
      ·
       rw [if_pos c80] at H;have a1t := eq_true c80;have a1u := decide_eq_true c80;clear c80
       by_cases aX : (yn : Int).toNat ≤ 11728124029610
       ·
        rw [if_pos aX] at H;have gq := eq_true aX;have iE := decide_eq_true aX;clear aX
        have hmk : MOk yn yg := by
         unfold layout_measure_fin at H
         split at H
         · assumption
         · cases H
        unfold layout_measure_fin at H
        rw [if_pos hmk] at H;simp only [Option.some.injEq, Prod.mk.injEq] at H;obtain ⟨rfl, rfl, rfl, rfl, rfl, rfl, rfl, rfl, rfl, rfl, rfl, rfl⟩ := H;have HMK := yf.mk hmk;clear hmk;have HR := yf.mk (Kd.zx IE).2.2;have HS0 := yf.mk IE;clear IE;obtain ⟨ax, bV⟩ : ∃ y_ : List (List Int), y_ = (List.replicate (yn : Int).toNat []) := ⟨_, rfl⟩;have bC := yf.mk bV;clear bV;have gK := aA.out;have eZ := az.out;have a1v := af.out;have a1w := av.out;have dZ := AR zM;have dL := bf zM
        go_wp2_with (((with_reducible refine yK (N := 102) rfl ?_); refine Kd.YX (Kd.slice 3 (Kd.int .i64)) _ 63 rfl (N := 102) rfl 27 _ _ rfl yn rfl rfl Try.underlying27 (.slice none 0 0) 24 NK rfl (by decide) (by omega) [] (ok := fun _ => True) (okp := fun _ => True) ⟨_, rfl, Kd.Dh _ _ _ _ _⟩ (fun _ hk => hk) trivial (of_decide_eq_true ‹_›) (Nat.le_trans (Nat.mul_le_mul_right _ (of_decide_eq_true ‹_› : yn.toNat ≤ 11728124029610)) (by omega)) (Below.refl _ _) (Nat.le_refl _) ?_; intro v213 w85 aZ hb H5 CG; clear H5 CG; (rw [← bC.out] at aZ); replace aj := yf.mk (Kd.Cm (kV aj) (Kd.Q4 aZ) hb); replace ai := yf.mk (Kd.Cm (kV ai) (Kd.Q4 aZ) hb); have cK := yf.mk (Kd.Fy (Kd.Zc (M := fun k_ => (w.heap.size ≤ k_)) aZ (yJ (bO HB)) (fun k_ h_ => h_)) (yJ (bO HB))); replace zM := bB zM hb; replace Ah := bB Ah hb; replace ae := bB ae hb; replace HB := bS HB hb; clear hb aZ; obtain ⟨aJ, aG, dA⟩ := Kd.Es cK.out; subst dA; have iw := au.out; have gF := ak.out; have ed := Dt ae; have gI := bf ae; have fG := AR zM; have gU := bf zM))
        have HT0 := yf.mk (IU.start cK.out);have HYL := yf.mk (show ax.length = yn.toNat by rw [bC.out, List.length_replicate])
        go_loopg [108] yg.length (fun kq v108 w' => ∃ (i : Nat) (vr : Value), v108 = .int .i64 (i : Int) ∧ yf (i ≤ yg.length ∧ kq = yg.length - i) ∧ yf (IU w' w.heap.size (E5 yn.toNat yg i).1 (.slice aJ ax.length aG) (E5 yn.toNat yg i).2 vr [] (.slice none 0 0)) ∧ yf (w'.heap[Cz]? = some (.cells #[.int .i64 yn, (.slice (some ag) yg.length yI), .int .i64 yo, .int .i64 yt] 31 (0, 0))) ∧ yf (w'.heap[CB]? = some (.cells #[.int .i64 0, (.slice none 0 0), .int .i64 0, .int .i64 0, .int .i64 0, .int .i64 0, .int .i64 0, (.slice none 0 0), (.slice none 0 0), .int .i64 0, .int .i64 0] 102 (0, 0))) ∧ yf (w'.heap[aa]? = some (.cells #[.int .i64 yn, (.slice (some ag) yg.length yI), .int .i64 yo, .int .i64 yt, .int .i64 ((yT yg 0).length : Int), .int .i64 t206, .int .i64 (yg.length : Int), vr, (.slice aJ ax.length aG), .int .i64 (wrap64 (yo * t206)), .int .i64 (wrap64 ((wrap64 (yo * t206)) + yt))] 102 (0, 0))) ∧ yf (Below w.heap.size w w'))
        case atStart =>
         refine ⟨0, .slice none 0 0, rfl, ⟨Nat.zero_le _, by omega⟩, ⟨?_⟩, bK zM rfl, bK Ah rfl, bK ae rfl, ⟨bO HB⟩⟩
         rw [Hy, ← bC.out]
         exact IU.far (p := ⟨aa, 8, none⟩) HT0.out ae.out (by decide) (by decide) _
        case round =>
         clear zM Ah ae HB HT0;obtain ⟨i, vr, rfl, HI, HT, zM, Ah, ae, HB⟩ := hrel;have bN := AR zM;have cZ := bf zM
         by_cases c1 : i < yg.length
         · have c1b : decide ((i : Int) < (yg.length : Int)) = true := decide_eq_true (by omega)
           have p1 : 0 ≤ (i : Int) := by omega
           have q1 : (i : Int) < (yg.length : Int) := by omega
           have HL := yf.mk c1
           obtain ⟨k1, rfl⟩ : ∃ k1, gk = k1 + 1 := ⟨gk - 1, by have := HI.out.2; omega⟩
           clear c1;obtain ⟨ZC, A1, n1, e1, hx1, hl1, hr1⟩ := Dw HR.out (i : Int) p1 q1;cases e1;rw [Int.toNat_natCast] at hx1;replace hx1 := cB HB hx1;obtain ⟨g, hg⟩ : ∃ g, yT yg (i : Int) = g := ⟨_, rfl⟩;rw [hg] at hx1
           have HRG : yf ((Kd.int .i64).C w A1 g.length g) := ⟨hg ▸ hr1⟩
           have HGE : yf (yg[i]'HL.out = g) := ⟨by rw [← hg]; unfold yT; rw [Int.toNat_natCast, getD_at _ _ _ HL.out]⟩
           clear hg hr1 hl1;replace p1 := eq_true p1;replace q1 := eq_true q1
           go_wp2
           clear hx1 bN cZ
           go_loopg [10, 115] g.length (fun kq v10 v115 w' => ∃ (j : Nat), v115 = .int .i64 (j : Int) ∧ yf (j ≤ g.length ∧ kq = g.length - j) ∧ yf (IU w' w.heap.size (TH i (g.take j) (E5 yn.toNat yg i).1).1 (.slice aJ ax.length aG) (E5 yn.toNat yg i).2 vr (TH i (g.take j) (E5 yn.toNat yg i).1).2 v10) ∧ yf (w'.heap[Cz]? = some (.cells #[.int .i64 yn, (.slice (some ag) yg.length yI), .int .i64 yo, .int .i64 yt] 31 (0, 0))) ∧ yf (w'.heap[CB]? = some (.cells #[.int .i64 0, (.slice none 0 0), .int .i64 0, .int .i64 0, .int .i64 0, .int .i64 0, .int .i64 0, (.slice none 0 0), (.slice none 0 0), .int .i64 0, .int .i64 0] 102 (0, 0))) ∧ yf (w'.heap[aa]? = some (.cells #[.int .i64 yn, (.slice (some ag) yg.length yI), .int .i64 yo, .int .i64 yt, .int .i64 ((yT yg 0).length : Int), .int .i64 t206, .int .i64 (yg.length : Int), vr, (.slice aJ ax.length aG), .int .i64 (wrap64 (yo * t206)), .int .i64 (wrap64 ((wrap64 (yo * t206)) + yt))] 102 (0, 0))) ∧ yf (Below w.heap.size w w'))
           case atStart => exact ⟨0, rfl, ⟨Nat.zero_le _, by omega⟩, HT, zM, Ah, ae, HB⟩
           case round =>
            clear HT zM Ah ae HB;obtain ⟨j, rfl, HJ, HT, zM, Ah, ae, HB⟩ := hrel
            by_cases c2 : j < g.length
            · have c2b : decide ((j : Int) < (g.length : Int)) = true := decide_eq_true (by omega)
              have p2 : 0 ≤ (j : Int) := by omega
              have q2 : (j : Int) < (g.length : Int) := by omega
              have HJL := yf.mk c2
              obtain ⟨k2, rfl⟩ : ∃ k2, gk = k2 + 1 := ⟨gk - 1, by have := HJ.out.2; omega⟩
              clear c2
              have hgL : g ∈ yg := HGE.out ▸ List.getElem_mem HL.out
              obtain ⟨hj0, hj1⟩ := (HMK.out.2 g hgL).2 g[j] (List.getElem_mem HJL.out)
              obtain ⟨dd, hdd⟩ : ∃ dd : Nat, g[j]'HJL.out = (dd : Int) := ⟨(g[j]'HJL.out).toNat, by omega⟩
              have HBD := (Bd.row _ _ i g _ (Bd.all yn.toNat yg (fun g hg => (HMK.out.2 g hg).1) i (Nat.le_of_lt HL.out)).1 j (Nat.le_of_lt HJL.out))
              have hstep := OU i g (E5 yn.toNat yg i).1 j HJL.out;rw [hdd] at hstep;obtain ⟨aH, bA⟩ : ∃ x, (TH i (g.take j) (E5 yn.toNat yg i).1).1 = x := ⟨_, rfl⟩;obtain ⟨bX, bJ⟩ : ∃ x, (TH i (g.take j) (E5 yn.toNat yg i).1).2 = x := ⟨_, rfl⟩;rw [bA, bJ] at HT HBD;simp only [LD, bA, bJ, Int.toNat_natCast] at hstep;have HSTEP := yf.mk hstep
              have bn : aH.length = ax.length := by rw [HBD.1.1, HYL.out]
              have hddn : dd < ax.length := by rw [HYL.out]; omega
              have hlo : (aH.getD dd []).length + 1 < 1000000 := by have := HBD.1.2 dd; have := HI.out.1; have := HMK.out.1; have dJ := (HMK.out.2 g hgL).1; have := HJL.out; have : i * 60 ≤ 4096 * 60 := Nat.mul_le_mul_right _ (by omega); omega
              have hlr : bX.length + 1 < 1000000 := by have := HBD.2; have dJ := (HMK.out.2 g hgL).1; have := HJL.out; omega
              have HLO := yf.mk hlo;have HLR := yf.mk hlr;have aQ := yf.mk bn;obtain ⟨dE, bo, dD⟩ := IU.head HT.out dd hddn;subst dD;clear dE;have HDDN := yf.mk hddn
              have dx : w.heap.size ≤ bo ∧ ∃ cells, wr.heap[bo]? = some (.cells cells 63 (0, 0)) := by
                have cz := HT.out;rw [← bn] at cz;obtain ⟨_, _, _, _, _, _, PS, _, PT, _⟩ := IU.ZA cz dd (by rw [bn]; exact hddn)
                exact ⟨PS, PT⟩
              obtain ⟨bY, dI, aD⟩ := dx;have HBG := yf.mk bY
              have NBOA : yf (Cz ≠ bo) := ⟨fun e => by rw [← e, zM.out] at aD; injection aD with h_; injection h_ with _ h_; cases h_⟩
              have NBOB : yf (CB ≠ bo) := ⟨fun e => by rw [← e, Ah.out] at aD; injection aD with h_; injection h_ with _ h_; cases h_⟩
              have NBOC : yf (aa ≠ bo) := ⟨fun e => by rw [← e, ae.out] at aD; injection aD with h_; injection h_ with _ h_; cases h_⟩
              clear bY aD dI;obtain ⟨ad2, e2, hx2⟩ := Kd.Bv HRG.out (j : Int) p2 q2;cases e2;rw [Int.toNat_natCast, show rd g (j : Int) = (dd : Int) from (Iu g j HJL.out).trans hdd] at hx2;replace hx2 := cB HB hx2;clear hgL hj0 hj1 hdd hstep bA bJ HBD hlo hlr bn hddn;have HT' := HT.out;rw [← aQ.out] at HT';obtain ⟨oi, vd, hRd, hcd, hfd, bI, bF, hvdbo, hbt, hback⟩ := IU.ZA HT' dd (by rw [aQ.out]; exact HDDN.out);clear hback hfd hvdbo;obtain ⟨Ad, cd, hvd⟩ := Kd.zX hRd;subst hvd;have hwb := World.block_lt_of_cell? _ _ hcd
              have p3 : (0 ≤ (dd : Int)) = True := eq_true (by omega)
              have q3 : ((dd : Int) < (ax.length : Int)) = True := eq_true (by have := HDDN.out; omega)
              replace p2 := eq_true p2;replace q2 := eq_true q2;have bg := Dt ae;have aV := bf ae;clear hRd bI bF hbt HT' hwb;obtain ⟨oO, oR, oT, hS, hR, hT, d1, d2, d3⟩ := HT.out;have HS := yf.mk hS;have HRR := yf.mk hR;have HRT := yf.mk hT;have HD := yf.mk (And.intro d1 (And.intro d2 d3));clear hS hR hT d1 d2 d3
              go_wp2_with (first
                | ((with_reducible refine Bz (b := .append) (xs := #[.tmp 119, .tmp 126]) rfl ?_); at_builtin; refine Kd.El (Kd.int .i64) (w0 := w) w.heap.size rfl (.tmp 119) (.tmp 126) 63 3 (.int .i64 0) 8 rfl Try.underlying63 info3 rfl (by decide) (by omega) _ bX ((aH.getD dd []).length : Int) [.int .i64 ((aH.getD dd []).length : Int)] (fun k_ => oT k_ ∨ wr.heap.size ≤ k_) (fun _ => False) rfl rfl rfl (fun _ hk => hk.elim) (fun k hk => .inr hk) (Kd.zb HRT.out (fun k hk => .inl hk)) HB.out HB.out.size (by have := HLR.out; omega) ?_; intro v1 w1 ho hb hg hat; have HT1 := yf.mk (IU.push HS.out HRR.out HRT.out HD.out.1 HD.out.2.1 HD.out.2.2 ho hg); replace zM := yf.mk (Aa zM.out hg (Kd.Dx HRT.out zM.out (by decide))); replace Ah := yf.mk (Aa Ah.out hg (Kd.Dx HRT.out Ah.out (by decide))); replace ae := yf.mk (Aa ae.out hg (Kd.Dx HRT.out ae.out (by decide))); replace HB := yf.mk hb; clear ho hb hg hat hcd bg aV hx2))
              clear HS HRR HRT HD HT;replace HT1 := yf.mk HT1.out.drew;replace zM := yf.mk (yZ zM.out);replace Ah := yf.mk (yZ Ah.out);replace ae := yf.mk (yZ ae.out);replace HB := yf.mk (ze HB.out);have HT' := HT1.out;rw [← aQ.out] at HT';obtain ⟨oi, vd, hRd, hcd, hfd, bI, bF, hvdbo, dG, hback⟩ := IU.ZA HT' dd (by rw [aQ.out]; exact HDDN.out);obtain ⟨cbo, hbt⟩ := dG;obtain ⟨bM, cO, hvd⟩ := Kd.zX hRd;subst hvd;rw [aQ.out] at hback;have HRD := yf.mk hRd;have HCD := yf.mk hcd;have HBT := yf.mk hbt;have HBK := yf.mk hback;have HVB := yf.mk hvdbo;clear hRd hcd hbt hback hvdbo hfd bI bF HT' HT1
              refine AV (n := 13) (S := fun w' => w'.cell? ⟨aa, 8, none⟩ = some (.slice (some ⟨bo, 0, none⟩) ax.length aG) ∧ w'.cell? ⟨bo, dd, none⟩ = some (.slice bM (aH.getD dd []).length cO)) (ds := [12]) (bz 13 0) (by kernel_rfl) rfl rfl ⟨(yz ae.out 8).trans rfl, HCD.out⟩ (fun hHeld => ?_); refine zQ Mt LF (fun yD AZ => ?_)
              refine pU 0 128 13 1 yD ?_;refine pU 2 130 13 5 yD ?_;refine pU 3 131 13 13 yD ?_;refine pU 5 133 13 45 yD ?_;refine pU 8 136 13 301 yD ?_
              refine BQ 1 129 13 303 yD AZ hHeld ?_
              refine BQ 4 132 13 319 yD AZ hHeld ?_
              refine pU 6 134 13 383 yD ?_
              refine BQ 7 135 13 511 yD AZ hHeld ?_
              refine BP (i := 9) (N := some 137) (bz 13 1023) rfl rfl (Af yD.out (by kernel_rfl)) (by decide) (fun K hK => ?_)
              refine Q0 (w1 := ?_) (v := ?_) (by rfl) rfl ?_ ?_
              rotate_left 2
              · go_simp
                constructor
                · rfl
                · rfl
              refine hK.out _ _ ⟨(yz (Dz ae.out _) 8).trans rfl, (yz (Dz HBT.out _) dd).trans ((yz HBT.out dd).symm.trans HCD.out)⟩ (fun hHeld => ?_)
              clear hK K
              refine Aj (a' := ?_) ?_ ?_
              rotate_left
              · show Act.put _ (some 137) _ = _
                simp only [pz]
                rfl
              refine BP (i := 10) (N := some 138) (bz 13 2047) rfl rfl (Af yD.out (by kernel_rfl)) (by decide) (fun K hK => ?_)
              refine Kd.Gh (Kd.int .i64) (w0 := w) w.heap.size (by rfl) (.tmp 135) (.tmp 137) 63 3 (.int .i64 0) 8 rfl Try.underlying63 info3 rfl (by decide) (by omega) (.slice bM (aH.getD dd []).length cO) (aH.getD dd []) (i : Int) [.int .i64 (i : Int)] (fun k_ => oi k_ ∨ w1.drew.heap.size ≤ k_) (fun _ => False) rfl rfl rfl (fun _ hk => hk.elim) (fun k hk => .inr hk) (Kd.zb HRD.out (fun k hk => .inl hk)) HB.out HB.out.size (by have := HLO.out; omega) ?_
              intro v2 w2 ho hb hg hat
              have HT2 := yf.mk (HBK.out w2 v2 _ ho hg);replace zM := yf.mk (Aa zM.out hg (Kd.Dx HRD.out zM.out (by decide)));replace Ah := yf.mk (Aa Ah.out hg (Kd.Dx HRD.out Ah.out (by decide)));replace ae := yf.mk (Aa ae.out hg (Kd.Dx HRD.out ae.out (by decide)));have bP := yf.mk ((yz (Aa HBT.out hg (fun e => HVB.out bo e.symm rfl)) dd).trans ((yz HBT.out dd).symm.trans HCD.out));replace HBT := yf.mk (Aa HBT.out hg (fun e => HVB.out bo e.symm rfl));replace HB := yf.mk hb;have dR := yf.mk (Kd.Xk ho);obtain ⟨gQ, dP, hv2⟩ := Kd.zX ho;subst hv2
              have HBOW : yf (w.heap.size ≤ bo) := ⟨HBG.out⟩
              clear ho hb hg hat HBK HVB HRD
              refine hK.out _ _ ⟨(yz ae.out 8).trans rfl, bP.out⟩ (fun hHeld => ?_)
              clear hK K
              refine Aj (a' := ?_) ?_ ?_
              rotate_left
              · show Act.put _ (some 138) _ = _
                simp only [pz]
                rfl
              refine pU 11 139 13 4095 yD ?_
              refine ML (i := 12) (N := none) (bz 13 8191) rfl rfl (Af yD.out (by kernel_rfl)) (by decide) (fun K hK => ?_)
              have a0D := bP.out;have Xn := zm HBT.out dd
              refine G5 (w1 := ?_) (by rfl) rfl ?_ ?_
              rotate_left
              · go_simp
                rfl
              refine hK.out _ _ ?_
              clear hK K
              refine BI (Az yD.out (by kernel_rfl)) ?_
              clear a0D Xn
              go_wp2
              go_roundg k2
              case measure => exact Nat.lt_succ_self _
              case rel =>
               refine ⟨j + 1, vi HJL.out HRG.out.2.1, ⟨by have := HJL.out; omega, by have := HJ.out.2; have := HJL.out; omega⟩, ⟨?_⟩, ⟨Fw zM.out NBOA.out _⟩, ⟨Fw Ah.out NBOB.out _⟩, ⟨Fw ae.out NBOC.out _⟩, ⟨Dk HB.out HBOW.out⟩⟩
               rw [HSTEP.out];have HT3 := HT2.out;simp only [List.getD_eq_getElem?_getD, List.length_append, List.length_singleton] at HT3 ⊢
               exact HT3
            · have c2b : decide ((j : Int) < (g.length : Int)) = false := decide_eq_false (by omega)
              obtain rfl : j = g.length := by have := HJ.out.1; omega
              clear c2;have bg := Dt ae;have aV := bf ae;obtain ⟨oO, oR, oT, hS, hR, hT, d1, d2, d3⟩ := HT.out;have HS := yf.mk hS;have HRR := yf.mk hR;have HRT := yf.mk hT;have HD := yf.mk (And.intro d1 (And.intro d2 d3))
              have HRL := yf.mk (Bd.all yn.toNat yg (fun g hg => (HMK.out.2 g hg).1) i (Nat.le_of_lt HL.out)).2
              clear hS hR hT d1 d2 d3 HT;rw [List.take_of_length_le (Nat.le_refl _)] at HS HRT;obtain ⟨eY, iC, dw⟩ := Kd.zX HRT.out;subst dw
              go_wp2_with (first
                | ((with_reducible refine Bz (b := .append) (xs := #[.tmp 142, .tmp 144]) rfl ?_); at_builtin; refine Kd.El (Kd.slice 3 (Kd.int .i64)) (w0 := w) w.heap.size rfl (.tmp 142) (.tmp 144) 27 63 (.slice none 0 0) 24 rfl Try.underlying27 NK rfl (by decide) (by omega) vr (E5 yn.toNat yg i).2 (TH i g (E5 yn.toNat yg i).1).2 [_] (fun k_ => (oR k_ ∨ oT k_) ∨ wr.heap.size ≤ k_) oT rfl rfl (Kd.R4 HRT.out) (fun k hk => ⟨.inl (.inr hk), fun e => HD.out.2.1 k (HRR.out.1 k e.symm) hk⟩) (fun k hk => .inr hk) (Kd.zb HRR.out (fun k hk => .inl (.inl hk))) HB.out HB.out.size (by have := HRL.out; have := HI.out.1; have := HMK.out.1; omega) ?_; intro v1 w1 ho hb hg hat; have HT1 := yf.mk (IU.rank HS.out HRR.out HD.out.1 HD.out.2.2 ho hg); replace zM := yf.mk (Aa zM.out hg (Kd.Dx HRR.out zM.out (by decide))); replace Ah := yf.mk (Aa Ah.out hg (Kd.Dx HRR.out Ah.out (by decide))); replace ae := yf.mk (Aa ae.out hg (Kd.Dx HRR.out ae.out (by decide))); replace HB := yf.mk hb; have dF := yf.mk (Kd.zX ho); clear ho hb hg hat; clear bg aV; obtain ⟨dM, eH, dm⟩ := dF.out; subst dm; have bg := Dt ae; have aV := bf ae))
              go_roundg k1
              case measure => exact Nat.lt_succ_self _
              case rel =>
               refine ⟨i + 1, _, vi HL.out HR.out.2.1, ⟨by have := HL.out; omega, by have := HI.out.2; have := HL.out; omega⟩, ⟨?_⟩, ⟨Fw zM.out af.out _⟩, ⟨Fw Ah.out ak.out _⟩, ⟨Ws (cs := #[.int .i64 yn, .slice (some ag) yg.length yI, .int .i64 yo, .int .i64 yt, .int .i64 ((yT yg 0).length : Int), .int .i64 t206, .int .i64 (yg.length : Int), vr, .slice aJ ax.length aG, .int .i64 (wrap64 (yo * t206)), .int .i64 (wrap64 ((wrap64 (yo * t206)) + yt))]) ae.out 7 _ rfl⟩, ⟨bO HB⟩⟩
               rw [K6 _ _ _ HL.out];simp only [mGo, HGE.out];have HT2 := HT1.out;rw [List.length_append, List.length_singleton] at HT2
               exact IU.far (p := ⟨aa, 7, none⟩) HT2 ae.out (by decide) (by decide) _
         · have c1b : decide ((i : Int) < (yg.length : Int)) = false := decide_eq_false (by omega)
           obtain rfl : i = yg.length := by have := HI.out.1; omega
           clear c1 bN cZ;rw [Qm] at HT;have gX := ak.out;have fF := au.out;have bg := Dt ae;have aV := bf ae;have ik := Dt Ah;have iG := bf Ah;obtain ⟨oO, oR, oT, hS, hR, hT, d1, d2, d3⟩ := HT.out;obtain ⟨d9, dH, di⟩ := Kd.zX hR;subst di;have HS := yf.mk (Kd.BD (Kd.Jc hS) Ah.out (by decide));have HRR := yf.mk (Kd.AU (Kd.Dl hR) Ah.out (by decide));clear hS hR hT d1 d2 d3 HT
           go_wp2
           refine bodyPost_ret (Bg rfl _ _ CB 102 #[.int .i64 yn, .slice (some ag) yg.length yI, .int .i64 yo, .int .i64 yt, .int .i64 ((yT yg 0).length : Int), .int .i64 t206, .int .i64 (yg.length : Int), .slice d9 (FN yn.toNat yg).2.length dH, .slice aJ ax.length aG, .int .i64 (wrap64 (yo * t206)), .int .i64 (wrap64 ((wrap64 (yo * t206)) + yt))] (0, 0) _ rfl (CF Ah rfl) Try.underlying102 rfl (by kernel_rfl)) rfl ?_
           exact ⟨_, _, _, by rfl, Kd.yH (Kd.zg HS0.out (bO HB)) (fun k_ hk => .inl hk), Kd.yH (Kd.R_V (GG (g := CB) HRR.out (fun _ hk => hk.2))) (fun k_ hk => .inr hk.1.2.1), Kd.yH (Kd.S_V (Lc (g := CB) HS.out (fun _ hk => hk.2))) (fun k_ hk => .inr hk.1.2.1), bO HB⟩
       ·
        rw [if_neg aX] at H;exact absurd H (by simp)
      ·
       rw [if_neg c80] at H;exact absurd H (by simp)
end Go.Proofs.Ytjonnfmoocijlaa.P
