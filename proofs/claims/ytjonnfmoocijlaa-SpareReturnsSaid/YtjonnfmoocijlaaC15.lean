/- Texts of a claim, packed. -/
import Derived.Test.YtjonnfmoocijlaaC12
import Derived.Test.YtjonnfmoocijlaaC14
set_option linter.all false
namespace Go.Proofs.Ytjonnfmoocijlaa.P
open Go.RowKit Go.Proofs.YtjonnfmoocijlaaKW.PrintWords Go.Proofs.YtjonnfmoocijlaaKW.PrintLast Go.Proofs.YtjonnfmoocijlaaKW.PrintMore
attribute [local go_sem] zO zP Aj Ak zC zD zQ zR
mutual
def yR.j0 : Nat → Int → Bool → Int → List (List Int) → Int → Int → Int → List (List Int) → Int → Int → Int → Int → Int → Int → Int → Option (Int × (List (List Int)) × Int × Int × Int × Int × Int × (List (List Int)) × (List (List Int)) × Int × Int × Bool)
 | 0, _, _, _, _, _, _, _, _, _, _, _, _, _, _, _ => none
 | k + 1, x4, aA, av, ax, aa, ae, ai, aj, au, ah, ak, ag, af, ay, az => if aA = true then (some (0, ([] : List (List Int)), 0, 0, 0, 0, 0, ([] : List (List Int)), ([] : List (List Int)), 0, 0, false)) else (if (wrap64 (aa * af)) > 4096 then (yR.j1 k true av ax aa ae ai aj au ah ak ag af (wrap64 (aa * x4)) (wrap64 ((wrap64 (aa * x4)) + ae))) else ((Dc.f ai aj au ah ak ag af ([] : List (List Int)) ([] : List (List Int)) (wrap64 (aa * x4)) (wrap64 ((wrap64 (aa * x4)) + ae))).bind fun Ox => (if (wrap64 ((wrap64 (aa * af)) * Ox)) > 65536 then (yR.j1 k true av ax aa ae ai aj au ah ak ag af (wrap64 (aa * x4)) (wrap64 ((wrap64 (aa * x4)) + ae))) else (yR.j1 k (decide ((wrap64 ((wrap64 (aa * x4)) + ae)) > 65536)) av ax aa ae ai aj au ah ak ag af (wrap64 (aa * x4)) (wrap64 ((wrap64 (aa * x4)) + ae))))))
def yR.j1 : Nat → Bool → Int → List (List Int) → Int → Int → Int → List (List Int) → Int → Int → Int → Int → Int → Int → Int → Option (Int × (List (List Int)) × Int × Int × Int × Int × Int × (List (List Int)) × (List (List Int)) × Int × Int × Bool)
 | 0, _, _, _, _, _, _, _, _, _, _, _, _, _, _ => none
 | k + 1, x97, av, ax, aa, ae, ai, aj, au, ah, ak, ag, af, ay, az => if x97 = true then (some (0, ([] : List (List Int)), 0, 0, 0, 0, 0, ([] : List (List Int)), ([] : List (List Int)), 0, 0, false)) else (if 0 ≤ av then (if (av : Int).toNat ≤ 11728124029610 then (layout_measure_fin ai aj au ah ak ag af ay az) else (none)) else (none))
end
def yR.f (k : Nat) (yn : Int) (yh : List (List Int)) (yo : Int) (yu : Int) : Option (Int × (List (List Int)) × Int × Int × Int × Int × Int × (List (List Int)) × (List (List Int)) × Int × Int × Bool) := (Du.f yn yh).bind fun Cq => (if Cq.2.2 = 0 then (if 0 < (yh.length : Int) then (if ((zt yh 0).length : Int) ≤ 3 then (yR.j0 k Cq.1 true yn yh yo yu yn yh yo yu ((zt yh 0).length : Int) Cq.1 (yh.length : Int) 0 0) else (if ((zt yh 0).length : Int) > 16 then (yR.j0 k Cq.1 true yn yh yo yu yn yh yo yu ((zt yh 0).length : Int) Cq.1 (yh.length : Int) 0 0) else (if yo < 1 then (yR.j0 k Cq.1 true yn yh yo yu yn yh yo yu ((zt yh 0).length : Int) Cq.1 (yh.length : Int) 0 0) else (if yo > 256 then (yR.j0 k Cq.1 true yn yh yo yu yn yh yo yu ((zt yh 0).length : Int) Cq.1 (yh.length : Int) 0 0) else (if yu < 0 then (yR.j0 k Cq.1 true yn yh yo yu yn yh yo yu ((zt yh 0).length : Int) Cq.1 (yh.length : Int) 0 0) else (yR.j0 k Cq.1 (decide (yu > 65536)) yn yh yo yu yn yh yo yu ((zt yh 0).length : Int) Cq.1 (yh.length : Int) 0 0)))))) else (none)) else (some (0, ([] : List (List Int)), 0, 0, 0, 0, 0, ([] : List (List Int)), ([] : List (List Int)), 0, 0, false)))
def yR.T4 : Bool × List (List Nat × List Nat) := (true, [([], []), ([], []), ([1], [1]), ([2], [2]), ([3], [3]), ([4], [4]), ([5], [5]), ([], []), ([], []), ([8], [8]), ([9], [9]), ([10], [10]), ([0, 6, 7, 11], [0, 6, 7, 11]), ([], []), ([13, 12, 0, 1, 2, 3, 4, 5, 6, 7, 8, 9, 10, 11, 12, 13], [12, 13])])
def yR.B4 : List Nat := [0, 0, 2, 6, 14, 30, 62, 0, 0, 256, 768, 1792, 4095, 0, 16383]
theorem yR.a6K : CZ .any (opsOf Try.f61 4) = yR.T4 := by kernel_rfl
theorem yR.a4I : BD yR.T4.2 yR.B4 = true := by kernel_rfl
def yR.T9 : Bool × List (List Nat × List Nat) := (true, [([], []), ([0], [0]), ([], []), ([2], [2]), ([1, 3], [1, 3]), ([4], [4]), ([5], [5]), ([6], [6]), ([7, 6], [6, 7]), ([6], [6]), ([9, 6], [6, 9]), ([8, 10, 6], [6, 8, 10]), ([6], [6]), ([12, 6, 6], [6, 12]), ([11, 13, 6], [6, 11, 13]), ([14, 6], [6, 14]), ([6, 15], [6, 15]), ([16, 13], [16]), ([17], [17]), ([18, 17], [17, 18]), ([19, 17], [17, 19]), ([17, 20], [17, 20])])
def yR.B9 : List Nat := [0, 1, 0, 4, 15, 31, 63, 127, 255, 127, 639, 2047, 127, 4223, 16383, 32767, 65535, 131071, 262143, 524287, 1048575, 2097151]
theorem yR.NJ : CZ .any (opsOf Try.f61 9) = yR.T9 := by kernel_rfl
theorem yR.Jm : BD yR.T9.2 yR.B9 = true := by kernel_rfl
set_option maxHeartbeats 8000000 in
set_option maxRecDepth 100000 in
theorem yR.calls (k : Nat) (yn : Int) (FP : Nat → Prop) (yQ : Option Addr) (yM : Nat) (yh : List (List Int)) (yo : Int) (yu : Int) (r1 : Int) (r2 : List (List Int)) (r3 : Int) (r4 : Int) (r5 : Int) (r6 : Int) (r7 : Int) (r8 : List (List Int)) (r9 : List (List Int)) (aV : Int) (aY : Int) (aU : Bool) (w : World) (JY : Kd.V (Kd.slice 3 (Kd.int .i64)) 63 w w.heap.size (fun k_ => FP k_) (.slice yQ yh.length yM) yh) (h : yR.f k yn yh yo yu = some (r1, r2, r3, r4, r5, r6, r7, r8, r9, aV, aY, aU)) :
  Calls Try.prog 61 #[.agg #[.int .i64 yn, .slice yQ yh.length yM, .int .i64 yo, .int .i64 yu]] w fun e w' => ∃ U8 bN cZ : Value, e = .returned (.tuple #[.agg #[.int .i64 r1, U8, .int .i64 r3, .int .i64 r4, .int .i64 r5, .int .i64 r6, .int .i64 r7, bN, cZ, .int .i64 aV, .int .i64 aY], .bool aU]) ∧ Kd.V (Kd.slice 3 (Kd.int .i64)) 63 w' w.heap.size (fun k_ => (FP k_ ∨ w.heap.size ≤ k_)) U8 r2 ∧ Kd.V (Kd.slice 3 (Kd.int .i64)) 63 w' w.heap.size (fun k_ => (FP k_ ∨ w.heap.size ≤ k_)) bN r8 ∧ Kd.V (Kd.slice 3 (Kd.int .i64)) 63 w' w.heap.size (fun k_ => (FP k_ ∨ w.heap.size ≤ k_)) cZ r9 ∧ Below w.heap.size w w' := by
 have FH := Try.underlying31;have Nu := Try.underlying102;have PY := Try.underlying29
 have ah := yf.mk (show Kd.V (Kd.slice 3 (Kd.int .i64)) 63 w w.heap.size (fun k_ => (FP k_ ∨ w.heap.size ≤ k_)) (.slice yQ yh.length yM) yh from Kd.z8 JY (fun k_ hk => .inl hk))
 have HB := yf.mk (Below.refl w.heap.size w)
 have H : ((Du.f yn yh).bind fun Cq => (if Cq.2.2 = 0 then (if 0 < (yh.length : Int) then (if ((zt yh 0).length : Int) ≤ 3 then (yR.j0 k Cq.1 true yn yh yo yu yn yh yo yu ((zt yh 0).length : Int) Cq.1 (yh.length : Int) 0 0) else (if ((zt yh 0).length : Int) > 16 then (yR.j0 k Cq.1 true yn yh yo yu yn yh yo yu ((zt yh 0).length : Int) Cq.1 (yh.length : Int) 0 0) else (if yo < 1 then (yR.j0 k Cq.1 true yn yh yo yu yn yh yo yu ((zt yh 0).length : Int) Cq.1 (yh.length : Int) 0 0) else (if yo > 256 then (yR.j0 k Cq.1 true yn yh yo yu yn yh yo yu ((zt yh 0).length : Int) Cq.1 (yh.length : Int) 0 0) else (if yu < 0 then (yR.j0 k Cq.1 true yn yh yo yu yn yh yo yu ((zt yh 0).length : Int) Cq.1 (yh.length : Int) 0 0) else (yR.j0 k Cq.1 (decide (yu > 65536)) yn yh yo yu yn yh yo yu ((zt yh 0).length : Int) Cq.1 (yh.length : Int) 0 0)))))) else (none)) else (some (0, ([] : List (List Int)), 0, 0, 0, 0, 0, ([] : List (List Int)), ([] : List (List Int)), 0, 0, false)))) = some (r1, r2, r3, r4, r5, r6, r7, r8, r9, aV, aY, aU) := h
 clear h;obtain ⟨⟨t206, Rf, t208⟩, A2, H⟩ := bE H
 try dsimp only at H
 by_cases c3 : t208 = 0
 rotate_left
 ·
  rw [if_neg c3] at H;have G5 := beq_eq_false_iff_ne.mpr c3;have JM := bne_iff_ne.mpr c3;simp only [Option.some.injEq, Prod.mk.injEq] at H;obtain ⟨rfl, rfl, rfl, rfl, rfl, rfl, rfl, rfl, rfl, rfl, rfl, rfl⟩ := H
  go_enter Try.func61, Try.ntmps61
  go_wp2_with (first | ((with_reducible refine yI (N := 1) rfl ?_); refine yG rfl (N := 1) rfl (cs := #[.int .i64 yn, .slice yQ yh.length yM, .int .i64 yo, .int .i64 yu]) (t := 31) (by go_simp) ?_; intro De hg w91 yJ hb; replace ah := yf.mk (Kd.Ao (Kd.Bf (kV ah) De (Nat.le_of_eq hg.symm)) hb); have Ac := yf.mk (yJ); have a0q := bG (w := w) hg; have a0r := bG (w := w) hg; replace HB := bS HB hb; clear hb yJ hg) | ((with_reducible refine yI (N := 2) rfl ?_); refine yG rfl (N := 2) rfl (cs := #[.int .i64 0, .slice none 0 0, .int .i64 0, .int .i64 0, .int .i64 0, .int .i64 0, .int .i64 0, .slice none 0 0, .slice none 0 0, .int .i64 0, .int .i64 0]) (t := 102) (by go_simp) ?_; intro Df hg w92 yJ hb; have AL := yf.mk (yJ); have Rh := bG (w := w) hg; have a0s := bG (w := w) hg; have ax := Co Ac hg; have az := Ar Ac hg; replace ah := yf.mk (Kd.Ao (Kd.Bf (kV ah) Df (Nat.le_of_eq hg.symm)) hb); replace Ac := bB Ac hb; replace HB := bS HB hb; clear hb yJ hg; have a4J := ax.out; have a4K := az.out; have gN := AP Ac; have eX := bf Ac) | ((with_reducible refine yw (f := 79) rfl ?_); refine gL (some 16) Try.func79 #[.agg #[.int .i64 yn, .slice yQ yh.length yM]] ?_; (with_reducible refine (Du.calls yn _ _ yh t206 Rf t208 _ ?yD ?yF A2.out).mono ?_); (case yD => exact Oo ah); (case yF => exact (Kd.zW ah.out).2.1); rintro e w95 ⟨rfl, hb⟩; refine ⟨_, rfl, ?_⟩; replace ah := Om ah hb; replace Ac := bB Ac hb; replace AL := bB AL hb; replace HB := bS HB hb; clear hb; have dN := EW AL; have gG := bf AL))
  refine bodyPost_ret (BS rfl _ _ Df 102 #[.int .i64 0, .slice none 0 0, .int .i64 0, .int .i64 0, .int .i64 0, .int .i64 0, .int .i64 0, .slice none 0 0, .slice none 0 0, .int .i64 0, .int .i64 0] (0, 0) _ rfl (CJ AL rfl) Try.underlying102 rfl (by kernel_rfl)) rfl ?_
  exact ⟨_, _, _, by rfl, Kd.FM _ _ _ _ _, Kd.FM _ _ _ _ _, Kd.FM _ _ _ _ _, bO HB⟩
 rw [if_pos c3] at H;have G5 := beq_iff_eq.mpr c3
 have JM : (t208 != 0) = false := bne_eq_false_iff_eq.mpr c3
 clear c3
 by_cases c4 : 0 < (yh.length : Int)
 rotate_left
 ·
  rw [if_neg c4] at H;exact absurd H (by simp)
 rw [if_pos c4] at H;have ES := decide_eq_true c4
 have Lx : decide (0 < yh.length) = true := decide_eq_true (by omega)
 clear c4;have HC5 := yf.mk H;clear H
 go_enter Try.func61, Try.ntmps61
 try go_wp2_with (first | ((with_reducible refine yI (N := 1) rfl ?_); refine yG rfl (N := 1) rfl (cs := #[.int .i64 yn, .slice yQ yh.length yM, .int .i64 yo, .int .i64 yu]) (t := 31) (by go_simp) ?_; intro De hg w6 yJ hb; replace ah := yf.mk (Kd.Ao (Kd.Bf (kV ah) De (Nat.le_of_eq hg.symm)) hb); have Ac := yf.mk (yJ); have a0q := bG (w := w) hg; have a0r := bG (w := w) hg; replace HB := bS HB hb; clear hb yJ hg) | ((with_reducible refine yI (N := 2) rfl ?_); refine yG rfl (N := 2) rfl (cs := #[.int .i64 0, .slice none 0 0, .int .i64 0, .int .i64 0, .int .i64 0, .int .i64 0, .int .i64 0, .slice none 0 0, .slice none 0 0, .int .i64 0, .int .i64 0]) (t := 102) (by go_simp) ?_; intro Df hg w7 yJ hb; have AL := yf.mk (yJ); have Rh := bG (w := w) hg; have a0s := bG (w := w) hg; have ax := Co Ac hg; have az := Ar Ac hg; replace ah := yf.mk (Kd.Ao (Kd.Bf (kV ah) Df (Nat.le_of_eq hg.symm)) hb); replace Ac := bB Ac hb; replace HB := bS HB hb; clear hb yJ hg; have a2C := ax.out; have a2D := az.out; have Qb := AP Ac; have Qc := bf Ac) | ((with_reducible refine yw (f := 79) rfl ?_); refine gL (some 16) Try.func79 #[.agg #[.int .i64 yn, .slice yQ yh.length yM]] ?_; (with_reducible refine (Du.calls yn _ _ yh t206 Rf t208 _ ?yD ?yF A2.out).mono ?_); (case yD => exact Oo ah); (case yF => exact (Kd.zW ah.out).2.1); rintro e w10 ⟨rfl, hb⟩; refine ⟨_, rfl, ?_⟩; replace ah := Om ah hb; replace Ac := bB Ac hb; replace AL := bB AL hb; replace HB := bS HB hb; clear hb))
 replace ah := yf.mk (Kd.K5 ah.out);replace Ac := yf.mk (yO Ac.out);replace AL := yf.mk (yO AL.out);replace HB := yf.mk (za HB.out)
 have aQ : 0 ≤ (0 : Int) := (by omega)
 have aM : 0 < (yh.length : Int) := of_decide_eq_true ‹_›
 obtain ⟨ag, bR, d9, e209, aJ, cu, bQ⟩ := EC (Kd.zW ah.out).2.2 0 aQ aM;cases e209
 have HADB : yf (ag.block < w.heap.size) := (by obtain ⟨gM, gX, il, e_, h_, _⟩ := EC (Kd.zW JY).2.2 0 aQ aM; cases e_; rw [show ((0 : Int)).toNat = 0 from rfl, Addr.add_zero'] at h_; exact ⟨World.block_lt_of_cell? w _ h_⟩)
 obtain ⟨eU, dx, df, bX⟩ := Kd.a4k ah.out [] 0 aQ (by exact aM);obtain ⟨dM, eO, rfl, bH, bI⟩ := Kd.Ol df;have bu := bX 0 _ rfl;rw [Nat.add_zero, show ((Kd.slice 3 (Kd.int .i64))).sz = 1 from rfl, Nat.mul_one] at bu;replace bu := Option.some.inj (bu.symm.trans aJ)
 injection bu with bZ dG bP
 rw [bZ] at bI;rw [bP] at bH;have aC := yf.mk (show Kd.V (Kd.int .i64) 3 _ w.heap.size _ _ (zt yh 0) from Kd.GK bH bI);clear bZ dG bP bI bH bX dx
 have iC : (0 < yh.length) = True := eq_true (by omega)
 (try rw [show ((0 : Int)).toNat = 0 from rfl] at aJ)
 (try rw [Addr.add_zero'] at aJ)
 have aX := yf.mk bQ;have gP := yf.mk cu;clear bQ cu;replace aQ := eq_true aQ;replace aM := eq_true aM
 refine Bc (n := 15) (S := fun w' => w'.cell? ⟨De, 0, none⟩ = some (.int .i64 yn) ∧ w'.cell? ⟨De, 1, none⟩ = some (.slice (some ag) yh.length yM) ∧ w'.cell? ⟨De, 2, none⟩ = some (.int .i64 yo) ∧ w'.cell? ⟨De, 3, none⟩ = some (.int .i64 yu) ∧ w'.cell? ag = some (.slice bR (zt yh 0).length d9)) (ds := []) (bz 15 0) (by kernel_rfl) rfl rfl ⟨(yA Ac.out 0).trans rfl, (yA Ac.out 1).trans rfl, (yA Ac.out 2).trans rfl, (yA Ac.out 3).trans rfl, aJ⟩ (fun hHeld => ?_); refine zF yR.a6K yR.a4I (fun yz Bi => ?_)
 generalize w10.drew = w11 at ah Ac AL HB aC aX aJ hHeld ⊢;refine pU 1 24 15 2 yz ?_;refine pU 2 25 15 6 yz ?_;refine pU 7 30 15 134 yz ?_;refine pU 8 31 15 390 yz ?_;refine pU 9 32 15 902 yz ?_
 refine BO 0 23 15 903 yz Bi hHeld ?_
 refine BO 3 26 15 911 yz Bi hHeld ?_
 refine pU 4 27 15 927 yz ?_
 refine BO 5 28 15 959 yz Bi hHeld ?_
 refine pU 6 29 15 1023 yz ?_
 refine BO 10 33 15 2047 yz Bi hHeld ?_
 refine pU 11 34 15 4095 yz ?_;refine pU 12 35 15 8191 yz ?_
 refine Ck (i := 13) (N := some 7) (bz 15 16383) rfl rfl (Af yz.out (by kernel_rfl)) (by decide) (fun K hK => ?_)
 refine Ey ?hg (N := 7) ?hd (cs := #[.int .i64 0, .slice none 0 0, .int .i64 0, .int .i64 0, .int .i64 0, .int .i64 0, .int .i64 0, .slice none 0 0, .slice none 0 0, .int .i64 0, .int .i64 0]) (t := 102) ?hr ?_; (case hd => rfl); (case hg => rfl); (case hr => go_simp)
 intro aa hg w12 yJ hb
 have LB := (hb.cell (World.block_lt_of_cell? _ _ (hHeld.2.2.2.2))).trans (hHeld.2.2.2.2);have BL := yf.mk (Kd.Ao (Kd.Bf (kV ah) aa (Nat.le_of_eq hg.symm)) hb);have BN := yf.mk (Kd.Ao (Kd.Bf (kV aC) aa (Nat.le_of_eq hg.symm)) hb);have BX := bB Ac hb;have Cr := bB AL hb;have CG := yf.mk (Kd.Cg (by repeat ((with_reducible exact aX.out))) hb);have CU := bS HB hb;have Eh := yf.mk (yJ);have F7 := bG (w := w) hg;have Gd := bG (w := w) hg;have IU := Co Ac hg;have EX := Ar Ac hg;have EY := Co AL hg;have Fg := Ar AL hg;clear ah aC Ac AL aX HB;have ah := BL;have aC := BN;have Ac := BX;have AL := Cr;have aX := CG;have HB := CU;have ae := Eh;have fV := F7;have ay := Gd;have af := IU;have av := EX;have ak := EY;have au := Fg;clear BL BN BX Cr CG CU Eh F7 Gd IU EX EY Fg hb yJ hg
 refine hK.out _ _ ⟨(yA Ac.out 0).trans rfl, (yA Ac.out 1).trans rfl, (yA Ac.out 2).trans rfl, (yA Ac.out 3).trans rfl, LB⟩ (fun hHeld => ?_)
 clear hK K
 refine AR (a' := ?_) ?_ ?_
 rotate_left
 ·
  show Act.put _ (some 7) _ = _
  simp only [pz]
  rfl
 refine Ck (i := 14) (N := none) (bz 15 32767) rfl rfl (Af yz.out (by kernel_rfl)) (by decide) (fun K hK => ?_)
 have fH : w12.cell? ⟨aa, 0, none⟩ = some (.int .i64 0) := (yA ae.out 0).trans rfl
 have eH := zH ae.out 0;have fq := af.out;have dW := ak.out;have ed := av.out;have dY := au.out
 have fT : w12.cell? ⟨aa, 1, none⟩ = some (.slice none 0 0) := (yA ae.out 1).trans rfl
 have fJ := zH ae.out 1;have fF := af.out;have fQ := ak.out;have dR := av.out;have gZ := au.out
 have gy : w12.cell? ⟨aa, 2, none⟩ = some (.int .i64 0) := (yA ae.out 2).trans rfl
 have gV := zH ae.out 2;have iA := af.out;have fM := ak.out;have fP := av.out;have eB := au.out
 have eP : w12.cell? ⟨aa, 3, none⟩ = some (.int .i64 0) := (yA ae.out 3).trans rfl
 have fB := zH ae.out 3;have gJ := af.out;have gU := ak.out;have iD := av.out;have fo := au.out
 have fw : w12.cell? ⟨aa, 4, none⟩ = some (.int .i64 0) := (yA ae.out 4).trans rfl
 have dO := zH ae.out 4;have gI := af.out;have ib := ak.out;have fD := av.out;have ik := au.out
 have eD : w12.cell? ⟨aa, 5, none⟩ = some (.int .i64 0) := (yA ae.out 5).trans rfl
 have fA := zH ae.out 5;have fu := af.out;have fI := ak.out;have dX := av.out;have fC := au.out
 have fU : w12.cell? ⟨aa, 6, none⟩ = some (.int .i64 0) := (yA ae.out 6).trans rfl
 have iB := zH ae.out 6;have dP := af.out;have gp := ak.out;have iy := av.out;have dZ := au.out
 have a6F : w12.cell? ⟨aa, 7, none⟩ = some (.slice none 0 0) := (yA ae.out 7).trans rfl
 have a4A := zH ae.out 7;have Zl := af.out;have ic := ak.out;have Zm := av.out;have eF := au.out
 have a6G : w12.cell? ⟨aa, 8, none⟩ = some (.slice none 0 0) := (yA ae.out 8).trans rfl
 have a4B := zH ae.out 8;have Zn := af.out;have dL := ak.out;have Zo := av.out;have gu := au.out
 have fe : w12.cell? ⟨aa, 9, none⟩ = some (.int .i64 0) := (yA ae.out 9).trans rfl
 have dQ := zH ae.out 9;have gF := af.out;have gz := ak.out;have eY := av.out;have fZ := au.out
 have gT : w12.cell? ⟨aa, 10, none⟩ = some (.int .i64 0) := (yA ae.out 10).trans rfl
 have iw := zH ae.out 10;have dV := af.out;have dS := ak.out;have fE := av.out;have iF := au.out
 refine IR (w1 := ?_) (by rfl) rfl ?_ ?_
 rotate_left
 ·
  go_simp
  rfl
 refine hK.out _ _ ⟨((cell_far (p := ⟨aa, _, none⟩) af.out _).trans (((cell_far (p := ⟨aa, _, none⟩) af.out _).trans (((cell_far (p := ⟨aa, _, none⟩) af.out _).trans (((cell_far (p := ⟨aa, _, none⟩) af.out _).trans (((cell_far (p := ⟨aa, _, none⟩) af.out _).trans (((cell_far (p := ⟨aa, _, none⟩) af.out _).trans (((cell_far (p := ⟨aa, _, none⟩) af.out _).trans (((cell_far (p := ⟨aa, _, none⟩) af.out _).trans (((cell_far (p := ⟨aa, _, none⟩) af.out _).trans (((cell_far (p := ⟨aa, _, none⟩) af.out _).trans (((cell_far (p := ⟨aa, _, none⟩) af.out _).trans (hHeld.1)))))))))))))))))))))), ((cell_far (p := ⟨aa, _, none⟩) af.out _).trans (((cell_far (p := ⟨aa, _, none⟩) af.out _).trans (((cell_far (p := ⟨aa, _, none⟩) af.out _).trans (((cell_far (p := ⟨aa, _, none⟩) af.out _).trans (((cell_far (p := ⟨aa, _, none⟩) af.out _).trans (((cell_far (p := ⟨aa, _, none⟩) af.out _).trans (((cell_far (p := ⟨aa, _, none⟩) af.out _).trans (((cell_far (p := ⟨aa, _, none⟩) af.out _).trans (((cell_far (p := ⟨aa, _, none⟩) af.out _).trans (((cell_far (p := ⟨aa, _, none⟩) af.out _).trans (((cell_far (p := ⟨aa, _, none⟩) af.out _).trans (hHeld.2.1)))))))))))))))))))))), ((cell_far (p := ⟨aa, _, none⟩) af.out _).trans (((cell_far (p := ⟨aa, _, none⟩) af.out _).trans (((cell_far (p := ⟨aa, _, none⟩) af.out _).trans (((cell_far (p := ⟨aa, _, none⟩) af.out _).trans (((cell_far (p := ⟨aa, _, none⟩) af.out _).trans (((cell_far (p := ⟨aa, _, none⟩) af.out _).trans (((cell_far (p := ⟨aa, _, none⟩) af.out _).trans (((cell_far (p := ⟨aa, _, none⟩) af.out _).trans (((cell_far (p := ⟨aa, _, none⟩) af.out _).trans (((cell_far (p := ⟨aa, _, none⟩) af.out _).trans (((cell_far (p := ⟨aa, _, none⟩) af.out _).trans (hHeld.2.2.1)))))))))))))))))))))), ((cell_far (p := ⟨aa, _, none⟩) af.out _).trans (((cell_far (p := ⟨aa, _, none⟩) af.out _).trans (((cell_far (p := ⟨aa, _, none⟩) af.out _).trans (((cell_far (p := ⟨aa, _, none⟩) af.out _).trans (((cell_far (p := ⟨aa, _, none⟩) af.out _).trans (((cell_far (p := ⟨aa, _, none⟩) af.out _).trans (((cell_far (p := ⟨aa, _, none⟩) af.out _).trans (((cell_far (p := ⟨aa, _, none⟩) af.out _).trans (((cell_far (p := ⟨aa, _, none⟩) af.out _).trans (((cell_far (p := ⟨aa, _, none⟩) af.out _).trans (((cell_far (p := ⟨aa, _, none⟩) af.out _).trans (hHeld.2.2.2.1)))))))))))))))))))))), ((cell_far (p := ⟨aa, _, none⟩) (Nat.ne_of_lt (Nat.lt_of_lt_of_le HADB.out ay.out)) _).trans (((cell_far (p := ⟨aa, _, none⟩) (Nat.ne_of_lt (Nat.lt_of_lt_of_le HADB.out ay.out)) _).trans (((cell_far (p := ⟨aa, _, none⟩) (Nat.ne_of_lt (Nat.lt_of_lt_of_le HADB.out ay.out)) _).trans (((cell_far (p := ⟨aa, _, none⟩) (Nat.ne_of_lt (Nat.lt_of_lt_of_le HADB.out ay.out)) _).trans (((cell_far (p := ⟨aa, _, none⟩) (Nat.ne_of_lt (Nat.lt_of_lt_of_le HADB.out ay.out)) _).trans (((cell_far (p := ⟨aa, _, none⟩) (Nat.ne_of_lt (Nat.lt_of_lt_of_le HADB.out ay.out)) _).trans (((cell_far (p := ⟨aa, _, none⟩) (Nat.ne_of_lt (Nat.lt_of_lt_of_le HADB.out ay.out)) _).trans (((cell_far (p := ⟨aa, _, none⟩) (Nat.ne_of_lt (Nat.lt_of_lt_of_le HADB.out ay.out)) _).trans (((cell_far (p := ⟨aa, _, none⟩) (Nat.ne_of_lt (Nat.lt_of_lt_of_le HADB.out ay.out)) _).trans (((cell_far (p := ⟨aa, _, none⟩) (Nat.ne_of_lt (Nat.lt_of_lt_of_le HADB.out ay.out)) _).trans (((cell_far (p := ⟨aa, _, none⟩) (Nat.ne_of_lt (Nat.lt_of_lt_of_le HADB.out ay.out)) _).trans (hHeld.2.2.2.2))))))))))))))))))))))⟩ (fun hHeld => ?_)
 clear hK K
 refine BG (Al yz.out (by kernel_rfl)) ?_
 go_upto_region 5 with (fail)
 go_cut [63] (fun v63 wc => ∃ (kq : Nat) (bi : Bool), v63 = .bool bi ∧ yf (yR.j0 kq t206 bi yn yh yo yu yn yh yo yu ((zt yh 0).length : Int) t206 (yh.length : Int) 0 0 = some (r1, r2, r3, r4, r5, r6, r7, r8, r9, aV, aY, aU)) ∧ yf (kq ≤ k) ∧ yf (Kd.V (Kd.slice 3 (Kd.int .i64)) 63 wc w.heap.size (fun k_ => (FP k_ ∨ w.heap.size ≤ k_) ∧ k_ ≠ De ∧ k_ ≠ Df ∧ k_ ≠ aa) (.slice (some ag) yh.length yM) yh) ∧ yf (Kd.V (Kd.slice 3 (Kd.int .i64)) 63 wc w.heap.size (fun k_ => (FP k_ ∨ w.heap.size ≤ k_) ∧ k_ ≠ De ∧ k_ ≠ Df ∧ k_ ≠ aa) (.slice (some ag) yh.length yM) yh) ∧ yf (wc.heap[De]? = some (.cells #[.int .i64 yn, (.slice (some ag) yh.length yM), .int .i64 yo, .int .i64 yu] 31 (0, 0))) ∧ yf (wc.heap[Df]? = some (.cells #[.int .i64 0, (.slice none 0 0), .int .i64 0, .int .i64 0, .int .i64 0, .int .i64 0, .int .i64 0, (.slice none 0 0), (.slice none 0 0), .int .i64 0, .int .i64 0] 102 (0, 0))) ∧ yf (wc.heap[aa]? = some (.cells #[.int .i64 yn, (.slice (some ag) yh.length yM), .int .i64 yo, .int .i64 yu, .int .i64 ((zt yh 0).length : Int), .int .i64 t206, .int .i64 (yh.length : Int), (.slice none 0 0), (.slice none 0 0), .int .i64 0, .int .i64 0] 102 (0, 0))) ∧ yf (Kd.C (Kd.int .i64) wc bR (zt yh 0).length (zt yh 0)) ∧ yf (Below w.heap.size w wc))
 case first =>
  have H := HC5.out;clear HC5
  by_cases c24 : ((zt yh 0).length : Int) ≤ 3
  ·
   rw [if_pos c24] at H;have Nl := decide_eq_true c24
   have dA : decide ((zt yh 0).length ≤ 3) = true := decide_eq_true (by omega)
   clear c24
   (skip)
   have H' := yf.mk H;clear H;have WX := av.out;have WY := af.out;have Um := au.out;have Un := ak.out;have Md := EW ae;have Me := bf ae
   go_wp2
   go_meet
   case rel => exact ⟨_, (true), (by rfl), H', ⟨by omega⟩, ⟨by (with_reducible repeat (apply Kd.Ap)); exact Kd.z8 (FZ (g := aa) (Kd.z8 ah.out (fun k_ hk => (⟨hk, hk.2⟩ : _ ∧ k_ ≠ aa))) (fun _ hk => hk.2)) (fun _ hk => ⟨hk.1.1.1.1, ⟨hk.1.1.1.2, ⟨hk.1.1.2, hk.1.2⟩⟩⟩)⟩, ⟨by (with_reducible repeat (apply Kd.Ap)); exact Kd.z8 (FZ (g := aa) (Kd.z8 ah.out (fun k_ hk => (⟨hk, hk.2⟩ : _ ∧ k_ ≠ aa))) (fun _ hk => hk.2)) (fun _ hk => ⟨hk.1.1.1.1, ⟨hk.1.1.1.2, ⟨hk.1.1.2, hk.1.2⟩⟩⟩)⟩, bK Ac rfl, bK AL rfl, bK ae rfl, ⟨(Kd.zW (by (with_reducible repeat (apply Kd.Ap)); exact (Kd.z8 (FZ (g := aa) (Kd.z8 aC.out (fun k_ hk => (⟨hk, hk.2⟩ : _ ∧ k_ ≠ aa))) (fun _ hk => hk.2)) (fun _ h_ => h_.1)))).2.2⟩, ⟨bO HB⟩⟩
  rw [if_neg c24] at H;have Nl := decide_eq_false c24
  have dA : decide ((zt yh 0).length ≤ 3) = false := decide_eq_false (by omega)
  clear c24
  (skip)
  by_cases c28 : ((zt yh 0).length : Int) > 16
  ·
   rw [if_pos c28] at H;have P5 := decide_eq_true c28
   have QS : decide (16 < (zt yh 0).length) = true := decide_eq_true (by omega)
   clear c28;have H' := yf.mk H;clear H;have Ri := av.out;have Rj := af.out;have R4 := au.out;have R5 := ak.out;have Pb := EW ae;have Pd := bf ae
   go_wp2
   go_meet
   case rel => exact ⟨_, (true), (by rfl), H', ⟨by omega⟩, ⟨by (with_reducible repeat (apply Kd.Ap)); exact Kd.z8 (FZ (g := aa) (Kd.z8 ah.out (fun k_ hk => (⟨hk, hk.2⟩ : _ ∧ k_ ≠ aa))) (fun _ hk => hk.2)) (fun _ hk => ⟨hk.1.1.1.1, ⟨hk.1.1.1.2, ⟨hk.1.1.2, hk.1.2⟩⟩⟩)⟩, ⟨by (with_reducible repeat (apply Kd.Ap)); exact Kd.z8 (FZ (g := aa) (Kd.z8 ah.out (fun k_ hk => (⟨hk, hk.2⟩ : _ ∧ k_ ≠ aa))) (fun _ hk => hk.2)) (fun _ hk => ⟨hk.1.1.1.1, ⟨hk.1.1.1.2, ⟨hk.1.1.2, hk.1.2⟩⟩⟩)⟩, bK Ac rfl, bK AL rfl, bK ae rfl, ⟨(Kd.zW (by (with_reducible repeat (apply Kd.Ap)); exact (Kd.z8 (FZ (g := aa) (Kd.z8 aC.out (fun k_ hk => (⟨hk, hk.2⟩ : _ ∧ k_ ≠ aa))) (fun _ hk => hk.2)) (fun _ h_ => h_.1)))).2.2⟩, ⟨bO HB⟩⟩
  rw [if_neg c28] at H;have P5 := decide_eq_false c28
  have QS : decide (16 < (zt yh 0).length) = false := decide_eq_false (by omega)
  clear c28
  by_cases c32 : yo < 1
  ·
   rw [if_pos c32] at H;have M4 := decide_eq_true c32;clear c32;have H' := yf.mk H;clear H;have WZ := av.out;have X0 := af.out;have U9 := au.out;have Ua := ak.out;have OT := EW ae;have OU := bf ae;have Rk := ax.out;have Rl := az.out;have KS := AP Ac;have KT := bf Ac
   go_wp2
   go_meet
   case rel => exact ⟨_, (true), (by rfl), H', ⟨by omega⟩, ⟨by (with_reducible repeat (apply Kd.Ap)); exact Kd.z8 (FZ (g := aa) (Kd.z8 ah.out (fun k_ hk => (⟨hk, hk.2⟩ : _ ∧ k_ ≠ aa))) (fun _ hk => hk.2)) (fun _ hk => ⟨hk.1.1.1.1, ⟨hk.1.1.1.2, ⟨hk.1.1.2, hk.1.2⟩⟩⟩)⟩, ⟨by (with_reducible repeat (apply Kd.Ap)); exact Kd.z8 (FZ (g := aa) (Kd.z8 ah.out (fun k_ hk => (⟨hk, hk.2⟩ : _ ∧ k_ ≠ aa))) (fun _ hk => hk.2)) (fun _ hk => ⟨hk.1.1.1.1, ⟨hk.1.1.1.2, ⟨hk.1.1.2, hk.1.2⟩⟩⟩)⟩, bK Ac rfl, bK AL rfl, bK ae rfl, ⟨(Kd.zW (by (with_reducible repeat (apply Kd.Ap)); exact (Kd.z8 (FZ (g := aa) (Kd.z8 aC.out (fun k_ hk => (⟨hk, hk.2⟩ : _ ∧ k_ ≠ aa))) (fun _ hk => hk.2)) (fun _ h_ => h_.1)))).2.2⟩, ⟨bO HB⟩⟩
  rw [if_neg c32] at H;have M4 := decide_eq_false c32;clear c32
  by_cases Km : yo > 256
  ·
   rw [if_pos Km] at H;have Ng := decide_eq_true Km;clear Km;have H' := yf.mk H;clear H;have a0t := av.out;have a0u := af.out;have X3 := au.out;have X4 := ak.out;have P6 := EW ae;have P7 := bf ae;have a0c := ax.out;have a0d := az.out;have a4w := AP Ac;have a4x := bf Ac
   go_wp2
   go_meet
   case rel => exact ⟨_, (true), (by rfl), H', ⟨by omega⟩, ⟨by (with_reducible repeat (apply Kd.Ap)); exact Kd.z8 (FZ (g := aa) (Kd.z8 ah.out (fun k_ hk => (⟨hk, hk.2⟩ : _ ∧ k_ ≠ aa))) (fun _ hk => hk.2)) (fun _ hk => ⟨hk.1.1.1.1, ⟨hk.1.1.1.2, ⟨hk.1.1.2, hk.1.2⟩⟩⟩)⟩, ⟨by (with_reducible repeat (apply Kd.Ap)); exact Kd.z8 (FZ (g := aa) (Kd.z8 ah.out (fun k_ hk => (⟨hk, hk.2⟩ : _ ∧ k_ ≠ aa))) (fun _ hk => hk.2)) (fun _ hk => ⟨hk.1.1.1.1, ⟨hk.1.1.1.2, ⟨hk.1.1.2, hk.1.2⟩⟩⟩)⟩, bK Ac rfl, bK AL rfl, bK ae rfl, ⟨(Kd.zW (by (with_reducible repeat (apply Kd.Ap)); exact (Kd.z8 (FZ (g := aa) (Kd.z8 aC.out (fun k_ hk => (⟨hk, hk.2⟩ : _ ∧ k_ ≠ aa))) (fun _ hk => hk.2)) (fun _ h_ => h_.1)))).2.2⟩, ⟨bO HB⟩⟩
  rw [if_neg Km] at H;have Ng := decide_eq_false Km;clear Km
  by_cases M5 : yu < 0
  ·
   rw [if_pos M5] at H;have Ub := decide_eq_true M5;clear M5;have H' := yf.mk H;clear H;have QV := av.out;have QW := af.out;have Ur := au.out;have Us := ak.out;have a0e := EW ae;have a0f := bf ae;have WE := ax.out;have WF := az.out;have WG := AP Ac;have WH := bf Ac
   go_wp2
   go_meet
   case rel => exact ⟨_, (true), (by rfl), H', ⟨by omega⟩, ⟨by (with_reducible repeat (apply Kd.Ap)); exact Kd.z8 (FZ (g := aa) (Kd.z8 ah.out (fun k_ hk => (⟨hk, hk.2⟩ : _ ∧ k_ ≠ aa))) (fun _ hk => hk.2)) (fun _ hk => ⟨hk.1.1.1.1, ⟨hk.1.1.1.2, ⟨hk.1.1.2, hk.1.2⟩⟩⟩)⟩, ⟨by (with_reducible repeat (apply Kd.Ap)); exact Kd.z8 (FZ (g := aa) (Kd.z8 ah.out (fun k_ hk => (⟨hk, hk.2⟩ : _ ∧ k_ ≠ aa))) (fun _ hk => hk.2)) (fun _ hk => ⟨hk.1.1.1.1, ⟨hk.1.1.1.2, ⟨hk.1.1.2, hk.1.2⟩⟩⟩)⟩, bK Ac rfl, bK AL rfl, bK ae rfl, ⟨(Kd.zW (by (with_reducible repeat (apply Kd.Ap)); exact (Kd.z8 (FZ (g := aa) (Kd.z8 aC.out (fun k_ hk => (⟨hk, hk.2⟩ : _ ∧ k_ ≠ aa))) (fun _ hk => hk.2)) (fun _ h_ => h_.1)))).2.2⟩, ⟨bO HB⟩⟩
  rw [if_neg M5] at H;have Ub := decide_eq_false M5;clear M5;have H' := yf.mk H;clear H;have Pj := av.out;have Pm := af.out;have Ut := au.out;have Uu := ak.out;have Rm := EW ae;have Rn := bf ae;have X5 := ax.out;have X6 := az.out;have a4L := AP Ac;have a4M := bf Ac
  go_wp2
  go_meet
  case rel => exact ⟨_, (decide (yu > 65536)), (by rfl), H', ⟨by omega⟩, ⟨by (with_reducible repeat (apply Kd.Ap)); exact Kd.z8 (FZ (g := aa) (Kd.z8 ah.out (fun k_ hk => (⟨hk, hk.2⟩ : _ ∧ k_ ≠ aa))) (fun _ hk => hk.2)) (fun _ hk => ⟨hk.1.1.1.1, ⟨hk.1.1.1.2, ⟨hk.1.1.2, hk.1.2⟩⟩⟩)⟩, ⟨by (with_reducible repeat (apply Kd.Ap)); exact Kd.z8 (FZ (g := aa) (Kd.z8 ah.out (fun k_ hk => (⟨hk, hk.2⟩ : _ ∧ k_ ≠ aa))) (fun _ hk => hk.2)) (fun _ hk => ⟨hk.1.1.1.1, ⟨hk.1.1.1.2, ⟨hk.1.1.2, hk.1.2⟩⟩⟩)⟩, bK Ac rfl, bK AL rfl, bK ae rfl, ⟨(Kd.zW (by (with_reducible repeat (apply Kd.Ap)); exact (Kd.z8 (FZ (g := aa) (Kd.z8 aC.out (fun k_ hk => (⟨hk, hk.2⟩ : _ ∧ k_ ≠ aa))) (fun _ hk => hk.2)) (fun _ h_ => h_.1)))).2.2⟩, ⟨bO HB⟩⟩
 case rest =>
 clear HC5 G5 JM ES Lx Qb Qc aJ aQ aM;obtain ⟨kq, bi, rfl, HA, HJ4, aj, ai, Ac, AL, ae, aX, HB⟩ := hcut
 cases kq with
 | zero => exact absurd HA.out (by simp [yR.j0])
 | succ kj4 =>
  have H := HA.out;clear HA;simp only [yR.j0] at H
  by_cases Oy : bi = true
  ·
   subst Oy;rw [if_pos rfl] at H;simp only [Option.some.injEq, Prod.mk.injEq] at H;obtain ⟨rfl, rfl, rfl, rfl, rfl, rfl, rfl, rfl, rfl, rfl, rfl, rfl⟩ := H;have X7 := az.out;have X8 := ax.out;have a0v := ak.out;have a0w := au.out;have a4N := EW AL;have a4O := bf AL
   go_wp2
   refine bodyPost_ret (BS rfl _ _ Df 102 #[.int .i64 0, .slice none 0 0, .int .i64 0, .int .i64 0, .int .i64 0, .int .i64 0, .int .i64 0, .slice none 0 0, .slice none 0 0, .int .i64 0, .int .i64 0] (0, 0) _ rfl (CJ AL rfl) Try.underlying102 rfl (by kernel_rfl)) rfl ?_
   exact ⟨_, _, _, by rfl, Kd.FM _ _ _ _ _, Kd.FM _ _ _ _ _, Kd.FM _ _ _ _ _, bO HB⟩
  ·
   replace Oy := Bool.eq_false_iff.mpr Oy;subst Oy
   rw [if_neg (show ¬ (false = true) by decide)] at H
   have bA := yf.mk H;clear H;have a4P := ax.out;have a4Q := az.out;have a0x := af.out;have a0y := av.out;have X9 := AP Ac;have Xa := bf Ac;have a0z := au.out;have a0A := ak.out;have a4R := EW ae;have a4S := bf ae
   go_upto_region 9 with (fail)
   go_cut [97] (fun v97 wc => ∃ (kq : Nat) (bn : Bool), v97 = .bool bn ∧ yf (yR.j1 kq bn yn yh yo yu yn yh yo yu ((zt yh 0).length : Int) t206 (yh.length : Int) (wrap64 (yo * t206)) (wrap64 ((wrap64 (yo * t206)) + yu)) = some (r1, r2, r3, r4, r5, r6, r7, r8, r9, aV, aY, aU)) ∧ yf (kq ≤ kj4) ∧ yf (Kd.V (Kd.slice 3 (Kd.int .i64)) 63 wc w.heap.size (fun k_ => (FP k_ ∨ w.heap.size ≤ k_) ∧ k_ ≠ De ∧ k_ ≠ Df ∧ k_ ≠ aa) (.slice (some ag) yh.length yM) yh) ∧ yf (Kd.V (Kd.slice 3 (Kd.int .i64)) 63 wc w.heap.size (fun k_ => (FP k_ ∨ w.heap.size ≤ k_) ∧ k_ ≠ De ∧ k_ ≠ Df ∧ k_ ≠ aa) (.slice (some ag) yh.length yM) yh) ∧ yf (wc.heap[De]? = some (.cells #[.int .i64 yn, (.slice (some ag) yh.length yM), .int .i64 yo, .int .i64 yu] 31 (0, 0))) ∧ yf (wc.heap[Df]? = some (.cells #[.int .i64 0, (.slice none 0 0), .int .i64 0, .int .i64 0, .int .i64 0, .int .i64 0, .int .i64 0, (.slice none 0 0), (.slice none 0 0), .int .i64 0, .int .i64 0] 102 (0, 0))) ∧ yf (wc.heap[aa]? = some (.cells #[.int .i64 yn, (.slice (some ag) yh.length yM), .int .i64 yo, .int .i64 yu, .int .i64 ((zt yh 0).length : Int), .int .i64 t206, .int .i64 (yh.length : Int), (.slice none 0 0), (.slice none 0 0), .int .i64 (wrap64 (yo * t206)), .int .i64 (wrap64 ((wrap64 (yo * t206)) + yu))] 102 (0, 0))) ∧ yf (Below w.heap.size w wc))
   case first =>
    have H := bA.out;clear bA
    by_cases aI : (wrap64 (yo * (yh.length : Int))) > 4096
    ·
     rw [if_pos aI] at H;have dE := decide_eq_true aI;clear aI
     (skip)
     have H' := yf.mk H;clear H
     try go_wp2
     have BL : yf (Kd.V (Kd.slice 3 (Kd.int .i64)) 63 ((wc.setCell ⟨aa, 9, none⟩ (.int .i64 (wrap64 (yo * t206)))).setCell ⟨aa, 10, none⟩ (.int .i64 (wrap64 ((wrap64 (yo * t206)) + yu)))) w.heap.size (fun k_ => (FP k_ ∨ w.heap.size ≤ k_) ∧ k_ ≠ De ∧ k_ ≠ Df ∧ k_ ≠ aa) (.slice (some ag) yh.length yM) yh) := ⟨by (with_reducible repeat (apply Kd.Ap)); exact Kd.z8 (FZ (g := aa) (Kd.z8 aj.out (fun k_ hk => (⟨hk, hk.2.2.2⟩ : _ ∧ k_ ≠ aa))) (fun _ hk => hk.2)) (fun _ hk => ⟨hk.1.1, ⟨hk.1.2.1, ⟨hk.1.2.2.1, hk.1.2.2.2⟩⟩⟩)⟩
     have BN : yf (Kd.V (Kd.slice 3 (Kd.int .i64)) 63 ((wc.setCell ⟨aa, 9, none⟩ (.int .i64 (wrap64 (yo * t206)))).setCell ⟨aa, 10, none⟩ (.int .i64 (wrap64 ((wrap64 (yo * t206)) + yu)))) w.heap.size (fun k_ => (FP k_ ∨ w.heap.size ≤ k_) ∧ k_ ≠ De ∧ k_ ≠ Df ∧ k_ ≠ aa) (.slice (some ag) yh.length yM) yh) := ⟨by (with_reducible repeat (apply Kd.Ap)); exact Kd.z8 (FZ (g := aa) (Kd.z8 ai.out (fun k_ hk => (⟨hk, hk.2.2.2⟩ : _ ∧ k_ ≠ aa))) (fun _ hk => hk.2)) (fun _ hk => ⟨hk.1.1, ⟨hk.1.2.1, ⟨hk.1.2.2.1, hk.1.2.2.2⟩⟩⟩)⟩
     have BX : yf (((wc.setCell ⟨aa, 9, none⟩ (.int .i64 (wrap64 (yo * t206)))).setCell ⟨aa, 10, none⟩ (.int .i64 (wrap64 ((wrap64 (yo * t206)) + yu)))).heap[De]? = some (.cells #[.int .i64 yn, .slice (some ag) yh.length yM, .int .i64 yo, .int .i64 yu] 31 (0, 0))) := bK Ac rfl
     have Cr : yf (((wc.setCell ⟨aa, 9, none⟩ (.int .i64 (wrap64 (yo * t206)))).setCell ⟨aa, 10, none⟩ (.int .i64 (wrap64 ((wrap64 (yo * t206)) + yu)))).heap[Df]? = some (.cells #[.int .i64 0, .slice none 0 0, .int .i64 0, .int .i64 0, .int .i64 0, .int .i64 0, .int .i64 0, .slice none 0 0, .slice none 0 0, .int .i64 0, .int .i64 0] 102 (0, 0))) := bK AL rfl
     have CG : yf (((wc.setCell ⟨aa, 9, none⟩ (.int .i64 (wrap64 (yo * t206)))).setCell ⟨aa, 10, none⟩ (.int .i64 (wrap64 ((wrap64 (yo * t206)) + yu)))).heap[aa]? = some (.cells #[.int .i64 yn, .slice (some ag) yh.length yM, .int .i64 yo, .int .i64 yu, .int .i64 ((zt yh 0).length : Int), .int .i64 t206, .int .i64 (yh.length : Int), .slice none 0 0, .slice none 0 0, .int .i64 (wrap64 (yo * t206)), .int .i64 (wrap64 ((wrap64 (yo * t206)) + yu))] 102 (0, 0))) := bK ae rfl
     have CU : yf (Below w.heap.size w ((wc.setCell ⟨aa, 9, none⟩ (.int .i64 (wrap64 (yo * t206)))).setCell ⟨aa, 10, none⟩ (.int .i64 (wrap64 ((wrap64 (yo * t206)) + yu))))) := ⟨bO HB⟩
     clear aj ai Ac AL ae HB;generalize ((wc.setCell ⟨aa, 9, none⟩ (.int .i64 (wrap64 (yo * t206)))).setCell ⟨aa, 10, none⟩ (.int .i64 (wrap64 ((wrap64 (yo * t206)) + yu)))) = w66 at BL BN BX Cr CG CU ⊢;have aj := BL;have ai := BN;have Ac := BX;have AL := Cr;have ae := CG;have HB := CU;clear BL BN BX Cr CG CU;replace aj := yf.mk (Kd.K5 aj.out);replace ai := yf.mk (Kd.K5 ai.out);replace Ac := yf.mk (yO Ac.out);replace AL := yf.mk (yO AL.out);replace ae := yf.mk (yO ae.out);replace HB := yf.mk (za HB.out)
     refine Bc (n := 22) (S := fun w' => w'.cell? ⟨De, 0, none⟩ = some (.int .i64 yn) ∧ w'.cell? ⟨De, 1, none⟩ = some (.slice (some ag) yh.length yM) ∧ w'.cell? ⟨De, 2, none⟩ = some (.int .i64 yo) ∧ w'.cell? ⟨De, 3, none⟩ = some (.int .i64 yu) ∧ w'.cell? ⟨aa, 0, none⟩ = some (.int .i64 yn) ∧ w'.cell? ⟨aa, 1, none⟩ = some (.slice (some ag) yh.length yM) ∧ w'.cell? ⟨aa, 2, none⟩ = some (.int .i64 yo) ∧ w'.cell? ⟨aa, 3, none⟩ = some (.int .i64 yu) ∧ w'.cell? ⟨aa, 4, none⟩ = some (.int .i64 ((zt yh 0).length : Int)) ∧ w'.cell? ⟨aa, 5, none⟩ = some (.int .i64 t206) ∧ w'.cell? ⟨aa, 6, none⟩ = some (.int .i64 (yh.length : Int)) ∧ w'.cell? ⟨aa, 7, none⟩ = some (.slice none 0 0) ∧ w'.cell? ⟨aa, 8, none⟩ = some (.slice none 0 0) ∧ w'.cell? ⟨aa, 9, none⟩ = some (.int .i64 (wrap64 (yo * t206))) ∧ w'.cell? ⟨aa, 10, none⟩ = some (.int .i64 (wrap64 ((wrap64 (yo * t206)) + yu)))) (ds := []) (bz 22 0) (by kernel_rfl) rfl rfl (K6 Ac (EW ae)) (fun hHeld => ?_); refine zF yR.NJ yR.Jm (fun yz Bi => ?_)
     generalize w66.drew = w67 at aj ai Ac AL ae HB hHeld ⊢;refine pU 0 76 22 1 yz ?_;refine pU 2 78 22 5 yz ?_
     refine BO 1 77 22 7 yz Bi hHeld ?_
     refine BO 3 79 22 15 yz Bi hHeld ?_
     refine pU 4 80 22 31 yz ?_;refine pU 5 81 22 63 yz ?_;refine pU 6 82 22 127 yz ?_;refine pN 7 83 22 255 yz ?_;refine pN 8 84 22 511 yz ?_;refine pN 9 85 22 1023 yz ?_;refine pN 10 86 22 2047 yz ?_;refine pN 11 87 22 4095 yz ?_;refine pN 12 88 22 8191 yz ?_;refine pN 13 89 22 16383 yz ?_;refine pN 14 90 22 32767 yz ?_;refine pN 15 91 22 65535 yz ?_;refine pU 16 92 22 131071 yz ?_;refine pU 17 93 22 262143 yz ?_;refine pN 18 94 22 524287 yz ?_;refine pN 19 95 22 1048575 yz ?_;refine pN 20 96 22 2097151 yz ?_;refine pU 21 97 22 4194303 yz ?_
     refine BG (Al yz.out (by kernel_rfl)) ?_
     try go_wp2
     go_meet
     case rel => exact ⟨_, (true), (by rfl), H', ⟨by have := HJ4.out; omega⟩, ⟨kV aj⟩, ⟨kV ai⟩, ⟨kk Ac⟩, ⟨kk AL⟩, ⟨kk ae⟩, ⟨bO HB⟩⟩
    ·
     rw [if_neg aI] at H;have dE := decide_eq_false aI;clear aI
     (skip)
     obtain ⟨Ox, A68, H⟩ := bE H
     try dsimp only at H
     by_cases aN : (wrap64 ((wrap64 (yo * (yh.length : Int))) * Ox)) > 65536
     ·
      rw [if_pos aN] at H;have dF := decide_eq_true aN;clear aN;have H' := yf.mk H;clear H
      try go_wp2
      have BL : yf (Kd.V (Kd.slice 3 (Kd.int .i64)) 63 ((wc.setCell ⟨aa, 9, none⟩ (.int .i64 (wrap64 (yo * t206)))).setCell ⟨aa, 10, none⟩ (.int .i64 (wrap64 ((wrap64 (yo * t206)) + yu)))) w.heap.size (fun k_ => (FP k_ ∨ w.heap.size ≤ k_) ∧ k_ ≠ De ∧ k_ ≠ Df ∧ k_ ≠ aa) (.slice (some ag) yh.length yM) yh) := ⟨by (with_reducible repeat (apply Kd.Ap)); exact Kd.z8 (FZ (g := aa) (Kd.z8 aj.out (fun k_ hk => (⟨hk, hk.2.2.2⟩ : _ ∧ k_ ≠ aa))) (fun _ hk => hk.2)) (fun _ hk => ⟨hk.1.1, ⟨hk.1.2.1, ⟨hk.1.2.2.1, hk.1.2.2.2⟩⟩⟩)⟩
      have BN : yf (Kd.V (Kd.slice 3 (Kd.int .i64)) 63 ((wc.setCell ⟨aa, 9, none⟩ (.int .i64 (wrap64 (yo * t206)))).setCell ⟨aa, 10, none⟩ (.int .i64 (wrap64 ((wrap64 (yo * t206)) + yu)))) w.heap.size (fun k_ => (FP k_ ∨ w.heap.size ≤ k_) ∧ k_ ≠ De ∧ k_ ≠ Df ∧ k_ ≠ aa) (.slice (some ag) yh.length yM) yh) := ⟨by (with_reducible repeat (apply Kd.Ap)); exact Kd.z8 (FZ (g := aa) (Kd.z8 ai.out (fun k_ hk => (⟨hk, hk.2.2.2⟩ : _ ∧ k_ ≠ aa))) (fun _ hk => hk.2)) (fun _ hk => ⟨hk.1.1, ⟨hk.1.2.1, ⟨hk.1.2.2.1, hk.1.2.2.2⟩⟩⟩)⟩
      have BX : yf (((wc.setCell ⟨aa, 9, none⟩ (.int .i64 (wrap64 (yo * t206)))).setCell ⟨aa, 10, none⟩ (.int .i64 (wrap64 ((wrap64 (yo * t206)) + yu)))).heap[De]? = some (.cells #[.int .i64 yn, .slice (some ag) yh.length yM, .int .i64 yo, .int .i64 yu] 31 (0, 0))) := bK Ac rfl
      have Cr : yf (((wc.setCell ⟨aa, 9, none⟩ (.int .i64 (wrap64 (yo * t206)))).setCell ⟨aa, 10, none⟩ (.int .i64 (wrap64 ((wrap64 (yo * t206)) + yu)))).heap[Df]? = some (.cells #[.int .i64 0, .slice none 0 0, .int .i64 0, .int .i64 0, .int .i64 0, .int .i64 0, .int .i64 0, .slice none 0 0, .slice none 0 0, .int .i64 0, .int .i64 0] 102 (0, 0))) := bK AL rfl
      have CG : yf (((wc.setCell ⟨aa, 9, none⟩ (.int .i64 (wrap64 (yo * t206)))).setCell ⟨aa, 10, none⟩ (.int .i64 (wrap64 ((wrap64 (yo * t206)) + yu)))).heap[aa]? = some (.cells #[.int .i64 yn, .slice (some ag) yh.length yM, .int .i64 yo, .int .i64 yu, .int .i64 ((zt yh 0).length : Int), .int .i64 t206, .int .i64 (yh.length : Int), .slice none 0 0, .slice none 0 0, .int .i64 (wrap64 (yo * t206)), .int .i64 (wrap64 ((wrap64 (yo * t206)) + yu))] 102 (0, 0))) := bK ae rfl
      have CU : yf (Below w.heap.size w ((wc.setCell ⟨aa, 9, none⟩ (.int .i64 (wrap64 (yo * t206)))).setCell ⟨aa, 10, none⟩ (.int .i64 (wrap64 ((wrap64 (yo * t206)) + yu))))) := ⟨bO HB⟩
      clear aj ai Ac AL ae HB;generalize ((wc.setCell ⟨aa, 9, none⟩ (.int .i64 (wrap64 (yo * t206)))).setCell ⟨aa, 10, none⟩ (.int .i64 (wrap64 ((wrap64 (yo * t206)) + yu)))) = w70 at BL BN BX Cr CG CU ⊢;have aj := BL;have ai := BN;have Ac := BX;have AL := Cr;have ae := CG;have HB := CU;clear BL BN BX Cr CG CU;replace aj := yf.mk (Kd.K5 aj.out);replace ai := yf.mk (Kd.K5 ai.out);replace Ac := yf.mk (yO Ac.out);replace AL := yf.mk (yO AL.out);replace ae := yf.mk (yO ae.out);replace HB := yf.mk (za HB.out)
      refine Bc (n := 22) (S := fun w' => w'.cell? ⟨De, 0, none⟩ = some (.int .i64 yn) ∧ w'.cell? ⟨De, 1, none⟩ = some (.slice (some ag) yh.length yM) ∧ w'.cell? ⟨De, 2, none⟩ = some (.int .i64 yo) ∧ w'.cell? ⟨De, 3, none⟩ = some (.int .i64 yu) ∧ w'.cell? ⟨aa, 0, none⟩ = some (.int .i64 yn) ∧ w'.cell? ⟨aa, 1, none⟩ = some (.slice (some ag) yh.length yM) ∧ w'.cell? ⟨aa, 2, none⟩ = some (.int .i64 yo) ∧ w'.cell? ⟨aa, 3, none⟩ = some (.int .i64 yu) ∧ w'.cell? ⟨aa, 4, none⟩ = some (.int .i64 ((zt yh 0).length : Int)) ∧ w'.cell? ⟨aa, 5, none⟩ = some (.int .i64 t206) ∧ w'.cell? ⟨aa, 6, none⟩ = some (.int .i64 (yh.length : Int)) ∧ w'.cell? ⟨aa, 7, none⟩ = some (.slice none 0 0) ∧ w'.cell? ⟨aa, 8, none⟩ = some (.slice none 0 0) ∧ w'.cell? ⟨aa, 9, none⟩ = some (.int .i64 (wrap64 (yo * t206))) ∧ w'.cell? ⟨aa, 10, none⟩ = some (.int .i64 (wrap64 ((wrap64 (yo * t206)) + yu)))) (ds := []) (bz 22 0) (by kernel_rfl) rfl rfl (K6 Ac (EW ae)) (fun hHeld => ?_); refine zF yR.NJ yR.Jm (fun yz Bi => ?_)
      generalize w70.drew = w71 at aj ai Ac AL ae HB hHeld ⊢;refine pU 0 76 22 1 yz ?_;refine pU 2 78 22 5 yz ?_
      refine BO 1 77 22 7 yz Bi hHeld ?_
      refine BO 3 79 22 15 yz Bi hHeld ?_
      refine pU 4 80 22 31 yz ?_;refine pU 5 81 22 63 yz ?_;refine pU 6 82 22 127 yz ?_;refine pU 7 83 22 255 yz ?_;refine pU 9 85 22 767 yz ?_
      refine BO 8 84 22 1023 yz Bi hHeld ?_
      refine BO 10 86 22 2047 yz Bi hHeld ?_
      refine pU 11 87 22 4095 yz ?_
      refine BO 12 88 22 8191 yz Bi hHeld ?_
      refine Ck (i := 13) (N := some 89) (bz 22 16383) rfl rfl (Af yz.out (by kernel_rfl)) (by decide) (fun K hK => ?_)
      refine gO Try.func80 #[.agg #[.int .i64 yn, .slice (some ag) yh.length yM, .int .i64 yo, .int .i64 yu, .int .i64 ((zt yh 0).length : Int), .int .i64 t206, .int .i64 (yh.length : Int), .slice none 0 0, .slice none 0 0, .int .i64 (wrap64 (yo * t206)), .int .i64 (wrap64 ((wrap64 (yo * t206)) + yu))]] ?_
      refine (Dc.calls yn _ _ yh yo yu ((zt yh 0).length : Int) t206 (yh.length : Int) _ _ ([] : List (List Int)) _ _ ([] : List (List Int)) (wrap64 (yo * t206)) (wrap64 ((wrap64 (yo * t206)) + yu)) Ox _ ?yD ?yF ?zw ?zx ?Dy ?Dz A68.out).mono ?_
      (case yD => exact Oo ai)
      (case yF => exact (Kd.zW ai.out).2.1)
      (case zw => exact Kd.LZ _ _)
      (case zx => exact Nat.le_refl _)
      (case Dy => exact Kd.LZ _ _)
      (case Dz => exact Nat.le_refl _)
      rintro e w72 ⟨rfl, hb⟩
      refine ⟨_, rfl, ?_⟩
      replace aj := Om aj hb;replace ai := Om ai hb;replace Ac := bB Ac hb;replace AL := bB AL hb;replace ae := bB ae hb;replace HB := bS HB hb;clear hb
      refine hK.out _ _ (K6 Ac (EW ae)) (fun hHeld => ?_)
      clear hK K
      refine AR (a' := ?_) ?_ ?_
      rotate_left
      ·
       show Act.put _ (some 89) _ = _
       simp only [pz]
       rfl
      refine pU 14 90 22 32767 yz ?_;refine pU 15 91 22 65535 yz ?_;refine pU 16 92 22 131071 yz ?_;refine pU 17 93 22 262143 yz ?_;refine pN 18 94 22 524287 yz ?_;refine pN 19 95 22 1048575 yz ?_;refine pN 20 96 22 2097151 yz ?_;refine pU 21 97 22 4194303 yz ?_
      refine BG (Al yz.out (by kernel_rfl)) ?_
      try go_wp2
      go_meet
      case rel => exact ⟨_, (true), (by rfl), H', ⟨by have := HJ4.out; omega⟩, ⟨kV aj⟩, ⟨kV ai⟩, ⟨kk Ac⟩, ⟨kk AL⟩, ⟨kk ae⟩, ⟨bO HB⟩⟩
     ·
      rw [if_neg aN] at H;have dF := decide_eq_false aN;clear aN;have H' := yf.mk H;clear H
      try go_wp2
      have BL : yf (Kd.V (Kd.slice 3 (Kd.int .i64)) 63 ((wc.setCell ⟨aa, 9, none⟩ (.int .i64 (wrap64 (yo * t206)))).setCell ⟨aa, 10, none⟩ (.int .i64 (wrap64 ((wrap64 (yo * t206)) + yu)))) w.heap.size (fun k_ => (FP k_ ∨ w.heap.size ≤ k_) ∧ k_ ≠ De ∧ k_ ≠ Df ∧ k_ ≠ aa) (.slice (some ag) yh.length yM) yh) := ⟨by (with_reducible repeat (apply Kd.Ap)); exact Kd.z8 (FZ (g := aa) (Kd.z8 aj.out (fun k_ hk => (⟨hk, hk.2.2.2⟩ : _ ∧ k_ ≠ aa))) (fun _ hk => hk.2)) (fun _ hk => ⟨hk.1.1, ⟨hk.1.2.1, ⟨hk.1.2.2.1, hk.1.2.2.2⟩⟩⟩)⟩
      have BN : yf (Kd.V (Kd.slice 3 (Kd.int .i64)) 63 ((wc.setCell ⟨aa, 9, none⟩ (.int .i64 (wrap64 (yo * t206)))).setCell ⟨aa, 10, none⟩ (.int .i64 (wrap64 ((wrap64 (yo * t206)) + yu)))) w.heap.size (fun k_ => (FP k_ ∨ w.heap.size ≤ k_) ∧ k_ ≠ De ∧ k_ ≠ Df ∧ k_ ≠ aa) (.slice (some ag) yh.length yM) yh) := ⟨by (with_reducible repeat (apply Kd.Ap)); exact Kd.z8 (FZ (g := aa) (Kd.z8 ai.out (fun k_ hk => (⟨hk, hk.2.2.2⟩ : _ ∧ k_ ≠ aa))) (fun _ hk => hk.2)) (fun _ hk => ⟨hk.1.1, ⟨hk.1.2.1, ⟨hk.1.2.2.1, hk.1.2.2.2⟩⟩⟩)⟩
      have BX : yf (((wc.setCell ⟨aa, 9, none⟩ (.int .i64 (wrap64 (yo * t206)))).setCell ⟨aa, 10, none⟩ (.int .i64 (wrap64 ((wrap64 (yo * t206)) + yu)))).heap[De]? = some (.cells #[.int .i64 yn, .slice (some ag) yh.length yM, .int .i64 yo, .int .i64 yu] 31 (0, 0))) := bK Ac rfl
      have Cr : yf (((wc.setCell ⟨aa, 9, none⟩ (.int .i64 (wrap64 (yo * t206)))).setCell ⟨aa, 10, none⟩ (.int .i64 (wrap64 ((wrap64 (yo * t206)) + yu)))).heap[Df]? = some (.cells #[.int .i64 0, .slice none 0 0, .int .i64 0, .int .i64 0, .int .i64 0, .int .i64 0, .int .i64 0, .slice none 0 0, .slice none 0 0, .int .i64 0, .int .i64 0] 102 (0, 0))) := bK AL rfl
      have CG : yf (((wc.setCell ⟨aa, 9, none⟩ (.int .i64 (wrap64 (yo * t206)))).setCell ⟨aa, 10, none⟩ (.int .i64 (wrap64 ((wrap64 (yo * t206)) + yu)))).heap[aa]? = some (.cells #[.int .i64 yn, .slice (some ag) yh.length yM, .int .i64 yo, .int .i64 yu, .int .i64 ((zt yh 0).length : Int), .int .i64 t206, .int .i64 (yh.length : Int), .slice none 0 0, .slice none 0 0, .int .i64 (wrap64 (yo * t206)), .int .i64 (wrap64 ((wrap64 (yo * t206)) + yu))] 102 (0, 0))) := bK ae rfl
      have CU : yf (Below w.heap.size w ((wc.setCell ⟨aa, 9, none⟩ (.int .i64 (wrap64 (yo * t206)))).setCell ⟨aa, 10, none⟩ (.int .i64 (wrap64 ((wrap64 (yo * t206)) + yu))))) := ⟨bO HB⟩
      clear aj ai Ac AL ae HB;generalize ((wc.setCell ⟨aa, 9, none⟩ (.int .i64 (wrap64 (yo * t206)))).setCell ⟨aa, 10, none⟩ (.int .i64 (wrap64 ((wrap64 (yo * t206)) + yu)))) = w73 at BL BN BX Cr CG CU ⊢;have aj := BL;have ai := BN;have Ac := BX;have AL := Cr;have ae := CG;have HB := CU;clear BL BN BX Cr CG CU;replace aj := yf.mk (Kd.K5 aj.out);replace ai := yf.mk (Kd.K5 ai.out);replace Ac := yf.mk (yO Ac.out);replace AL := yf.mk (yO AL.out);replace ae := yf.mk (yO ae.out);replace HB := yf.mk (za HB.out)
      refine Bc (n := 22) (S := fun w' => w'.cell? ⟨De, 0, none⟩ = some (.int .i64 yn) ∧ w'.cell? ⟨De, 1, none⟩ = some (.slice (some ag) yh.length yM) ∧ w'.cell? ⟨De, 2, none⟩ = some (.int .i64 yo) ∧ w'.cell? ⟨De, 3, none⟩ = some (.int .i64 yu) ∧ w'.cell? ⟨aa, 0, none⟩ = some (.int .i64 yn) ∧ w'.cell? ⟨aa, 1, none⟩ = some (.slice (some ag) yh.length yM) ∧ w'.cell? ⟨aa, 2, none⟩ = some (.int .i64 yo) ∧ w'.cell? ⟨aa, 3, none⟩ = some (.int .i64 yu) ∧ w'.cell? ⟨aa, 4, none⟩ = some (.int .i64 ((zt yh 0).length : Int)) ∧ w'.cell? ⟨aa, 5, none⟩ = some (.int .i64 t206) ∧ w'.cell? ⟨aa, 6, none⟩ = some (.int .i64 (yh.length : Int)) ∧ w'.cell? ⟨aa, 7, none⟩ = some (.slice none 0 0) ∧ w'.cell? ⟨aa, 8, none⟩ = some (.slice none 0 0) ∧ w'.cell? ⟨aa, 9, none⟩ = some (.int .i64 (wrap64 (yo * t206))) ∧ w'.cell? ⟨aa, 10, none⟩ = some (.int .i64 (wrap64 ((wrap64 (yo * t206)) + yu)))) (ds := []) (bz 22 0) (by kernel_rfl) rfl rfl (K6 Ac (EW ae)) (fun hHeld => ?_); refine zF yR.NJ yR.Jm (fun yz Bi => ?_)
      generalize w73.drew = w74 at aj ai Ac AL ae HB hHeld ⊢;refine pU 0 76 22 1 yz ?_;refine pU 2 78 22 5 yz ?_
      refine BO 1 77 22 7 yz Bi hHeld ?_
      refine BO 3 79 22 15 yz Bi hHeld ?_
      refine pU 4 80 22 31 yz ?_;refine pU 5 81 22 63 yz ?_;refine pU 6 82 22 127 yz ?_;refine pU 7 83 22 255 yz ?_;refine pU 9 85 22 767 yz ?_
      refine BO 8 84 22 1023 yz Bi hHeld ?_
      refine BO 10 86 22 2047 yz Bi hHeld ?_
      refine pU 11 87 22 4095 yz ?_
      refine BO 12 88 22 8191 yz Bi hHeld ?_
      refine Ck (i := 13) (N := some 89) (bz 22 16383) rfl rfl (Af yz.out (by kernel_rfl)) (by decide) (fun K hK => ?_)
      refine gO Try.func80 #[.agg #[.int .i64 yn, .slice (some ag) yh.length yM, .int .i64 yo, .int .i64 yu, .int .i64 ((zt yh 0).length : Int), .int .i64 t206, .int .i64 (yh.length : Int), .slice none 0 0, .slice none 0 0, .int .i64 (wrap64 (yo * t206)), .int .i64 (wrap64 ((wrap64 (yo * t206)) + yu))]] ?_
      refine (Dc.calls yn _ _ yh yo yu ((zt yh 0).length : Int) t206 (yh.length : Int) _ _ ([] : List (List Int)) _ _ ([] : List (List Int)) (wrap64 (yo * t206)) (wrap64 ((wrap64 (yo * t206)) + yu)) Ox _ ?yD ?yF ?zw ?zx ?Dy ?Dz A68.out).mono ?_
      (case yD => exact Oo ai)
      (case yF => exact (Kd.zW ai.out).2.1)
      (case zw => exact Kd.LZ _ _)
      (case zx => exact Nat.le_refl _)
      (case Dy => exact Kd.LZ _ _)
      (case Dz => exact Nat.le_refl _)
      rintro e w75 ⟨rfl, hb⟩
      refine ⟨_, rfl, ?_⟩
      replace aj := Om aj hb;replace ai := Om ai hb;replace Ac := bB Ac hb;replace AL := bB AL hb;replace ae := bB ae hb;replace HB := bS HB hb;clear hb
      refine hK.out _ _ (K6 Ac (EW ae)) (fun hHeld => ?_)
      clear hK K
      refine AR (a' := ?_) ?_ ?_
      rotate_left
      ·
       show Act.put _ (some 89) _ = _
       simp only [pz]
       rfl
      refine pU 14 90 22 32767 yz ?_;refine pU 15 91 22 65535 yz ?_;refine pU 16 92 22 131071 yz ?_;refine pU 17 93 22 262143 yz ?_;refine pU 18 94 22 524287 yz ?_
      refine BO 19 95 22 1048575 yz Bi hHeld ?_
      refine pU 20 96 22 2097151 yz ?_;refine pU 21 97 22 4194303 yz ?_
      refine BG (Al yz.out (by kernel_rfl)) ?_
      try go_wp2
      go_meet
      case rel => exact ⟨_, (decide ((wrap64 ((wrap64 (yo * t206)) + yu)) > 65536)), (by rfl), H', ⟨by have := HJ4.out; omega⟩, ⟨kV aj⟩, ⟨kV ai⟩, ⟨kk Ac⟩, ⟨kk AL⟩, ⟨kk ae⟩, ⟨bO HB⟩⟩
   case rest =>
    clear bA;obtain ⟨kq, bn, rfl, HA, iE, aj, ai, Ac, AL, ae, HB⟩ := hcut
    cases kq with
    | zero => exact absurd HA.out (by simp [yR.j1])
    | succ eQ =>
     have H := HA.out;clear HA;simp only [yR.j1] at H
     by_cases c76 : bn = true
     ·
      subst c76;rw [if_pos rfl] at H;simp only [Option.some.injEq, Prod.mk.injEq] at H;obtain ⟨rfl, rfl, rfl, rfl, rfl, rfl, rfl, rfl, rfl, rfl, rfl, rfl⟩ := H;have a0B := az.out;have a0C := ax.out;have Xb := ak.out;have Xc := au.out;have a0D := EW AL;have a0E := bf AL
      go_wp2
      refine bodyPost_ret (BS rfl _ _ Df 102 #[.int .i64 0, .slice none 0 0, .int .i64 0, .int .i64 0, .int .i64 0, .int .i64 0, .int .i64 0, .slice none 0 0, .slice none 0 0, .int .i64 0, .int .i64 0] (0, 0) _ rfl (CJ AL rfl) Try.underlying102 rfl (by kernel_rfl)) rfl ?_
      exact ⟨_, _, _, by rfl, Kd.FM _ _ _ _ _, Kd.FM _ _ _ _ _, Kd.FM _ _ _ _ _, bO HB⟩
     ·
      replace c76 := Bool.eq_false_iff.mpr c76;subst c76
      rw [if_neg (show ¬ (false = true) by decide)] at H
      by_cases c80 : 0 ≤ yn
      ·
       rw [if_pos c80] at H;have a0F := eq_true c80;have a0G := decide_eq_true c80;clear c80
       by_cases VI : (yn : Int).toNat ≤ 11728124029610
       ·
        rw [if_pos VI] at H;have a0H := eq_true VI;have eZ := decide_eq_true VI;clear VI
        have hmk : MOk yn yh := by
         unfold layout_measure_fin at H
         split at H
         · assumption
         · cases H
        unfold layout_measure_fin at H
        rw [if_pos hmk] at H;simp only [Option.some.injEq, Prod.mk.injEq] at H;obtain ⟨rfl, rfl, rfl, rfl, rfl, rfl, rfl, rfl, rfl, rfl, rfl, rfl⟩ := H;have HMK := yf.mk hmk;clear hmk;have HR := yf.mk (Kd.zW JY).2.2;have HS0 := yf.mk JY;clear JY;obtain ⟨aA, cz⟩ : ∃ y_ : List (List Int), y_ = (List.replicate (yn : Int).toNat []) := ⟨_, rfl⟩;have bJ := yf.mk cz;clear cz;have a4T := ax.out;have a4U := az.out;have a4V := af.out;have a4W := av.out;have iG := AP Ac;have gW := bf Ac
        go_wp2_with (((with_reducible refine yI (N := 102) rfl ?_); refine Kd.a1M (Kd.slice 3 (Kd.int .i64)) _ 63 rfl (N := 102) rfl 27 _ _ rfl yn rfl rfl Try.underlying27 (.slice none 0 0) 24 PW rfl (by decide) (by omega) [] (ok := fun _ => True) (okp := fun _ => True) ⟨_, rfl, Kd.Er _ _ _ _ _⟩ (fun _ hk => hk) trivial (of_decide_eq_true ‹_›) (Nat.le_trans (Nat.mul_le_mul_right _ (of_decide_eq_true ‹_› : yn.toNat ≤ 11728124029610)) (by omega)) (Below.refl _ _) (Nat.le_refl _) ?_; intro v213 w85 aZ hb JN DW; clear JN DW; (rw [← bJ.out] at aZ); replace aj := yf.mk (Kd.Dk (kV aj) (Kd.SG aZ) hb); replace ai := yf.mk (Kd.Dk (kV ai) (Kd.SG aZ) hb); have bV := yf.mk (Kd.Eu (Kd.a1W (M := fun k_ => (w.heap.size ≤ k_)) aZ (yL (bO HB)) (fun k_ h_ => h_)) (yL (bO HB))); replace Ac := bB Ac hb; replace AL := bB AL hb; replace ae := bB ae hb; replace HB := bS HB hb; clear hb aZ; obtain ⟨aK, aD, dJ⟩ := Kd.Eb bV.out; subst dJ; have eG := au.out; have gH := ak.out; have fK := EW ae; have ek := bf ae; have eT := AP Ac; have gQ := bf Ac))
        have HT0 := yf.mk (K8.start bV.out);have HYL := yf.mk (show aA.length = yn.toNat by rw [bJ.out, List.length_replicate])
        go_loopg [108] yh.length (fun kq v108 w' => ∃ (i : Nat) (vr : Value), v108 = .int .i64 (i : Int) ∧ yf (i ≤ yh.length ∧ kq = yh.length - i) ∧ yf (K8 w' w.heap.size (EQ yn.toNat yh i).1 (.slice aK aA.length aD) (EQ yn.toNat yh i).2 vr [] (.slice none 0 0)) ∧ yf (w'.heap[De]? = some (.cells #[.int .i64 yn, (.slice (some ag) yh.length yM), .int .i64 yo, .int .i64 yu] 31 (0, 0))) ∧ yf (w'.heap[Df]? = some (.cells #[.int .i64 0, (.slice none 0 0), .int .i64 0, .int .i64 0, .int .i64 0, .int .i64 0, .int .i64 0, (.slice none 0 0), (.slice none 0 0), .int .i64 0, .int .i64 0] 102 (0, 0))) ∧ yf (w'.heap[aa]? = some (.cells #[.int .i64 yn, (.slice (some ag) yh.length yM), .int .i64 yo, .int .i64 yu, .int .i64 ((zt yh 0).length : Int), .int .i64 t206, .int .i64 (yh.length : Int), vr, (.slice aK aA.length aD), .int .i64 (wrap64 (yo * t206)), .int .i64 (wrap64 ((wrap64 (yo * t206)) + yu))] 102 (0, 0))) ∧ yf (Below w.heap.size w w'))
        case atStart =>
         refine ⟨0, .slice none 0 0, rfl, ⟨Nat.zero_le _, by omega⟩, ⟨?_⟩, bK Ac rfl, bK AL rfl, bK ae rfl, ⟨bO HB⟩⟩
         rw [Jk, ← bJ.out]
         exact K8.far (p := ⟨aa, 8, none⟩) HT0.out ae.out (by decide) (by decide) _
        case round =>
         clear Ac AL ae HB HT0;obtain ⟨i, vr, rfl, HI, HT, Ac, AL, ae, HB⟩ := hrel;have bL := AP Ac;have cO := bf Ac
         by_cases c1 : i < yh.length
         · have c1b : decide ((i : Int) < (yh.length : Int)) = true := decide_eq_true (by omega)
           have p1 : 0 ≤ (i : Int) := by omega
           have q1 : (i : Int) < (yh.length : Int) := by omega
           have HL := yf.mk c1
           obtain ⟨k1, rfl⟩ : ∃ k1, gk = k1 + 1 := ⟨gk - 1, by have := HI.out.2; omega⟩
           clear c1;obtain ⟨ad1, A1, n1, e1, hx1, hl1, hr1⟩ := EC HR.out (i : Int) p1 q1;cases e1;rw [Int.toNat_natCast] at hx1;replace hx1 := cB HB hx1;obtain ⟨g, hg⟩ : ∃ g, zt yh (i : Int) = g := ⟨_, rfl⟩;rw [hg] at hx1
           have HRG : yf ((Kd.int .i64).C w A1 g.length g) := ⟨hg ▸ hr1⟩
           have HGE : yf (yh[i]'HL.out = g) := ⟨by rw [← hg]; unfold zt; rw [Int.toNat_natCast, getD_at _ _ _ HL.out]⟩
           clear hg hr1 hl1;replace p1 := eq_true p1;replace q1 := eq_true q1
           go_wp2
           clear hx1 bL cO
           go_loopg [10, 115] g.length (fun kq v10 v115 w' => ∃ (j : Nat), v115 = .int .i64 (j : Int) ∧ yf (j ≤ g.length ∧ kq = g.length - j) ∧ yf (K8 w' w.heap.size (VH i (g.take j) (EQ yn.toNat yh i).1).1 (.slice aK aA.length aD) (EQ yn.toNat yh i).2 vr (VH i (g.take j) (EQ yn.toNat yh i).1).2 v10) ∧ yf (w'.heap[De]? = some (.cells #[.int .i64 yn, (.slice (some ag) yh.length yM), .int .i64 yo, .int .i64 yu] 31 (0, 0))) ∧ yf (w'.heap[Df]? = some (.cells #[.int .i64 0, (.slice none 0 0), .int .i64 0, .int .i64 0, .int .i64 0, .int .i64 0, .int .i64 0, (.slice none 0 0), (.slice none 0 0), .int .i64 0, .int .i64 0] 102 (0, 0))) ∧ yf (w'.heap[aa]? = some (.cells #[.int .i64 yn, (.slice (some ag) yh.length yM), .int .i64 yo, .int .i64 yu, .int .i64 ((zt yh 0).length : Int), .int .i64 t206, .int .i64 (yh.length : Int), vr, (.slice aK aA.length aD), .int .i64 (wrap64 (yo * t206)), .int .i64 (wrap64 ((wrap64 (yo * t206)) + yu))] 102 (0, 0))) ∧ yf (Below w.heap.size w w'))
           case atStart => exact ⟨0, rfl, ⟨Nat.zero_le _, by omega⟩, HT, Ac, AL, ae, HB⟩
           case round =>
            clear HT Ac AL ae HB;obtain ⟨j, rfl, HJ, HT, Ac, AL, ae, HB⟩ := hrel
            by_cases c2 : j < g.length
            · have c2b : decide ((j : Int) < (g.length : Int)) = true := decide_eq_true (by omega)
              have p2 : 0 ≤ (j : Int) := by omega
              have q2 : (j : Int) < (g.length : Int) := by omega
              have HJL := yf.mk c2
              obtain ⟨k2, rfl⟩ : ∃ k2, gk = k2 + 1 := ⟨gk - 1, by have := HJ.out.2; omega⟩
              clear c2
              have hgL : g ∈ yh := HGE.out ▸ List.getElem_mem HL.out
              obtain ⟨hj0, hj1⟩ := (HMK.out.2 g hgL).2 g[j] (List.getElem_mem HJL.out)
              obtain ⟨dd, hdd⟩ : ∃ dd : Nat, g[j]'HJL.out = (dd : Int) := ⟨(g[j]'HJL.out).toNat, by omega⟩
              have HBD := (Bd.row _ _ i g _ (Bd.all yn.toNat yh (fun g hg => (HMK.out.2 g hg).1) i (Nat.le_of_lt HL.out)).1 j (Nat.le_of_lt HJL.out))
              have hstep := R6 i g (EQ yn.toNat yh i).1 j HJL.out;rw [hdd] at hstep;obtain ⟨aG, bF⟩ : ∃ x, (VH i (g.take j) (EQ yn.toNat yh i).1).1 = x := ⟨_, rfl⟩;obtain ⟨cK, bD⟩ : ∃ x, (VH i (g.take j) (EQ yn.toNat yh i).1).2 = x := ⟨_, rfl⟩;rw [bF, bD] at HT HBD;simp only [Nw, bF, bD, Int.toNat_natCast] at hstep;have HSTEP := yf.mk hstep
              have bq : aG.length = aA.length := by rw [HBD.1.1, HYL.out]
              have hddn : dd < aA.length := by rw [HYL.out]; omega
              have hlo : (aG.getD dd []).length + 1 < 1000000 := by have := HBD.1.2 dd; have := HI.out.1; have := HMK.out.1; have dI := (HMK.out.2 g hgL).1; have := HJL.out; have : i * 60 ≤ 4096 * 60 := Nat.mul_le_mul_right _ (by omega); omega
              have hlr : cK.length + 1 < 1000000 := by have := HBD.2; have dI := (HMK.out.2 g hgL).1; have := HJL.out; omega
              have HLO := yf.mk hlo;have HLR := yf.mk hlr;have bg := yf.mk bq;obtain ⟨dm, bo, dw⟩ := K8.head HT.out dd hddn;subst dw;clear dm;have HDDN := yf.mk hddn
              have dD : w.heap.size ≤ bo ∧ ∃ cells, wr.heap[bo]? = some (.cells cells 63 (0, 0)) := by
                have bM := HT.out;rw [← bq] at bM;obtain ⟨_, _, _, _, _, _, Vf, _, Vg, _⟩ := K8.a2x bM dd (by rw [bq]; exact hddn)
                exact ⟨Vf, Vg⟩
              obtain ⟨bY, dK, aH⟩ := dD;have HBG := yf.mk bY
              have NBOA : yf (De ≠ bo) := ⟨fun e => by rw [← e, Ac.out] at aH; injection aH with h_; injection h_ with _ h_; cases h_⟩
              have NBOB : yf (Df ≠ bo) := ⟨fun e => by rw [← e, AL.out] at aH; injection aH with h_; injection h_ with _ h_; cases h_⟩
              have NBOC : yf (aa ≠ bo) := ⟨fun e => by rw [← e, ae.out] at aH; injection aH with h_; injection h_ with _ h_; cases h_⟩
              clear bY aH dK;obtain ⟨ad2, e2, hx2⟩ := Kd.C9 HRG.out (j : Int) p2 q2;cases e2;rw [Int.toNat_natCast, show rd g (j : Int) = (dd : Int) from (IQ g j HJL.out).trans hdd] at hx2;replace hx2 := cB HB hx2;clear hgL hj0 hj1 hdd hstep bF bD HBD hlo hlr bq hddn;have HT' := HT.out;rw [← bg.out] at HT';obtain ⟨oi, vd, hRd, hcd, hfd, bv, bC, hvdbo, hbt, hback⟩ := K8.a2x HT' dd (by rw [bg.out]; exact HDDN.out);clear hback hfd hvdbo;obtain ⟨Ad, cd, hvd⟩ := Kd.zJ hRd;subst hvd;have hwb := World.block_lt_of_cell? _ _ hcd
              have p3 : (0 ≤ (dd : Int)) = True := eq_true (by omega)
              have q3 : ((dd : Int) < (aA.length : Int)) = True := eq_true (by have := HDDN.out; omega)
              replace p2 := eq_true p2;replace q2 := eq_true q2;have aW := EW ae;have aT := bf ae;clear hRd bv bC hbt HT' hwb;obtain ⟨oO, oR, oT, hS, hR, hT, d1, d2, d3⟩ := HT.out;have HS := yf.mk hS;have HRR := yf.mk hR;have HRT := yf.mk hT;have HD := yf.mk (And.intro d1 (And.intro d2 d3));clear hS hR hT d1 d2 d3
              go_wp2_with (first
                | ((with_reducible refine BH (b := .append) (xs := #[.tmp 119, .tmp 126]) rfl ?_); at_builtin; refine Kd.El (Kd.int .i64) (w0 := w) w.heap.size rfl (.tmp 119) (.tmp 126) 63 3 (.int .i64 0) 8 rfl Try.underlying63 info3 rfl (by decide) (by omega) _ cK ((aG.getD dd []).length : Int) [.int .i64 ((aG.getD dd []).length : Int)] (fun k_ => oT k_ ∨ wr.heap.size ≤ k_) (fun _ => False) rfl rfl rfl (fun _ hk => hk.elim) (fun k hk => .inr hk) (Kd.yX HRT.out (fun k hk => .inl hk)) HB.out HB.out.size (by have := HLR.out; omega) ?_; intro v1 w1 ho hb hg hat; have HT1 := yf.mk (K8.push HS.out HRR.out HRT.out HD.out.1 HD.out.2.1 HD.out.2.2 ho hg); replace Ac := yf.mk (zY Ac.out hg (Kd.EI HRT.out Ac.out (by decide))); replace AL := yf.mk (zY AL.out hg (Kd.EI HRT.out AL.out (by decide))); replace ae := yf.mk (zY ae.out hg (Kd.EI HRT.out ae.out (by decide))); replace HB := yf.mk hb; clear ho hb hg hat hcd aW aT hx2))
              clear HS HRR HRT HD HT;replace HT1 := yf.mk HT1.out.drew;replace Ac := yf.mk (yO Ac.out);replace AL := yf.mk (yO AL.out);replace ae := yf.mk (yO ae.out);replace HB := yf.mk (za HB.out);have HT' := HT1.out;rw [← bg.out] at HT';obtain ⟨oi, vd, hRd, hcd, hfd, bv, bC, hvdbo, dn, hback⟩ := K8.a2x HT' dd (by rw [bg.out]; exact HDDN.out);obtain ⟨cbo, hbt⟩ := dn;obtain ⟨bU, bT, hvd⟩ := Kd.zJ hRd;subst hvd;rw [bg.out] at hback;have HRD := yf.mk hRd;have HCD := yf.mk hcd;have HBT := yf.mk hbt;have HBK := yf.mk hback;have HVB := yf.mk hvdbo;clear hRd hcd hbt hback hvdbo hfd bv bC HT' HT1
              refine Bc (n := 13) (S := fun w' => w'.cell? ⟨aa, 8, none⟩ = some (.slice (some ⟨bo, 0, none⟩) aA.length aD) ∧ w'.cell? ⟨bo, dd, none⟩ = some (.slice bU (aG.getD dd []).length bT)) (ds := [12]) (bz 13 0) (by kernel_rfl) rfl rfl ⟨(yA ae.out 8).trans rfl, HCD.out⟩ (fun hHeld => ?_); refine zF Ow Nz (fun yz Bi => ?_)
              refine pU 0 128 13 1 yz ?_;refine pU 2 130 13 5 yz ?_;refine pU 3 131 13 13 yz ?_;refine pU 5 133 13 45 yz ?_;refine pU 8 136 13 301 yz ?_
              refine BO 1 129 13 303 yz Bi hHeld ?_
              refine BO 4 132 13 319 yz Bi hHeld ?_
              refine pU 6 134 13 383 yz ?_
              refine BO 7 135 13 511 yz Bi hHeld ?_
              refine Ck (i := 9) (N := some 137) (bz 13 1023) rfl rfl (Af yz.out (by kernel_rfl)) (by decide) (fun K hK => ?_)
              refine SE (w1 := ?_) (v := ?_) (by rfl) rfl ?_ ?_
              rotate_left 2
              · go_simp
                constructor
                · rfl
                · rfl
              refine hK.out _ _ ⟨(yA (Ex ae.out _) 8).trans rfl, (yA (Ex HBT.out _) dd).trans ((yA HBT.out dd).symm.trans HCD.out)⟩ (fun hHeld => ?_)
              clear hK K
              refine AR (a' := ?_) ?_ ?_
              rotate_left
              · show Act.put _ (some 137) _ = _
                simp only [pz]
                rfl
              refine Ck (i := 10) (N := some 138) (bz 13 2047) rfl rfl (Af yz.out (by kernel_rfl)) (by decide) (fun K hK => ?_)
              refine Kd.Hz (Kd.int .i64) (w0 := w) w.heap.size (by rfl) (.tmp 135) (.tmp 137) 63 3 (.int .i64 0) 8 rfl Try.underlying63 info3 rfl (by decide) (by omega) (.slice bU (aG.getD dd []).length bT) (aG.getD dd []) (i : Int) [.int .i64 (i : Int)] (fun k_ => oi k_ ∨ w1.drew.heap.size ≤ k_) (fun _ => False) rfl rfl rfl (fun _ hk => hk.elim) (fun k hk => .inr hk) (Kd.yX HRD.out (fun k hk => .inl hk)) HB.out HB.out.size (by have := HLO.out; omega) ?_
              intro v2 w2 ho hb hg hat
              have HT2 := yf.mk (HBK.out w2 v2 _ ho hg);replace Ac := yf.mk (zY Ac.out hg (Kd.EI HRD.out Ac.out (by decide)));replace AL := yf.mk (zY AL.out hg (Kd.EI HRD.out AL.out (by decide)));replace ae := yf.mk (zY ae.out hg (Kd.EI HRD.out ae.out (by decide)));have bW := yf.mk ((yA (zY HBT.out hg (fun e => HVB.out bo e.symm rfl)) dd).trans ((yA HBT.out dd).symm.trans HCD.out));replace HBT := yf.mk (zY HBT.out hg (fun e => HVB.out bo e.symm rfl));replace HB := yf.mk hb;have ig := yf.mk (Kd.ZU ho);obtain ⟨gD, eu, hv2⟩ := Kd.zJ ho;subst hv2
              have HBOW : yf (w.heap.size ≤ bo) := ⟨HBG.out⟩
              clear ho hb hg hat HBK HVB HRD
              refine hK.out _ _ ⟨(yA ae.out 8).trans rfl, bW.out⟩ (fun hHeld => ?_)
              clear hK K
              refine AR (a' := ?_) ?_ ?_
              rotate_left
              · show Act.put _ (some 138) _ = _
                simp only [pz]
                rfl
              refine pU 11 139 13 4095 yz ?_
              refine OL (i := 12) (N := none) (bz 13 8191) rfl rfl (Af yz.out (by kernel_rfl)) (by decide) (fun K hK => ?_)
              have a4o := bW.out;have ZY := zH HBT.out dd
              refine IR (w1 := ?_) (by rfl) rfl ?_ ?_
              rotate_left
              · go_simp
                rfl
              refine hK.out _ _ ?_
              clear hK K
              refine BG (Al yz.out (by kernel_rfl)) ?_
              clear a4o ZY
              go_wp2
              go_roundg k2
              case measure => exact Nat.lt_succ_self _
              case rel =>
               refine ⟨j + 1, vi HJL.out HRG.out.2.1, ⟨by have := HJL.out; omega, by have := HJ.out.2; have := HJL.out; omega⟩, ⟨?_⟩, ⟨GI Ac.out NBOA.out _⟩, ⟨GI AL.out NBOB.out _⟩, ⟨GI ae.out NBOC.out _⟩, ⟨DL HB.out HBOW.out⟩⟩
               rw [HSTEP.out];have HT3 := HT2.out;simp only [List.getD_eq_getElem?_getD, List.length_append, List.length_singleton] at HT3 ⊢
               exact HT3
            · have c2b : decide ((j : Int) < (g.length : Int)) = false := decide_eq_false (by omega)
              obtain rfl : j = g.length := by have := HJ.out.1; omega
              clear c2;have aW := EW ae;have aT := bf ae;obtain ⟨oO, oR, oT, hS, hR, hT, d1, d2, d3⟩ := HT.out;have HS := yf.mk hS;have HRR := yf.mk hR;have HRT := yf.mk hT;have HD := yf.mk (And.intro d1 (And.intro d2 d3))
              have HRL := yf.mk (Bd.all yn.toNat yh (fun g hg => (HMK.out.2 g hg).1) i (Nat.le_of_lt HL.out)).2
              clear hS hR hT d1 d2 d3 HT;rw [List.take_of_length_le (Nat.le_refl _)] at HS HRT;obtain ⟨gK, dU, di⟩ := Kd.zJ HRT.out;subst di
              go_wp2_with (first
                | ((with_reducible refine BH (b := .append) (xs := #[.tmp 142, .tmp 144]) rfl ?_); at_builtin; refine Kd.El (Kd.slice 3 (Kd.int .i64)) (w0 := w) w.heap.size rfl (.tmp 142) (.tmp 144) 27 63 (.slice none 0 0) 24 rfl Try.underlying27 PW rfl (by decide) (by omega) vr (EQ yn.toNat yh i).2 (VH i g (EQ yn.toNat yh i).1).2 [_] (fun k_ => (oR k_ ∨ oT k_) ∨ wr.heap.size ≤ k_) oT rfl rfl (Kd.U0 HRT.out) (fun k hk => ⟨.inl (.inr hk), fun e => HD.out.2.1 k (HRR.out.1 k e.symm) hk⟩) (fun k hk => .inr hk) (Kd.yX HRR.out (fun k hk => .inl (.inl hk))) HB.out HB.out.size (by have := HRL.out; have := HI.out.1; have := HMK.out.1; omega) ?_; intro v1 w1 ho hb hg hat; have HT1 := yf.mk (K8.rank HS.out HRR.out HD.out.1 HD.out.2.2 ho hg); replace Ac := yf.mk (zY Ac.out hg (Kd.EI HRR.out Ac.out (by decide))); replace AL := yf.mk (zY AL.out hg (Kd.EI HRR.out AL.out (by decide))); replace ae := yf.mk (zY ae.out hg (Kd.EI HRR.out ae.out (by decide))); replace HB := yf.mk hb; have dh := yf.mk (Kd.zJ ho); clear ho hb hg hat; clear aW aT; obtain ⟨gq, iq, dC⟩ := dh.out; subst dC; have aW := EW ae; have aT := bf ae))
              go_roundg k1
              case measure => exact Nat.lt_succ_self _
              case rel =>
               refine ⟨i + 1, _, vi HL.out HR.out.2.1, ⟨by have := HL.out; omega, by have := HI.out.2; have := HL.out; omega⟩, ⟨?_⟩, ⟨GI Ac.out af.out _⟩, ⟨GI AL.out ak.out _⟩, ⟨YS (cs := #[.int .i64 yn, .slice (some ag) yh.length yM, .int .i64 yo, .int .i64 yu, .int .i64 ((zt yh 0).length : Int), .int .i64 t206, .int .i64 (yh.length : Int), vr, .slice aK aA.length aD, .int .i64 (wrap64 (yo * t206)), .int .i64 (wrap64 ((wrap64 (yo * t206)) + yu))]) ae.out 7 _ rfl⟩, ⟨bO HB⟩⟩
               rw [Mf _ _ _ HL.out];simp only [mGo, HGE.out];have HT2 := HT1.out;rw [List.length_append, List.length_singleton] at HT2
               exact K8.far (p := ⟨aa, 7, none⟩) HT2 ae.out (by decide) (by decide) _
         · have c1b : decide ((i : Int) < (yh.length : Int)) = false := decide_eq_false (by omega)
           obtain rfl : i = yh.length := by have := HI.out.1; omega
           clear c1 bL cO;rw [Tm] at HT;have fO := ak.out;have gY := au.out;have aW := EW ae;have aT := bf ae;have fG := EW AL;have gB := bf AL;obtain ⟨oO, oR, oT, hS, hR, hT, d1, d2, d3⟩ := HT.out;obtain ⟨dB, dH, dz⟩ := Kd.zJ hR;subst dz;have HS := yf.mk (Kd.AO (Kd.KC hS) AL.out (by decide));have HRR := yf.mk (Kd.Aw (Kd.Ej hR) AL.out (by decide));clear hS hR hT d1 d2 d3 HT
           go_wp2
           refine bodyPost_ret (BS rfl _ _ Df 102 #[.int .i64 yn, .slice (some ag) yh.length yM, .int .i64 yo, .int .i64 yu, .int .i64 ((zt yh 0).length : Int), .int .i64 t206, .int .i64 (yh.length : Int), .slice dB (Ny yn.toNat yh).2.length dH, .slice aK aA.length aD, .int .i64 (wrap64 (yo * t206)), .int .i64 (wrap64 ((wrap64 (yo * t206)) + yu))] (0, 0) _ rfl (CJ AL rfl) Try.underlying102 rfl (by kernel_rfl)) rfl ?_
           exact ⟨_, _, _, by rfl, Kd.z8 (Kd.Ao HS0.out (bO HB)) (fun k_ hk => .inl hk), Kd.z8 (Kd.R_V (F4 (g := Df) HRR.out (fun _ hk => hk.2))) (fun k_ hk => .inr hk.1.2.1), Kd.z8 (Kd.S_V (GA (g := Df) HS.out (fun _ hk => hk.2))) (fun k_ hk => .inr hk.1.2.1), bO HB⟩
       ·
        rw [if_neg VI] at H;exact absurd H (by simp)
      ·
       rw [if_neg c80] at H;exact absurd H (by simp)
end Go.Proofs.Ytjonnfmoocijlaa.P
