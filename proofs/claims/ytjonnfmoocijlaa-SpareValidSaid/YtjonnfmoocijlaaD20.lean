/- Texts of a claim, packed. -/
import Derived.Test.YtjonnfmoocijlaaD19
set_option linter.all false
namespace Go.Proofs.Ytjonnfmoocijlaa.P
open Go.RowKit Go.Proofs.YtjonnfmoocijlaaKW.PrintWords Go.Proofs.YtjonnfmoocijlaaKW.PrintLast Go.Proofs.YtjonnfmoocijlaaKW.PrintMore
attribute [local go_sem] zz zA zS zT zn zo zB zC
def Ar.l0 : Nat → Int → List Int → Int → Int → Option (Int)
 | 0, _, _, _, _ => none
 | k + 1, x3, x6, x7, x8 => if x8 < x7 then (if 0 ≤ x8 then (if x8 < (x6.length : Int) then (if (rd x6 x8) = x3 then (Ar.l0 k x3 x6 x7 (wrap64 (x8 + 1))) else (some (rd x6 x8))) else (none)) else (none)) else (some x3)
def Ar.f (k : Nat) (l0 : List Int) : Option (Int) := Ar.l0 k 0 l0 (l0.length : Int) 0
theorem Ar.mono_l : ∀ k, (∀ y0 y1 y2 y3, zZ (Ar.l0 k y0 y1 y2 y3) (Ar.l0 (k + 1) y0 y1 y2 y3))
 | 0 => fun _ _ _ _ r h => by simp [Ar.l0] at h
 | k + 1 => by
  have DN := Ar.mono_l k
  ·
   intro y0 y1 y2 y3
   unfold Ar.l0
   repeat' first
   | exact DN _ _ _ _
   | exact zZ.refl _
   | exact zZ.none _
   | refine zZ.ite ?_ ?_
   | refine zZ.bind ?_ (fun _ => ?_)
theorem Ar.mono : ∀ a0 k, zZ (Ar.f k a0) (Ar.f (k + 1) a0) := by
 intro a0 k
 have DN := Ar.mono_l k
 unfold Ar.f
 repeat' first
  | exact DN _ _ _ _
  | exact zZ.refl _
  | exact zZ.none _
  | refine zZ.ite ?_ ?_
  | refine zZ.bind ?_ (fun _ => ?_)
set_option maxHeartbeats 8000000 in
set_option maxRecDepth 100000 in
theorem Ar.calls (k : Nat) (A0 : Option Addr) (c0 : Nat) (l0 : List Int) (r : Int) (w : World) (hr0 : Kd.C (Kd.int .i64) w A0 l0.length l0) (hc0 : l0.length ≤ c0) (h : Ar.f k l0 = some r) :
  Calls Try.prog 68 #[.slice A0 l0.length c0] w fun e w' => e = .returned (.int .i64 r) ∧ zN w w' := by
 have Lm := yf.mk hr0;have WM := yf.mk hc0;clear hr0 hc0
 have H : (Ar.l0 k 0 l0 (l0.length : Int) 0) = some r := h
 clear h;have H' := yf.mk H;clear H
 go_enter Try.func68, Try.ntmps68
 go_wp2
 go_loopg [8] k (fun kq v8 w' => ∃ (Di : Int), v8 = .int .i64 Di ∧ yf (Ar.l0 kq 0 l0 (l0.length : Int) Di = some r) ∧ yf (kq ≤ k) ∧ zN w w')
 case atStart => exact ⟨(0), (by rfl), H', ⟨Nat.le_refl _⟩, by repeat (exact zN.refl _)⟩
 case round =>
 clear H';obtain ⟨Di, rfl, HA, BZ, ⟨m1, rfl⟩⟩ := hrel
 cases gk with
 | zero => exact absurd HA.out (by simp [Ar.l0])
 | succ k1 =>
 have H := HA.out;clear HA;simp only [Ar.l0] at H
 by_cases c2 : Di < (l0.length : Int)
 rotate_left
 ·
  rw [if_neg c2] at H;have SL := decide_eq_false c2;clear c2;obtain rfl := Option.some.inj H
  go_wp2
  go_ret
  exact ⟨by rfl, by repeat (first | exact zN.refl _ | apply zN.step)⟩
 rw [if_pos c2] at H;have SL := decide_eq_true c2;clear c2
 by_cases c3 : 0 ≤ Di
 rotate_left
 ·
  rw [if_neg c3] at H;exact absurd H (by simp)
 rw [if_pos c3] at H;have FM := decide_eq_true c3;clear c3
 by_cases c4 : Di < (l0.length : Int)
 rotate_left
 ·
  rw [if_neg c4] at H;exact absurd H (by simp)
 rw [if_pos c4] at H;have Ex := decide_eq_true c4;clear c4
 by_cases c5 : (rd l0 Di) = 0
 ·
  rw [if_pos c5] at H;have Ez := beq_iff_eq.mpr c5
  have Jj : ((rd l0 Di) != 0) = false := bne_eq_false_iff_eq.mpr c5
  clear c5;have H' := yf.mk H;clear H
  have aa : 0 ≤ (Di : Int) := of_decide_eq_true ‹_›
  have ae : Di < (l0.length : Int) := of_decide_eq_true ‹_›
  obtain ⟨ah, af, ag⟩ := Kd.Bv Lm.out Di aa ae;cases af;replace aa := eq_true aa;replace ae := eq_true ae
  go_wp2
  go_roundg k1
  case measure => have := BZ.out; omega
  case rel => exact ⟨(wrap64 (Di + 1)), (by rfl), H', ⟨by have := BZ.out; omega⟩, by repeat (first | exact zN.refl _ | apply zN.step)⟩
 rw [if_neg c5] at H;have Ez := beq_eq_false_iff_ne.mpr c5;have Jj := bne_iff_ne.mpr c5;obtain rfl := Option.some.inj H
 have aa : 0 ≤ (Di : Int) := of_decide_eq_true ‹_›
 have ae : Di < (l0.length : Int) := of_decide_eq_true ‹_›
 obtain ⟨ah, af, ag⟩ := Kd.Bv Lm.out Di aa ae;cases af;replace aa := eq_true aa;replace ae := eq_true ae
 go_wp2
 go_ret
 exact ⟨by rfl, by repeat (first | exact zN.refl _ | apply zN.step)⟩
def zW.f (k : Nat) (yn : Int) (O3 : Int) (yo : Int) (yt : Int) (EG : Int) (EH : Int) : Option (Int) := (cmp_Compare_int.f yn EG).bind fun t159 => ((cmp_Compare_int.f O3 EH).bind fun t160 => ((Ar.f k (([t159, t160] : List Int))).bind fun t164 => (some t164)))
theorem zW.mono : ∀ a0 a1 a2 a3 a4 a5 k, zZ (zW.f k a0 a1 a2 a3 a4 a5) (zW.f (k + 1) a0 a1 a2 a3 a4 a5) := by
 intro a0 a1 a2 a3 a4 a5 k
 unfold zW.f
 repeat' first
  | exact Ar.mono _ _
  | exact zZ.refl _
  | exact zZ.none _
  | refine zZ.ite ?_ ?_
  | refine zZ.bind ?_ (fun _ => ?_)
def zW.T1 : Bool × List (List Nat × List Nat) := (true, [([], []), ([0], [0]), ([], []), ([2], [2]), ([1, 3], [1, 3]), ([], []), ([5], [5]), ([], []), ([7], [7]), ([6, 8, 4], [6, 8]), ([4, 9], [4, 9]), ([10, 9], [10]), ([11, 11, 0, 1, 2, 3, 4, 5, 6, 7, 8, 9, 10, 11], [11])])
def zW.B1 : List Nat := [0, 1, 0, 4, 15, 0, 32, 0, 128, 511, 1023, 2047, 4095]
theorem zW.Zz : CX .any (opsOf Try.f42 1) = zW.T1 := by kernel_rfl
theorem zW.UT : Bi zW.T1.2 zW.B1 = true := by kernel_rfl
set_option maxHeartbeats 8000000 in
set_option maxRecDepth 100000 in
theorem zW.calls (k : Nat) (yn : Int) (O3 : Int) (yo : Int) (yt : Int) (EG : Int) (EH : Int) (r : Int) (w : World) (h : zW.f k yn O3 yo yt EG EH = some r) :
  Calls Try.prog 42 #[.agg #[.int .i64 yn, .int .i64 O3, .int .i64 yo, .int .i64 yt], .agg #[.int .i64 EG, .int .i64 EH]] w fun e w' => e = .returned (.int .i64 r) ∧ Below w.heap.size w w' := by
 have Pf := Try.underlying47;have QE := Try.underlying81;have HB := yf.mk (Below.refl w.heap.size w)
 have H : ((cmp_Compare_int.f yn EG).bind fun t159 => ((cmp_Compare_int.f O3 EH).bind fun t160 => ((Ar.f k (([t159, t160] : List Int))).bind fun t164 => (some t164)))) = some r := h
 clear h;obtain ⟨t159, A3, H⟩ := bE H
 try dsimp only at H
 obtain ⟨t160, A4, H⟩ := bE H
 try dsimp only at H
 obtain ⟨ah, ag⟩ : ∃ y_ : List Int, y_ = (([t159, t160] : List Int)) := ⟨_, rfl⟩
 replace H : ((Ar.f k ah).bind fun t164 => (some t164)) = some r := by (rw [ag]; with_reducible exact H)
 have ak := yf.mk ag;clear ag;obtain ⟨t164, A5, H⟩ := bE H
 try dsimp only at H
 obtain rfl := Option.some.inj H
 go_enter Try.func42, Try.ntmps42
 try go_wp2_with (first | ((with_reducible refine yK (N := 2) rfl ?_); refine yE rfl (N := 2) rfl (cs := #[.int .i64 yn, .int .i64 O3, .int .i64 yo, .int .i64 yt]) (t := 47) (by go_simp) ?_; intro af hg w6 yG hb; have aa := yf.mk (yG); have ax := bG (w := w) hg; have aA := bG (w := w) hg; replace HB := bS HB hb; clear hb yG hg) | ((with_reducible refine yK (N := 3) rfl ?_); refine yE rfl (N := 3) rfl (cs := #[.int .i64 EG, .int .i64 EH]) (t := 81) (by go_simp) ?_; intro aj hg w7 yG hb; have ae := yf.mk (yG); have ay := bG (w := w) hg; have av := bG (w := w) hg; have az := BL aa hg; have au := Ag aa hg; replace aa := bB aa hb; replace HB := bS HB hb; clear hb yG hg))
 replace aa := yf.mk (yZ aa.out);replace ae := yf.mk (yZ ae.out);replace HB := yf.mk (ze HB.out)
 refine AV (n := 13) (S := fun w' => w'.cell? ⟨af, 0, none⟩ = some (.int .i64 yn) ∧ w'.cell? ⟨af, 1, none⟩ = some (.int .i64 O3) ∧ w'.cell? ⟨af, 2, none⟩ = some (.int .i64 yo) ∧ w'.cell? ⟨af, 3, none⟩ = some (.int .i64 yt) ∧ w'.cell? ⟨aj, 0, none⟩ = some (.int .i64 EG) ∧ w'.cell? ⟨aj, 1, none⟩ = some (.int .i64 EH)) (ds := []) (bz 13 0) (by kernel_rfl) rfl rfl (Ld aa (bc2 ae)) (fun hHeld => ?_); refine zQ zW.Zz zW.UT (fun yD AZ => ?_)
 generalize w7.drew = w8 at aa ae HB hHeld ⊢;refine pU 0 5 13 1 yD ?_;refine pU 2 7 13 5 yD ?_;refine pU 5 10 13 37 yD ?_;refine pU 7 12 13 165 yD ?_
 refine BQ 1 6 13 167 yD AZ hHeld ?_
 refine BQ 3 8 13 175 yD AZ hHeld ?_
 refine BQ 6 11 13 239 yD AZ hHeld ?_
 refine BQ 8 13 13 495 yD AZ hHeld ?_
 refine BP (i := 4) (N := some 9) (bz 13 511) rfl rfl (Af yD.out (by kernel_rfl)) (by decide) (fun K hK => ?_)
 refine gO Try.func56 #[.int .i64 yn, .int .i64 EG] ?_
 with_reducible refine (cmp_Compare_int.calls yn EG t159 _ A3.out).mono ?_
 rintro e w' ⟨rfl, ⟨nd, rfl⟩⟩
 refine ⟨_, rfl, ?_⟩
 refine hK.out _ _ (Ld aa (bc2 ae)) (fun hHeld => ?_)
 clear hK K
 refine Aj (a' := ?_) ?_ ?_
 rotate_left
 ·
  show Act.put _ (some 9) _ = _
  simp only [pz]
  rfl
 refine BP (i := 9) (N := some 14) (bz 13 1023) rfl rfl (Af yD.out (by kernel_rfl)) (by decide) (fun K hK => ?_)
 refine gO Try.func56 #[.int .i64 O3, .int .i64 EH] ?_
 with_reducible refine (cmp_Compare_int.calls O3 EH t160 _ A4.out).mono ?_
 rintro e w' ⟨rfl, ⟨nd, rfl⟩⟩
 refine ⟨_, rfl, ?_⟩
 refine hK.out _ _ (Ld aa (bc2 ae)) (fun hHeld => ?_)
 clear hK K
 refine Aj (a' := ?_) ?_ ?_
 rotate_left
 ·
  show Act.put _ (some 14) _ = _
  simp only [pz]
  rfl
 refine BP (i := 10) (N := some 15) (bz 13 2047) rfl rfl (Af yD.out (by kernel_rfl)) (by decide) (fun K hK => ?_)
 refine Kd.IK (Kd.int .i64) _ 3 ?hg (N := 15) ?hd (xs := ([t159, t160] : List Int)) (inner := [.int .i64 t159, .int .i64 t160]) (ok := fun _ => True) (okp := fun _ => True) ?hr ?hp (fun _ hk => hk) trivial (Below.refl _ _) (Nat.le_refl _) (by simp) ?_; (case hd => rfl); (case hg => rfl); (case hr => go_simp); (case hp => exact (Bo.one (show Kd.M (Kd.int .i64) _ _ _ t159 [.int .i64 t159] from rfl) (Bo.one (show Kd.M (Kd.int .i64) _ _ _ t160 [.int .i64 t160] from rfl) (Bo.none _ _))))
 intro v162 w9 Qb hb H5 CG
 clear H5 CG
 (rw [← ak.out] at Qb)
 have ai := yf.mk (Kd.AL Qb (yJ (bO HB)));replace aa := bB aa hb;replace ae := bB ae hb;replace HB := bS HB hb;clear hb Qb;obtain ⟨Tf, QB, QC⟩ := Kd.zX ai.out
 (subst QC)
 refine hK.out _ _ (Ld aa (bc2 ae)) (fun hHeld => ?_)
 clear hK K
 refine Aj (a' := ?_) ?_ ?_
 rotate_left
 ·
  show Act.put _ (some 15) _ = _
  simp only [pz]
  rfl
 refine BP (i := 11) (N := some 16) (bz 13 4095) rfl rfl (Af yD.out (by kernel_rfl)) (by decide) (fun K hK => ?_)
 refine gO Try.func68 #[.slice Tf ah.length QB] ?_
 with_reducible refine (Ar.calls k _ _ ah t164 _ ?yF ?yM A5.out).mono ?_
 (case yF => exact Kz ai)
 (case yM => exact (Kd.zt ai.out).2.1)
 rintro e w' ⟨rfl, ⟨nd, rfl⟩⟩
 refine ⟨_, rfl, ?_⟩
 refine hK.out _ _ (Ld aa (bc2 ae)) (fun hHeld => ?_)
 clear hK K
 refine Aj (a' := ?_) ?_ ?_
 rotate_left
 ·
  show Act.put _ (some 16) _ = _
  simp only [pz]
  rfl
 refine pU 12 4 13 8191 yD ?_
 refine BI (Az yD.out (by kernel_rfl)) ?_
 try go_wp2
 go_ret
 exact ⟨by rfl, bO HB⟩
def yl.l0 : Nat → List (AY) → Int → Int → Int → Int → Int → Option (Int × Bool)
 | 0, _, _, _, _, _, _ => none
 | k + 1, x0, x8, x9, Fj, ae, aa => if x9 < Fj then (if 0 ≤ (wrap64 ((IntKind.u64.wrap (wrap64 (x9 + Fj))) / 2)) then (if (wrap64 ((IntKind.u64.wrap (wrap64 (x9 + Fj))) / 2)) < (x0.length : Int) then ((zW.f k ((yh x0 (wrap64 ((IntKind.u64.wrap (wrap64 (x9 + Fj))) / 2))).f0) ((yh x0 (wrap64 ((IntKind.u64.wrap (wrap64 (x9 + Fj))) / 2))).f1) ((yh x0 (wrap64 ((IntKind.u64.wrap (wrap64 (x9 + Fj))) / 2))).f2.f0) ((yh x0 (wrap64 ((IntKind.u64.wrap (wrap64 (x9 + Fj))) / 2))).f2.f1) ae aa).bind fun t167 => (if t167 < 0 then (yl.l0 k x0 x8 (wrap64 ((wrap64 ((IntKind.u64.wrap (wrap64 (x9 + Fj))) / 2)) + 1)) Fj ae aa) else (yl.l0 k x0 x8 x9 (wrap64 ((IntKind.u64.wrap (wrap64 (x9 + Fj))) / 2)) ae aa))) else (none)) else (none)) else (if x9 < x8 then (if 0 ≤ x9 then (if x9 < (x0.length : Int) then ((zW.f k ((yh x0 x9).f0) ((yh x0 x9).f1) ((yh x0 x9).f2.f0) ((yh x0 x9).f2.f1) ae aa).bind fun ZN => (some (x9, (ZN == 0)))) else (none)) else (none)) else (some (x9, false)))
def yl.f (k : Nat) (l0 : List (AY)) (EG : Int) (EH : Int)  : Option (Int × Bool) := yl.l0 k l0 (l0.length : Int) 0 (l0.length : Int) EG EH
theorem yl.mono_l : ∀ k, (∀ y0 y1 y2 y3 y4 y5, zZ (yl.l0 k y0 y1 y2 y3 y4 y5) (yl.l0 (k + 1) y0 y1 y2 y3 y4 y5))
 | 0 => fun _ _ _ _ _ _ r h => by simp [yl.l0] at h
 | k + 1 => by
  have DN := yl.mono_l k
  ·
   intro y0 y1 y2 y3 y4 y5
   unfold yl.l0
   repeat' first
   | exact DN _ _ _ _ _ _
   | exact zW.mono _ _ _ _ _ _ _
   | exact zZ.refl _
   | exact zZ.none _
   | refine zZ.ite ?_ ?_
   | refine zZ.bind ?_ (fun _ => ?_)
theorem yl.mono : ∀ a0 a1 a2 k, zZ (yl.f k a0 a1 a2) (yl.f (k + 1) a0 a1 a2) := by
 intro a0 a1 a2 k
 have DN := yl.mono_l k
 unfold yl.f
 repeat' first
  | exact DN _ _ _ _ _ _
  | exact zW.mono _ _ _ _ _ _ _
  | exact zZ.refl _
  | exact zZ.none _
  | refine zZ.ite ?_ ?_
  | refine zZ.bind ?_ (fun _ => ?_)
def yl.T5 : Bool × List (List Nat × List Nat) := (true, [([], []), ([], []), ([], []), ([1, 2], [1, 2]), ([3], [3]), ([], []), ([0, 4, 5], [0, 4, 5]), ([6], [6])])
def yl.B5 : List Nat := [0, 0, 0, 6, 14, 0, 63, 127]
theorem yl.a1D : CX .any (opsOf Try.f41 5) = yl.T5 := by kernel_rfl
theorem yl.Yj : Bi yl.T5.2 yl.B5 = true := by kernel_rfl
def yl.T8 : Bool × List (List Nat × List Nat) := (true, [([], []), ([], []), ([], []), ([1, 2], [1, 2]), ([3], [3]), ([4], [4]), ([4], [4]), ([4], [4]), ([6, 7, 4], [4, 6, 7]), ([8, 4], [4, 8]), ([4], [4]), ([5, 9, 10, 4, 4], [4, 5, 9, 10]), ([11, 4], [4, 11]), ([4, 12], [4, 12]), ([0, 11, 0], [0]), ([13, 14, 0, 1, 2, 3, 4, 5, 6, 7, 8, 9, 10, 11, 12, 13, 14], [13])])
def yl.B8 : List Nat := [0, 0, 0, 6, 14, 30, 30, 30, 222, 478, 30, 2046, 4094, 8190, 4095, 32767]
theorem yl.a1E : CX .any (opsOf Try.f41 8) = yl.T8 := by kernel_rfl
theorem yl.Yk : Bi yl.T8.2 yl.B8 = true := by kernel_rfl
set_option maxHeartbeats 8000000 in
set_option maxRecDepth 100000 in
theorem yl.calls (k : Nat) (A0 : Option Addr) (c0 : Nat) (l0 : List (AY)) (EG : Int) (EH : Int)  (r1 : Int) (r2 : Bool) (w : World) (hr0 : Kd.C Dy w A0 l0.length l0) (hc0 : l0.length ≤ c0) (h : yl.f k l0 EG EH = some (r1, r2)) :
  Calls Try.prog 41 #[.slice A0 l0.length c0, .agg #[.int .i64 EG, .int .i64 EH], (.func (.func 42) #[] #[])] w fun e w' => e = .returned (.tuple #[.int .i64 r1, .bool r2]) ∧ Below w.heap.size w w' := by
 have QE := Try.underlying81;have Pf := Try.underlying47;have Lm := yf.mk hr0;have WM := yf.mk hc0;clear hr0 hc0;have HB := yf.mk (Below.refl w.heap.size w)
 have H : (yl.l0 k l0 (l0.length : Int) 0 (l0.length : Int) EG EH) = some (r1, r2) := h
 clear h;have H' := yf.mk H;clear H
 go_enter Try.func41, Try.ntmps41
 go_wp2_with (((with_reducible refine yK (N := 4) rfl ?_); refine yE rfl (N := 4) rfl (cs := #[.int .i64 EG, .int .i64 EH]) (t := 81) (by go_simp) ?_; intro ax hg w4 yG hb; have aa := yf.mk (yG); have aV := bG (w := w) hg; have aU := bG (w := w) hg; replace HB := bS HB hb; clear hb yG hg))
 go_loopg [9, 10] k (fun kq v9 v10 w' => ∃ (Bj : Int) (aj : Int), v9 = .int .i64 Bj ∧ v10 = .int .i64 aj ∧ yf (yl.l0 kq l0 (l0.length : Int) Bj aj EG EH = some (r1, r2)) ∧ yf (kq ≤ k) ∧ yf (w'.heap[ax]? = some (.cells #[.int .i64 EG, .int .i64 EH] 81 (0, 0))) ∧ yf (Below w.heap.size w w'))
 case atStart => exact ⟨(0), ((l0.length : Int)), (by rfl), (by rfl), H', ⟨Nat.le_refl _⟩, ⟨kk aa⟩, ⟨bO HB⟩⟩
 case round =>
 clear H';obtain ⟨Bj, aj, rfl, rfl, HA, BZ, aa, HB⟩ := hrel
 cases gk with
 | zero => exact absurd HA.out (by simp [yl.l0])
 | succ k1 =>
 have H := HA.out;clear HA;simp only [yl.l0] at H
 by_cases c5 : Bj < aj
 rotate_left
 ·
  rw [if_neg c5] at H;have Ez := decide_eq_false c5;clear c5
  by_cases c15 : Bj < (l0.length : Int)
  rotate_left
  ·
   rw [if_neg c15] at H;have GY := decide_eq_false c15;clear c15;simp only [Option.some.injEq, Prod.mk.injEq] at H;obtain ⟨rfl, rfl⟩ := H
   try go_wp2
   replace aa := yf.mk (yZ aa.out);replace HB := yf.mk (ze HB.out)
   refine AV (n := 16) (S := fun w' => True) (ds := []) (bz 16 0) (by kernel_rfl) rfl rfl trivial (fun hHeld => ?_); refine zQ yl.a1E yl.Yk (fun yD AZ => ?_)
   generalize wr.drew = w21 at aa HB hHeld ⊢;refine pU 0 35 16 1 yD ?_;refine pU 1 36 16 3 yD ?_;refine pU 2 37 16 7 yD ?_;refine pU 3 38 16 15 yD ?_;refine pU 4 39 16 31 yD ?_;refine pN 5 40 16 63 yD ?_;refine pN 6 41 16 127 yD ?_;refine pN 7 42 16 255 yD ?_;refine pN 8 43 16 511 yD ?_;refine pN 9 44 16 1023 yD ?_;refine pN 10 45 16 2047 yD ?_;refine pN 11 46 16 4095 yD ?_;refine pN 12 47 16 8191 yD ?_;refine pU 13 48 16 16383 yD ?_;refine pU 14 6 16 32767 yD ?_;refine pU 15 7 16 65535 yD ?_
   refine BI (Az yD.out (by kernel_rfl)) ?_
   try go_wp2
   go_ret2
   exact ⟨by rfl, bO HB⟩
  rw [if_pos c15] at H;have GY := decide_eq_true c15;clear c15
  by_cases c16 : 0 ≤ Bj
  rotate_left
  ·
   rw [if_neg c16] at H;exact absurd H (by simp)
  rw [if_pos c16] at H;have G8 := decide_eq_true c16;clear c16
  by_cases c17 : Bj < (l0.length : Int)
  rotate_left
  ·
   rw [if_neg c17] at H;exact absurd H (by simp)
  rw [if_pos c17] at H;have MS := decide_eq_true c17;clear c17;obtain ⟨ZN, A18, H⟩ := bE H
  try dsimp only at H
  simp only [Option.some.injEq, Prod.mk.injEq] at H;obtain ⟨rfl, rfl⟩ := H
  try go_wp2
  replace aa := yf.mk (yZ aa.out);replace HB := yf.mk (ze HB.out)
  have aK : 0 ≤ (Bj : Int) := of_decide_eq_true ‹_›
  have aJ : Bj < (l0.length : Int) := of_decide_eq_true ‹_›
  obtain ⟨av, e168, aD, aG, aI, aH⟩ := Cb Lm.out Bj aK aJ;have aM := aH;have aQ := aI;have aT := aG;have aN := aD;cases e168;replace aD := cB HB aD;replace aG := cB HB aG;replace aI := cB HB aI;replace aH := cB HB aH;replace aK := eq_true aK;replace aJ := eq_true aJ
  refine AV (n := 16) (S := fun w' => w'.cell? ⟨ax, 0, none⟩ = some (.int .i64 EG) ∧ w'.cell? ⟨ax, 1, none⟩ = some (.int .i64 EH) ∧ w'.cell? (av.add ((Bj).toNat * 4)) = some (.int .i64 ((yh l0 Bj).f0)) ∧ w'.cell? ⟨(av.add ((Bj).toNat * 4)).block, (av.add ((Bj).toNat * 4)).off + 1, none⟩ = some (.int .i64 ((yh l0 Bj).f1)) ∧ w'.cell? ⟨(av.add ((Bj).toNat * 4)).block, (av.add ((Bj).toNat * 4)).off + 2, none⟩ = some (.int .i64 ((yh l0 Bj).f2.f0)) ∧ w'.cell? ⟨(av.add ((Bj).toNat * 4)).block, (av.add ((Bj).toNat * 4)).off + 3, none⟩ = some (.int .i64 ((yh l0 Bj).f2.f1))) (ds := []) (bz 16 0) (by kernel_rfl) rfl rfl ⟨(yz aa.out 0).trans rfl, (yz aa.out 1).trans rfl, (cB HB aN), (cB HB aT), (cB HB aQ), (cB HB aM)⟩ (fun hHeld => ?_); refine zQ yl.a1E yl.Yk (fun yD AZ => ?_)
  generalize wr.drew = w19 at aa HB aD aG aI aH hHeld ⊢;refine pU 0 35 16 1 yD ?_;refine pU 1 36 16 3 yD ?_;refine pU 2 37 16 7 yD ?_;refine pU 3 38 16 15 yD ?_;refine pU 4 39 16 31 yD ?_;refine pU 5 40 16 63 yD ?_;refine pU 6 41 16 127 yD ?_;refine pU 7 42 16 255 yD ?_;refine pU 8 43 16 511 yD ?_
  refine BQ 9 44 16 1023 yD AZ hHeld ?_
  refine BQ 10 45 16 2047 yD AZ hHeld ?_
  refine BP (i := 11) (N := some 46) (bz 16 4095) rfl rfl (Af yD.out (by kernel_rfl)) (by decide) (fun K hK => ?_)
  refine Q9 Try.func42 (by kernel_rfl) rfl #[.agg #[.int .i64 ((yh l0 Bj).f0), .int .i64 ((yh l0 Bj).f1), .int .i64 ((yh l0 Bj).f2.f0), .int .i64 ((yh l0 Bj).f2.f1)], .agg #[.int .i64 EG, .int .i64 EH]] (by rfl) rfl rfl (by (try simp only [pm]); rfl) ?_
  with_reducible refine (zW.calls k1 ((yh l0 Bj).f0) ((yh l0 Bj).f1) ((yh l0 Bj).f2.f0) ((yh l0 Bj).f2.f1) EG EH ZN _ A18.out).mono ?_
  rintro e w20 ⟨rfl, hb⟩
  refine ⟨_, rfl, ?_⟩
  replace aa := bB aa hb;replace HB := bS HB hb;clear hb
  refine hK.out _ _ ⟨(yz aa.out 0).trans rfl, (yz aa.out 1).trans rfl, (cB HB aN), (cB HB aT), (cB HB aQ), (cB HB aM)⟩ (fun hHeld => ?_)
  clear hK K
  refine Aj (a' := ?_) ?_ ?_
  rotate_left
  ·
   show Act.put _ (some 46) _ = _
   simp only [pz]
   rfl
  refine pU 12 47 16 8191 yD ?_;refine pU 13 48 16 16383 yD ?_;refine pU 14 6 16 32767 yD ?_;refine pU 15 7 16 65535 yD ?_
  refine BI (Az yD.out (by kernel_rfl)) ?_
  try go_wp2
  go_ret2
  exact ⟨by rfl, bO HB⟩
 rw [if_pos c5] at H;have Ez := decide_eq_true c5;clear c5;obtain ⟨Dj, WS⟩ : ∃ j_ : Int, (wrap64 ((IntKind.u64.wrap (wrap64 (Bj + aj))) / 2)) = j_ := ⟨_, rfl⟩
 replace H : (if 0 ≤ (Dj) then (if (Dj) < (l0.length : Int) then ((zW.f k1 ((yh l0 (Dj)).f0) ((yh l0 (Dj)).f1) ((yh l0 (Dj)).f2.f0) ((yh l0 (Dj)).f2.f1) EG EH).bind fun t167 => (if t167 < 0 then (yl.l0 k1 l0 (l0.length : Int) (wrap64 ((Dj) + 1)) aj EG EH) else (yl.l0 k1 l0 (l0.length : Int) Bj Dj EG EH))) else (none)) else (none)) = some (r1, r2) := by (rw [WS] at H; exact H)
 have hji6w : (IntKind.i64.wrap ((IntKind.u64.wrap (wrap64 (Bj + aj))) / 2)) = Dj := (i64_w _).trans WS
 by_cases c7 : 0 ≤ (Dj)
 rotate_left
 ·
  rw [if_neg c7] at H;exact absurd H (by simp)
 rw [if_pos c7] at H;have FR := decide_eq_true c7;clear c7
 by_cases c8 : (Dj) < (l0.length : Int)
 rotate_left
 ·
  rw [if_neg c8] at H;exact absurd H (by simp)
 rw [if_pos c8] at H;have Gl := decide_eq_true c8;clear c8;obtain ⟨t167, A9, H⟩ := bE H
 try dsimp only at H
 by_cases c10 : t167 < 0
 ·
  rw [if_pos c10] at H;have Fv := decide_eq_true c10;clear c10;have H' := yf.mk H;clear H
  try go_wp2
  replace aa := yf.mk (yZ aa.out);replace HB := yf.mk (ze HB.out)
  have ak : 0 ≤ ((Dj) : Int) := of_decide_eq_true ‹_›
  have au : (Dj) < (l0.length : Int) := of_decide_eq_true ‹_›
  obtain ⟨ae, e166, ai, af, ah, ag⟩ := Cb Lm.out (Dj) ak au;have aA := ag;have az := ah;have ay := af;have aC := ai;cases e166;replace ai := cB HB ai;replace af := cB HB af;replace ah := cB HB ah;replace ag := cB HB ag;replace ak := eq_true ak;replace au := eq_true au
  refine AV (n := 8) (S := fun w' => w'.cell? ⟨ax, 0, none⟩ = some (.int .i64 EG) ∧ w'.cell? ⟨ax, 1, none⟩ = some (.int .i64 EH) ∧ w'.cell? (ae.add (((Dj)).toNat * 4)) = some (.int .i64 ((yh l0 (Dj)).f0)) ∧ w'.cell? ⟨(ae.add (((Dj)).toNat * 4)).block, (ae.add (((Dj)).toNat * 4)).off + 1, none⟩ = some (.int .i64 ((yh l0 (Dj)).f1)) ∧ w'.cell? ⟨(ae.add (((Dj)).toNat * 4)).block, (ae.add (((Dj)).toNat * 4)).off + 2, none⟩ = some (.int .i64 ((yh l0 (Dj)).f2.f0)) ∧ w'.cell? ⟨(ae.add (((Dj)).toNat * 4)).block, (ae.add (((Dj)).toNat * 4)).off + 3, none⟩ = some (.int .i64 ((yh l0 (Dj)).f2.f1))) (ds := []) (bz 8 0) (by kernel_rfl) rfl rfl ⟨(yz aa.out 0).trans rfl, (yz aa.out 1).trans rfl, (cB HB aC), (cB HB ay), (cB HB az), (cB HB aA)⟩ (fun hHeld => ?_); refine zQ yl.a1D yl.Yj (fun yD AZ => ?_)
  generalize wr.drew = w11 at aa HB ai af ah ag hHeld ⊢;refine pU 0 24 8 1 yD ?_;refine pU 1 25 8 3 yD ?_;refine pU 2 26 8 7 yD ?_;refine pU 3 27 8 15 yD ?_
  refine BQ 4 28 8 31 yD AZ hHeld ?_
  refine BQ 5 29 8 63 yD AZ hHeld ?_
  refine BP (i := 6) (N := some 30) (bz 8 127) rfl rfl (Af yD.out (by kernel_rfl)) (by decide) (fun K hK => ?_)
  refine Q9 Try.func42 (by kernel_rfl) rfl #[.agg #[.int .i64 ((yh l0 (Dj)).f0), .int .i64 ((yh l0 (Dj)).f1), .int .i64 ((yh l0 (Dj)).f2.f0), .int .i64 ((yh l0 (Dj)).f2.f1)], .agg #[.int .i64 EG, .int .i64 EH]] (by rfl) rfl rfl (by (try simp only [List.map_toArray, List.map_cons, List.map_nil]); rfl) ?_
  with_reducible refine (zW.calls k1 ((yh l0 (Dj)).f0) ((yh l0 (Dj)).f1) ((yh l0 (Dj)).f2.f0) ((yh l0 (Dj)).f2.f1) EG EH t167 _ A9.out).mono ?_
  rintro e w12 ⟨rfl, hb⟩
  refine ⟨_, rfl, ?_⟩
  replace aa := bB aa hb;replace HB := bS HB hb;clear hb
  refine hK.out _ _ ⟨(yz aa.out 0).trans rfl, (yz aa.out 1).trans rfl, (cB HB aC), (cB HB ay), (cB HB az), (cB HB aA)⟩ (fun hHeld => ?_)
  clear hK K
  refine Aj (a' := ?_) ?_ ?_
  rotate_left
  ·
   show Act.put _ (some 30) _ = _
   simp only [pz]
   rfl
  refine pU 7 31 8 255 yD ?_
  refine BI (Az yD.out (by kernel_rfl)) ?_
  try go_wp2
  go_roundg k1
  case measure => have := BZ.out; omega
  case rel => exact ⟨(wrap64 ((Dj) + 1)), (aj), (by rfl), (by rfl), H', ⟨by have := BZ.out; omega⟩, ⟨kk aa⟩, ⟨bO HB⟩⟩
 rw [if_neg c10] at H;have Fv := decide_eq_false c10;clear c10;have H' := yf.mk H;clear H
 try go_wp2
 replace aa := yf.mk (yZ aa.out);replace HB := yf.mk (ze HB.out)
 have ak : 0 ≤ ((Dj) : Int) := of_decide_eq_true ‹_›
 have au : (Dj) < (l0.length : Int) := of_decide_eq_true ‹_›
 obtain ⟨ae, e166, ai, af, ah, ag⟩ := Cb Lm.out (Dj) ak au;have aA := ag;have az := ah;have ay := af;have aC := ai;cases e166;replace ai := cB HB ai;replace af := cB HB af;replace ah := cB HB ah;replace ag := cB HB ag;replace ak := eq_true ak;replace au := eq_true au
 refine AV (n := 8) (S := fun w' => w'.cell? ⟨ax, 0, none⟩ = some (.int .i64 EG) ∧ w'.cell? ⟨ax, 1, none⟩ = some (.int .i64 EH) ∧ w'.cell? (ae.add (((Dj)).toNat * 4)) = some (.int .i64 ((yh l0 (Dj)).f0)) ∧ w'.cell? ⟨(ae.add (((Dj)).toNat * 4)).block, (ae.add (((Dj)).toNat * 4)).off + 1, none⟩ = some (.int .i64 ((yh l0 (Dj)).f1)) ∧ w'.cell? ⟨(ae.add (((Dj)).toNat * 4)).block, (ae.add (((Dj)).toNat * 4)).off + 2, none⟩ = some (.int .i64 ((yh l0 (Dj)).f2.f0)) ∧ w'.cell? ⟨(ae.add (((Dj)).toNat * 4)).block, (ae.add (((Dj)).toNat * 4)).off + 3, none⟩ = some (.int .i64 ((yh l0 (Dj)).f2.f1))) (ds := []) (bz 8 0) (by kernel_rfl) rfl rfl ⟨(yz aa.out 0).trans rfl, (yz aa.out 1).trans rfl, (cB HB aC), (cB HB ay), (cB HB az), (cB HB aA)⟩ (fun hHeld => ?_); refine zQ yl.a1D yl.Yj (fun yD AZ => ?_)
 generalize wr.drew = w13 at aa HB ai af ah ag hHeld ⊢;refine pU 0 24 8 1 yD ?_;refine pU 1 25 8 3 yD ?_;refine pU 2 26 8 7 yD ?_;refine pU 3 27 8 15 yD ?_
 refine BQ 4 28 8 31 yD AZ hHeld ?_
 refine BQ 5 29 8 63 yD AZ hHeld ?_
 refine BP (i := 6) (N := some 30) (bz 8 127) rfl rfl (Af yD.out (by kernel_rfl)) (by decide) (fun K hK => ?_)
 refine Q9 Try.func42 (by kernel_rfl) rfl #[.agg #[.int .i64 ((yh l0 (Dj)).f0), .int .i64 ((yh l0 (Dj)).f1), .int .i64 ((yh l0 (Dj)).f2.f0), .int .i64 ((yh l0 (Dj)).f2.f1)], .agg #[.int .i64 EG, .int .i64 EH]] (by rfl) rfl rfl (by (try simp only [List.map_toArray, List.map_cons, List.map_nil]); rfl) ?_
 with_reducible refine (zW.calls k1 ((yh l0 (Dj)).f0) ((yh l0 (Dj)).f1) ((yh l0 (Dj)).f2.f0) ((yh l0 (Dj)).f2.f1) EG EH t167 _ A9.out).mono ?_
 rintro e w14 ⟨rfl, hb⟩
 refine ⟨_, rfl, ?_⟩
 replace aa := bB aa hb;replace HB := bS HB hb;clear hb
 refine hK.out _ _ ⟨(yz aa.out 0).trans rfl, (yz aa.out 1).trans rfl, (cB HB aC), (cB HB ay), (cB HB az), (cB HB aA)⟩ (fun hHeld => ?_)
 clear hK K
 refine Aj (a' := ?_) ?_ ?_
 rotate_left
 ·
  show Act.put _ (some 30) _ = _
  simp only [pz]
  rfl
 refine pU 7 31 8 255 yD ?_
 refine BI (Az yD.out (by kernel_rfl)) ?_
 try go_wp2
 go_roundg k1
 case measure => have := BZ.out; omega
 case rel => exact ⟨(Bj), (Dj), (by rfl), (by rfl), H', ⟨by have := BZ.out; omega⟩, ⟨kk aa⟩, ⟨bO HB⟩⟩
end Go.Proofs.Ytjonnfmoocijlaa.P
