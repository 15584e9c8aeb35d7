/- Texts of a claim, packed. -/
import Derived.Test.YtjonnfmoocijlaaD26
set_option linter.all false
namespace Go.Proofs.Ytjonnfmoocijlaa.P
open Go.RowKit Go.Proofs.YtjonnfmoocijlaaKW.PrintWords Go.Proofs.YtjonnfmoocijlaaKW.PrintLast Go.Proofs.YtjonnfmoocijlaaKW.PrintMore
attribute [local go_sem] zz zA zS zT zn zo zB zC
attribute [local go_sem high] RU
mutual
def yj.l0 : Nat → List (AY) → Int → Int → List (List Int) → Int → Int → Option (Bool)
 | 0, _, _, _, _, _, _ => none
 | k + 1, x1, x5, aa, af, ae, ag => if x5 < (x1.length : Int) then (if 0 ≤ x5 then ((Cg.f aa af ae ag ((yh x1 x5).f0) ((yh x1 x5).f1)).bind fun a08 => (if a08 = true then (if ((yh x1 x5).f2.f0) < 0 then (yj.j1 k x1 x5 true aa af ae ag ((yh x1 x5).f0) ((yh x1 x5).f1) ((yh x1 x5).f2.f0) ((yh x1 x5).f2.f1)) else (if ((yh x1 x5).f2.f0) ≥ aa then (yj.j1 k x1 x5 true aa af ae ag ((yh x1 x5).f0) ((yh x1 x5).f1) ((yh x1 x5).f2.f0) ((yh x1 x5).f2.f1)) else ((Bq.f aa af ae ag).bind fun VG => (if ((yh x1 x5).f2.f1) < VG then (yj.j1 k x1 x5 true aa af ae ag ((yh x1 x5).f0) ((yh x1 x5).f1) ((yh x1 x5).f2.f0) ((yh x1 x5).f2.f1)) else ((CR.f aa af ae ag).bind fun X6 => (yj.j1 k x1 x5 (decide (((yh x1 x5).f2.f1) ≥ X6)) aa af ae ag ((yh x1 x5).f0) ((yh x1 x5).f1) ((yh x1 x5).f2.f0) ((yh x1 x5).f2.f1))))))) else (yj.j1 k x1 x5 true aa af ae ag ((yh x1 x5).f0) ((yh x1 x5).f1) ((yh x1 x5).f2.f0) ((yh x1 x5).f2.f1)))) else (none)) else (yj.l2 k x1 0 aa af ae ag)
def yj.j1 : Nat → List (AY) → Int → Bool → Int → List (List Int) → Int → Int → Int → Int → Int → Int → Option (Bool)
 | 0, _, _, _, _, _, _, _, _, _, _, _ => none
 | k + 1, x1, x5, ax, aa, af, ae, ag, ah, ak, aj, ai => if ax = true then (some false) else (if x5 > 0 then (if 0 ≤ (wrap64 (x5 - 1)) then (if (wrap64 (x5 - 1)) < (x1.length : Int) then (if ((yh x1 (wrap64 (x5 - 1))).f0) > ah then (yj.j2 k x1 x5 true aa af ae ag ah ak aj ai) else (if ((yh x1 (wrap64 (x5 - 1))).f0) = ah then (yj.j2 k x1 x5 (decide (((yh x1 (wrap64 (x5 - 1))).f1) ≥ ak)) aa af ae ag ah ak aj ai) else (yj.j2 k x1 x5 false aa af ae ag ah ak aj ai))) else (none)) else (none)) else (yj.j2 k x1 x5 false aa af ae ag ah ak aj ai))
def yj.j2 : Nat → List (AY) → Int → Bool → Int → List (List Int) → Int → Int → Int → Int → Int → Int → Option (Bool)
 | 0, _, _, _, _, _, _, _, _, _, _, _ => none
 | k + 1, x1, x5, x97, aa, af, ae, ag, ah, ak, aj, ai => if x97 = true then (some false) else (yj.l1 k x1 x5 0 aa af ae ag ah ak aj ai)
def yj.l1 : Nat → List (AY) → Int → Int → Int → List (List Int) → Int → Int → Int → Int → Int → Int → Option (Bool)
 | 0, _, _, _, _, _, _, _, _, _, _, _ => none
 | k + 1, x1, x5, x7, aa, af, ae, ag, ah, ak, aj, ai => if x7 < x5 then (if 0 ≤ x7 then (if x7 < (x1.length : Int) then (if (((yh x1 x7).f2.f0) == aj && (((yh x1 x7).f2.f1) == ai)) = true then (some false) else (yj.l1 k x1 x5 (wrap64 (x7 + 1)) aa af ae ag ah ak aj ai)) else (none)) else (none)) else (yj.l0 k x1 (wrap64 (x5 + 1)) aa af ae ag)
def yj.l2 : Nat → List (AY) → Int → Int → List (List Int) → Int → Int → Option (Bool)
 | 0, _, _, _, _, _, _ => none
 | k + 1, x1, x8, aa, af, ae, ag => if x8 < (x1.length : Int) then (if 0 ≤ x8 then (yj.l3 k x1 x8 ((yh x1 x8).f0) 0 aa af ae ag) else (none)) else (some true)
def yj.l3 : Nat → List (AY) → Int → Int → Int → Int → List (List Int) → Int → Int → Option (Bool)
 | 0, _, _, _, _, _, _, _, _ => none
 | k + 1, x1, x8, x9, Fj, aa, af, ae, ag => (AC.f aa af ae ag).bind fun VH => (if Fj < VH then (yj.l4 k x1 x8 x9 Fj 0 aa af ae ag) else (yj.l2 k x1 (wrap64 (x8 + 1)) aa af ae ag))
def yj.l4 : Nat → List (AY) → Int → Int → Int → Int → Int → List (List Int) → Int → Int → Option (Bool)
 | 0, _, _, _, _, _, _, _, _, _ => none
 | k + 1, x1, x8, x9, Fj, EO, aa, af, ae, ag => if EO < Fj then ((zV.f k aa af ae ag x1 x9 Fj).bind fun au => ((zV.f k aa af ae ag x1 x9 EO).bind fun av => (if au.1 = av.1 then (some false) else (yj.l4 k x1 x8 x9 Fj (wrap64 (EO + 1)) aa af ae ag)))) else (yj.l3 k x1 x8 x9 (wrap64 (Fj + 1)) aa af ae ag)
end
def yj.f (k : Nat) (yn : Int) (yg : List (List Int)) (yo : Int) (yt : Int) (l1 : List (AY)) : Option (Bool) := (zK.f k yn yg yo yt).bind fun VI => (if VI = true then (yj.l0 k l1 0 yn yg yo yt) else (some false))
def yj.T7 : Bool × List (List Nat × List Nat) := (true, [([], []), ([], []), ([1], [1]), ([], []), ([3], [3]), ([0, 2, 4], [0, 2, 4]), ([5], [5]), ([6, 5], [6]), ([7], [7]), ([8, 7], [7, 8]), ([9, 7], [7, 9]), ([10, 7], [7, 10]), ([7, 11], [7, 11]), ([12, 7], [12]), ([13], [13]), ([14, 13], [13, 14]), ([15, 13], [13, 15]), ([13], [13]), ([17, 13], [13, 17]), ([18, 13], [13, 18]), ([16, 19, 13], [13, 16, 19]), ([13, 20], [13, 20]), ([21, 13], [21]), ([22], [22]), ([23, 22], [22, 23]), ([24, 22], [22, 24]), ([22], [22]), ([26, 22, 22], [22, 26]), ([25, 27, 22], [22, 25, 27]), ([22, 28], [22, 28]), ([29, 27], [29]), ([30], [30]), ([31, 30], [30, 31]), ([32, 30], [30, 32]), ([30], [30]), ([34, 30, 30], [30, 34]), ([33, 35, 30], [30, 33, 35]), ([30, 36], [30, 36])])
def yj.B7 : List Nat := [0, 0, 2, 0, 8, 31, 63, 127, 255, 511, 1023, 2047, 4095, 8191, 16383, 32767, 65535, 16383, 147455, 409599, 1048575, 2097151, 4194303, 8388607, 16777215, 33554431, 8388607, 75497471, 268435455, 536870911, 1073741823, 2147483647, 4294967295, 8589934591, 2147483647, 19327352831, 68719476735, 137438953471]
theorem yj.NM : CX .any (opsOf Try.f27 7) = yj.T7 := by kernel_rfl
theorem yj.Jf : Bi yj.T7.2 yj.B7 = true := by kernel_rfl
def yj.T9 : Bool × List (List Nat × List Nat) := (true, [([], []), ([0], [0]), ([1], [1]), ([2], [2]), ([2], [2]), ([4, 2], [2, 4]), ([3, 5, 2], [2, 3, 5]), ([6, 2], [2, 6]), ([7, 2], [2, 7]), ([2], [2]), ([9, 2], [2, 9]), ([8, 10, 2], [2, 8, 10]), ([11, 2, 2], [2, 11]), ([12], [12]), ([12], [12]), ([14, 12], [12, 14]), ([13, 15, 12], [12, 13, 15]), ([16, 12], [12, 16]), ([17, 12], [12, 17]), ([12], [12]), ([19, 12], [12, 19]), ([18, 20, 12], [12, 18, 20]), ([21, 12, 12], [12, 21]), ([22], [22]), ([22], [22]), ([24, 22], [22, 24]), ([23, 25, 22], [22, 23, 25]), ([26, 22], [22, 26]), ([27, 22], [22, 27]), ([22], [22]), ([29, 22], [22, 29]), ([28, 30, 22], [22, 28, 30]), ([22, 31, 12], [12, 22, 31]), ([12, 32, 2], [2, 12, 32]), ([2, 33], [2, 33])])
def yj.B9 : List Nat := [0, 1, 3, 7, 7, 23, 63, 127, 255, 7, 519, 2047, 4095, 8191, 8191, 24575, 65535, 131071, 262143, 8191, 532479, 2097151, 4194303, 8388607, 8388607, 25165823, 67108863, 134217727, 268435455, 8388607, 545259519, 2147483647, 4294967295, 8589934591, 17179869183]
theorem yj.P5 : CX .any (opsOf Try.f27 9) = yj.T9 := by kernel_rfl
theorem yj.Ke : Bi yj.T9.2 yj.B9 = true := by kernel_rfl
def yj.Xv : Bool × List (List Nat × List Nat) := (true, [([], []), ([], []), ([0, 1], [0, 1]), ([2], [2]), ([3], [3]), ([], []), ([5], [5]), ([4, 6], [4, 6])])
def yj.B14 : List Nat := [0, 0, 3, 7, 15, 0, 32, 127]
theorem yj.JW : CX .any (opsOf Try.f27 14) = yj.Xv := by kernel_rfl
theorem yj.Ht : Bi yj.Xv.2 yj.B14 = true := by kernel_rfl
def yj.T26 : Bool × List (List Nat × List Nat) := (true, [([], []), ([], []), ([], []), ([], []), ([0, 1, 2, 3], [0, 1, 2, 3]), ([4], [4]), ([], []), ([], []), ([], []), ([], []), ([6, 7, 8, 9, 4], [6, 7, 8, 9]), ([10], [10]), ([5, 11], [5, 11])])
def yj.B26 : List Nat := [0, 0, 0, 0, 15, 31, 0, 0, 0, 0, 991, 2015, 4095]
theorem yj.YD : CX .any (opsOf Try.f27 26) = yj.T26 := by kernel_rfl
theorem yj.VJ : Bi yj.T26.2 yj.B26 = true := by kernel_rfl
set_option maxHeartbeats 8000000 in
set_option maxRecDepth 100000 in
theorem yj.calls (k : Nat) (yn : Int) (yP : Option Addr) (yI : Nat) (yg : List (List Int)) (yo : Int) (yt : Int) (A1 : Option Addr) (c1 : Nat) (l1 : List (AY)) (r : Bool) (w : World) (zR : Kd.C (Kd.slice 3 (Kd.int .i64)) w yP yg.length yg) (zU : yg.length ≤ yI) (hr1 : Kd.C Dy w A1 l1.length l1) (hc1 : l1.length ≤ c1) (h : yj.f k yn yg yo yt l1 = some r) :
  Calls Try.prog 27 #[.agg #[.int .i64 yn, .slice yP yg.length yI, .int .i64 yo, .int .i64 yt], .slice A1 l1.length c1] w fun e w' => e = .returned (.bool r) ∧ Below w.heap.size w w' := by
 have FB := Try.underlying31;have Pf := Try.underlying47;have Lv := Try.underlying38
 have eF : ∀ (x0 x1 : Value) (W : World), (Instr.field 38 (.agg #[x0, x1]) 0).run Try.prog W = .ok (x0) W := fun x0 x1 W => by rfl
 have zq := yf.mk zR;have zG := yf.mk zU;clear zR zU;have HR1 := yf.mk hr1;have Gd := yf.mk hc1;clear hr1 hc1;have HB := yf.mk (Below.refl w.heap.size w)
 have H : ((zK.f k yn yg yo yt).bind fun VI => (if VI = true then (yj.l0 k l1 0 yn yg yo yt) else (some false))) = some r := h
 clear h;obtain ⟨VI, A3, H⟩ := bE H
 try dsimp only at H
 by_cases c4 : VI = true
 rotate_left
 ·
  replace c4 := Bool.eq_false_iff.mpr c4;subst c4
  rw [if_neg (show ¬ (false = true) by decide)] at H
  obtain rfl := Option.some.inj H
  go_enter Try.func27, Try.ntmps27
  go_wp2_with (first | ((with_reducible refine yK (N := 2) rfl ?_); refine yE rfl (N := 2) rfl (cs := #[.int .i64 yn, .slice yP yg.length yI, .int .i64 yo, .int .i64 yt]) (t := 31) (by go_simp) ?_; intro aj hg w76 yG hb; have aa := yf.mk (yG); have dR := bG (w := w) hg; have dQ := bG (w := w) hg; replace HB := bS HB hb; clear hb yG hg; have a2g := AR aa; have a2h := bf aa) | ((with_reducible refine yB (f := 51) rfl ?_); refine gL (some 13) Try.func51 #[.agg #[.int .i64 yn, .slice yP yg.length yI, .int .i64 yo, .int .i64 yt]] ?_; (with_reducible refine (zK.calls k yn _ _ yg yo yt false _ ?yF ?yM A3.out).mono ?_); (case yF => exact Da zq); (case yM => exact zG.out); rintro e w78 ⟨rfl, hb⟩; refine ⟨_, rfl, ?_⟩; replace aa := bB aa hb; replace HB := bS HB hb; clear hb))
  go_ret
  exact ⟨by rfl, bO HB⟩
 subst c4;rw [if_pos rfl] at H;have H' := yf.mk H;clear H
 go_enter Try.func27, Try.ntmps27
 go_wp2_with (first | ((with_reducible refine yK (N := 2) rfl ?_); refine yE rfl (N := 2) rfl (cs := #[.int .i64 yn, .slice yP yg.length yI, .int .i64 yo, .int .i64 yt]) (t := 31) (by go_simp) ?_; intro aj hg w5 yG hb; have aa := yf.mk (yG); have dR := bG (w := w) hg; have dQ := bG (w := w) hg; replace HB := bS HB hb; clear hb yG hg; have a1y := AR aa; have a1z := bf aa) | ((with_reducible refine yB (f := 51) rfl ?_); refine gL (some 13) Try.func51 #[.agg #[.int .i64 yn, .slice yP yg.length yI, .int .i64 yo, .int .i64 yt]] ?_; (with_reducible refine (zK.calls k yn _ _ yg yo yt true _ ?yF ?yM A3.out).mono ?_); (case yF => exact Da zq); (case yM => exact zG.out); rintro e w7 ⟨rfl, hb⟩; refine ⟨_, rfl, ?_⟩; replace aa := bB aa hb; replace HB := bS HB hb; clear hb))
 go_loopg [5] k (fun kq v5 w' => ∃ (yQ : Int), v5 = .int .i64 yQ ∧ yf (yj.l0 kq l1 yQ yn yg yo yt = some r) ∧ yf (kq ≤ k) ∧ yf (w'.heap[aj]? = some (.cells #[.int .i64 yn, (.slice yP yg.length yI), .int .i64 yo, .int .i64 yt] 31 (0, 0))) ∧ yf (Below w.heap.size w w'))
 case atStart => exact ⟨(0), (by rfl), H', ⟨Nat.le_refl _⟩, ⟨kk aa⟩, ⟨bO HB⟩⟩
 case round =>
 clear H' a1y a1z;obtain ⟨yQ, rfl, HA, BZ, aa, HB⟩ := hrel
 cases gk with
 | zero => exact absurd HA.out (by simp [yj.l0])
 | succ k1 =>
 have H := HA.out;clear HA;simp only [yj.l0] at H
 by_cases c8 : yQ < (l1.length : Int)
 rotate_left
 ·
  rw [if_neg c8] at H;have Gl := decide_eq_false c8;clear c8;have H' := yf.mk H;clear H
  go_wp2
  go_loopg [8] k1 (fun kq v8 w' => ∃ (ak : Int), v8 = .int .i64 ak ∧ yf (yj.l2 kq l1 ak yn yg yo yt = some r) ∧ yf (kq ≤ k1) ∧ yf (w'.heap[aj]? = some (.cells #[.int .i64 yn, (.slice yP yg.length yI), .int .i64 yo, .int .i64 yt] 31 (0, 0))) ∧ yf (Below w.heap.size w w'))
  case atStart => exact ⟨(0), (by rfl), H', ⟨Nat.le_refl _⟩, ⟨kk aa⟩, ⟨bO HB⟩⟩
  case round =>
  clear H' Gl;obtain ⟨ak, rfl, HA, DU, aa, HB⟩ := hrel
  cases gk with
  | zero => exact absurd HA.out (by simp [yj.l2])
  | succ k2 =>
   have H := HA.out;clear HA;simp only [yj.l2] at H
   by_cases PQ : ak < (l1.length : Int)
   ·
    rw [if_pos PQ] at H;have Un := decide_eq_true PQ;clear PQ
    by_cases c59 : 0 ≤ ak
    ·
     rw [if_pos c59] at H;have VK := decide_eq_true c59;clear c59;have H' := yf.mk H;clear H
     have bu : 0 ≤ (ak : Int) := of_decide_eq_true ‹_›
     have bN : ak < (l1.length : Int) := of_decide_eq_true ‹_›
     obtain ⟨bL, dW, d9, cK, bW, bZ⟩ := Cb HR1.out ak bu bN;cases dW;replace d9 := cB HB d9;replace cK := cB HB cK;replace bW := cB HB bW;replace bZ := cB HB bZ;replace bu := eq_true bu;replace bN := eq_true bN
     go_wp2
     go_loopg [10] k2 (fun kq v10 w' => ∃ (az : Int), v10 = .int .i64 az ∧ yf (yj.l3 kq l1 ak ((yh l1 ak).f0) az yn yg yo yt = some r) ∧ yf (kq ≤ k2) ∧ yf (w'.heap[aj]? = some (.cells #[.int .i64 yn, (.slice yP yg.length yI), .int .i64 yo, .int .i64 yt] 31 (0, 0))) ∧ yf (Below w.heap.size w w'))
     case atStart => exact ⟨(0), (by rfl), H', ⟨Nat.le_refl _⟩, ⟨kk aa⟩, ⟨bO HB⟩⟩
     case round =>
      clear H' Un VK d9 cK bW bZ bu bN;obtain ⟨az, rfl, HA, FH, aa, HB⟩ := hrel
      cases gk with
      | zero => exact absurd HA.out (by simp [yj.l3])
      | succ k3 =>
       have H := HA.out;clear HA;simp only [yj.l3] at H;obtain ⟨VH, TI, H⟩ := bE H
       try dsimp only at H
       by_cases VL : az < VH
       ·
        rw [if_pos VL] at H;have VN := decide_eq_true VL;clear VL;have H' := yf.mk H;clear H;have Yb := AR aa;have Yc := bf aa
        go_wp2_with (((with_reducible refine yB (f := 24) rfl ?_); refine gL (some 124) Try.func24 #[.agg #[.int .i64 yn, .slice yP yg.length yI, .int .i64 yo, .int .i64 yt]] ?_; (with_reducible refine (AC.calls yn _ _ yg yo yt VH _ ?yF ?yM TI.out).mono ?_); (case yF => exact Da zq); (case yM => exact zG.out); rintro e w63 ⟨rfl, hb⟩; refine ⟨_, rfl, ?_⟩; replace aa := bB aa hb; replace HB := bS HB hb; clear hb))
        go_loopg [11] k3 (fun kq v11 w' => ∃ (Ei : Int), v11 = .int .i64 Ei ∧ yf (yj.l4 kq l1 ak ((yh l1 ak).f0) az Ei yn yg yo yt = some r) ∧ yf (kq ≤ k3) ∧ yf (w'.heap[aj]? = some (.cells #[.int .i64 yn, (.slice yP yg.length yI), .int .i64 yo, .int .i64 yt] 31 (0, 0))) ∧ yf (Below w.heap.size w w'))
        case atStart => exact ⟨(0), (by rfl), H', ⟨Nat.le_refl _⟩, ⟨kk aa⟩, ⟨bO HB⟩⟩
        case round =>
         clear H' VN Yb Yc;obtain ⟨Ei, rfl, HA, NQ, aa, HB⟩ := hrel
         cases gk with
         | zero => exact absurd HA.out (by simp [yj.l4])
         | succ k4 =>
          have H := HA.out;clear HA;simp only [yj.l4] at H
          by_cases c64 : Ei < az
          ·
           rw [if_pos c64] at H;have S9 := decide_eq_true c64;clear c64;obtain ⟨⟨bC, dA⟩, dG, H⟩ := bE H
           try dsimp only at H
           obtain ⟨⟨bI, dF⟩, dE, H⟩ := bE H
           try dsimp only at H
           by_cases aV : bC = bI
           ·
            rw [if_pos aV] at H;have dV := beq_iff_eq.mpr aV
            have dN : (bC != bI) = false := bne_eq_false_iff_eq.mpr aV
            clear aV;obtain rfl := Option.some.inj H
            try go_wp2
            replace aa := yf.mk (yZ aa.out);replace HB := yf.mk (ze HB.out)
            refine AV (n := 13) (S := fun w' => w'.cell? ⟨aj, 0, none⟩ = some (.int .i64 yn) ∧ w'.cell? ⟨aj, 1, none⟩ = some (.slice yP yg.length yI) ∧ w'.cell? ⟨aj, 2, none⟩ = some (.int .i64 yo) ∧ w'.cell? ⟨aj, 3, none⟩ = some (.int .i64 yt)) (ds := []) (bz 13 0) (by kernel_rfl) rfl rfl (AR aa) (fun hHeld => ?_); refine zQ yj.YD yj.VJ (fun yD AZ => ?_)
            generalize wr.drew = w68 at aa HB hHeld ⊢;refine pU 1 134 13 2 yD ?_;refine pU 2 135 13 6 yD ?_;refine pU 3 136 13 14 yD ?_;refine pU 7 140 13 142 yD ?_;refine pU 8 141 13 398 yD ?_;refine pU 9 142 13 910 yD ?_
            refine BQ 0 133 13 911 yD AZ hHeld ?_
            refine BQ 6 139 13 975 yD AZ hHeld ?_
            refine BP (i := 4) (N := some 137) (bz 13 991) rfl rfl (Af yD.out (by kernel_rfl)) (by decide) (fun K hK => ?_)
            refine gO Try.func22 #[.agg #[.int .i64 yn, .slice yP yg.length yI, .int .i64 yo, .int .i64 yt], .slice (some bL) l1.length c1, .int .i64 ((yh l1 ak).f0), .int .i64 az] ?_
            with_reducible refine (zV.calls k4 yn _ _ yg yo yt _ _ l1 ((yh l1 ak).f0) az bC dA _ ?yF ?yM ?zI ?zJ dG.out).mono ?_
            (case yF => exact Da zq)
            (case yM => exact zG.out)
            (case zI => exact Da HR1)
            (case zJ => exact Gd.out)
            rintro e w69 ⟨rfl, hb⟩
            refine ⟨_, rfl, ?_⟩
            replace aa := bB aa hb;replace HB := bS HB hb;clear hb
            refine hK.out _ _ (AR aa) (fun hHeld => ?_)
            clear hK K
            refine Aj (a' := ?_) ?_ ?_
            rotate_left
            ·
             show Act.put _ (some 137) _ = _
             simp only [pz]
             rfl
            refine pU 5 138 13 1023 yD ?_
            refine BP (i := 10) (N := some 143) (bz 13 2047) rfl rfl (Af yD.out (by kernel_rfl)) (by decide) (fun K hK => ?_)
            refine gO Try.func22 #[.agg #[.int .i64 yn, .slice yP yg.length yI, .int .i64 yo, .int .i64 yt], .slice (some bL) l1.length c1, .int .i64 ((yh l1 ak).f0), .int .i64 Ei] ?_
            with_reducible refine (zV.calls k4 yn _ _ yg yo yt _ _ l1 ((yh l1 ak).f0) Ei bI dF _ ?yF ?yM ?zI ?zJ dE.out).mono ?_
            (case yF => exact Da zq)
            (case yM => exact zG.out)
            (case zI => exact Da HR1)
            (case zJ => exact Gd.out)
            rintro e w70 ⟨rfl, hb⟩
            refine ⟨_, rfl, ?_⟩
            replace aa := bB aa hb;replace HB := bS HB hb;clear hb
            refine hK.out _ _ (AR aa) (fun hHeld => ?_)
            clear hK K
            refine Aj (a' := ?_) ?_ ?_
            rotate_left
            ·
             show Act.put _ (some 143) _ = _
             simp only [pz]
             rfl
            refine pU 11 144 13 4095 yD ?_;refine pU 12 145 13 8191 yD ?_
            refine BI (Az yD.out (by kernel_rfl)) ?_
            try go_wp2
            go_ret
            exact ⟨by rfl, bO HB⟩
           ·
            rw [if_neg aV] at H;have dV := beq_eq_false_iff_ne.mpr aV;have dN := bne_iff_ne.mpr aV;have H' := yf.mk H;clear H
            try go_wp2
            replace aa := yf.mk (yZ aa.out);replace HB := yf.mk (ze HB.out)
            refine AV (n := 13) (S := fun w' => w'.cell? ⟨aj, 0, none⟩ = some (.int .i64 yn) ∧ w'.cell? ⟨aj, 1, none⟩ = some (.slice yP yg.length yI) ∧ w'.cell? ⟨aj, 2, none⟩ = some (.int .i64 yo) ∧ w'.cell? ⟨aj, 3, none⟩ = some (.int .i64 yt)) (ds := []) (bz 13 0) (by kernel_rfl) rfl rfl (AR aa) (fun hHeld => ?_); refine zQ yj.YD yj.VJ (fun yD AZ => ?_)
            generalize wr.drew = w71 at aa HB hHeld ⊢;refine pU 1 134 13 2 yD ?_;refine pU 2 135 13 6 yD ?_;refine pU 3 136 13 14 yD ?_;refine pU 7 140 13 142 yD ?_;refine pU 8 141 13 398 yD ?_;refine pU 9 142 13 910 yD ?_
            refine BQ 0 133 13 911 yD AZ hHeld ?_
            refine BQ 6 139 13 975 yD AZ hHeld ?_
            refine BP (i := 4) (N := some 137) (bz 13 991) rfl rfl (Af yD.out (by kernel_rfl)) (by decide) (fun K hK => ?_)
            refine gO Try.func22 #[.agg #[.int .i64 yn, .slice yP yg.length yI, .int .i64 yo, .int .i64 yt], .slice (some bL) l1.length c1, .int .i64 ((yh l1 ak).f0), .int .i64 az] ?_
            with_reducible refine (zV.calls k4 yn _ _ yg yo yt _ _ l1 ((yh l1 ak).f0) az bC dA _ ?yF ?yM ?zI ?zJ dG.out).mono ?_
            (case yF => exact Da zq)
            (case yM => exact zG.out)
            (case zI => exact Da HR1)
            (case zJ => exact Gd.out)
            rintro e w72 ⟨rfl, hb⟩
            refine ⟨_, rfl, ?_⟩
            replace aa := bB aa hb;replace HB := bS HB hb;clear hb
            refine hK.out _ _ (AR aa) (fun hHeld => ?_)
            clear hK K
            refine Aj (a' := ?_) ?_ ?_
            rotate_left
            ·
             show Act.put _ (some 137) _ = _
             simp only [pz]
             rfl
            refine pU 5 138 13 1023 yD ?_
            refine BP (i := 10) (N := some 143) (bz 13 2047) rfl rfl (Af yD.out (by kernel_rfl)) (by decide) (fun K hK => ?_)
            refine gO Try.func22 #[.agg #[.int .i64 yn, .slice yP yg.length yI, .int .i64 yo, .int .i64 yt], .slice (some bL) l1.length c1, .int .i64 ((yh l1 ak).f0), .int .i64 Ei] ?_
            with_reducible refine (zV.calls k4 yn _ _ yg yo yt _ _ l1 ((yh l1 ak).f0) Ei bI dF _ ?yF ?yM ?zI ?zJ dE.out).mono ?_
            (case yF => exact Da zq)
            (case yM => exact zG.out)
            (case zI => exact Da HR1)
            (case zJ => exact Gd.out)
            rintro e w73 ⟨rfl, hb⟩
            refine ⟨_, rfl, ?_⟩
            replace aa := bB aa hb;replace HB := bS HB hb;clear hb
            refine hK.out _ _ (AR aa) (fun hHeld => ?_)
            clear hK K
            refine Aj (a' := ?_) ?_ ?_
            rotate_left
            ·
             show Act.put _ (some 143) _ = _
             simp only [pz]
             rfl
            refine pU 11 144 13 4095 yD ?_;refine pU 12 145 13 8191 yD ?_
            refine BI (Az yD.out (by kernel_rfl)) ?_
            try go_wp2
            go_roundg k4
            case measure => have := BZ.out; have := DU.out; have := FH.out; have := NQ.out; omega
            case rel => exact ⟨(wrap64 (Ei + 1)), (by rfl), H', ⟨by have := BZ.out; have := DU.out; have := FH.out; have := NQ.out; omega⟩, ⟨kk aa⟩, ⟨bO HB⟩⟩
          ·
           rw [if_neg c64] at H;have S9 := decide_eq_false c64;clear c64;have H' := yf.mk H;clear H
           go_wp2
           go_roundg k4
           case measure => have := BZ.out; have := DU.out; have := FH.out; have := NQ.out; omega
           case rel => exact ⟨(wrap64 (az + 1)), (by rfl), H', ⟨by have := BZ.out; have := DU.out; have := FH.out; have := NQ.out; omega⟩, ⟨kk aa⟩, ⟨bO HB⟩⟩
       ·
        rw [if_neg VL] at H;have VN := decide_eq_false VL;clear VL;have H' := yf.mk H;clear H;have eu := AR aa;have eG := bf aa
        go_wp2_with (((with_reducible refine yB (f := 24) rfl ?_); refine gL (some 124) Try.func24 #[.agg #[.int .i64 yn, .slice yP yg.length yI, .int .i64 yo, .int .i64 yt]] ?_; (with_reducible refine (AC.calls yn _ _ yg yo yt VH _ ?yF ?yM TI.out).mono ?_); (case yF => exact Da zq); (case yM => exact zG.out); rintro e w75 ⟨rfl, hb⟩; refine ⟨_, rfl, ?_⟩; replace aa := bB aa hb; replace HB := bS HB hb; clear hb))
        go_roundg k3
        case measure => have := BZ.out; have := DU.out; have := FH.out; omega
        case rel => exact ⟨(wrap64 (ak + 1)), (by rfl), H', ⟨by have := BZ.out; have := DU.out; have := FH.out; omega⟩, ⟨kk aa⟩, ⟨bO HB⟩⟩
    ·
     rw [if_neg c59] at H;exact absurd H (by simp)
   ·
    rw [if_neg PQ] at H;have Un := decide_eq_false PQ;clear PQ;obtain rfl := Option.some.inj H
    go_wp2
    go_ret
    exact ⟨by rfl, bO HB⟩
 rw [if_pos c8] at H;have Gl := decide_eq_true c8;clear c8
 by_cases c9 : 0 ≤ yQ
 rotate_left
 ·
  rw [if_neg c9] at H;exact absurd H (by simp)
 rw [if_pos c9] at H;have Hr := decide_eq_true c9;clear c9;have QJ := yf.mk H;clear H
 have cu : 0 ≤ (yQ : Int) := of_decide_eq_true ‹_›
 have bV : yQ < (l1.length : Int) := of_decide_eq_true ‹_›
 obtain ⟨ah, dL, dC, dw, dz, dB⟩ := Cb HR1.out yQ cu bV;cases dL;replace dC := cB HB dC;replace dw := cB HB dw;replace dz := cB HB dz;replace dB := cB HB dB;replace cu := eq_true cu;replace bV := eq_true bV
 go_upto_region 7 with (((with_reducible refine yK (N := 6) rfl ?_); refine yE rfl (N := 6) rfl (cs := #[.int .i64 0, .int .i64 0, .int .i64 0, .int .i64 0]) (t := 47) (by go_simp) ?_; intro ae hg w11 yG hb; have af := yf.mk (yG); have ek := bG (w := w) hg; have eB := bG (w := w) hg; have dY := BL aa hg; have dZ := Ag aa hg; replace aa := bB aa hb; replace HB := bS HB hb; clear hb yG hg; have a2i := dZ.out; have a2j := dY.out; have MV := AR af; have MW := bf af))
 (try simp only [pz])
 go_cut [62] (fun v62 wc => ∃ (kq : Nat) (bH : Bool), v62 = .bool bH ∧ yf (yj.j1 kq l1 yQ bH yn yg yo yt ((yh l1 yQ).f0) ((yh l1 yQ).f1) ((yh l1 yQ).f2.f0) ((yh l1 yQ).f2.f1) = some r) ∧ yf (kq ≤ k1) ∧ yf (wc.heap[aj]? = some (.cells #[.int .i64 yn, (.slice yP yg.length yI), .int .i64 yo, .int .i64 yt] 31 (0, 0))) ∧ yf (wc.heap[ae]? = some (.cells #[.int .i64 ((yh l1 yQ).f0), .int .i64 ((yh l1 yQ).f1), .int .i64 ((yh l1 yQ).f2.f0), .int .i64 ((yh l1 yQ).f2.f1)] 47 (0, 0))) ∧ yf (Below w.heap.size w wc))
 case first =>
  have H := QJ.out;clear QJ;obtain ⟨a08, YE, H⟩ := bE H
  try dsimp only at H
  by_cases c15 : a08 = true
  rotate_left
  ·
   replace c15 := Bool.eq_false_iff.mpr c15;subst c15
   rw [if_neg (show ¬ (false = true) by decide)] at H
   have H' := yf.mk H;clear H
   try go_wp2
   have Bt : yf (((((w11.setCell ⟨ae, 0, none⟩ (.int .i64 ((yh l1 yQ).f0))).setCell ⟨ae, 1, none⟩ (.int .i64 ((yh l1 yQ).f1))).setCell ⟨ae, 2, none⟩ (.int .i64 ((yh l1 yQ).f2.f0))).setCell ⟨ae, 3, none⟩ (.int .i64 ((yh l1 yQ).f2.f1))).heap[aj]? = some (.cells #[.int .i64 yn, .slice yP yg.length yI, .int .i64 yo, .int .i64 yt] 31 (0, 0))) := bK aa rfl
   have Bu : yf (((((w11.setCell ⟨ae, 0, none⟩ (.int .i64 ((yh l1 yQ).f0))).setCell ⟨ae, 1, none⟩ (.int .i64 ((yh l1 yQ).f1))).setCell ⟨ae, 2, none⟩ (.int .i64 ((yh l1 yQ).f2.f0))).setCell ⟨ae, 3, none⟩ (.int .i64 ((yh l1 yQ).f2.f1))).heap[ae]? = some (.cells #[.int .i64 ((yh l1 yQ).f0), .int .i64 ((yh l1 yQ).f1), .int .i64 ((yh l1 yQ).f2.f0), .int .i64 ((yh l1 yQ).f2.f1)] 47 (0, 0))) := bK af rfl
   have BJ : yf (Below w.heap.size w ((((w11.setCell ⟨ae, 0, none⟩ (.int .i64 ((yh l1 yQ).f0))).setCell ⟨ae, 1, none⟩ (.int .i64 ((yh l1 yQ).f1))).setCell ⟨ae, 2, none⟩ (.int .i64 ((yh l1 yQ).f2.f0))).setCell ⟨ae, 3, none⟩ (.int .i64 ((yh l1 yQ).f2.f1)))) := ⟨bO HB⟩
   clear aa af HB;generalize ((((w11.setCell ⟨ae, 0, none⟩ (.int .i64 ((yh l1 yQ).f0))).setCell ⟨ae, 1, none⟩ (.int .i64 ((yh l1 yQ).f1))).setCell ⟨ae, 2, none⟩ (.int .i64 ((yh l1 yQ).f2.f0))).setCell ⟨ae, 3, none⟩ (.int .i64 ((yh l1 yQ).f2.f1))) = w36 at Bt Bu BJ ⊢;have aa := Bt;have af := Bu;have HB := BJ;clear Bt Bu BJ;replace aa := yf.mk (yZ aa.out);replace af := yf.mk (yZ af.out);replace HB := yf.mk (ze HB.out)
   refine AV (n := 38) (S := fun w' => w'.cell? ⟨aj, 0, none⟩ = some (.int .i64 yn) ∧ w'.cell? ⟨aj, 1, none⟩ = some (.slice yP yg.length yI) ∧ w'.cell? ⟨aj, 2, none⟩ = some (.int .i64 yo) ∧ w'.cell? ⟨aj, 3, none⟩ = some (.int .i64 yt) ∧ w'.cell? ⟨ae, 0, none⟩ = some (.int .i64 ((yh l1 yQ).f0)) ∧ w'.cell? ⟨ae, 1, none⟩ = some (.int .i64 ((yh l1 yQ).f1)) ∧ w'.cell? ⟨ae, 2, none⟩ = some (.int .i64 ((yh l1 yQ).f2.f0)) ∧ w'.cell? ⟨ae, 3, none⟩ = some (.int .i64 ((yh l1 yQ).f2.f1))) (ds := []) (bz 38 0) (by kernel_rfl) rfl rfl (Ld aa (AR af)) (fun hHeld => ?_); refine zQ yj.NM yj.Jf (fun yD AZ => ?_)
   generalize w36.drew = w37 at aa af HB hHeld ⊢;refine pU 1 26 38 2 yD ?_;refine pU 3 28 38 10 yD ?_
   refine BQ 0 25 38 11 yD AZ hHeld ?_
   refine BQ 2 27 38 15 yD AZ hHeld ?_
   refine BQ 4 29 38 31 yD AZ hHeld ?_
   refine BP (i := 5) (N := some 30) (bz 38 63) rfl rfl (Af yD.out (by kernel_rfl)) (by decide) (fun K hK => ?_)
   refine gO Try.func21 #[.agg #[.int .i64 yn, .slice yP yg.length yI, .int .i64 yo, .int .i64 yt], .int .i64 ((yh l1 yQ).f0), .int .i64 ((yh l1 yQ).f1)] ?_
   with_reducible refine (Cg.calls yn _ _ yg yo yt ((yh l1 yQ).f0) ((yh l1 yQ).f1) false _ ?yF ?yM YE.out).mono ?_
   (case yF => exact Da zq)
   (case yM => exact zG.out)
   rintro e w38 ⟨rfl, hb⟩
   refine ⟨_, rfl, ?_⟩
   replace aa := bB aa hb;replace af := bB af hb;replace HB := bS HB hb;clear hb
   refine hK.out _ _ (Ld aa (AR af)) (fun hHeld => ?_)
   clear hK K
   refine Aj (a' := ?_) ?_ ?_
   rotate_left
   ·
    show Act.put _ (some 30) _ = _
    simp only [pz]
    rfl
   refine pU 6 31 38 127 yD ?_;refine pU 7 32 38 255 yD ?_;refine pN 8 33 38 511 yD ?_;refine pN 9 34 38 1023 yD ?_;refine pN 10 35 38 2047 yD ?_;refine pN 11 36 38 4095 yD ?_;refine pU 12 37 38 8191 yD ?_;refine pU 13 38 38 16383 yD ?_;refine pN 14 39 38 32767 yD ?_;refine pN 15 40 38 65535 yD ?_;refine pN 16 41 38 131071 yD ?_;refine pN 17 42 38 262143 yD ?_;refine pN 18 43 38 524287 yD ?_;refine pN 19 44 38 1048575 yD ?_;refine pN 20 45 38 2097151 yD ?_;refine pU 21 46 38 4194303 yD ?_;refine pU 22 47 38 8388607 yD ?_;refine pN 23 48 38 16777215 yD ?_;refine pN 24 49 38 33554431 yD ?_;refine pN 25 50 38 67108863 yD ?_;refine pN 26 51 38 134217727 yD ?_;refine pN 27 52 38 268435455 yD ?_;refine pN 28 53 38 536870911 yD ?_;refine pU 29 54 38 1073741823 yD ?_;refine pU 30 55 38 2147483647 yD ?_;refine pN 31 56 38 4294967295 yD ?_;refine pN 32 57 38 8589934591 yD ?_;refine pN 33 58 38 17179869183 yD ?_;refine pN 34 59 38 34359738367 yD ?_;refine pN 35 60 38 68719476735 yD ?_;refine pN 36 61 38 137438953471 yD ?_;refine pU 37 62 38 274877906943 yD ?_
   refine BI (Az yD.out (by kernel_rfl)) ?_
   try go_wp2
   go_meet
   case rel => exact ⟨_, (true), (by rfl), H', ⟨by have := BZ.out; omega⟩, ⟨kk aa⟩, ⟨kk af⟩, ⟨bO HB⟩⟩
  subst c15;rw [if_pos rfl] at H
  by_cases c16 : ((yh l1 yQ).f2.f0) < 0
  ·
   rw [if_pos c16] at H;have G8 := decide_eq_true c16;clear c16
   (skip)
   have H' := yf.mk H;clear H
   try go_wp2
   have Bt : yf (((((w11.setCell ⟨ae, 0, none⟩ (.int .i64 ((yh l1 yQ).f0))).setCell ⟨ae, 1, none⟩ (.int .i64 ((yh l1 yQ).f1))).setCell ⟨ae, 2, none⟩ (.int .i64 ((yh l1 yQ).f2.f0))).setCell ⟨ae, 3, none⟩ (.int .i64 ((yh l1 yQ).f2.f1))).heap[aj]? = some (.cells #[.int .i64 yn, .slice yP yg.length yI, .int .i64 yo, .int .i64 yt] 31 (0, 0))) := bK aa rfl
   have Bu : yf (((((w11.setCell ⟨ae, 0, none⟩ (.int .i64 ((yh l1 yQ).f0))).setCell ⟨ae, 1, none⟩ (.int .i64 ((yh l1 yQ).f1))).setCell ⟨ae, 2, none⟩ (.int .i64 ((yh l1 yQ).f2.f0))).setCell ⟨ae, 3, none⟩ (.int .i64 ((yh l1 yQ).f2.f1))).heap[ae]? = some (.cells #[.int .i64 ((yh l1 yQ).f0), .int .i64 ((yh l1 yQ).f1), .int .i64 ((yh l1 yQ).f2.f0), .int .i64 ((yh l1 yQ).f2.f1)] 47 (0, 0))) := bK af rfl
   have BJ : yf (Below w.heap.size w ((((w11.setCell ⟨ae, 0, none⟩ (.int .i64 ((yh l1 yQ).f0))).setCell ⟨ae, 1, none⟩ (.int .i64 ((yh l1 yQ).f1))).setCell ⟨ae, 2, none⟩ (.int .i64 ((yh l1 yQ).f2.f0))).setCell ⟨ae, 3, none⟩ (.int .i64 ((yh l1 yQ).f2.f1)))) := ⟨bO HB⟩
   clear aa af HB;generalize ((((w11.setCell ⟨ae, 0, none⟩ (.int .i64 ((yh l1 yQ).f0))).setCell ⟨ae, 1, none⟩ (.int .i64 ((yh l1 yQ).f1))).setCell ⟨ae, 2, none⟩ (.int .i64 ((yh l1 yQ).f2.f0))).setCell ⟨ae, 3, none⟩ (.int .i64 ((yh l1 yQ).f2.f1))) = w17 at Bt Bu BJ ⊢;have aa := Bt;have af := Bu;have HB := BJ;clear Bt Bu BJ;replace aa := yf.mk (yZ aa.out);replace af := yf.mk (yZ af.out);replace HB := yf.mk (ze HB.out)
   refine AV (n := 38) (S := fun w' => w'.cell? ⟨aj, 0, none⟩ = some (.int .i64 yn) ∧ w'.cell? ⟨aj, 1, none⟩ = some (.slice yP yg.length yI) ∧ w'.cell? ⟨aj, 2, none⟩ = some (.int .i64 yo) ∧ w'.cell? ⟨aj, 3, none⟩ = some (.int .i64 yt) ∧ w'.cell? ⟨ae, 0, none⟩ = some (.int .i64 ((yh l1 yQ).f0)) ∧ w'.cell? ⟨ae, 1, none⟩ = some (.int .i64 ((yh l1 yQ).f1)) ∧ w'.cell? ⟨ae, 2, none⟩ = some (.int .i64 ((yh l1 yQ).f2.f0)) ∧ w'.cell? ⟨ae, 3, none⟩ = some (.int .i64 ((yh l1 yQ).f2.f1))) (ds := []) (bz 38 0) (by kernel_rfl) rfl rfl (Ld aa (AR af)) (fun hHeld => ?_); refine zQ yj.NM yj.Jf (fun yD AZ => ?_)
   generalize w17.drew = w18 at aa af HB hHeld ⊢;refine pU 1 26 38 2 yD ?_;refine pU 3 28 38 10 yD ?_
   refine BQ 0 25 38 11 yD AZ hHeld ?_
   refine BQ 2 27 38 15 yD AZ hHeld ?_
   refine BQ 4 29 38 31 yD AZ hHeld ?_
   refine BP (i := 5) (N := some 30) (bz 38 63) rfl rfl (Af yD.out (by kernel_rfl)) (by decide) (fun K hK => ?_)
   refine gO Try.func21 #[.agg #[.int .i64 yn, .slice yP yg.length yI, .int .i64 yo, .int .i64 yt], .int .i64 ((yh l1 yQ).f0), .int .i64 ((yh l1 yQ).f1)] ?_
   with_reducible refine (Cg.calls yn _ _ yg yo yt ((yh l1 yQ).f0) ((yh l1 yQ).f1) true _ ?yF ?yM YE.out).mono ?_
   (case yF => exact Da zq)
   (case yM => exact zG.out)
   rintro e w19 ⟨rfl, hb⟩
   refine ⟨_, rfl, ?_⟩
   replace aa := bB aa hb;replace af := bB af hb;replace HB := bS HB hb;clear hb
   refine hK.out _ _ (Ld aa (AR af)) (fun hHeld => ?_)
   clear hK K
   refine Aj (a' := ?_) ?_ ?_
   rotate_left
   ·
    show Act.put _ (some 30) _ = _
    simp only [pz]
    rfl
   refine pU 6 31 38 127 yD ?_;refine pU 7 32 38 255 yD ?_;refine pU 8 33 38 511 yD ?_;refine pU 9 34 38 1023 yD ?_
   refine BQ 10 35 38 2047 yD AZ hHeld ?_
   refine pU 11 36 38 4095 yD ?_;refine pU 12 37 38 8191 yD ?_;refine pU 13 38 38 16383 yD ?_;refine pN 14 39 38 32767 yD ?_;refine pN 15 40 38 65535 yD ?_;refine pN 16 41 38 131071 yD ?_;refine pN 17 42 38 262143 yD ?_;refine pN 18 43 38 524287 yD ?_;refine pN 19 44 38 1048575 yD ?_;refine pN 20 45 38 2097151 yD ?_;refine pU 21 46 38 4194303 yD ?_;refine pU 22 47 38 8388607 yD ?_;refine pN 23 48 38 16777215 yD ?_;refine pN 24 49 38 33554431 yD ?_;refine pN 25 50 38 67108863 yD ?_;refine pN 26 51 38 134217727 yD ?_;refine pN 27 52 38 268435455 yD ?_;refine pN 28 53 38 536870911 yD ?_;refine pU 29 54 38 1073741823 yD ?_;refine pU 30 55 38 2147483647 yD ?_;refine pN 31 56 38 4294967295 yD ?_;refine pN 32 57 38 8589934591 yD ?_;refine pN 33 58 38 17179869183 yD ?_;refine pN 34 59 38 34359738367 yD ?_;refine pN 35 60 38 68719476735 yD ?_;refine pN 36 61 38 137438953471 yD ?_;refine pU 37 62 38 274877906943 yD ?_
   refine BI (Az yD.out (by kernel_rfl)) ?_
   try go_wp2
   go_meet
   case rel => exact ⟨_, (true), (by rfl), H', ⟨by have := BZ.out; omega⟩, ⟨kk aa⟩, ⟨kk af⟩, ⟨bO HB⟩⟩
  rw [if_neg c16] at H;have G8 := decide_eq_false c16;clear c16
  (skip)
  by_cases c20 : ((yh l1 yQ).f2.f0) ≥ yn
  ·
   rw [if_pos c20] at H;have IA := decide_eq_true c20;clear c20;have H' := yf.mk H;clear H
   try go_wp2
   have Bt : yf (((((w11.setCell ⟨ae, 0, none⟩ (.int .i64 ((yh l1 yQ).f0))).setCell ⟨ae, 1, none⟩ (.int .i64 ((yh l1 yQ).f1))).setCell ⟨ae, 2, none⟩ (.int .i64 ((yh l1 yQ).f2.f0))).setCell ⟨ae, 3, none⟩ (.int .i64 ((yh l1 yQ).f2.f1))).heap[aj]? = some (.cells #[.int .i64 yn, .slice yP yg.length yI, .int .i64 yo, .int .i64 yt] 31 (0, 0))) := bK aa rfl
   have Bu : yf (((((w11.setCell ⟨ae, 0, none⟩ (.int .i64 ((yh l1 yQ).f0))).setCell ⟨ae, 1, none⟩ (.int .i64 ((yh l1 yQ).f1))).setCell ⟨ae, 2, none⟩ (.int .i64 ((yh l1 yQ).f2.f0))).setCell ⟨ae, 3, none⟩ (.int .i64 ((yh l1 yQ).f2.f1))).heap[ae]? = some (.cells #[.int .i64 ((yh l1 yQ).f0), .int .i64 ((yh l1 yQ).f1), .int .i64 ((yh l1 yQ).f2.f0), .int .i64 ((yh l1 yQ).f2.f1)] 47 (0, 0))) := bK af rfl
   have BJ : yf (Below w.heap.size w ((((w11.setCell ⟨ae, 0, none⟩ (.int .i64 ((yh l1 yQ).f0))).setCell ⟨ae, 1, none⟩ (.int .i64 ((yh l1 yQ).f1))).setCell ⟨ae, 2, none⟩ (.int .i64 ((yh l1 yQ).f2.f0))).setCell ⟨ae, 3, none⟩ (.int .i64 ((yh l1 yQ).f2.f1)))) := ⟨bO HB⟩
   clear aa af HB;generalize ((((w11.setCell ⟨ae, 0, none⟩ (.int .i64 ((yh l1 yQ).f0))).setCell ⟨ae, 1, none⟩ (.int .i64 ((yh l1 yQ).f1))).setCell ⟨ae, 2, none⟩ (.int .i64 ((yh l1 yQ).f2.f0))).setCell ⟨ae, 3, none⟩ (.int .i64 ((yh l1 yQ).f2.f1))) = w21 at Bt Bu BJ ⊢;have aa := Bt;have af := Bu;have HB := BJ;clear Bt Bu BJ;replace aa := yf.mk (yZ aa.out);replace af := yf.mk (yZ af.out);replace HB := yf.mk (ze HB.out)
   refine AV (n := 38) (S := fun w' => w'.cell? ⟨aj, 0, none⟩ = some (.int .i64 yn) ∧ w'.cell? ⟨aj, 1, none⟩ = some (.slice yP yg.length yI) ∧ w'.cell? ⟨aj, 2, none⟩ = some (.int .i64 yo) ∧ w'.cell? ⟨aj, 3, none⟩ = some (.int .i64 yt) ∧ w'.cell? ⟨ae, 0, none⟩ = some (.int .i64 ((yh l1 yQ).f0)) ∧ w'.cell? ⟨ae, 1, none⟩ = some (.int .i64 ((yh l1 yQ).f1)) ∧ w'.cell? ⟨ae, 2, none⟩ = some (.int .i64 ((yh l1 yQ).f2.f0)) ∧ w'.cell? ⟨ae, 3, none⟩ = some (.int .i64 ((yh l1 yQ).f2.f1))) (ds := []) (bz 38 0) (by kernel_rfl) rfl rfl (Ld aa (AR af)) (fun hHeld => ?_); refine zQ yj.NM yj.Jf (fun yD AZ => ?_)
   generalize w21.drew = w22 at aa af HB hHeld ⊢;refine pU 1 26 38 2 yD ?_;refine pU 3 28 38 10 yD ?_
   refine BQ 0 25 38 11 yD AZ hHeld ?_
   refine BQ 2 27 38 15 yD AZ hHeld ?_
   refine BQ 4 29 38 31 yD AZ hHeld ?_
   refine BP (i := 5) (N := some 30) (bz 38 63) rfl rfl (Af yD.out (by kernel_rfl)) (by decide) (fun K hK => ?_)
   refine gO Try.func21 #[.agg #[.int .i64 yn, .slice yP yg.length yI, .int .i64 yo, .int .i64 yt], .int .i64 ((yh l1 yQ).f0), .int .i64 ((yh l1 yQ).f1)] ?_
   with_reducible refine (Cg.calls yn _ _ yg yo yt ((yh l1 yQ).f0) ((yh l1 yQ).f1) true _ ?yF ?yM YE.out).mono ?_
   (case yF => exact Da zq)
   (case yM => exact zG.out)
   rintro e w23 ⟨rfl, hb⟩
   refine ⟨_, rfl, ?_⟩
   replace aa := bB aa hb;replace af := bB af hb;replace HB := bS HB hb;clear hb
   refine hK.out _ _ (Ld aa (AR af)) (fun hHeld => ?_)
   clear hK K
   refine Aj (a' := ?_) ?_ ?_
   rotate_left
   ·
    show Act.put _ (some 30) _ = _
    simp only [pz]
    rfl
   refine pU 6 31 38 127 yD ?_;refine pU 7 32 38 255 yD ?_;refine pU 8 33 38 511 yD ?_;refine pU 9 34 38 1023 yD ?_
   refine BQ 10 35 38 2047 yD AZ hHeld ?_
   refine pU 11 36 38 4095 yD ?_;refine pU 12 37 38 8191 yD ?_;refine pU 13 38 38 16383 yD ?_;refine pU 14 39 38 32767 yD ?_;refine pU 15 40 38 65535 yD ?_;refine pU 17 42 38 196607 yD ?_;refine pU 18 43 38 458751 yD ?_
   refine BQ 16 41 38 524287 yD AZ hHeld ?_
   refine BQ 19 44 38 1048575 yD AZ hHeld ?_
   refine pU 20 45 38 2097151 yD ?_;refine pU 21 46 38 4194303 yD ?_;refine pU 22 47 38 8388607 yD ?_;refine pN 23 48 38 16777215 yD ?_;refine pN 24 49 38 33554431 yD ?_;refine pN 25 50 38 67108863 yD ?_;refine pN 26 51 38 134217727 yD ?_;refine pN 27 52 38 268435455 yD ?_;refine pN 28 53 38 536870911 yD ?_;refine pU 29 54 38 1073741823 yD ?_;refine pU 30 55 38 2147483647 yD ?_;refine pN 31 56 38 4294967295 yD ?_;refine pN 32 57 38 8589934591 yD ?_;refine pN 33 58 38 17179869183 yD ?_;refine pN 34 59 38 34359738367 yD ?_;refine pN 35 60 38 68719476735 yD ?_;refine pN 36 61 38 137438953471 yD ?_;refine pU 37 62 38 274877906943 yD ?_
   refine BI (Az yD.out (by kernel_rfl)) ?_
   try go_wp2
   go_meet
   case rel => exact ⟨_, (true), (by rfl), H', ⟨by have := BZ.out; omega⟩, ⟨kk aa⟩, ⟨kk af⟩, ⟨bO HB⟩⟩
  rw [if_neg c20] at H;have IA := decide_eq_false c20;clear c20;obtain ⟨VG, A24, H⟩ := bE H
  try dsimp only at H
  by_cases Oh : ((yh l1 yQ).f2.f1) < VG
  ·
   rw [if_pos Oh] at H;have Rm := decide_eq_true Oh;clear Oh;have H' := yf.mk H;clear H
   try go_wp2
   have Bt : yf (((((w11.setCell ⟨ae, 0, none⟩ (.int .i64 ((yh l1 yQ).f0))).setCell ⟨ae, 1, none⟩ (.int .i64 ((yh l1 yQ).f1))).setCell ⟨ae, 2, none⟩ (.int .i64 ((yh l1 yQ).f2.f0))).setCell ⟨ae, 3, none⟩ (.int .i64 ((yh l1 yQ).f2.f1))).heap[aj]? = some (.cells #[.int .i64 yn, .slice yP yg.length yI, .int .i64 yo, .int .i64 yt] 31 (0, 0))) := bK aa rfl
   have Bu : yf (((((w11.setCell ⟨ae, 0, none⟩ (.int .i64 ((yh l1 yQ).f0))).setCell ⟨ae, 1, none⟩ (.int .i64 ((yh l1 yQ).f1))).setCell ⟨ae, 2, none⟩ (.int .i64 ((yh l1 yQ).f2.f0))).setCell ⟨ae, 3, none⟩ (.int .i64 ((yh l1 yQ).f2.f1))).heap[ae]? = some (.cells #[.int .i64 ((yh l1 yQ).f0), .int .i64 ((yh l1 yQ).f1), .int .i64 ((yh l1 yQ).f2.f0), .int .i64 ((yh l1 yQ).f2.f1)] 47 (0, 0))) := bK af rfl
   have BJ : yf (Below w.heap.size w ((((w11.setCell ⟨ae, 0, none⟩ (.int .i64 ((yh l1 yQ).f0))).setCell ⟨ae, 1, none⟩ (.int .i64 ((yh l1 yQ).f1))).setCell ⟨ae, 2, none⟩ (.int .i64 ((yh l1 yQ).f2.f0))).setCell ⟨ae, 3, none⟩ (.int .i64 ((yh l1 yQ).f2.f1)))) := ⟨bO HB⟩
   clear aa af HB;generalize ((((w11.setCell ⟨ae, 0, none⟩ (.int .i64 ((yh l1 yQ).f0))).setCell ⟨ae, 1, none⟩ (.int .i64 ((yh l1 yQ).f1))).setCell ⟨ae, 2, none⟩ (.int .i64 ((yh l1 yQ).f2.f0))).setCell ⟨ae, 3, none⟩ (.int .i64 ((yh l1 yQ).f2.f1))) = w26 at Bt Bu BJ ⊢;have aa := Bt;have af := Bu;have HB := BJ;clear Bt Bu BJ;replace aa := yf.mk (yZ aa.out);replace af := yf.mk (yZ af.out);replace HB := yf.mk (ze HB.out)
   refine AV (n := 38) (S := fun w' => w'.cell? ⟨aj, 0, none⟩ = some (.int .i64 yn) ∧ w'.cell? ⟨aj, 1, none⟩ = some (.slice yP yg.length yI) ∧ w'.cell? ⟨aj, 2, none⟩ = some (.int .i64 yo) ∧ w'.cell? ⟨aj, 3, none⟩ = some (.int .i64 yt) ∧ w'.cell? ⟨ae, 0, none⟩ = some (.int .i64 ((yh l1 yQ).f0)) ∧ w'.cell? ⟨ae, 1, none⟩ = some (.int .i64 ((yh l1 yQ).f1)) ∧ w'.cell? ⟨ae, 2, none⟩ = some (.int .i64 ((yh l1 yQ).f2.f0)) ∧ w'.cell? ⟨ae, 3, none⟩ = some (.int .i64 ((yh l1 yQ).f2.f1))) (ds := []) (bz 38 0) (by kernel_rfl) rfl rfl (Ld aa (AR af)) (fun hHeld => ?_); refine zQ yj.NM yj.Jf (fun yD AZ => ?_)
   generalize w26.drew = w27 at aa af HB hHeld ⊢;refine pU 1 26 38 2 yD ?_;refine pU 3 28 38 10 yD ?_
   refine BQ 0 25 38 11 yD AZ hHeld ?_
   refine BQ 2 27 38 15 yD AZ hHeld ?_
   refine BQ 4 29 38 31 yD AZ hHeld ?_
   refine BP (i := 5) (N := some 30) (bz 38 63) rfl rfl (Af yD.out (by kernel_rfl)) (by decide) (fun K hK => ?_)
   refine gO Try.func21 #[.agg #[.int .i64 yn, .slice yP yg.length yI, .int .i64 yo, .int .i64 yt], .int .i64 ((yh l1 yQ).f0), .int .i64 ((yh l1 yQ).f1)] ?_
   with_reducible refine (Cg.calls yn _ _ yg yo yt ((yh l1 yQ).f0) ((yh l1 yQ).f1) true _ ?yF ?yM YE.out).mono ?_
   (case yF => exact Da zq)
   (case yM => exact zG.out)
   rintro e w28 ⟨rfl, hb⟩
   refine ⟨_, rfl, ?_⟩
   replace aa := bB aa hb;replace af := bB af hb;replace HB := bS HB hb;clear hb
   refine hK.out _ _ (Ld aa (AR af)) (fun hHeld => ?_)
   clear hK K
   refine Aj (a' := ?_) ?_ ?_
   rotate_left
   ·
    show Act.put _ (some 30) _ = _
    simp only [pz]
    rfl
   refine pU 6 31 38 127 yD ?_;refine pU 7 32 38 255 yD ?_;refine pU 8 33 38 511 yD ?_;refine pU 9 34 38 1023 yD ?_
   refine BQ 10 35 38 2047 yD AZ hHeld ?_
   refine pU 11 36 38 4095 yD ?_;refine pU 12 37 38 8191 yD ?_;refine pU 13 38 38 16383 yD ?_;refine pU 14 39 38 32767 yD ?_;refine pU 15 40 38 65535 yD ?_;refine pU 17 42 38 196607 yD ?_;refine pU 18 43 38 458751 yD ?_
   refine BQ 16 41 38 524287 yD AZ hHeld ?_
   refine BQ 19 44 38 1048575 yD AZ hHeld ?_
   refine pU 20 45 38 2097151 yD ?_;refine pU 21 46 38 4194303 yD ?_;refine pU 22 47 38 8388607 yD ?_;refine pU 23 48 38 16777215 yD ?_;refine pU 24 49 38 33554431 yD ?_
   refine BQ 25 50 38 67108863 yD AZ hHeld ?_
   refine BQ 26 51 38 134217727 yD AZ hHeld ?_
   refine BP (i := 27) (N := some 52) (bz 38 268435455) rfl rfl (Af yD.out (by kernel_rfl)) (by decide) (fun K hK => ?_)
   refine gO Try.func23 #[.agg #[.int .i64 yn, .slice yP yg.length yI, .int .i64 yo, .int .i64 yt]] ?_
   with_reducible refine (Bq.calls yn _ _ yg yo yt VG _ ?yF ?yM A24.out).mono ?_
   (case yF => exact Da zq)
   (case yM => exact zG.out)
   rintro e w29 ⟨rfl, hb⟩
   refine ⟨_, rfl, ?_⟩
   replace aa := bB aa hb;replace af := bB af hb;replace HB := bS HB hb;clear hb
   refine hK.out _ _ (Ld aa (AR af)) (fun hHeld => ?_)
   clear hK K
   refine Aj (a' := ?_) ?_ ?_
   rotate_left
   ·
    show Act.put _ (some 52) _ = _
    simp only [pz]
    rfl
   refine pU 28 53 38 536870911 yD ?_;refine pU 29 54 38 1073741823 yD ?_;refine pU 30 55 38 2147483647 yD ?_;refine pN 31 56 38 4294967295 yD ?_;refine pN 32 57 38 8589934591 yD ?_;refine pN 33 58 38 17179869183 yD ?_;refine pN 34 59 38 34359738367 yD ?_;refine pN 35 60 38 68719476735 yD ?_;refine pN 36 61 38 137438953471 yD ?_;refine pU 37 62 38 274877906943 yD ?_
   refine BI (Az yD.out (by kernel_rfl)) ?_
   try go_wp2
   go_meet
   case rel => exact ⟨_, (true), (by rfl), H', ⟨by have := BZ.out; omega⟩, ⟨kk aa⟩, ⟨kk af⟩, ⟨bO HB⟩⟩
  rw [if_neg Oh] at H;have Rm := decide_eq_false Oh;clear Oh;obtain ⟨X6, Yy, H⟩ := bE H
  try dsimp only at H
  have H' := yf.mk H;clear H
  try go_wp2
  have Bt : yf (((((w11.setCell ⟨ae, 0, none⟩ (.int .i64 ((yh l1 yQ).f0))).setCell ⟨ae, 1, none⟩ (.int .i64 ((yh l1 yQ).f1))).setCell ⟨ae, 2, none⟩ (.int .i64 ((yh l1 yQ).f2.f0))).setCell ⟨ae, 3, none⟩ (.int .i64 ((yh l1 yQ).f2.f1))).heap[aj]? = some (.cells #[.int .i64 yn, .slice yP yg.length yI, .int .i64 yo, .int .i64 yt] 31 (0, 0))) := bK aa rfl
  have Bu : yf (((((w11.setCell ⟨ae, 0, none⟩ (.int .i64 ((yh l1 yQ).f0))).setCell ⟨ae, 1, none⟩ (.int .i64 ((yh l1 yQ).f1))).setCell ⟨ae, 2, none⟩ (.int .i64 ((yh l1 yQ).f2.f0))).setCell ⟨ae, 3, none⟩ (.int .i64 ((yh l1 yQ).f2.f1))).heap[ae]? = some (.cells #[.int .i64 ((yh l1 yQ).f0), .int .i64 ((yh l1 yQ).f1), .int .i64 ((yh l1 yQ).f2.f0), .int .i64 ((yh l1 yQ).f2.f1)] 47 (0, 0))) := bK af rfl
  have BJ : yf (Below w.heap.size w ((((w11.setCell ⟨ae, 0, none⟩ (.int .i64 ((yh l1 yQ).f0))).setCell ⟨ae, 1, none⟩ (.int .i64 ((yh l1 yQ).f1))).setCell ⟨ae, 2, none⟩ (.int .i64 ((yh l1 yQ).f2.f0))).setCell ⟨ae, 3, none⟩ (.int .i64 ((yh l1 yQ).f2.f1)))) := ⟨bO HB⟩
  clear aa af HB;generalize ((((w11.setCell ⟨ae, 0, none⟩ (.int .i64 ((yh l1 yQ).f0))).setCell ⟨ae, 1, none⟩ (.int .i64 ((yh l1 yQ).f1))).setCell ⟨ae, 2, none⟩ (.int .i64 ((yh l1 yQ).f2.f0))).setCell ⟨ae, 3, none⟩ (.int .i64 ((yh l1 yQ).f2.f1))) = w31 at Bt Bu BJ ⊢;have aa := Bt;have af := Bu;have HB := BJ;clear Bt Bu BJ;replace aa := yf.mk (yZ aa.out);replace af := yf.mk (yZ af.out);replace HB := yf.mk (ze HB.out)
  refine AV (n := 38) (S := fun w' => w'.cell? ⟨aj, 0, none⟩ = some (.int .i64 yn) ∧ w'.cell? ⟨aj, 1, none⟩ = some (.slice yP yg.length yI) ∧ w'.cell? ⟨aj, 2, none⟩ = some (.int .i64 yo) ∧ w'.cell? ⟨aj, 3, none⟩ = some (.int .i64 yt) ∧ w'.cell? ⟨ae, 0, none⟩ = some (.int .i64 ((yh l1 yQ).f0)) ∧ w'.cell? ⟨ae, 1, none⟩ = some (.int .i64 ((yh l1 yQ).f1)) ∧ w'.cell? ⟨ae, 2, none⟩ = some (.int .i64 ((yh l1 yQ).f2.f0)) ∧ w'.cell? ⟨ae, 3, none⟩ = some (.int .i64 ((yh l1 yQ).f2.f1))) (ds := []) (bz 38 0) (by kernel_rfl) rfl rfl (Ld aa (AR af)) (fun hHeld => ?_); refine zQ yj.NM yj.Jf (fun yD AZ => ?_)
  generalize w31.drew = w32 at aa af HB hHeld ⊢;refine pU 1 26 38 2 yD ?_;refine pU 3 28 38 10 yD ?_
  refine BQ 0 25 38 11 yD AZ hHeld ?_
  refine BQ 2 27 38 15 yD AZ hHeld ?_
  refine BQ 4 29 38 31 yD AZ hHeld ?_
  refine BP (i := 5) (N := some 30) (bz 38 63) rfl rfl (Af yD.out (by kernel_rfl)) (by decide) (fun K hK => ?_)
  refine gO Try.func21 #[.agg #[.int .i64 yn, .slice yP yg.length yI, .int .i64 yo, .int .i64 yt], .int .i64 ((yh l1 yQ).f0), .int .i64 ((yh l1 yQ).f1)] ?_
  with_reducible refine (Cg.calls yn _ _ yg yo yt ((yh l1 yQ).f0) ((yh l1 yQ).f1) true _ ?yF ?yM YE.out).mono ?_
  (case yF => exact Da zq)
  (case yM => exact zG.out)
  rintro e w33 ⟨rfl, hb⟩
  refine ⟨_, rfl, ?_⟩
  replace aa := bB aa hb;replace af := bB af hb;replace HB := bS HB hb;clear hb
  refine hK.out _ _ (Ld aa (AR af)) (fun hHeld => ?_)
  clear hK K
  refine Aj (a' := ?_) ?_ ?_
  rotate_left
  ·
   show Act.put _ (some 30) _ = _
   simp only [pz]
   rfl
  refine pU 6 31 38 127 yD ?_;refine pU 7 32 38 255 yD ?_;refine pU 8 33 38 511 yD ?_;refine pU 9 34 38 1023 yD ?_
  refine BQ 10 35 38 2047 yD AZ hHeld ?_
  refine pU 11 36 38 4095 yD ?_;refine pU 12 37 38 8191 yD ?_;refine pU 13 38 38 16383 yD ?_;refine pU 14 39 38 32767 yD ?_;refine pU 15 40 38 65535 yD ?_;refine pU 17 42 38 196607 yD ?_;refine pU 18 43 38 458751 yD ?_
  refine BQ 16 41 38 524287 yD AZ hHeld ?_
  refine BQ 19 44 38 1048575 yD AZ hHeld ?_
  refine pU 20 45 38 2097151 yD ?_;refine pU 21 46 38 4194303 yD ?_;refine pU 22 47 38 8388607 yD ?_;refine pU 23 48 38 16777215 yD ?_;refine pU 24 49 38 33554431 yD ?_
  refine BQ 25 50 38 67108863 yD AZ hHeld ?_
  refine BQ 26 51 38 134217727 yD AZ hHeld ?_
  refine BP (i := 27) (N := some 52) (bz 38 268435455) rfl rfl (Af yD.out (by kernel_rfl)) (by decide) (fun K hK => ?_)
  refine gO Try.func23 #[.agg #[.int .i64 yn, .slice yP yg.length yI, .int .i64 yo, .int .i64 yt]] ?_
  with_reducible refine (Bq.calls yn _ _ yg yo yt VG _ ?yF ?yM A24.out).mono ?_
  (case yF => exact Da zq)
  (case yM => exact zG.out)
  rintro e w34 ⟨rfl, hb⟩
  refine ⟨_, rfl, ?_⟩
  replace aa := bB aa hb;replace af := bB af hb;replace HB := bS HB hb;clear hb
  refine hK.out _ _ (Ld aa (AR af)) (fun hHeld => ?_)
  clear hK K
  refine Aj (a' := ?_) ?_ ?_
  rotate_left
  ·
   show Act.put _ (some 52) _ = _
   simp only [pz]
   rfl
  refine pU 28 53 38 536870911 yD ?_;refine pU 29 54 38 1073741823 yD ?_;refine pU 30 55 38 2147483647 yD ?_;refine pU 31 56 38 4294967295 yD ?_;refine pU 32 57 38 8589934591 yD ?_
  refine BQ 33 58 38 17179869183 yD AZ hHeld ?_
  refine BQ 34 59 38 34359738367 yD AZ hHeld ?_
  refine BP (i := 35) (N := some 60) (bz 38 68719476735) rfl rfl (Af yD.out (by kernel_rfl)) (by decide) (fun K hK => ?_)
  refine gO Try.func52 #[.agg #[.int .i64 yn, .slice yP yg.length yI, .int .i64 yo, .int .i64 yt]] ?_
  with_reducible refine (CR.calls yn _ _ yg yo yt X6 _ ?yF ?yM Yy.out).mono ?_
  (case yF => exact Da zq)
  (case yM => exact zG.out)
  rintro e w35 ⟨rfl, hb⟩
  refine ⟨_, rfl, ?_⟩
  replace aa := bB aa hb;replace af := bB af hb;replace HB := bS HB hb;clear hb
  refine hK.out _ _ (Ld aa (AR af)) (fun hHeld => ?_)
  clear hK K
  refine Aj (a' := ?_) ?_ ?_
  rotate_left
  ·
   show Act.put _ (some 60) _ = _
   simp only [pz]
   rfl
  refine pU 36 61 38 137438953471 yD ?_;refine pU 37 62 38 274877906943 yD ?_
  refine BI (Az yD.out (by kernel_rfl)) ?_
  try go_wp2
  go_meet
  case rel => exact ⟨_, (decide (((yh l1 yQ).f2.f1) ≥ X6)), (by rfl), H', ⟨by have := BZ.out; omega⟩, ⟨kk aa⟩, ⟨kk af⟩, ⟨bO HB⟩⟩
 case rest =>
 clear QJ;obtain ⟨kq, bH, rfl, HA, X7, aa, af, HB⟩ := hcut
 cases kq with
 | zero => exact absurd HA.out (by simp [yj.j1])
 | succ KI =>
  have H := HA.out;clear HA;simp only [yj.j1] at H
  by_cases Jl : bH = true
  ·
   subst Jl;rw [if_pos rfl] at H;obtain rfl := Option.some.inj H
   go_wp2
   go_ret
   exact ⟨by rfl, bO HB⟩
  ·
   replace Jl := Bool.eq_false_iff.mpr Jl;subst Jl
   rw [if_neg (show ¬ (false = true) by decide)] at H
   have bQ := yf.mk H;clear H
   go_upto_region 9 with (fail)
   go_cut [97] (fun v97 wc => ∃ (kq : Nat) (bM : Bool), v97 = .bool bM ∧ yf (yj.j2 kq l1 yQ bM yn yg yo yt ((yh l1 yQ).f0) ((yh l1 yQ).f1) ((yh l1 yQ).f2.f0) ((yh l1 yQ).f2.f1) = some r) ∧ yf (kq ≤ KI) ∧ yf (wc.heap[aj]? = some (.cells #[.int .i64 yn, (.slice yP yg.length yI), .int .i64 yo, .int .i64 yt] 31 (0, 0))) ∧ yf (wc.heap[ae]? = some (.cells #[.int .i64 ((yh l1 yQ).f0), .int .i64 ((yh l1 yQ).f1), .int .i64 ((yh l1 yQ).f2.f0), .int .i64 ((yh l1 yQ).f2.f1)] 47 (0, 0))) ∧ yf (Below w.heap.size w wc))
   case first =>
    have H := bQ.out;clear bQ
    by_cases Mr : yQ > 0
    ·
     rw [if_pos Mr] at H;have Yq := decide_eq_true Mr;clear Mr
     (skip)
     obtain ⟨ag, dx⟩ : ∃ j_ : Int, (wrap64 (yQ - 1)) = j_ := ⟨_, rfl⟩
     replace H : (if 0 ≤ (ag) then (if (ag) < (l1.length : Int) then (if ((yh l1 (ag)).f0) > ((yh l1 yQ).f0) then (yj.j2 KI l1 yQ true yn yg yo yt ((yh l1 yQ).f0) ((yh l1 yQ).f1) ((yh l1 yQ).f2.f0) ((yh l1 yQ).f2.f1)) else (if ((yh l1 (ag)).f0) = ((yh l1 yQ).f0) then (yj.j2 KI l1 yQ (decide (((yh l1 (ag)).f1) ≥ ((yh l1 yQ).f1))) yn yg yo yt ((yh l1 yQ).f0) ((yh l1 yQ).f1) ((yh l1 yQ).f2.f0) ((yh l1 yQ).f2.f1)) else (yj.j2 KI l1 yQ false yn yg yo yt ((yh l1 yQ).f0) ((yh l1 yQ).f1) ((yh l1 yQ).f2.f0) ((yh l1 yQ).f2.f1)))) else (none)) else (none)) = some r := by (rw [dx] at H; exact H)
     have hji42w : (IntKind.i64.wrap (yQ - 1)) = ag := (i64_w _).trans dx
     by_cases PP : 0 ≤ (ag)
     ·
      rw [if_pos PP] at H;have Um := decide_eq_true PP;clear PP
      by_cases Mm : (ag) < (l1.length : Int)
      ·
       rw [if_pos Mm] at H;have Rj := decide_eq_true Mm;clear Mm
       by_cases PO : ((yh l1 (ag)).f0) > ((yh l1 yQ).f0)
       ·
        rw [if_pos PO] at H;have Ug := decide_eq_true PO;clear PO;have H' := yf.mk H;clear H
        try go_wp2
        replace aa := yf.mk (yZ aa.out);replace af := yf.mk (yZ af.out);replace HB := yf.mk (ze HB.out)
        have aA : 0 ≤ ((ag) : Int) := of_decide_eq_true ‹_›
        have aC : (ag) < (l1.length : Int) := of_decide_eq_true ‹_›
        obtain ⟨aY, bi, au, ax, ay, av⟩ := Cb HR1.out (ag) aA aC;have bg := av;have bq := ay;have bn := ax;have aZ := au;obtain rfl : ah = aY := (by injection bi);replace au := cB HB au;replace ax := cB HB ax;replace ay := cB HB ay;replace av := cB HB av;replace aA := eq_true aA;replace aC := eq_true aC
        refine AV (n := 35) (S := fun w' => w'.cell? ⟨ae, 0, none⟩ = some (.int .i64 ((yh l1 yQ).f0)) ∧ w'.cell? ⟨ae, 1, none⟩ = some (.int .i64 ((yh l1 yQ).f1)) ∧ w'.cell? ⟨ae, 2, none⟩ = some (.int .i64 ((yh l1 yQ).f2.f0)) ∧ w'.cell? ⟨ae, 3, none⟩ = some (.int .i64 ((yh l1 yQ).f2.f1)) ∧ w'.cell? (ah.add (((ag)).toNat * 4)) = some (.int .i64 ((yh l1 (ag)).f0)) ∧ w'.cell? ⟨(ah.add (((ag)).toNat * 4)).block, (ah.add (((ag)).toNat * 4)).off + 1, none⟩ = some (.int .i64 ((yh l1 (ag)).f1)) ∧ w'.cell? ⟨(ah.add (((ag)).toNat * 4)).block, (ah.add (((ag)).toNat * 4)).off + 2, none⟩ = some (.int .i64 ((yh l1 (ag)).f2.f0)) ∧ w'.cell? ⟨(ah.add (((ag)).toNat * 4)).block, (ah.add (((ag)).toNat * 4)).off + 3, none⟩ = some (.int .i64 ((yh l1 (ag)).f2.f1))) (ds := []) (bz 35 0) (by kernel_rfl) rfl rfl ⟨(yz af.out 0).trans rfl, (yz af.out 1).trans rfl, (yz af.out 2).trans rfl, (yz af.out 3).trans rfl, (cB HB aZ), (cB HB bn), (cB HB bq), (cB HB bg)⟩ (fun hHeld => ?_); refine zQ yj.P5 yj.Ke (fun yD AZ => ?_)
        generalize wc.drew = w46 at aa af HB au ax ay av hHeld ⊢;refine pU 0 63 35 1 yD ?_;refine pU 1 64 35 3 yD ?_;refine pU 2 65 35 7 yD ?_;refine pU 3 66 35 15 yD ?_;refine pU 4 67 35 31 yD ?_;refine pU 5 68 35 63 yD ?_;refine pU 6 69 35 127 yD ?_;refine pU 7 70 35 255 yD ?_;refine pU 9 72 35 767 yD ?_
        refine BQ 8 71 35 1023 yD AZ hHeld ?_
        refine BQ 10 73 35 2047 yD AZ hHeld ?_
        refine pU 11 74 35 4095 yD ?_;refine pU 12 75 35 8191 yD ?_;refine pN 13 76 35 16383 yD ?_;refine pN 14 77 35 32767 yD ?_;refine pN 15 78 35 65535 yD ?_;refine pN 16 79 35 131071 yD ?_;refine pN 17 80 35 262143 yD ?_;refine pN 18 81 35 524287 yD ?_;refine pN 19 82 35 1048575 yD ?_;refine pN 20 83 35 2097151 yD ?_;refine pN 21 84 35 4194303 yD ?_;refine pN 22 85 35 8388607 yD ?_;refine pN 23 86 35 16777215 yD ?_;refine pN 24 87 35 33554431 yD ?_;refine pN 25 88 35 67108863 yD ?_;refine pN 26 89 35 134217727 yD ?_;refine pN 27 90 35 268435455 yD ?_;refine pN 28 91 35 536870911 yD ?_;refine pN 29 92 35 1073741823 yD ?_;refine pN 30 93 35 2147483647 yD ?_;refine pN 31 94 35 4294967295 yD ?_;refine pN 32 95 35 8589934591 yD ?_;refine pU 33 96 35 17179869183 yD ?_;refine pU 34 97 35 34359738367 yD ?_
        refine BI (Az yD.out (by kernel_rfl)) ?_
        try go_wp2
        go_meet
        case rel => exact ⟨_, (true), (by rfl), H', ⟨by have := BZ.out; have := X7.out; omega⟩, ⟨kk aa⟩, ⟨kk af⟩, ⟨bO HB⟩⟩
       ·
        rw [if_neg PO] at H;have Ug := decide_eq_false PO;clear PO
        by_cases Ji : ((yh l1 (ag)).f0) = ((yh l1 yQ).f0)
        ·
         rw [if_pos Ji] at H;have Ll := beq_iff_eq.mpr Ji
         have dM : (((yh l1 (ag)).f0) != ((yh l1 yQ).f0)) = false := bne_eq_false_iff_eq.mpr Ji
         clear Ji;have H' := yf.mk H;clear H
         try go_wp2
         replace aa := yf.mk (yZ aa.out);replace af := yf.mk (yZ af.out);replace HB := yf.mk (ze HB.out)
         have aA : 0 ≤ ((ag) : Int) := of_decide_eq_true ‹_›
         have aC : (ag) < (l1.length : Int) := of_decide_eq_true ‹_›
         obtain ⟨aY, bi, au, ax, ay, av⟩ := Cb HR1.out (ag) aA aC;have bg := av;have bq := ay;have bn := ax;have aZ := au;obtain rfl : ah = aY := (by injection bi);replace au := cB HB au;replace ax := cB HB ax;replace ay := cB HB ay;replace av := cB HB av;replace aA := eq_true aA;replace aC := eq_true aC
         have aU : 0 ≤ ((ag) : Int) := of_decide_eq_true ‹_›
         have aT : (ag) < (l1.length : Int) := of_decide_eq_true ‹_›
         obtain ⟨cZ, dm, aI, aH, aG, aM⟩ := Cb HR1.out (ag) aU aT;have cO := aM;have bU := aG;have bR := aH;have di := aI;obtain rfl : ah = cZ := (by injection dm);replace aI := cB HB aI;replace aH := cB HB aH;replace aG := cB HB aG;replace aM := cB HB aM;replace aU := eq_true aU;replace aT := eq_true aT
         have cz : 0 ≤ ((ag) : Int) := of_decide_eq_true ‹_›
         have bP : (ag) < (l1.length : Int) := of_decide_eq_true ‹_›
         obtain ⟨dJ, dX, bF, bD, bJ, bv⟩ := Cb HR1.out (ag) cz bP;have dH := bv;have dK := bJ;have dU := bD;have dS := bF;obtain rfl : ah = dJ := (by injection dX);replace bF := cB HB bF;replace bD := cB HB bD;replace bJ := cB HB bJ;replace bv := cB HB bv;replace cz := eq_true cz;replace bP := eq_true bP
         refine AV (n := 35) (S := fun w' => w'.cell? ⟨ae, 0, none⟩ = some (.int .i64 ((yh l1 yQ).f0)) ∧ w'.cell? ⟨ae, 1, none⟩ = some (.int .i64 ((yh l1 yQ).f1)) ∧ w'.cell? ⟨ae, 2, none⟩ = some (.int .i64 ((yh l1 yQ).f2.f0)) ∧ w'.cell? ⟨ae, 3, none⟩ = some (.int .i64 ((yh l1 yQ).f2.f1)) ∧ w'.cell? (ah.add (((ag)).toNat * 4)) = some (.int .i64 ((yh l1 (ag)).f0)) ∧ w'.cell? ⟨(ah.add (((ag)).toNat * 4)).block, (ah.add (((ag)).toNat * 4)).off + 1, none⟩ = some (.int .i64 ((yh l1 (ag)).f1)) ∧ w'.cell? ⟨(ah.add (((ag)).toNat * 4)).block, (ah.add (((ag)).toNat * 4)).off + 2, none⟩ = some (.int .i64 ((yh l1 (ag)).f2.f0)) ∧ w'.cell? ⟨(ah.add (((ag)).toNat * 4)).block, (ah.add (((ag)).toNat * 4)).off + 3, none⟩ = some (.int .i64 ((yh l1 (ag)).f2.f1)) ∧ w'.cell? (ah.add (((ag)).toNat * 4)) = some (.int .i64 ((yh l1 (ag)).f0)) ∧ w'.cell? ⟨(ah.add (((ag)).toNat * 4)).block, (ah.add (((ag)).toNat * 4)).off + 1, none⟩ = some (.int .i64 ((yh l1 (ag)).f1)) ∧ w'.cell? ⟨(ah.add (((ag)).toNat * 4)).block, (ah.add (((ag)).toNat * 4)).off + 2, none⟩ = some (.int .i64 ((yh l1 (ag)).f2.f0)) ∧ w'.cell? ⟨(ah.add (((ag)).toNat * 4)).block, (ah.add (((ag)).toNat * 4)).off + 3, none⟩ = some (.int .i64 ((yh l1 (ag)).f2.f1)) ∧ w'.cell? (ah.add (((ag)).toNat * 4)) = some (.int .i64 ((yh l1 (ag)).f0)) ∧ w'.cell? ⟨(ah.add (((ag)).toNat * 4)).block, (ah.add (((ag)).toNat * 4)).off + 1, none⟩ = some (.int .i64 ((yh l1 (ag)).f1)) ∧ w'.cell? ⟨(ah.add (((ag)).toNat * 4)).block, (ah.add (((ag)).toNat * 4)).off + 2, none⟩ = some (.int .i64 ((yh l1 (ag)).f2.f0)) ∧ w'.cell? ⟨(ah.add (((ag)).toNat * 4)).block, (ah.add (((ag)).toNat * 4)).off + 3, none⟩ = some (.int .i64 ((yh l1 (ag)).f2.f1))) (ds := []) (bz 35 0) (by kernel_rfl) rfl rfl ⟨(yz af.out 0).trans rfl, (yz af.out 1).trans rfl, (yz af.out 2).trans rfl, (yz af.out 3).trans rfl, (cB HB aZ), (cB HB bn), (cB HB bq), (cB HB bg), (cB HB di), (cB HB bR), (cB HB bU), (cB HB cO), (cB HB dS), (cB HB dU), (cB HB dK), (cB HB dH)⟩ (fun hHeld => ?_); refine zQ yj.P5 yj.Ke (fun yD AZ => ?_)
         generalize wc.drew = w48 at aa af HB au ax ay av aI aH aG aM bF bD bJ bv hHeld ⊢;refine pU 0 63 35 1 yD ?_;refine pU 1 64 35 3 yD ?_;refine pU 2 65 35 7 yD ?_;refine pU 3 66 35 15 yD ?_;refine pU 4 67 35 31 yD ?_;refine pU 5 68 35 63 yD ?_;refine pU 6 69 35 127 yD ?_;refine pU 7 70 35 255 yD ?_;refine pU 9 72 35 767 yD ?_
         refine BQ 8 71 35 1023 yD AZ hHeld ?_
         refine BQ 10 73 35 2047 yD AZ hHeld ?_
         refine pU 11 74 35 4095 yD ?_;refine pU 12 75 35 8191 yD ?_;refine pU 13 76 35 16383 yD ?_;refine pU 14 77 35 32767 yD ?_;refine pU 15 78 35 65535 yD ?_;refine pU 16 79 35 131071 yD ?_;refine pU 17 80 35 262143 yD ?_;refine pU 19 82 35 786431 yD ?_
         refine BQ 18 81 35 1048575 yD AZ hHeld ?_
         refine BQ 20 83 35 2097151 yD AZ hHeld ?_
         refine pU 21 84 35 4194303 yD ?_;refine pU 22 85 35 8388607 yD ?_;refine pU 23 86 35 16777215 yD ?_;refine pU 24 87 35 33554431 yD ?_;refine pU 25 88 35 67108863 yD ?_;refine pU 26 89 35 134217727 yD ?_;refine pU 27 90 35 268435455 yD ?_;refine pU 29 92 35 805306367 yD ?_
         refine BQ 28 91 35 1073741823 yD AZ hHeld ?_
         refine BQ 30 93 35 2147483647 yD AZ hHeld ?_
         refine pU 31 94 35 4294967295 yD ?_;refine pU 32 95 35 8589934591 yD ?_;refine pU 33 96 35 17179869183 yD ?_;refine pU 34 97 35 34359738367 yD ?_
         refine BI (Az yD.out (by kernel_rfl)) ?_
         try go_wp2
         go_meet
         case rel => exact ⟨_, (decide (((yh l1 (ag)).f1) ≥ ((yh l1 yQ).f1))), (by rfl), H', ⟨by have := BZ.out; have := X7.out; omega⟩, ⟨kk aa⟩, ⟨kk af⟩, ⟨bO HB⟩⟩
        ·
         rw [if_neg Ji] at H;have Ll := beq_eq_false_iff_ne.mpr Ji;have dM := bne_iff_ne.mpr Ji;have H' := yf.mk H;clear H
         try go_wp2
         replace aa := yf.mk (yZ aa.out);replace af := yf.mk (yZ af.out);replace HB := yf.mk (ze HB.out)
         have aA : 0 ≤ ((ag) : Int) := of_decide_eq_true ‹_›
         have aC : (ag) < (l1.length : Int) := of_decide_eq_true ‹_›
         obtain ⟨aY, bi, au, ax, ay, av⟩ := Cb HR1.out (ag) aA aC;have bg := av;have bq := ay;have bn := ax;have aZ := au;obtain rfl : ah = aY := (by injection bi);replace au := cB HB au;replace ax := cB HB ax;replace ay := cB HB ay;replace av := cB HB av;replace aA := eq_true aA;replace aC := eq_true aC
         have aU : 0 ≤ ((ag) : Int) := of_decide_eq_true ‹_›
         have aT : (ag) < (l1.length : Int) := of_decide_eq_true ‹_›
         obtain ⟨cZ, dm, aI, aH, aG, aM⟩ := Cb HR1.out (ag) aU aT;have cO := aM;have bU := aG;have bR := aH;have di := aI;obtain rfl : ah = cZ := (by injection dm);replace aI := cB HB aI;replace aH := cB HB aH;replace aG := cB HB aG;replace aM := cB HB aM;replace aU := eq_true aU;replace aT := eq_true aT
         refine AV (n := 35) (S := fun w' => w'.cell? ⟨ae, 0, none⟩ = some (.int .i64 ((yh l1 yQ).f0)) ∧ w'.cell? ⟨ae, 1, none⟩ = some (.int .i64 ((yh l1 yQ).f1)) ∧ w'.cell? ⟨ae, 2, none⟩ = some (.int .i64 ((yh l1 yQ).f2.f0)) ∧ w'.cell? ⟨ae, 3, none⟩ = some (.int .i64 ((yh l1 yQ).f2.f1)) ∧ w'.cell? (ah.add (((ag)).toNat * 4)) = some (.int .i64 ((yh l1 (ag)).f0)) ∧ w'.cell? ⟨(ah.add (((ag)).toNat * 4)).block, (ah.add (((ag)).toNat * 4)).off + 1, none⟩ = some (.int .i64 ((yh l1 (ag)).f1)) ∧ w'.cell? ⟨(ah.add (((ag)).toNat * 4)).block, (ah.add (((ag)).toNat * 4)).off + 2, none⟩ = some (.int .i64 ((yh l1 (ag)).f2.f0)) ∧ w'.cell? ⟨(ah.add (((ag)).toNat * 4)).block, (ah.add (((ag)).toNat * 4)).off + 3, none⟩ = some (.int .i64 ((yh l1 (ag)).f2.f1)) ∧ w'.cell? (ah.add (((ag)).toNat * 4)) = some (.int .i64 ((yh l1 (ag)).f0)) ∧ w'.cell? ⟨(ah.add (((ag)).toNat * 4)).block, (ah.add (((ag)).toNat * 4)).off + 1, none⟩ = some (.int .i64 ((yh l1 (ag)).f1)) ∧ w'.cell? ⟨(ah.add (((ag)).toNat * 4)).block, (ah.add (((ag)).toNat * 4)).off + 2, none⟩ = some (.int .i64 ((yh l1 (ag)).f2.f0)) ∧ w'.cell? ⟨(ah.add (((ag)).toNat * 4)).block, (ah.add (((ag)).toNat * 4)).off + 3, none⟩ = some (.int .i64 ((yh l1 (ag)).f2.f1))) (ds := []) (bz 35 0) (by kernel_rfl) rfl rfl ⟨(yz af.out 0).trans rfl, (yz af.out 1).trans rfl, (yz af.out 2).trans rfl, (yz af.out 3).trans rfl, (cB HB aZ), (cB HB bn), (cB HB bq), (cB HB bg), (cB HB di), (cB HB bR), (cB HB bU), (cB HB cO)⟩ (fun hHeld => ?_); refine zQ yj.P5 yj.Ke (fun yD AZ => ?_)
         generalize wc.drew = w49 at aa af HB au ax ay av aI aH aG aM hHeld ⊢;refine pU 0 63 35 1 yD ?_;refine pU 1 64 35 3 yD ?_;refine pU 2 65 35 7 yD ?_;refine pU 3 66 35 15 yD ?_;refine pU 4 67 35 31 yD ?_;refine pU 5 68 35 63 yD ?_;refine pU 6 69 35 127 yD ?_;refine pU 7 70 35 255 yD ?_;refine pU 9 72 35 767 yD ?_
         refine BQ 8 71 35 1023 yD AZ hHeld ?_
         refine BQ 10 73 35 2047 yD AZ hHeld ?_
         refine pU 11 74 35 4095 yD ?_;refine pU 12 75 35 8191 yD ?_;refine pU 13 76 35 16383 yD ?_;refine pU 14 77 35 32767 yD ?_;refine pU 15 78 35 65535 yD ?_;refine pU 16 79 35 131071 yD ?_;refine pU 17 80 35 262143 yD ?_;refine pU 19 82 35 786431 yD ?_
         refine BQ 18 81 35 1048575 yD AZ hHeld ?_
         refine BQ 20 83 35 2097151 yD AZ hHeld ?_
         refine pU 21 84 35 4194303 yD ?_;refine pU 22 85 35 8388607 yD ?_;refine pN 23 86 35 16777215 yD ?_;refine pN 24 87 35 33554431 yD ?_;refine pN 25 88 35 67108863 yD ?_;refine pN 26 89 35 134217727 yD ?_;refine pN 27 90 35 268435455 yD ?_;refine pN 28 91 35 536870911 yD ?_;refine pN 29 92 35 1073741823 yD ?_;refine pN 30 93 35 2147483647 yD ?_;refine pN 31 94 35 4294967295 yD ?_;refine pU 32 95 35 8589934591 yD ?_;refine pU 33 96 35 17179869183 yD ?_;refine pU 34 97 35 34359738367 yD ?_
         refine BI (Az yD.out (by kernel_rfl)) ?_
         try go_wp2
         go_meet
         case rel => exact ⟨_, (false), (by rfl), H', ⟨by have := BZ.out; have := X7.out; omega⟩, ⟨kk aa⟩, ⟨kk af⟩, ⟨bO HB⟩⟩
      ·
       rw [if_neg Mm] at H;exact absurd H (by simp)
     ·
      rw [if_neg PP] at H;exact absurd H (by simp)
    ·
     rw [if_neg Mr] at H;have Yq := decide_eq_false Mr;clear Mr
     (skip)
     have H' := yf.mk H;clear H
     try go_wp2
     replace aa := yf.mk (yZ aa.out);replace af := yf.mk (yZ af.out);replace HB := yf.mk (ze HB.out)
     refine AV (n := 35) (S := fun w' => True) (ds := []) (bz 35 0) (by kernel_rfl) rfl rfl trivial (fun hHeld => ?_); refine zQ yj.P5 yj.Ke (fun yD AZ => ?_)
     generalize wc.drew = w50 at aa af HB hHeld ⊢;refine pU 0 63 35 1 yD ?_;refine pU 1 64 35 3 yD ?_;refine pU 2 65 35 7 yD ?_;refine pN 3 66 35 15 yD ?_;refine pN 4 67 35 31 yD ?_;refine pN 5 68 35 63 yD ?_;refine pN 6 69 35 127 yD ?_;refine pN 7 70 35 255 yD ?_;refine pN 8 71 35 511 yD ?_;refine pN 9 72 35 1023 yD ?_;refine pN 10 73 35 2047 yD ?_;refine pN 11 74 35 4095 yD ?_;refine pN 12 75 35 8191 yD ?_;refine pN 13 76 35 16383 yD ?_;refine pN 14 77 35 32767 yD ?_;refine pN 15 78 35 65535 yD ?_;refine pN 16 79 35 131071 yD ?_;refine pN 17 80 35 262143 yD ?_;refine pN 18 81 35 524287 yD ?_;refine pN 19 82 35 1048575 yD ?_;refine pN 20 83 35 2097151 yD ?_;refine pN 21 84 35 4194303 yD ?_;refine pN 22 85 35 8388607 yD ?_;refine pN 23 86 35 16777215 yD ?_;refine pN 24 87 35 33554431 yD ?_;refine pN 25 88 35 67108863 yD ?_;refine pN 26 89 35 134217727 yD ?_;refine pN 27 90 35 268435455 yD ?_;refine pN 28 91 35 536870911 yD ?_;refine pN 29 92 35 1073741823 yD ?_;refine pN 30 93 35 2147483647 yD ?_;refine pN 31 94 35 4294967295 yD ?_;refine pN 32 95 35 8589934591 yD ?_;refine pN 33 96 35 17179869183 yD ?_;refine pU 34 97 35 34359738367 yD ?_
     refine BI (Az yD.out (by kernel_rfl)) ?_
     try go_wp2
     go_meet
     case rel => exact ⟨_, (false), (by rfl), H', ⟨by have := BZ.out; have := X7.out; omega⟩, ⟨kk aa⟩, ⟨kk af⟩, ⟨bO HB⟩⟩
   case rest =>
    clear bQ;obtain ⟨kq, bM, rfl, HA, bA, aa, af, HB⟩ := hcut
    cases kq with
    | zero => exact absurd HA.out (by simp [yj.j2])
    | succ dD =>
     have H := HA.out;clear HA;simp only [yj.j2] at H
     by_cases c51 : bM = true
     ·
      subst c51;rw [if_pos rfl] at H;obtain rfl := Option.some.inj H
      go_wp2
      go_ret
      exact ⟨by rfl, bO HB⟩
     ·
      replace c51 := Bool.eq_false_iff.mpr c51;subst c51
      rw [if_neg (show ¬ (false = true) by decide)] at H
      have H' := yf.mk H;clear H
      go_wp2
      go_loopg [7] dD (fun kq v7 w' => ∃ (ai : Int), v7 = .int .i64 ai ∧ yf (yj.l1 kq l1 yQ ai yn yg yo yt ((yh l1 yQ).f0) ((yh l1 yQ).f1) ((yh l1 yQ).f2.f0) ((yh l1 yQ).f2.f1) = some r) ∧ yf (kq ≤ dD) ∧ yf (w'.heap[aj]? = some (.cells #[.int .i64 yn, (.slice yP yg.length yI), .int .i64 yo, .int .i64 yt] 31 (0, 0))) ∧ yf (w'.heap[ae]? = some (.cells #[.int .i64 ((yh l1 yQ).f0), .int .i64 ((yh l1 yQ).f1), .int .i64 ((yh l1 yQ).f2.f0), .int .i64 ((yh l1 yQ).f2.f1)] 47 (0, 0))) ∧ yf (Below w.heap.size w w'))
      case atStart => exact ⟨(0), (by rfl), H', ⟨Nat.le_refl _⟩, ⟨kk aa⟩, ⟨kk af⟩, ⟨bO HB⟩⟩
      case round =>
       clear H';obtain ⟨ai, rfl, HA, NQ, aa, af, HB⟩ := hrel
       cases gk with
       | zero => exact absurd HA.out (by simp [yj.l1])
       | succ k4 =>
        have H := HA.out;clear HA;simp only [yj.l1] at H
        by_cases aX : ai < yQ
        ·
         rw [if_pos aX] at H;have dP := decide_eq_true aX;clear aX
         by_cases c53 : 0 ≤ ai
         ·
          rw [if_pos c53] at H;have ed := decide_eq_true c53;clear c53
          by_cases Vv : ai < (l1.length : Int)
          ·
           rw [if_pos Vv] at H;have Yr := decide_eq_true Vv;clear Vv
           by_cases Mx : (((yh l1 ai).f2.f0) == ((yh l1 yQ).f2.f0) && (((yh l1 ai).f2.f1) == ((yh l1 yQ).f2.f1))) = true
           ·
            rw [if_pos Mx] at H
            have Yz : (((yh l1 ai).f2.f0) == ((yh l1 yQ).f2.f0) && (((yh l1 ai).f2.f1) == ((yh l1 yQ).f2.f1))) = true := Mx
            (try (have dO : decide (((yh l1 ai).f2.f0) = ((yh l1 yQ).f2.f0) && (((yh l1 ai).f2.f1) == ((yh l1 yQ).f2.f1))) = true := by simpa using Mx))
            (try (have dI : (((yh l1 ai).f2.f0) == ((yh l1 yQ).f2.f0) && (((yh l1 ai).f2.f1) == ((yh l1 yQ).f2.f1))) = true := by simpa using Mx))
            clear Mx;obtain rfl := Option.some.inj H
            try go_wp2
            replace aa := yf.mk (yZ aa.out);replace af := yf.mk (yZ af.out);replace HB := yf.mk (ze HB.out)
            have aQ : 0 ≤ (ai : Int) := of_decide_eq_true ‹_›
            have aW : ai < (l1.length : Int) := of_decide_eq_true ‹_›
            obtain ⟨bY, dn, aJ, aD, aN, aK⟩ := Cb HR1.out ai aQ aW;have bT := aK;have df := aN;have bX := aD;have dh := aJ;obtain rfl : ah = bY := (by injection dn);replace aJ := cB HB aJ;replace aD := cB HB aD;replace aN := cB HB aN;replace aK := cB HB aK;replace aQ := eq_true aQ;replace aW := eq_true aW
            refine AV (n := 8) (S := fun w' => w'.cell? ⟨ae, 0, none⟩ = some (.int .i64 ((yh l1 yQ).f0)) ∧ w'.cell? ⟨ae, 1, none⟩ = some (.int .i64 ((yh l1 yQ).f1)) ∧ w'.cell? ⟨ae, 2, none⟩ = some (.int .i64 ((yh l1 yQ).f2.f0)) ∧ w'.cell? ⟨ae, 3, none⟩ = some (.int .i64 ((yh l1 yQ).f2.f1)) ∧ w'.cell? (ah.add ((ai).toNat * 4)) = some (.int .i64 ((yh l1 ai).f0)) ∧ w'.cell? ⟨(ah.add ((ai).toNat * 4)).block, (ah.add ((ai).toNat * 4)).off + 1, none⟩ = some (.int .i64 ((yh l1 ai).f1)) ∧ w'.cell? ⟨(ah.add ((ai).toNat * 4)).block, (ah.add ((ai).toNat * 4)).off + 2, none⟩ = some (.int .i64 ((yh l1 ai).f2.f0)) ∧ w'.cell? ⟨(ah.add ((ai).toNat * 4)).block, (ah.add ((ai).toNat * 4)).off + 3, none⟩ = some (.int .i64 ((yh l1 ai).f2.f1))) (ds := []) (bz 8 0) (by kernel_rfl) rfl rfl ⟨(yz af.out 0).trans rfl, (yz af.out 1).trans rfl, (yz af.out 2).trans rfl, (yz af.out 3).trans rfl, (cB HB dh), (cB HB bX), (cB HB df), (cB HB bT)⟩ (fun hHeld => ?_); refine zQ yj.JW yj.Ht (fun yD AZ => ?_)
            generalize wr.drew = w56 at aa af HB aJ aD aN aK hHeld ⊢;refine pU 0 103 8 1 yD ?_;refine pU 1 104 8 3 yD ?_;refine pU 2 105 8 7 yD ?_;refine pU 3 106 8 15 yD ?_;refine pU 5 108 8 47 yD ?_
            refine BQ 4 107 8 63 yD AZ hHeld ?_
            refine BQ 6 109 8 127 yD AZ hHeld ?_
            refine pU 7 110 8 255 yD ?_
            refine BI (Az yD.out (by kernel_rfl)) ?_
            try go_wp2
            go_ret
            exact ⟨by rfl, bO HB⟩
           ·
            rw [if_neg Mx] at H
            have Yz : (((yh l1 ai).f2.f0) == ((yh l1 yQ).f2.f0) && (((yh l1 ai).f2.f1) == ((yh l1 yQ).f2.f1))) = false := by simpa using Mx
            (try (have dO : decide (((yh l1 ai).f2.f0) = ((yh l1 yQ).f2.f0) && (((yh l1 ai).f2.f1) == ((yh l1 yQ).f2.f1))) = false := by simpa using Mx))
            (try (have dI : (((yh l1 ai).f2.f0) == ((yh l1 yQ).f2.f0) && (((yh l1 ai).f2.f1) == ((yh l1 yQ).f2.f1))) = false := by simpa using Mx))
            (try (have eD : ¬ (((yh l1 ai).f2.f0) = ((yh l1 yQ).f2.f0) && (((yh l1 ai).f2.f1) == ((yh l1 yQ).f2.f1))) := by simpa using Mx))
            clear Mx;have H' := yf.mk H;clear H
            try go_wp2
            replace aa := yf.mk (yZ aa.out);replace af := yf.mk (yZ af.out);replace HB := yf.mk (ze HB.out)
            have aQ : 0 ≤ (ai : Int) := of_decide_eq_true ‹_›
            have aW : ai < (l1.length : Int) := of_decide_eq_true ‹_›
            obtain ⟨bY, dn, aJ, aD, aN, aK⟩ := Cb HR1.out ai aQ aW;have bT := aK;have df := aN;have bX := aD;have dh := aJ;obtain rfl : ah = bY := (by injection dn);replace aJ := cB HB aJ;replace aD := cB HB aD;replace aN := cB HB aN;replace aK := cB HB aK;replace aQ := eq_true aQ;replace aW := eq_true aW
            refine AV (n := 8) (S := fun w' => w'.cell? ⟨ae, 0, none⟩ = some (.int .i64 ((yh l1 yQ).f0)) ∧ w'.cell? ⟨ae, 1, none⟩ = some (.int .i64 ((yh l1 yQ).f1)) ∧ w'.cell? ⟨ae, 2, none⟩ = some (.int .i64 ((yh l1 yQ).f2.f0)) ∧ w'.cell? ⟨ae, 3, none⟩ = some (.int .i64 ((yh l1 yQ).f2.f1)) ∧ w'.cell? (ah.add ((ai).toNat * 4)) = some (.int .i64 ((yh l1 ai).f0)) ∧ w'.cell? ⟨(ah.add ((ai).toNat * 4)).block, (ah.add ((ai).toNat * 4)).off + 1, none⟩ = some (.int .i64 ((yh l1 ai).f1)) ∧ w'.cell? ⟨(ah.add ((ai).toNat * 4)).block, (ah.add ((ai).toNat * 4)).off + 2, none⟩ = some (.int .i64 ((yh l1 ai).f2.f0)) ∧ w'.cell? ⟨(ah.add ((ai).toNat * 4)).block, (ah.add ((ai).toNat * 4)).off + 3, none⟩ = some (.int .i64 ((yh l1 ai).f2.f1))) (ds := []) (bz 8 0) (by kernel_rfl) rfl rfl ⟨(yz af.out 0).trans rfl, (yz af.out 1).trans rfl, (yz af.out 2).trans rfl, (yz af.out 3).trans rfl, (cB HB dh), (cB HB bX), (cB HB df), (cB HB bT)⟩ (fun hHeld => ?_); refine zQ yj.JW yj.Ht (fun yD AZ => ?_)
            generalize wr.drew = w57 at aa af HB aJ aD aN aK hHeld ⊢;refine pU 0 103 8 1 yD ?_;refine pU 1 104 8 3 yD ?_;refine pU 2 105 8 7 yD ?_;refine pU 3 106 8 15 yD ?_;refine pU 5 108 8 47 yD ?_
            refine BQ 4 107 8 63 yD AZ hHeld ?_
            refine BQ 6 109 8 127 yD AZ hHeld ?_
            refine pU 7 110 8 255 yD ?_
            refine BI (Az yD.out (by kernel_rfl)) ?_
            try go_wp2
            go_roundg k4
            case measure => have := BZ.out; have := X7.out; have := bA.out; have := NQ.out; omega
            case rel => exact ⟨(wrap64 (ai + 1)), (by rfl), H', ⟨by have := BZ.out; have := X7.out; have := bA.out; have := NQ.out; omega⟩, ⟨kk aa⟩, ⟨kk af⟩, ⟨bO HB⟩⟩
          ·
           rw [if_neg Vv] at H;exact absurd H (by simp)
         ·
          rw [if_neg c53] at H;exact absurd H (by simp)
        ·
         rw [if_neg aX] at H;have dP := decide_eq_false aX;clear aX;have H' := yf.mk H;clear H
         go_wp2
         go_roundg k4
         case measure => have := BZ.out; have := X7.out; have := bA.out; have := NQ.out; omega
         case rel => exact ⟨(wrap64 (yQ + 1)), (by rfl), H', ⟨by have := BZ.out; have := X7.out; have := bA.out; have := NQ.out; omega⟩, ⟨kk aa⟩, ⟨bO HB⟩⟩
end Go.Proofs.Ytjonnfmoocijlaa.P
