/- Texts of a claim, packed. -/
import Derived.Test.YtjonnfmoocijlaaC27
set_option linter.all false
namespace Go.Proofs.Ytjonnfmoocijlaa.P
open Go.RowKit Go.Proofs.YtjonnfmoocijlaaKW.PrintWords Go.Proofs.YtjonnfmoocijlaaKW.PrintLast Go.Proofs.YtjonnfmoocijlaaKW.PrintMore
attribute [local go_sem] zO zP Aj Ak zC zD zQ zR
attribute [local go_sem high] Mr
mutual
def yj.l0 : Nat → List (AX) → Int → Int → List (List Int) → Int → Int → Option (Bool)
 | 0, _, _, _, _, _, _ => none
 | k + 1, x1, x5, aa, ag, af, ae => if x5 < (x1.length : Int) then (if 0 ≤ x5 then ((Bz.f aa ag af ae ((yg x1 x5).f0) ((yg x1 x5).f1)).bind fun a3w => (if a3w = true then (if ((yg x1 x5).f2.f0) < 0 then (yj.j1 k x1 x5 true aa ag af ae ((yg x1 x5).f0) ((yg x1 x5).f1) ((yg x1 x5).f2.f0) ((yg x1 x5).f2.f1)) else (if ((yg x1 x5).f2.f0) ≥ aa then (yj.j1 k x1 x5 true aa ag af ae ((yg x1 x5).f0) ((yg x1 x5).f1) ((yg x1 x5).f2.f0) ((yg x1 x5).f2.f1)) else ((AA.f aa ag af ae).bind fun Y9 => (if ((yg x1 x5).f2.f1) < Y9 then (yj.j1 k x1 x5 true aa ag af ae ((yg x1 x5).f0) ((yg x1 x5).f1) ((yg x1 x5).f2.f0) ((yg x1 x5).f2.f1)) else ((Cn.f aa ag af ae).bind fun ZG => (yj.j1 k x1 x5 (decide (((yg x1 x5).f2.f1) ≥ ZG)) aa ag af ae ((yg x1 x5).f0) ((yg x1 x5).f1) ((yg x1 x5).f2.f0) ((yg x1 x5).f2.f1))))))) else (yj.j1 k x1 x5 true aa ag af ae ((yg x1 x5).f0) ((yg x1 x5).f1) ((yg x1 x5).f2.f0) ((yg x1 x5).f2.f1)))) else (none)) else (yj.l2 k x1 0 aa ag af ae)
def yj.j1 : Nat → List (AX) → Int → Bool → Int → List (List Int) → Int → Int → Int → Int → Int → Int → Option (Bool)
 | 0, _, _, _, _, _, _, _, _, _, _, _ => none
 | k + 1, x1, x5, au, aa, ag, af, ae, ah, ak, ai, aj => if au = true then (some false) else (if x5 > 0 then (if 0 ≤ (wrap64 (x5 - 1)) then (if (wrap64 (x5 - 1)) < (x1.length : Int) then (if ((yg x1 (wrap64 (x5 - 1))).f0) > ah then (yj.j2 k x1 x5 true aa ag af ae ah ak ai aj) else (if ((yg x1 (wrap64 (x5 - 1))).f0) = ah then (yj.j2 k x1 x5 (decide (((yg x1 (wrap64 (x5 - 1))).f1) ≥ ak)) aa ag af ae ah ak ai aj) else (yj.j2 k x1 x5 false aa ag af ae ah ak ai aj))) else (none)) else (none)) else (yj.j2 k x1 x5 false aa ag af ae ah ak ai aj))
def yj.j2 : Nat → List (AX) → Int → Bool → Int → List (List Int) → Int → Int → Int → Int → Int → Int → Option (Bool)
 | 0, _, _, _, _, _, _, _, _, _, _, _ => none
 | k + 1, x1, x5, x97, aa, ag, af, ae, ah, ak, ai, aj => if x97 = true then (some false) else (yj.l1 k x1 x5 0 aa ag af ae ah ak ai aj)
def yj.l1 : Nat → List (AX) → Int → Int → Int → List (List Int) → Int → Int → Int → Int → Int → Int → Option (Bool)
 | 0, _, _, _, _, _, _, _, _, _, _, _ => none
 | k + 1, x1, x5, x7, aa, ag, af, ae, ah, ak, ai, aj => if x7 < x5 then (if 0 ≤ x7 then (if x7 < (x1.length : Int) then (if (((yg x1 x7).f2.f0) == ai && (((yg x1 x7).f2.f1) == aj)) = true then (some false) else (yj.l1 k x1 x5 (wrap64 (x7 + 1)) aa ag af ae ah ak ai aj)) else (none)) else (none)) else (yj.l0 k x1 (wrap64 (x5 + 1)) aa ag af ae)
def yj.l2 : Nat → List (AX) → Int → Int → List (List Int) → Int → Int → Option (Bool)
 | 0, _, _, _, _, _, _ => none
 | k + 1, x1, x8, aa, ag, af, ae => if x8 < (x1.length : Int) then (if 0 ≤ x8 then (yj.l3 k x1 x8 ((yg x1 x8).f0) 0 aa ag af ae) else (none)) else (some true)
def yj.l3 : Nat → List (AX) → Int → Int → Int → Int → List (List Int) → Int → Int → Option (Bool)
 | 0, _, _, _, _, _, _, _, _ => none
 | k + 1, x1, x8, x9, F5, aa, ag, af, ae => (zi.f aa ag af ae).bind fun Ya => (if F5 < Ya then (yj.l4 k x1 x8 x9 F5 0 aa ag af ae) else (yj.l2 k x1 (wrap64 (x8 + 1)) aa ag af ae))
def yj.l4 : Nat → List (AX) → Int → Int → Int → Int → Int → List (List Int) → Int → Int → Option (Bool)
 | 0, _, _, _, _, _, _, _, _, _ => none
 | k + 1, x1, x8, x9, F5, EK, aa, ag, af, ae => if EK < F5 then ((zy.f k aa ag af ae x1 x9 F5).bind fun av => ((zy.f k aa ag af ae x1 x9 EK).bind fun ax => (if av.1 = ax.1 then (some false) else (yj.l4 k x1 x8 x9 F5 (wrap64 (EK + 1)) aa ag af ae)))) else (yj.l3 k x1 x8 x9 (wrap64 (F5 + 1)) aa ag af ae)
end
def yj.f (k : Nat) (yn : Int) (yh : List (List Int)) (yo : Int) (yu : Int) (l1 : List (AX)) : Option (Bool) := (zX.f k yn yh yo yu).bind fun Yb => (if Yb = true then (yj.l0 k l1 0 yn yh yo yu) else (some false))
def yj.T7 : Bool × List (List Nat × List Nat) := (true, [([], []), ([], []), ([1], [1]), ([], []), ([3], [3]), ([0, 2, 4], [0, 2, 4]), ([5], [5]), ([6, 5], [6]), ([7], [7]), ([8, 7], [7, 8]), ([9, 7], [7, 9]), ([10, 7], [7, 10]), ([7, 11], [7, 11]), ([12, 7], [12]), ([13], [13]), ([14, 13], [13, 14]), ([15, 13], [13, 15]), ([13], [13]), ([17, 13], [13, 17]), ([18, 13], [13, 18]), ([16, 19, 13], [13, 16, 19]), ([13, 20], [13, 20]), ([21, 13], [21]), ([22], [22]), ([23, 22], [22, 23]), ([24, 22], [22, 24]), ([22], [22]), ([26, 22, 22], [22, 26]), ([25, 27, 22], [22, 25, 27]), ([22, 28], [22, 28]), ([29, 27], [29]), ([30], [30]), ([31, 30], [30, 31]), ([32, 30], [30, 32]), ([30], [30]), ([34, 30, 30], [30, 34]), ([33, 35, 30], [30, 33, 35]), ([30, 36], [30, 36])])
def yj.B7 : List Nat := [0, 0, 2, 0, 8, 31, 63, 127, 255, 511, 1023, 2047, 4095, 8191, 16383, 32767, 65535, 16383, 147455, 409599, 1048575, 2097151, 4194303, 8388607, 16777215, 33554431, 8388607, 75497471, 268435455, 536870911, 1073741823, 2147483647, 4294967295, 8589934591, 2147483647, 19327352831, 68719476735, 137438953471]
theorem yj.PX : CZ .any (opsOf Try.f27 7) = yj.T7 := by kernel_rfl
theorem yj.KE : BD yj.T7.2 yj.B7 = true := by kernel_rfl
def yj.T9 : Bool × List (List Nat × List Nat) := (true, [([], []), ([0], [0]), ([1], [1]), ([2], [2]), ([2], [2]), ([4, 2], [2, 4]), ([3, 5, 2], [2, 3, 5]), ([6, 2], [2, 6]), ([7, 2], [2, 7]), ([2], [2]), ([9, 2], [2, 9]), ([8, 10, 2], [2, 8, 10]), ([11, 2, 2], [2, 11]), ([12], [12]), ([12], [12]), ([14, 12], [12, 14]), ([13, 15, 12], [12, 13, 15]), ([16, 12], [12, 16]), ([17, 12], [12, 17]), ([12], [12]), ([19, 12], [12, 19]), ([18, 20, 12], [12, 18, 20]), ([21, 12, 12], [12, 21]), ([22], [22]), ([22], [22]), ([24, 22], [22, 24]), ([23, 25, 22], [22, 23, 25]), ([26, 22], [22, 26]), ([27, 22], [22, 27]), ([22], [22]), ([29, 22], [22, 29]), ([28, 30, 22], [22, 28, 30]), ([22, 31, 12], [12, 22, 31]), ([12, 32, 2], [2, 12, 32]), ([2, 33], [2, 33])])
def yj.B9 : List Nat := [0, 1, 3, 7, 7, 23, 63, 127, 255, 7, 519, 2047, 4095, 8191, 8191, 24575, 65535, 131071, 262143, 8191, 532479, 2097151, 4194303, 8388607, 8388607, 25165823, 67108863, 134217727, 268435455, 8388607, 545259519, 2147483647, 4294967295, 8589934591, 17179869183]
theorem yj.NJ : CZ .any (opsOf Try.f27 9) = yj.T9 := by kernel_rfl
theorem yj.Jm : BD yj.T9.2 yj.B9 = true := by kernel_rfl
def yj.T14 : Bool × List (List Nat × List Nat) := (true, [([], []), ([], []), ([0, 1], [0, 1]), ([2], [2]), ([3], [3]), ([], []), ([5], [5]), ([4, 6], [4, 6])])
def yj.B14 : List Nat := [0, 0, 3, 7, 15, 0, 32, 127]
theorem yj.OY : CZ .any (opsOf Try.f27 14) = yj.T14 := by kernel_rfl
theorem yj.LA : BD yj.T14.2 yj.B14 = true := by kernel_rfl
def yj.T26 : Bool × List (List Nat × List Nat) := (true, [([], []), ([], []), ([], []), ([], []), ([0, 1, 2, 3], [0, 1, 2, 3]), ([4], [4]), ([], []), ([], []), ([], []), ([], []), ([6, 7, 8, 9, 4], [6, 7, 8, 9]), ([10], [10]), ([5, 11], [5, 11])])
def yj.B26 : List Nat := [0, 0, 0, 0, 15, 31, 0, 0, 0, 0, 991, 2015, 4095]
theorem yj.PD : CZ .any (opsOf Try.f27 26) = yj.T26 := by kernel_rfl
theorem yj.LK : BD yj.T26.2 yj.B26 = true := by kernel_rfl
set_option maxHeartbeats 8000000 in
set_option maxRecDepth 100000 in
theorem yj.calls (k : Nat) (yn : Int) (yQ : Option Addr) (yM : Nat) (yh : List (List Int)) (yo : Int) (yu : Int) (A1 : Option Addr) (c1 : Nat) (l1 : List (AX)) (r : Bool) (w : World) (Ah : Kd.C (Kd.slice 3 (Kd.int .i64)) w yQ yh.length yh) (Ai : yh.length ≤ yM) (hr1 : Kd.C CS w A1 l1.length l1) (hc1 : l1.length ≤ c1) (h : yj.f k yn yh yo yu l1 = some r) :
  Calls Try.prog 27 #[.agg #[.int .i64 yn, .slice yQ yh.length yM, .int .i64 yo, .int .i64 yu], .slice A1 l1.length c1] w fun e w' => e = .returned (.bool r) ∧ Below w.heap.size w w' := by
 have FH := Try.underlying31;have LC := Try.underlying47;have Jd := Try.underlying38
 have Qm : ∀ (x0 x1 : Value) (W : World), (Instr.field 38 (.agg #[x0, x1]) 0).run Try.prog W = .ok (x0) W := fun x0 x1 W => by rfl
 have zA := yf.mk Ah;have zK := yf.mk Ai;clear Ah Ai;have HR1 := yf.mk hr1;have GH := yf.mk hc1;clear hr1 hc1;have HB := yf.mk (Below.refl w.heap.size w)
 have H : ((zX.f k yn yh yo yu).bind fun Yb => (if Yb = true then (yj.l0 k l1 0 yn yh yo yu) else (some false))) = some r := h
 clear h;obtain ⟨Yb, A3, H⟩ := bE H
 try dsimp only at H
 by_cases c4 : Yb = true
 rotate_left
 ·
  replace c4 := Bool.eq_false_iff.mpr c4;subst c4
  rw [if_neg (show ¬ (false = true) by decide)] at H
  obtain rfl := Option.some.inj H
  go_enter Try.func27, Try.ntmps27
  go_wp2_with (first | ((with_reducible refine yI (N := 2) rfl ?_); refine yG rfl (N := 2) rfl (cs := #[.int .i64 yn, .slice yQ yh.length yM, .int .i64 yo, .int .i64 yu]) (t := 31) (by go_simp) ?_; intro aj hg w76 yJ hb; have aa := yf.mk (yJ); have dY := bG (w := w) hg; have dW := bG (w := w) hg; replace HB := bS HB hb; clear hb yJ hg; have Yc := AP aa; have Yd := bf aa) | ((with_reducible refine yw (f := 51) rfl ?_); refine gL (some 13) Try.func51 #[.agg #[.int .i64 yn, .slice yQ yh.length yM, .int .i64 yo, .int .i64 yu]] ?_; (with_reducible refine (zX.calls k yn _ _ yh yo yu false _ ?yD ?yF A3.out).mono ?_); (case yD => exact Di zA); (case yF => exact zK.out); rintro e w78 ⟨rfl, hb⟩; refine ⟨_, rfl, ?_⟩; replace aa := bB aa hb; replace HB := bS HB hb; clear hb))
  go_ret
  exact ⟨by rfl, bO HB⟩
 subst c4;rw [if_pos rfl] at H;have H' := yf.mk H;clear H
 go_enter Try.func27, Try.ntmps27
 go_wp2_with (first | ((with_reducible refine yI (N := 2) rfl ?_); refine yG rfl (N := 2) rfl (cs := #[.int .i64 yn, .slice yQ yh.length yM, .int .i64 yo, .int .i64 yu]) (t := 31) (by go_simp) ?_; intro aj hg w5 yJ hb; have aa := yf.mk (yJ); have dY := bG (w := w) hg; have dW := bG (w := w) hg; replace HB := bS HB hb; clear hb yJ hg; have Zr := AP aa; have Zt := bf aa) | ((with_reducible refine yw (f := 51) rfl ?_); refine gL (some 13) Try.func51 #[.agg #[.int .i64 yn, .slice yQ yh.length yM, .int .i64 yo, .int .i64 yu]] ?_; (with_reducible refine (zX.calls k yn _ _ yh yo yu true _ ?yD ?yF A3.out).mono ?_); (case yD => exact Di zA); (case yF => exact zK.out); rintro e w7 ⟨rfl, hb⟩; refine ⟨_, rfl, ?_⟩; replace aa := bB aa hb; replace HB := bS HB hb; clear hb))
 go_loopg [5] k (fun kq v5 w' => ∃ (yN : Int), v5 = .int .i64 yN ∧ yf (yj.l0 kq l1 yN yn yh yo yu = some r) ∧ yf (kq ≤ k) ∧ yf (w'.heap[aj]? = some (.cells #[.int .i64 yn, (.slice yQ yh.length yM), .int .i64 yo, .int .i64 yu] 31 (0, 0))) ∧ yf (Below w.heap.size w w'))
 case atStart => exact ⟨(0), (by rfl), H', ⟨Nat.le_refl _⟩, ⟨kk aa⟩, ⟨bO HB⟩⟩
 case round =>
 clear H' Zr Zt;obtain ⟨yN, rfl, HA, BJ, aa, HB⟩ := hrel
 cases gk with
 | zero => exact absurd HA.out (by simp [yj.l0])
 | succ k1 =>
 have H := HA.out;clear HA;simp only [yj.l0] at H
 by_cases c8 : yN < (l1.length : Int)
 rotate_left
 ·
  rw [if_neg c8] at H;have GZ := decide_eq_false c8;clear c8;have H' := yf.mk H;clear H
  go_wp2
  go_loopg [8] k1 (fun kq v8 w' => ∃ (ak : Int), v8 = .int .i64 ak ∧ yf (yj.l2 kq l1 ak yn yh yo yu = some r) ∧ yf (kq ≤ k1) ∧ yf (w'.heap[aj]? = some (.cells #[.int .i64 yn, (.slice yQ yh.length yM), .int .i64 yo, .int .i64 yu] 31 (0, 0))) ∧ yf (Below w.heap.size w w'))
  case atStart => exact ⟨(0), (by rfl), H', ⟨Nat.le_refl _⟩, ⟨kk aa⟩, ⟨bO HB⟩⟩
  case round =>
  clear H' GZ;obtain ⟨ak, rfl, HA, D6, aa, HB⟩ := hrel
  cases gk with
  | zero => exact absurd HA.out (by simp [yj.l2])
  | succ k2 =>
   have H := HA.out;clear HA;simp only [yj.l2] at H
   by_cases Ov : ak < (l1.length : Int)
   ·
    rw [if_pos Ov] at H;have Wy := decide_eq_true Ov;clear Ov
    by_cases c59 : 0 ≤ ak
    ·
     rw [if_pos c59] at H;have a1t := decide_eq_true c59;clear c59;have H' := yf.mk H;clear H
     have bq : 0 ≤ (ak : Int) := of_decide_eq_true ‹_›
     have bA : ak < (l1.length : Int) := of_decide_eq_true ‹_›
     obtain ⟨bH, dS, cz, bT, dh, cZ⟩ := BU HR1.out ak bq bA;cases dS;replace cz := cB HB cz;replace bT := cB HB bT;replace dh := cB HB dh;replace cZ := cB HB cZ;replace bq := eq_true bq;replace bA := eq_true bA
     go_wp2
     go_loopg [10] k2 (fun kq v10 w' => ∃ (aC : Int), v10 = .int .i64 aC ∧ yf (yj.l3 kq l1 ak ((yg l1 ak).f0) aC yn yh yo yu = some r) ∧ yf (kq ≤ k2) ∧ yf (w'.heap[aj]? = some (.cells #[.int .i64 yn, (.slice yQ yh.length yM), .int .i64 yo, .int .i64 yu] 31 (0, 0))) ∧ yf (Below w.heap.size w w'))
     case atStart => exact ⟨(0), (by rfl), H', ⟨Nat.le_refl _⟩, ⟨kk aa⟩, ⟨bO HB⟩⟩
     case round =>
      clear H' Wy a1t cz bT dh cZ bq bA;obtain ⟨aC, rfl, HA, GV, aa, HB⟩ := hrel
      cases gk with
      | zero => exact absurd HA.out (by simp [yj.l3])
      | succ k3 =>
       have H := HA.out;clear HA;simp only [yj.l3] at H;obtain ⟨Ya, Sy, H⟩ := bE H
       try dsimp only at H
       by_cases Vz : aC < Ya
       ·
        rw [if_pos Vz] at H;have RJ := decide_eq_true Vz;clear Vz;have H' := yf.mk H;clear H;have X9 := AP aa;have Xa := bf aa
        go_wp2_with (((with_reducible refine yw (f := 24) rfl ?_); refine gL (some 124) Try.func24 #[.agg #[.int .i64 yn, .slice yQ yh.length yM, .int .i64 yo, .int .i64 yu]] ?_; (with_reducible refine (zi.calls yn _ _ yh yo yu Ya _ ?yD ?yF Sy.out).mono ?_); (case yD => exact Di zA); (case yF => exact zK.out); rintro e w63 ⟨rfl, hb⟩; refine ⟨_, rfl, ?_⟩; replace aa := bB aa hb; replace HB := bS HB hb; clear hb))
        go_loopg [11] k3 (fun kq v11 w' => ∃ (Fa : Int), v11 = .int .i64 Fa ∧ yf (yj.l4 kq l1 ak ((yg l1 ak).f0) aC Fa yn yh yo yu = some r) ∧ yf (kq ≤ k3) ∧ yf (w'.heap[aj]? = some (.cells #[.int .i64 yn, (.slice yQ yh.length yM), .int .i64 yo, .int .i64 yu] 31 (0, 0))) ∧ yf (Below w.heap.size w w'))
        case atStart => exact ⟨(0), (by rfl), H', ⟨Nat.le_refl _⟩, ⟨kk aa⟩, ⟨bO HB⟩⟩
        case round =>
         clear H' RJ X9 Xa;obtain ⟨Fa, rfl, HA, Ja, aa, HB⟩ := hrel
         cases gk with
         | zero => exact absurd HA.out (by simp [yj.l4])
         | succ k4 =>
          have H := HA.out;clear HA;simp only [yj.l4] at H
          by_cases c64 : Fa < aC
          ·
           rw [if_pos c64] at H;have La := decide_eq_true c64;clear c64;obtain ⟨⟨bJ, dA⟩, dF, H⟩ := bE H
           try dsimp only at H
           obtain ⟨⟨bD, dz⟩, dC, H⟩ := bE H
           try dsimp only at H
           by_cases aU : bJ = bD
           ·
            rw [if_pos aU] at H;have dR := beq_iff_eq.mpr aU
            have dH : (bJ != bD) = false := bne_eq_false_iff_eq.mpr aU
            clear aU;obtain rfl := Option.some.inj H
            try go_wp2
            replace aa := yf.mk (yO aa.out);replace HB := yf.mk (za HB.out)
            refine Bc (n := 13) (S := fun w' => w'.cell? ⟨aj, 0, none⟩ = some (.int .i64 yn) ∧ w'.cell? ⟨aj, 1, none⟩ = some (.slice yQ yh.length yM) ∧ w'.cell? ⟨aj, 2, none⟩ = some (.int .i64 yo) ∧ w'.cell? ⟨aj, 3, none⟩ = some (.int .i64 yu)) (ds := []) (bz 13 0) (by kernel_rfl) rfl rfl (AP aa) (fun hHeld => ?_); refine zF yj.PD yj.LK (fun yz Bi => ?_)
            generalize wr.drew = w68 at aa HB hHeld ⊢;refine pU 1 134 13 2 yz ?_;refine pU 2 135 13 6 yz ?_;refine pU 3 136 13 14 yz ?_;refine pU 7 140 13 142 yz ?_;refine pU 8 141 13 398 yz ?_;refine pU 9 142 13 910 yz ?_
            refine BO 0 133 13 911 yz Bi hHeld ?_
            refine BO 6 139 13 975 yz Bi hHeld ?_
            refine Ck (i := 4) (N := some 137) (bz 13 991) rfl rfl (Af yz.out (by kernel_rfl)) (by decide) (fun K hK => ?_)
            refine gO Try.func22 #[.agg #[.int .i64 yn, .slice yQ yh.length yM, .int .i64 yo, .int .i64 yu], .slice (some bH) l1.length c1, .int .i64 ((yg l1 ak).f0), .int .i64 aC] ?_
            with_reducible refine (zy.calls k4 yn _ _ yh yo yu _ _ l1 ((yg l1 ak).f0) aC bJ dA _ ?yD ?yF ?zw ?zx dF.out).mono ?_
            (case yD => exact Di zA)
            (case yF => exact zK.out)
            (case zw => exact Di HR1)
            (case zx => exact GH.out)
            rintro e w69 ⟨rfl, hb⟩
            refine ⟨_, rfl, ?_⟩
            replace aa := bB aa hb;replace HB := bS HB hb;clear hb
            refine hK.out _ _ (AP aa) (fun hHeld => ?_)
            clear hK K
            refine AR (a' := ?_) ?_ ?_
            rotate_left
            ·
             show Act.put _ (some 137) _ = _
             simp only [pz]
             rfl
            refine pU 5 138 13 1023 yz ?_
            refine Ck (i := 10) (N := some 143) (bz 13 2047) rfl rfl (Af yz.out (by kernel_rfl)) (by decide) (fun K hK => ?_)
            refine gO Try.func22 #[.agg #[.int .i64 yn, .slice yQ yh.length yM, .int .i64 yo, .int .i64 yu], .slice (some bH) l1.length c1, .int .i64 ((yg l1 ak).f0), .int .i64 Fa] ?_
            with_reducible refine (zy.calls k4 yn _ _ yh yo yu _ _ l1 ((yg l1 ak).f0) Fa bD dz _ ?yD ?yF ?zw ?zx dC.out).mono ?_
            (case yD => exact Di zA)
            (case yF => exact zK.out)
            (case zw => exact Di HR1)
            (case zx => exact GH.out)
            rintro e w70 ⟨rfl, hb⟩
            refine ⟨_, rfl, ?_⟩
            replace aa := bB aa hb;replace HB := bS HB hb;clear hb
            refine hK.out _ _ (AP aa) (fun hHeld => ?_)
            clear hK K
            refine AR (a' := ?_) ?_ ?_
            rotate_left
            ·
             show Act.put _ (some 143) _ = _
             simp only [pz]
             rfl
            refine pU 11 144 13 4095 yz ?_;refine pU 12 145 13 8191 yz ?_
            refine BG (Al yz.out (by kernel_rfl)) ?_
            try go_wp2
            go_ret
            exact ⟨by rfl, bO HB⟩
           ·
            rw [if_neg aU] at H;have dR := beq_eq_false_iff_ne.mpr aU;have dH := bne_iff_ne.mpr aU;have H' := yf.mk H;clear H
            try go_wp2
            replace aa := yf.mk (yO aa.out);replace HB := yf.mk (za HB.out)
            refine Bc (n := 13) (S := fun w' => w'.cell? ⟨aj, 0, none⟩ = some (.int .i64 yn) ∧ w'.cell? ⟨aj, 1, none⟩ = some (.slice yQ yh.length yM) ∧ w'.cell? ⟨aj, 2, none⟩ = some (.int .i64 yo) ∧ w'.cell? ⟨aj, 3, none⟩ = some (.int .i64 yu)) (ds := []) (bz 13 0) (by kernel_rfl) rfl rfl (AP aa) (fun hHeld => ?_); refine zF yj.PD yj.LK (fun yz Bi => ?_)
            generalize wr.drew = w71 at aa HB hHeld ⊢;refine pU 1 134 13 2 yz ?_;refine pU 2 135 13 6 yz ?_;refine pU 3 136 13 14 yz ?_;refine pU 7 140 13 142 yz ?_;refine pU 8 141 13 398 yz ?_;refine pU 9 142 13 910 yz ?_
            refine BO 0 133 13 911 yz Bi hHeld ?_
            refine BO 6 139 13 975 yz Bi hHeld ?_
            refine Ck (i := 4) (N := some 137) (bz 13 991) rfl rfl (Af yz.out (by kernel_rfl)) (by decide) (fun K hK => ?_)
            refine gO Try.func22 #[.agg #[.int .i64 yn, .slice yQ yh.length yM, .int .i64 yo, .int .i64 yu], .slice (some bH) l1.length c1, .int .i64 ((yg l1 ak).f0), .int .i64 aC] ?_
            with_reducible refine (zy.calls k4 yn _ _ yh yo yu _ _ l1 ((yg l1 ak).f0) aC bJ dA _ ?yD ?yF ?zw ?zx dF.out).mono ?_
            (case yD => exact Di zA)
            (case yF => exact zK.out)
            (case zw => exact Di HR1)
            (case zx => exact GH.out)
            rintro e w72 ⟨rfl, hb⟩
            refine ⟨_, rfl, ?_⟩
            replace aa := bB aa hb;replace HB := bS HB hb;clear hb
            refine hK.out _ _ (AP aa) (fun hHeld => ?_)
            clear hK K
            refine AR (a' := ?_) ?_ ?_
            rotate_left
            ·
             show Act.put _ (some 137) _ = _
             simp only [pz]
             rfl
            refine pU 5 138 13 1023 yz ?_
            refine Ck (i := 10) (N := some 143) (bz 13 2047) rfl rfl (Af yz.out (by kernel_rfl)) (by decide) (fun K hK => ?_)
            refine gO Try.func22 #[.agg #[.int .i64 yn, .slice yQ yh.length yM, .int .i64 yo, .int .i64 yu], .slice (some bH) l1.length c1, .int .i64 ((yg l1 ak).f0), .int .i64 Fa] ?_
            with_reducible refine (zy.calls k4 yn _ _ yh yo yu _ _ l1 ((yg l1 ak).f0) Fa bD dz _ ?yD ?yF ?zw ?zx dC.out).mono ?_
            (case yD => exact Di zA)
            (case yF => exact zK.out)
            (case zw => exact Di HR1)
            (case zx => exact GH.out)
            rintro e w73 ⟨rfl, hb⟩
            refine ⟨_, rfl, ?_⟩
            replace aa := bB aa hb;replace HB := bS HB hb;clear hb
            refine hK.out _ _ (AP aa) (fun hHeld => ?_)
            clear hK K
            refine AR (a' := ?_) ?_ ?_
            rotate_left
            ·
             show Act.put _ (some 143) _ = _
             simp only [pz]
             rfl
            refine pU 11 144 13 4095 yz ?_;refine pU 12 145 13 8191 yz ?_
            refine BG (Al yz.out (by kernel_rfl)) ?_
            try go_wp2
            go_roundg k4
            case measure => have := BJ.out; have := D6.out; have := GV.out; have := Ja.out; omega
            case rel => exact ⟨(wrap64 (Fa + 1)), (by rfl), H', ⟨by have := BJ.out; have := D6.out; have := GV.out; have := Ja.out; omega⟩, ⟨kk aa⟩, ⟨bO HB⟩⟩
          ·
           rw [if_neg c64] at H;have La := decide_eq_false c64;clear c64;have H' := yf.mk H;clear H
           go_wp2
           go_roundg k4
           case measure => have := BJ.out; have := D6.out; have := GV.out; have := Ja.out; omega
           case rel => exact ⟨(wrap64 (aC + 1)), (by rfl), H', ⟨by have := BJ.out; have := D6.out; have := GV.out; have := Ja.out; omega⟩, ⟨kk aa⟩, ⟨bO HB⟩⟩
       ·
        rw [if_neg Vz] at H;have RJ := decide_eq_false Vz;clear Vz;have H' := yf.mk H;clear H;have ek := AP aa;have eB := bf aa
        go_wp2_with (((with_reducible refine yw (f := 24) rfl ?_); refine gL (some 124) Try.func24 #[.agg #[.int .i64 yn, .slice yQ yh.length yM, .int .i64 yo, .int .i64 yu]] ?_; (with_reducible refine (zi.calls yn _ _ yh yo yu Ya _ ?yD ?yF Sy.out).mono ?_); (case yD => exact Di zA); (case yF => exact zK.out); rintro e w75 ⟨rfl, hb⟩; refine ⟨_, rfl, ?_⟩; replace aa := bB aa hb; replace HB := bS HB hb; clear hb))
        go_roundg k3
        case measure => have := BJ.out; have := D6.out; have := GV.out; omega
        case rel => exact ⟨(wrap64 (ak + 1)), (by rfl), H', ⟨by have := BJ.out; have := D6.out; have := GV.out; omega⟩, ⟨kk aa⟩, ⟨bO HB⟩⟩
    ·
     rw [if_neg c59] at H;exact absurd H (by simp)
   ·
    rw [if_neg Ov] at H;have Wy := decide_eq_false Ov;clear Ov;obtain rfl := Option.some.inj H
    go_wp2
    go_ret
    exact ⟨by rfl, bO HB⟩
 rw [if_pos c8] at H;have GZ := decide_eq_true c8;clear c8
 by_cases c9 : 0 ≤ yN
 rotate_left
 ·
  rw [if_neg c9] at H;exact absurd H (by simp)
 rw [if_pos c9] at H;have IE := decide_eq_true c9;clear c9;have TG := yf.mk H;clear H
 have bW : 0 ≤ (yN : Int) := of_decide_eq_true ‹_›
 have cK : yN < (l1.length : Int) := of_decide_eq_true ‹_›
 obtain ⟨ah, dP, dw, dE, dn, dx⟩ := BU HR1.out yN bW cK;cases dP;replace dw := cB HB dw;replace dE := cB HB dE;replace dn := cB HB dn;replace dx := cB HB dx;replace bW := eq_true bW;replace cK := eq_true cK
 go_upto_region 7 with (((with_reducible refine yI (N := 6) rfl ?_); refine yG rfl (N := 6) rfl (cs := #[.int .i64 0, .int .i64 0, .int .i64 0, .int .i64 0]) (t := 47) (by go_simp) ?_; intro ae hg w11 yJ hb; have af := yf.mk (yJ); have dZ := bG (w := w) hg; have eu := bG (w := w) hg; have dU := Co aa hg; have dL := Ar aa hg; replace aa := bB aa hb; replace HB := bS HB hb; clear hb yJ hg; have Y2 := dL.out; have Y3 := dU.out; have Np := AP af; have Nq := bf af))
 (try simp only [pz])
 go_cut [62] (fun v62 wc => ∃ (kq : Nat) (bI : Bool), v62 = .bool bI ∧ yf (yj.j1 kq l1 yN bI yn yh yo yu ((yg l1 yN).f0) ((yg l1 yN).f1) ((yg l1 yN).f2.f0) ((yg l1 yN).f2.f1) = some r) ∧ yf (kq ≤ k1) ∧ yf (wc.heap[aj]? = some (.cells #[.int .i64 yn, (.slice yQ yh.length yM), .int .i64 yo, .int .i64 yu] 31 (0, 0))) ∧ yf (wc.heap[ae]? = some (.cells #[.int .i64 ((yg l1 yN).f0), .int .i64 ((yg l1 yN).f1), .int .i64 ((yg l1 yN).f2.f0), .int .i64 ((yg l1 yN).f2.f1)] 47 (0, 0))) ∧ yf (Below w.heap.size w wc))
 case first =>
  have H := TG.out;clear TG;obtain ⟨a3w, A14, H⟩ := bE H
  try dsimp only at H
  by_cases c15 : a3w = true
  rotate_left
  ·
   replace c15 := Bool.eq_false_iff.mpr c15;subst c15
   rw [if_neg (show ¬ (false = true) by decide)] at H
   have H' := yf.mk H;clear H
   try go_wp2
   have BL : yf (((((w11.setCell ⟨ae, 0, none⟩ (.int .i64 ((yg l1 yN).f0))).setCell ⟨ae, 1, none⟩ (.int .i64 ((yg l1 yN).f1))).setCell ⟨ae, 2, none⟩ (.int .i64 ((yg l1 yN).f2.f0))).setCell ⟨ae, 3, none⟩ (.int .i64 ((yg l1 yN).f2.f1))).heap[aj]? = some (.cells #[.int .i64 yn, .slice yQ yh.length yM, .int .i64 yo, .int .i64 yu] 31 (0, 0))) := bK aa rfl
   have BN : yf (((((w11.setCell ⟨ae, 0, none⟩ (.int .i64 ((yg l1 yN).f0))).setCell ⟨ae, 1, none⟩ (.int .i64 ((yg l1 yN).f1))).setCell ⟨ae, 2, none⟩ (.int .i64 ((yg l1 yN).f2.f0))).setCell ⟨ae, 3, none⟩ (.int .i64 ((yg l1 yN).f2.f1))).heap[ae]? = some (.cells #[.int .i64 ((yg l1 yN).f0), .int .i64 ((yg l1 yN).f1), .int .i64 ((yg l1 yN).f2.f0), .int .i64 ((yg l1 yN).f2.f1)] 47 (0, 0))) := bK af rfl
   have BX : yf (Below w.heap.size w ((((w11.setCell ⟨ae, 0, none⟩ (.int .i64 ((yg l1 yN).f0))).setCell ⟨ae, 1, none⟩ (.int .i64 ((yg l1 yN).f1))).setCell ⟨ae, 2, none⟩ (.int .i64 ((yg l1 yN).f2.f0))).setCell ⟨ae, 3, none⟩ (.int .i64 ((yg l1 yN).f2.f1)))) := ⟨bO HB⟩
   clear aa af HB;generalize ((((w11.setCell ⟨ae, 0, none⟩ (.int .i64 ((yg l1 yN).f0))).setCell ⟨ae, 1, none⟩ (.int .i64 ((yg l1 yN).f1))).setCell ⟨ae, 2, none⟩ (.int .i64 ((yg l1 yN).f2.f0))).setCell ⟨ae, 3, none⟩ (.int .i64 ((yg l1 yN).f2.f1))) = w36 at BL BN BX ⊢;have aa := BL;have af := BN;have HB := BX;clear BL BN BX;replace aa := yf.mk (yO aa.out);replace af := yf.mk (yO af.out);replace HB := yf.mk (za HB.out)
   refine Bc (n := 38) (S := fun w' => w'.cell? ⟨aj, 0, none⟩ = some (.int .i64 yn) ∧ w'.cell? ⟨aj, 1, none⟩ = some (.slice yQ yh.length yM) ∧ w'.cell? ⟨aj, 2, none⟩ = some (.int .i64 yo) ∧ w'.cell? ⟨aj, 3, none⟩ = some (.int .i64 yu) ∧ w'.cell? ⟨ae, 0, none⟩ = some (.int .i64 ((yg l1 yN).f0)) ∧ w'.cell? ⟨ae, 1, none⟩ = some (.int .i64 ((yg l1 yN).f1)) ∧ w'.cell? ⟨ae, 2, none⟩ = some (.int .i64 ((yg l1 yN).f2.f0)) ∧ w'.cell? ⟨ae, 3, none⟩ = some (.int .i64 ((yg l1 yN).f2.f1))) (ds := []) (bz 38 0) (by kernel_rfl) rfl rfl (K6 aa (AP af)) (fun hHeld => ?_); refine zF yj.PX yj.KE (fun yz Bi => ?_)
   generalize w36.drew = w37 at aa af HB hHeld ⊢;refine pU 1 26 38 2 yz ?_;refine pU 3 28 38 10 yz ?_
   refine BO 0 25 38 11 yz Bi hHeld ?_
   refine BO 2 27 38 15 yz Bi hHeld ?_
   refine BO 4 29 38 31 yz Bi hHeld ?_
   refine Ck (i := 5) (N := some 30) (bz 38 63) rfl rfl (Af yz.out (by kernel_rfl)) (by decide) (fun K hK => ?_)
   refine gO Try.func21 #[.agg #[.int .i64 yn, .slice yQ yh.length yM, .int .i64 yo, .int .i64 yu], .int .i64 ((yg l1 yN).f0), .int .i64 ((yg l1 yN).f1)] ?_
   with_reducible refine (Bz.calls yn _ _ yh yo yu ((yg l1 yN).f0) ((yg l1 yN).f1) false _ ?yD ?yF A14.out).mono ?_
   (case yD => exact Di zA)
   (case yF => exact zK.out)
   rintro e w38 ⟨rfl, hb⟩
   refine ⟨_, rfl, ?_⟩
   replace aa := bB aa hb;replace af := bB af hb;replace HB := bS HB hb;clear hb
   refine hK.out _ _ (K6 aa (AP af)) (fun hHeld => ?_)
   clear hK K
   refine AR (a' := ?_) ?_ ?_
   rotate_left
   ·
    show Act.put _ (some 30) _ = _
    simp only [pz]
    rfl
   refine pU 6 31 38 127 yz ?_;refine pU 7 32 38 255 yz ?_;refine pN 8 33 38 511 yz ?_;refine pN 9 34 38 1023 yz ?_;refine pN 10 35 38 2047 yz ?_;refine pN 11 36 38 4095 yz ?_;refine pU 12 37 38 8191 yz ?_;refine pU 13 38 38 16383 yz ?_;refine pN 14 39 38 32767 yz ?_;refine pN 15 40 38 65535 yz ?_;refine pN 16 41 38 131071 yz ?_;refine pN 17 42 38 262143 yz ?_;refine pN 18 43 38 524287 yz ?_;refine pN 19 44 38 1048575 yz ?_;refine pN 20 45 38 2097151 yz ?_;refine pU 21 46 38 4194303 yz ?_;refine pU 22 47 38 8388607 yz ?_;refine pN 23 48 38 16777215 yz ?_;refine pN 24 49 38 33554431 yz ?_;refine pN 25 50 38 67108863 yz ?_;refine pN 26 51 38 134217727 yz ?_;refine pN 27 52 38 268435455 yz ?_;refine pN 28 53 38 536870911 yz ?_;refine pU 29 54 38 1073741823 yz ?_;refine pU 30 55 38 2147483647 yz ?_;refine pN 31 56 38 4294967295 yz ?_;refine pN 32 57 38 8589934591 yz ?_;refine pN 33 58 38 17179869183 yz ?_;refine pN 34 59 38 34359738367 yz ?_;refine pN 35 60 38 68719476735 yz ?_;refine pN 36 61 38 137438953471 yz ?_;refine pU 37 62 38 274877906943 yz ?_
   refine BG (Al yz.out (by kernel_rfl)) ?_
   try go_wp2
   go_meet
   case rel => exact ⟨_, (true), (by rfl), H', ⟨by have := BJ.out; omega⟩, ⟨kk aa⟩, ⟨kk af⟩, ⟨bO HB⟩⟩
  subst c15;rw [if_pos rfl] at H
  by_cases c16 : ((yg l1 yN).f2.f0) < 0
  ·
   rw [if_pos c16] at H;have Fy := decide_eq_true c16;clear c16
   (skip)
   have H' := yf.mk H;clear H
   try go_wp2
   have BL : yf (((((w11.setCell ⟨ae, 0, none⟩ (.int .i64 ((yg l1 yN).f0))).setCell ⟨ae, 1, none⟩ (.int .i64 ((yg l1 yN).f1))).setCell ⟨ae, 2, none⟩ (.int .i64 ((yg l1 yN).f2.f0))).setCell ⟨ae, 3, none⟩ (.int .i64 ((yg l1 yN).f2.f1))).heap[aj]? = some (.cells #[.int .i64 yn, .slice yQ yh.length yM, .int .i64 yo, .int .i64 yu] 31 (0, 0))) := bK aa rfl
   have BN : yf (((((w11.setCell ⟨ae, 0, none⟩ (.int .i64 ((yg l1 yN).f0))).setCell ⟨ae, 1, none⟩ (.int .i64 ((yg l1 yN).f1))).setCell ⟨ae, 2, none⟩ (.int .i64 ((yg l1 yN).f2.f0))).setCell ⟨ae, 3, none⟩ (.int .i64 ((yg l1 yN).f2.f1))).heap[ae]? = some (.cells #[.int .i64 ((yg l1 yN).f0), .int .i64 ((yg l1 yN).f1), .int .i64 ((yg l1 yN).f2.f0), .int .i64 ((yg l1 yN).f2.f1)] 47 (0, 0))) := bK af rfl
   have BX : yf (Below w.heap.size w ((((w11.setCell ⟨ae, 0, none⟩ (.int .i64 ((yg l1 yN).f0))).setCell ⟨ae, 1, none⟩ (.int .i64 ((yg l1 yN).f1))).setCell ⟨ae, 2, none⟩ (.int .i64 ((yg l1 yN).f2.f0))).setCell ⟨ae, 3, none⟩ (.int .i64 ((yg l1 yN).f2.f1)))) := ⟨bO HB⟩
   clear aa af HB;generalize ((((w11.setCell ⟨ae, 0, none⟩ (.int .i64 ((yg l1 yN).f0))).setCell ⟨ae, 1, none⟩ (.int .i64 ((yg l1 yN).f1))).setCell ⟨ae, 2, none⟩ (.int .i64 ((yg l1 yN).f2.f0))).setCell ⟨ae, 3, none⟩ (.int .i64 ((yg l1 yN).f2.f1))) = w17 at BL BN BX ⊢;have aa := BL;have af := BN;have HB := BX;clear BL BN BX;replace aa := yf.mk (yO aa.out);replace af := yf.mk (yO af.out);replace HB := yf.mk (za HB.out)
   refine Bc (n := 38) (S := fun w' => w'.cell? ⟨aj, 0, none⟩ = some (.int .i64 yn) ∧ w'.cell? ⟨aj, 1, none⟩ = some (.slice yQ yh.length yM) ∧ w'.cell? ⟨aj, 2, none⟩ = some (.int .i64 yo) ∧ w'.cell? ⟨aj, 3, none⟩ = some (.int .i64 yu) ∧ w'.cell? ⟨ae, 0, none⟩ = some (.int .i64 ((yg l1 yN).f0)) ∧ w'.cell? ⟨ae, 1, none⟩ = some (.int .i64 ((yg l1 yN).f1)) ∧ w'.cell? ⟨ae, 2, none⟩ = some (.int .i64 ((yg l1 yN).f2.f0)) ∧ w'.cell? ⟨ae, 3, none⟩ = some (.int .i64 ((yg l1 yN).f2.f1))) (ds := []) (bz 38 0) (by kernel_rfl) rfl rfl (K6 aa (AP af)) (fun hHeld => ?_); refine zF yj.PX yj.KE (fun yz Bi => ?_)
   generalize w17.drew = w18 at aa af HB hHeld ⊢;refine pU 1 26 38 2 yz ?_;refine pU 3 28 38 10 yz ?_
   refine BO 0 25 38 11 yz Bi hHeld ?_
   refine BO 2 27 38 15 yz Bi hHeld ?_
   refine BO 4 29 38 31 yz Bi hHeld ?_
   refine Ck (i := 5) (N := some 30) (bz 38 63) rfl rfl (Af yz.out (by kernel_rfl)) (by decide) (fun K hK => ?_)
   refine gO Try.func21 #[.agg #[.int .i64 yn, .slice yQ yh.length yM, .int .i64 yo, .int .i64 yu], .int .i64 ((yg l1 yN).f0), .int .i64 ((yg l1 yN).f1)] ?_
   with_reducible refine (Bz.calls yn _ _ yh yo yu ((yg l1 yN).f0) ((yg l1 yN).f1) true _ ?yD ?yF A14.out).mono ?_
   (case yD => exact Di zA)
   (case yF => exact zK.out)
   rintro e w19 ⟨rfl, hb⟩
   refine ⟨_, rfl, ?_⟩
   replace aa := bB aa hb;replace af := bB af hb;replace HB := bS HB hb;clear hb
   refine hK.out _ _ (K6 aa (AP af)) (fun hHeld => ?_)
   clear hK K
   refine AR (a' := ?_) ?_ ?_
   rotate_left
   ·
    show Act.put _ (some 30) _ = _
    simp only [pz]
    rfl
   refine pU 6 31 38 127 yz ?_;refine pU 7 32 38 255 yz ?_;refine pU 8 33 38 511 yz ?_;refine pU 9 34 38 1023 yz ?_
   refine BO 10 35 38 2047 yz Bi hHeld ?_
   refine pU 11 36 38 4095 yz ?_;refine pU 12 37 38 8191 yz ?_;refine pU 13 38 38 16383 yz ?_;refine pN 14 39 38 32767 yz ?_;refine pN 15 40 38 65535 yz ?_;refine pN 16 41 38 131071 yz ?_;refine pN 17 42 38 262143 yz ?_;refine pN 18 43 38 524287 yz ?_;refine pN 19 44 38 1048575 yz ?_;refine pN 20 45 38 2097151 yz ?_;refine pU 21 46 38 4194303 yz ?_;refine pU 22 47 38 8388607 yz ?_;refine pN 23 48 38 16777215 yz ?_;refine pN 24 49 38 33554431 yz ?_;refine pN 25 50 38 67108863 yz ?_;refine pN 26 51 38 134217727 yz ?_;refine pN 27 52 38 268435455 yz ?_;refine pN 28 53 38 536870911 yz ?_;refine pU 29 54 38 1073741823 yz ?_;refine pU 30 55 38 2147483647 yz ?_;refine pN 31 56 38 4294967295 yz ?_;refine pN 32 57 38 8589934591 yz ?_;refine pN 33 58 38 17179869183 yz ?_;refine pN 34 59 38 34359738367 yz ?_;refine pN 35 60 38 68719476735 yz ?_;refine pN 36 61 38 137438953471 yz ?_;refine pU 37 62 38 274877906943 yz ?_
   refine BG (Al yz.out (by kernel_rfl)) ?_
   try go_wp2
   go_meet
   case rel => exact ⟨_, (true), (by rfl), H', ⟨by have := BJ.out; omega⟩, ⟨kk aa⟩, ⟨kk af⟩, ⟨bO HB⟩⟩
  rw [if_neg c16] at H;have Fy := decide_eq_false c16;clear c16
  (skip)
  by_cases c20 : ((yg l1 yN).f2.f0) ≥ yn
  ·
   rw [if_pos c20] at H;have KJ := decide_eq_true c20;clear c20;have H' := yf.mk H;clear H
   try go_wp2
   have BL : yf (((((w11.setCell ⟨ae, 0, none⟩ (.int .i64 ((yg l1 yN).f0))).setCell ⟨ae, 1, none⟩ (.int .i64 ((yg l1 yN).f1))).setCell ⟨ae, 2, none⟩ (.int .i64 ((yg l1 yN).f2.f0))).setCell ⟨ae, 3, none⟩ (.int .i64 ((yg l1 yN).f2.f1))).heap[aj]? = some (.cells #[.int .i64 yn, .slice yQ yh.length yM, .int .i64 yo, .int .i64 yu] 31 (0, 0))) := bK aa rfl
   have BN : yf (((((w11.setCell ⟨ae, 0, none⟩ (.int .i64 ((yg l1 yN).f0))).setCell ⟨ae, 1, none⟩ (.int .i64 ((yg l1 yN).f1))).setCell ⟨ae, 2, none⟩ (.int .i64 ((yg l1 yN).f2.f0))).setCell ⟨ae, 3, none⟩ (.int .i64 ((yg l1 yN).f2.f1))).heap[ae]? = some (.cells #[.int .i64 ((yg l1 yN).f0), .int .i64 ((yg l1 yN).f1), .int .i64 ((yg l1 yN).f2.f0), .int .i64 ((yg l1 yN).f2.f1)] 47 (0, 0))) := bK af rfl
   have BX : yf (Below w.heap.size w ((((w11.setCell ⟨ae, 0, none⟩ (.int .i64 ((yg l1 yN).f0))).setCell ⟨ae, 1, none⟩ (.int .i64 ((yg l1 yN).f1))).setCell ⟨ae, 2, none⟩ (.int .i64 ((yg l1 yN).f2.f0))).setCell ⟨ae, 3, none⟩ (.int .i64 ((yg l1 yN).f2.f1)))) := ⟨bO HB⟩
   clear aa af HB;generalize ((((w11.setCell ⟨ae, 0, none⟩ (.int .i64 ((yg l1 yN).f0))).setCell ⟨ae, 1, none⟩ (.int .i64 ((yg l1 yN).f1))).setCell ⟨ae, 2, none⟩ (.int .i64 ((yg l1 yN).f2.f0))).setCell ⟨ae, 3, none⟩ (.int .i64 ((yg l1 yN).f2.f1))) = w21 at BL BN BX ⊢;have aa := BL;have af := BN;have HB := BX;clear BL BN BX;replace aa := yf.mk (yO aa.out);replace af := yf.mk (yO af.out);replace HB := yf.mk (za HB.out)
   refine Bc (n := 38) (S := fun w' => w'.cell? ⟨aj, 0, none⟩ = some (.int .i64 yn) ∧ w'.cell? ⟨aj, 1, none⟩ = some (.slice yQ yh.length yM) ∧ w'.cell? ⟨aj, 2, none⟩ = some (.int .i64 yo) ∧ w'.cell? ⟨aj, 3, none⟩ = some (.int .i64 yu) ∧ w'.cell? ⟨ae, 0, none⟩ = some (.int .i64 ((yg l1 yN).f0)) ∧ w'.cell? ⟨ae, 1, none⟩ = some (.int .i64 ((yg l1 yN).f1)) ∧ w'.cell? ⟨ae, 2, none⟩ = some (.int .i64 ((yg l1 yN).f2.f0)) ∧ w'.cell? ⟨ae, 3, none⟩ = some (.int .i64 ((yg l1 yN).f2.f1))) (ds := []) (bz 38 0) (by kernel_rfl) rfl rfl (K6 aa (AP af)) (fun hHeld => ?_); refine zF yj.PX yj.KE (fun yz Bi => ?_)
   generalize w21.drew = w22 at aa af HB hHeld ⊢;refine pU 1 26 38 2 yz ?_;refine pU 3 28 38 10 yz ?_
   refine BO 0 25 38 11 yz Bi hHeld ?_
   refine BO 2 27 38 15 yz Bi hHeld ?_
   refine BO 4 29 38 31 yz Bi hHeld ?_
   refine Ck (i := 5) (N := some 30) (bz 38 63) rfl rfl (Af yz.out (by kernel_rfl)) (by decide) (fun K hK => ?_)
   refine gO Try.func21 #[.agg #[.int .i64 yn, .slice yQ yh.length yM, .int .i64 yo, .int .i64 yu], .int .i64 ((yg l1 yN).f0), .int .i64 ((yg l1 yN).f1)] ?_
   with_reducible refine (Bz.calls yn _ _ yh yo yu ((yg l1 yN).f0) ((yg l1 yN).f1) true _ ?yD ?yF A14.out).mono ?_
   (case yD => exact Di zA)
   (case yF => exact zK.out)
   rintro e w23 ⟨rfl, hb⟩
   refine ⟨_, rfl, ?_⟩
   replace aa := bB aa hb;replace af := bB af hb;replace HB := bS HB hb;clear hb
   refine hK.out _ _ (K6 aa (AP af)) (fun hHeld => ?_)
   clear hK K
   refine AR (a' := ?_) ?_ ?_
   rotate_left
   ·
    show Act.put _ (some 30) _ = _
    simp only [pz]
    rfl
   refine pU 6 31 38 127 yz ?_;refine pU 7 32 38 255 yz ?_;refine pU 8 33 38 511 yz ?_;refine pU 9 34 38 1023 yz ?_
   refine BO 10 35 38 2047 yz Bi hHeld ?_
   refine pU 11 36 38 4095 yz ?_;refine pU 12 37 38 8191 yz ?_;refine pU 13 38 38 16383 yz ?_;refine pU 14 39 38 32767 yz ?_;refine pU 15 40 38 65535 yz ?_;refine pU 17 42 38 196607 yz ?_;refine pU 18 43 38 458751 yz ?_
   refine BO 16 41 38 524287 yz Bi hHeld ?_
   refine BO 19 44 38 1048575 yz Bi hHeld ?_
   refine pU 20 45 38 2097151 yz ?_;refine pU 21 46 38 4194303 yz ?_;refine pU 22 47 38 8388607 yz ?_;refine pN 23 48 38 16777215 yz ?_;refine pN 24 49 38 33554431 yz ?_;refine pN 25 50 38 67108863 yz ?_;refine pN 26 51 38 134217727 yz ?_;refine pN 27 52 38 268435455 yz ?_;refine pN 28 53 38 536870911 yz ?_;refine pU 29 54 38 1073741823 yz ?_;refine pU 30 55 38 2147483647 yz ?_;refine pN 31 56 38 4294967295 yz ?_;refine pN 32 57 38 8589934591 yz ?_;refine pN 33 58 38 17179869183 yz ?_;refine pN 34 59 38 34359738367 yz ?_;refine pN 35 60 38 68719476735 yz ?_;refine pN 36 61 38 137438953471 yz ?_;refine pU 37 62 38 274877906943 yz ?_
   refine BG (Al yz.out (by kernel_rfl)) ?_
   try go_wp2
   go_meet
   case rel => exact ⟨_, (true), (by rfl), H', ⟨by have := BJ.out; omega⟩, ⟨kk aa⟩, ⟨kk af⟩, ⟨bO HB⟩⟩
  rw [if_neg c20] at H;have KJ := decide_eq_false c20;clear c20;obtain ⟨Y9, A24, H⟩ := bE H
  try dsimp only at H
  by_cases M8 : ((yg l1 yN).f2.f1) < Y9
  ·
   rw [if_pos M8] at H;have OV := decide_eq_true M8;clear M8;have H' := yf.mk H;clear H
   try go_wp2
   have BL : yf (((((w11.setCell ⟨ae, 0, none⟩ (.int .i64 ((yg l1 yN).f0))).setCell ⟨ae, 1, none⟩ (.int .i64 ((yg l1 yN).f1))).setCell ⟨ae, 2, none⟩ (.int .i64 ((yg l1 yN).f2.f0))).setCell ⟨ae, 3, none⟩ (.int .i64 ((yg l1 yN).f2.f1))).heap[aj]? = some (.cells #[.int .i64 yn, .slice yQ yh.length yM, .int .i64 yo, .int .i64 yu] 31 (0, 0))) := bK aa rfl
   have BN : yf (((((w11.setCell ⟨ae, 0, none⟩ (.int .i64 ((yg l1 yN).f0))).setCell ⟨ae, 1, none⟩ (.int .i64 ((yg l1 yN).f1))).setCell ⟨ae, 2, none⟩ (.int .i64 ((yg l1 yN).f2.f0))).setCell ⟨ae, 3, none⟩ (.int .i64 ((yg l1 yN).f2.f1))).heap[ae]? = some (.cells #[.int .i64 ((yg l1 yN).f0), .int .i64 ((yg l1 yN).f1), .int .i64 ((yg l1 yN).f2.f0), .int .i64 ((yg l1 yN).f2.f1)] 47 (0, 0))) := bK af rfl
   have BX : yf (Below w.heap.size w ((((w11.setCell ⟨ae, 0, none⟩ (.int .i64 ((yg l1 yN).f0))).setCell ⟨ae, 1, none⟩ (.int .i64 ((yg l1 yN).f1))).setCell ⟨ae, 2, none⟩ (.int .i64 ((yg l1 yN).f2.f0))).setCell ⟨ae, 3, none⟩ (.int .i64 ((yg l1 yN).f2.f1)))) := ⟨bO HB⟩
   clear aa af HB;generalize ((((w11.setCell ⟨ae, 0, none⟩ (.int .i64 ((yg l1 yN).f0))).setCell ⟨ae, 1, none⟩ (.int .i64 ((yg l1 yN).f1))).setCell ⟨ae, 2, none⟩ (.int .i64 ((yg l1 yN).f2.f0))).setCell ⟨ae, 3, none⟩ (.int .i64 ((yg l1 yN).f2.f1))) = w26 at BL BN BX ⊢;have aa := BL;have af := BN;have HB := BX;clear BL BN BX;replace aa := yf.mk (yO aa.out);replace af := yf.mk (yO af.out);replace HB := yf.mk (za HB.out)
   refine Bc (n := 38) (S := fun w' => w'.cell? ⟨aj, 0, none⟩ = some (.int .i64 yn) ∧ w'.cell? ⟨aj, 1, none⟩ = some (.slice yQ yh.length yM) ∧ w'.cell? ⟨aj, 2, none⟩ = some (.int .i64 yo) ∧ w'.cell? ⟨aj, 3, none⟩ = some (.int .i64 yu) ∧ w'.cell? ⟨ae, 0, none⟩ = some (.int .i64 ((yg l1 yN).f0)) ∧ w'.cell? ⟨ae, 1, none⟩ = some (.int .i64 ((yg l1 yN).f1)) ∧ w'.cell? ⟨ae, 2, none⟩ = some (.int .i64 ((yg l1 yN).f2.f0)) ∧ w'.cell? ⟨ae, 3, none⟩ = some (.int .i64 ((yg l1 yN).f2.f1))) (ds := []) (bz 38 0) (by kernel_rfl) rfl rfl (K6 aa (AP af)) (fun hHeld => ?_); refine zF yj.PX yj.KE (fun yz Bi => ?_)
   generalize w26.drew = w27 at aa af HB hHeld ⊢;refine pU 1 26 38 2 yz ?_;refine pU 3 28 38 10 yz ?_
   refine BO 0 25 38 11 yz Bi hHeld ?_
   refine BO 2 27 38 15 yz Bi hHeld ?_
   refine BO 4 29 38 31 yz Bi hHeld ?_
   refine Ck (i := 5) (N := some 30) (bz 38 63) rfl rfl (Af yz.out (by kernel_rfl)) (by decide) (fun K hK => ?_)
   refine gO Try.func21 #[.agg #[.int .i64 yn, .slice yQ yh.length yM, .int .i64 yo, .int .i64 yu], .int .i64 ((yg l1 yN).f0), .int .i64 ((yg l1 yN).f1)] ?_
   with_reducible refine (Bz.calls yn _ _ yh yo yu ((yg l1 yN).f0) ((yg l1 yN).f1) true _ ?yD ?yF A14.out).mono ?_
   (case yD => exact Di zA)
   (case yF => exact zK.out)
   rintro e w28 ⟨rfl, hb⟩
   refine ⟨_, rfl, ?_⟩
   replace aa := bB aa hb;replace af := bB af hb;replace HB := bS HB hb;clear hb
   refine hK.out _ _ (K6 aa (AP af)) (fun hHeld => ?_)
   clear hK K
   refine AR (a' := ?_) ?_ ?_
   rotate_left
   ·
    show Act.put _ (some 30) _ = _
    simp only [pz]
    rfl
   refine pU 6 31 38 127 yz ?_;refine pU 7 32 38 255 yz ?_;refine pU 8 33 38 511 yz ?_;refine pU 9 34 38 1023 yz ?_
   refine BO 10 35 38 2047 yz Bi hHeld ?_
   refine pU 11 36 38 4095 yz ?_;refine pU 12 37 38 8191 yz ?_;refine pU 13 38 38 16383 yz ?_;refine pU 14 39 38 32767 yz ?_;refine pU 15 40 38 65535 yz ?_;refine pU 17 42 38 196607 yz ?_;refine pU 18 43 38 458751 yz ?_
   refine BO 16 41 38 524287 yz Bi hHeld ?_
   refine BO 19 44 38 1048575 yz Bi hHeld ?_
   refine pU 20 45 38 2097151 yz ?_;refine pU 21 46 38 4194303 yz ?_;refine pU 22 47 38 8388607 yz ?_;refine pU 23 48 38 16777215 yz ?_;refine pU 24 49 38 33554431 yz ?_
   refine BO 25 50 38 67108863 yz Bi hHeld ?_
   refine BO 26 51 38 134217727 yz Bi hHeld ?_
   refine Ck (i := 27) (N := some 52) (bz 38 268435455) rfl rfl (Af yz.out (by kernel_rfl)) (by decide) (fun K hK => ?_)
   refine gO Try.func23 #[.agg #[.int .i64 yn, .slice yQ yh.length yM, .int .i64 yo, .int .i64 yu]] ?_
   with_reducible refine (AA.calls yn _ _ yh yo yu Y9 _ ?yD ?yF A24.out).mono ?_
   (case yD => exact Di zA)
   (case yF => exact zK.out)
   rintro e w29 ⟨rfl, hb⟩
   refine ⟨_, rfl, ?_⟩
   replace aa := bB aa hb;replace af := bB af hb;replace HB := bS HB hb;clear hb
   refine hK.out _ _ (K6 aa (AP af)) (fun hHeld => ?_)
   clear hK K
   refine AR (a' := ?_) ?_ ?_
   rotate_left
   ·
    show Act.put _ (some 52) _ = _
    simp only [pz]
    rfl
   refine pU 28 53 38 536870911 yz ?_;refine pU 29 54 38 1073741823 yz ?_;refine pU 30 55 38 2147483647 yz ?_;refine pN 31 56 38 4294967295 yz ?_;refine pN 32 57 38 8589934591 yz ?_;refine pN 33 58 38 17179869183 yz ?_;refine pN 34 59 38 34359738367 yz ?_;refine pN 35 60 38 68719476735 yz ?_;refine pN 36 61 38 137438953471 yz ?_;refine pU 37 62 38 274877906943 yz ?_
   refine BG (Al yz.out (by kernel_rfl)) ?_
   try go_wp2
   go_meet
   case rel => exact ⟨_, (true), (by rfl), H', ⟨by have := BJ.out; omega⟩, ⟨kk aa⟩, ⟨kk af⟩, ⟨bO HB⟩⟩
  rw [if_neg M8] at H;have OV := decide_eq_false M8;clear M8;obtain ⟨ZG, A30, H⟩ := bE H
  try dsimp only at H
  have H' := yf.mk H;clear H
  try go_wp2
  have BL : yf (((((w11.setCell ⟨ae, 0, none⟩ (.int .i64 ((yg l1 yN).f0))).setCell ⟨ae, 1, none⟩ (.int .i64 ((yg l1 yN).f1))).setCell ⟨ae, 2, none⟩ (.int .i64 ((yg l1 yN).f2.f0))).setCell ⟨ae, 3, none⟩ (.int .i64 ((yg l1 yN).f2.f1))).heap[aj]? = some (.cells #[.int .i64 yn, .slice yQ yh.length yM, .int .i64 yo, .int .i64 yu] 31 (0, 0))) := bK aa rfl
  have BN : yf (((((w11.setCell ⟨ae, 0, none⟩ (.int .i64 ((yg l1 yN).f0))).setCell ⟨ae, 1, none⟩ (.int .i64 ((yg l1 yN).f1))).setCell ⟨ae, 2, none⟩ (.int .i64 ((yg l1 yN).f2.f0))).setCell ⟨ae, 3, none⟩ (.int .i64 ((yg l1 yN).f2.f1))).heap[ae]? = some (.cells #[.int .i64 ((yg l1 yN).f0), .int .i64 ((yg l1 yN).f1), .int .i64 ((yg l1 yN).f2.f0), .int .i64 ((yg l1 yN).f2.f1)] 47 (0, 0))) := bK af rfl
  have BX : yf (Below w.heap.size w ((((w11.setCell ⟨ae, 0, none⟩ (.int .i64 ((yg l1 yN).f0))).setCell ⟨ae, 1, none⟩ (.int .i64 ((yg l1 yN).f1))).setCell ⟨ae, 2, none⟩ (.int .i64 ((yg l1 yN).f2.f0))).setCell ⟨ae, 3, none⟩ (.int .i64 ((yg l1 yN).f2.f1)))) := ⟨bO HB⟩
  clear aa af HB;generalize ((((w11.setCell ⟨ae, 0, none⟩ (.int .i64 ((yg l1 yN).f0))).setCell ⟨ae, 1, none⟩ (.int .i64 ((yg l1 yN).f1))).setCell ⟨ae, 2, none⟩ (.int .i64 ((yg l1 yN).f2.f0))).setCell ⟨ae, 3, none⟩ (.int .i64 ((yg l1 yN).f2.f1))) = w31 at BL BN BX ⊢;have aa := BL;have af := BN;have HB := BX;clear BL BN BX;replace aa := yf.mk (yO aa.out);replace af := yf.mk (yO af.out);replace HB := yf.mk (za HB.out)
  refine Bc (n := 38) (S := fun w' => w'.cell? ⟨aj, 0, none⟩ = some (.int .i64 yn) ∧ w'.cell? ⟨aj, 1, none⟩ = some (.slice yQ yh.length yM) ∧ w'.cell? ⟨aj, 2, none⟩ = some (.int .i64 yo) ∧ w'.cell? ⟨aj, 3, none⟩ = some (.int .i64 yu) ∧ w'.cell? ⟨ae, 0, none⟩ = some (.int .i64 ((yg l1 yN).f0)) ∧ w'.cell? ⟨ae, 1, none⟩ = some (.int .i64 ((yg l1 yN).f1)) ∧ w'.cell? ⟨ae, 2, none⟩ = some (.int .i64 ((yg l1 yN).f2.f0)) ∧ w'.cell? ⟨ae, 3, none⟩ = some (.int .i64 ((yg l1 yN).f2.f1))) (ds := []) (bz 38 0) (by kernel_rfl) rfl rfl (K6 aa (AP af)) (fun hHeld => ?_); refine zF yj.PX yj.KE (fun yz Bi => ?_)
  generalize w31.drew = w32 at aa af HB hHeld ⊢;refine pU 1 26 38 2 yz ?_;refine pU 3 28 38 10 yz ?_
  refine BO 0 25 38 11 yz Bi hHeld ?_
  refine BO 2 27 38 15 yz Bi hHeld ?_
  refine BO 4 29 38 31 yz Bi hHeld ?_
  refine Ck (i := 5) (N := some 30) (bz 38 63) rfl rfl (Af yz.out (by kernel_rfl)) (by decide) (fun K hK => ?_)
  refine gO Try.func21 #[.agg #[.int .i64 yn, .slice yQ yh.length yM, .int .i64 yo, .int .i64 yu], .int .i64 ((yg l1 yN).f0), .int .i64 ((yg l1 yN).f1)] ?_
  with_reducible refine (Bz.calls yn _ _ yh yo yu ((yg l1 yN).f0) ((yg l1 yN).f1) true _ ?yD ?yF A14.out).mono ?_
  (case yD => exact Di zA)
  (case yF => exact zK.out)
  rintro e w33 ⟨rfl, hb⟩
  refine ⟨_, rfl, ?_⟩
  replace aa := bB aa hb;replace af := bB af hb;replace HB := bS HB hb;clear hb
  refine hK.out _ _ (K6 aa (AP af)) (fun hHeld => ?_)
  clear hK K
  refine AR (a' := ?_) ?_ ?_
  rotate_left
  ·
   show Act.put _ (some 30) _ = _
   simp only [pz]
   rfl
  refine pU 6 31 38 127 yz ?_;refine pU 7 32 38 255 yz ?_;refine pU 8 33 38 511 yz ?_;refine pU 9 34 38 1023 yz ?_
  refine BO 10 35 38 2047 yz Bi hHeld ?_
  refine pU 11 36 38 4095 yz ?_;refine pU 12 37 38 8191 yz ?_;refine pU 13 38 38 16383 yz ?_;refine pU 14 39 38 32767 yz ?_;refine pU 15 40 38 65535 yz ?_;refine pU 17 42 38 196607 yz ?_;refine pU 18 43 38 458751 yz ?_
  refine BO 16 41 38 524287 yz Bi hHeld ?_
  refine BO 19 44 38 1048575 yz Bi hHeld ?_
  refine pU 20 45 38 2097151 yz ?_;refine pU 21 46 38 4194303 yz ?_;refine pU 22 47 38 8388607 yz ?_;refine pU 23 48 38 16777215 yz ?_;refine pU 24 49 38 33554431 yz ?_
  refine BO 25 50 38 67108863 yz Bi hHeld ?_
  refine BO 26 51 38 134217727 yz Bi hHeld ?_
  refine Ck (i := 27) (N := some 52) (bz 38 268435455) rfl rfl (Af yz.out (by kernel_rfl)) (by decide) (fun K hK => ?_)
  refine gO Try.func23 #[.agg #[.int .i64 yn, .slice yQ yh.length yM, .int .i64 yo, .int .i64 yu]] ?_
  with_reducible refine (AA.calls yn _ _ yh yo yu Y9 _ ?yD ?yF A24.out).mono ?_
  (case yD => exact Di zA)
  (case yF => exact zK.out)
  rintro e w34 ⟨rfl, hb⟩
  refine ⟨_, rfl, ?_⟩
  replace aa := bB aa hb;replace af := bB af hb;replace HB := bS HB hb;clear hb
  refine hK.out _ _ (K6 aa (AP af)) (fun hHeld => ?_)
  clear hK K
  refine AR (a' := ?_) ?_ ?_
  rotate_left
  ·
   show Act.put _ (some 52) _ = _
   simp only [pz]
   rfl
  refine pU 28 53 38 536870911 yz ?_;refine pU 29 54 38 1073741823 yz ?_;refine pU 30 55 38 2147483647 yz ?_;refine pU 31 56 38 4294967295 yz ?_;refine pU 32 57 38 8589934591 yz ?_
  refine BO 33 58 38 17179869183 yz Bi hHeld ?_
  refine BO 34 59 38 34359738367 yz Bi hHeld ?_
  refine Ck (i := 35) (N := some 60) (bz 38 68719476735) rfl rfl (Af yz.out (by kernel_rfl)) (by decide) (fun K hK => ?_)
  refine gO Try.func52 #[.agg #[.int .i64 yn, .slice yQ yh.length yM, .int .i64 yo, .int .i64 yu]] ?_
  with_reducible refine (Cn.calls yn _ _ yh yo yu ZG _ ?yD ?yF A30.out).mono ?_
  (case yD => exact Di zA)
  (case yF => exact zK.out)
  rintro e w35 ⟨rfl, hb⟩
  refine ⟨_, rfl, ?_⟩
  replace aa := bB aa hb;replace af := bB af hb;replace HB := bS HB hb;clear hb
  refine hK.out _ _ (K6 aa (AP af)) (fun hHeld => ?_)
  clear hK K
  refine AR (a' := ?_) ?_ ?_
  rotate_left
  ·
   show Act.put _ (some 60) _ = _
   simp only [pz]
   rfl
  refine pU 36 61 38 137438953471 yz ?_;refine pU 37 62 38 274877906943 yz ?_
  refine BG (Al yz.out (by kernel_rfl)) ?_
  try go_wp2
  go_meet
  case rel => exact ⟨_, (decide (((yg l1 yN).f2.f1) ≥ ZG)), (by rfl), H', ⟨by have := BJ.out; omega⟩, ⟨kk aa⟩, ⟨kk af⟩, ⟨bO HB⟩⟩
 case rest =>
 clear TG;obtain ⟨kq, bI, rfl, HA, ZH, aa, af, HB⟩ := hcut
 cases kq with
 | zero => exact absurd HA.out (by simp [yj.j1])
 | succ MI =>
  have H := HA.out;clear HA;simp only [yj.j1] at H
  by_cases K7 : bI = true
  ·
   subst K7;rw [if_pos rfl] at H;obtain rfl := Option.some.inj H
   go_wp2
   go_ret
   exact ⟨by rfl, bO HB⟩
  ·
   replace K7 := Bool.eq_false_iff.mpr K7;subst K7
   rw [if_neg (show ¬ (false = true) by decide)] at H
   have bX := yf.mk H;clear H
   go_upto_region 9 with (fail)
   go_cut [97] (fun v97 wc => ∃ (kq : Nat) (bM : Bool), v97 = .bool bM ∧ yf (yj.j2 kq l1 yN bM yn yh yo yu ((yg l1 yN).f0) ((yg l1 yN).f1) ((yg l1 yN).f2.f0) ((yg l1 yN).f2.f1) = some r) ∧ yf (kq ≤ MI) ∧ yf (wc.heap[aj]? = some (.cells #[.int .i64 yn, (.slice yQ yh.length yM), .int .i64 yo, .int .i64 yu] 31 (0, 0))) ∧ yf (wc.heap[ae]? = some (.cells #[.int .i64 ((yg l1 yN).f0), .int .i64 ((yg l1 yN).f1), .int .i64 ((yg l1 yN).f2.f0), .int .i64 ((yg l1 yN).f2.f1)] 47 (0, 0))) ∧ yf (Below w.heap.size w wc))
   case first =>
    have H := bX.out;clear bX
    by_cases JH : yN > 0
    ·
     rw [if_pos JH] at H;have UE := decide_eq_true JH;clear JH
     (skip)
     obtain ⟨ag, dD⟩ : ∃ j_ : Int, (wrap64 (yN - 1)) = j_ := ⟨_, rfl⟩
     replace H : (if 0 ≤ (ag) then (if (ag) < (l1.length : Int) then (if ((yg l1 (ag)).f0) > ((yg l1 yN).f0) then (yj.j2 MI l1 yN true yn yh yo yu ((yg l1 yN).f0) ((yg l1 yN).f1) ((yg l1 yN).f2.f0) ((yg l1 yN).f2.f1)) else (if ((yg l1 (ag)).f0) = ((yg l1 yN).f0) then (yj.j2 MI l1 yN (decide (((yg l1 (ag)).f1) ≥ ((yg l1 yN).f1))) yn yh yo yu ((yg l1 yN).f0) ((yg l1 yN).f1) ((yg l1 yN).f2.f0) ((yg l1 yN).f2.f1)) else (yj.j2 MI l1 yN false yn yh yo yu ((yg l1 yN).f0) ((yg l1 yN).f1) ((yg l1 yN).f2.f0) ((yg l1 yN).f2.f1)))) else (none)) else (none)) = some r := by (rw [dD] at H; exact H)
     have hji42w : (IntKind.i64.wrap (yN - 1)) = ag := (i64_w _).trans dD
     by_cases Kq : 0 ≤ (ag)
     ·
      rw [if_pos Kq] at H;have OX := decide_eq_true Kq;clear Kq
      by_cases M5 : (ag) < (l1.length : Int)
      ·
       rw [if_pos M5] at H;have Ub := decide_eq_true M5;clear M5
       by_cases Ot : ((yg l1 (ag)).f0) > ((yg l1 yN).f0)
       ·
        rw [if_pos Ot] at H;have Wo := decide_eq_true Ot;clear Ot;have H' := yf.mk H;clear H
        try go_wp2
        replace aa := yf.mk (yO aa.out);replace af := yf.mk (yO af.out);replace HB := yf.mk (za HB.out)
        have aA : 0 ≤ ((ag) : Int) := of_decide_eq_true ‹_›
        have az : (ag) < (l1.length : Int) := of_decide_eq_true ‹_›
        obtain ⟨bg, aZ, ay, ax, au, av⟩ := BU HR1.out (ag) aA az;have aX := av;have bn := au;have bi := ax;have aY := ay;obtain rfl : ah = bg := (by injection aZ);replace ay := cB HB ay;replace ax := cB HB ax;replace au := cB HB au;replace av := cB HB av;replace aA := eq_true aA;replace az := eq_true az
        refine Bc (n := 35) (S := fun w' => w'.cell? ⟨ae, 0, none⟩ = some (.int .i64 ((yg l1 yN).f0)) ∧ w'.cell? ⟨ae, 1, none⟩ = some (.int .i64 ((yg l1 yN).f1)) ∧ w'.cell? ⟨ae, 2, none⟩ = some (.int .i64 ((yg l1 yN).f2.f0)) ∧ w'.cell? ⟨ae, 3, none⟩ = some (.int .i64 ((yg l1 yN).f2.f1)) ∧ w'.cell? (ah.add (((ag)).toNat * 4)) = some (.int .i64 ((yg l1 (ag)).f0)) ∧ w'.cell? ⟨(ah.add (((ag)).toNat * 4)).block, (ah.add (((ag)).toNat * 4)).off + 1, none⟩ = some (.int .i64 ((yg l1 (ag)).f1)) ∧ w'.cell? ⟨(ah.add (((ag)).toNat * 4)).block, (ah.add (((ag)).toNat * 4)).off + 2, none⟩ = some (.int .i64 ((yg l1 (ag)).f2.f0)) ∧ w'.cell? ⟨(ah.add (((ag)).toNat * 4)).block, (ah.add (((ag)).toNat * 4)).off + 3, none⟩ = some (.int .i64 ((yg l1 (ag)).f2.f1))) (ds := []) (bz 35 0) (by kernel_rfl) rfl rfl ⟨(yA af.out 0).trans rfl, (yA af.out 1).trans rfl, (yA af.out 2).trans rfl, (yA af.out 3).trans rfl, (cB HB aY), (cB HB bi), (cB HB bn), (cB HB aX)⟩ (fun hHeld => ?_); refine zF yj.NJ yj.Jm (fun yz Bi => ?_)
        generalize wc.drew = w46 at aa af HB ay ax au av hHeld ⊢;refine pU 0 63 35 1 yz ?_;refine pU 1 64 35 3 yz ?_;refine pU 2 65 35 7 yz ?_;refine pU 3 66 35 15 yz ?_;refine pU 4 67 35 31 yz ?_;refine pU 5 68 35 63 yz ?_;refine pU 6 69 35 127 yz ?_;refine pU 7 70 35 255 yz ?_;refine pU 9 72 35 767 yz ?_
        refine BO 8 71 35 1023 yz Bi hHeld ?_
        refine BO 10 73 35 2047 yz Bi hHeld ?_
        refine pU 11 74 35 4095 yz ?_;refine pU 12 75 35 8191 yz ?_;refine pN 13 76 35 16383 yz ?_;refine pN 14 77 35 32767 yz ?_;refine pN 15 78 35 65535 yz ?_;refine pN 16 79 35 131071 yz ?_;refine pN 17 80 35 262143 yz ?_;refine pN 18 81 35 524287 yz ?_;refine pN 19 82 35 1048575 yz ?_;refine pN 20 83 35 2097151 yz ?_;refine pN 21 84 35 4194303 yz ?_;refine pN 22 85 35 8388607 yz ?_;refine pN 23 86 35 16777215 yz ?_;refine pN 24 87 35 33554431 yz ?_;refine pN 25 88 35 67108863 yz ?_;refine pN 26 89 35 134217727 yz ?_;refine pN 27 90 35 268435455 yz ?_;refine pN 28 91 35 536870911 yz ?_;refine pN 29 92 35 1073741823 yz ?_;refine pN 30 93 35 2147483647 yz ?_;refine pN 31 94 35 4294967295 yz ?_;refine pN 32 95 35 8589934591 yz ?_;refine pU 33 96 35 17179869183 yz ?_;refine pU 34 97 35 34359738367 yz ?_
        refine BG (Al yz.out (by kernel_rfl)) ?_
        try go_wp2
        go_meet
        case rel => exact ⟨_, (true), (by rfl), H', ⟨by have := BJ.out; have := ZH.out; omega⟩, ⟨kk aa⟩, ⟨kk af⟩, ⟨bO HB⟩⟩
       ·
        rw [if_neg Ot] at H;have Wo := decide_eq_false Ot;clear Ot
        by_cases J2 : ((yg l1 (ag)).f0) = ((yg l1 yN).f0)
        ·
         rw [if_pos J2] at H;have KF := beq_iff_eq.mpr J2
         have dJ : (((yg l1 (ag)).f0) != ((yg l1 yN).f0)) = false := bne_eq_false_iff_eq.mpr J2
         clear J2;have H' := yf.mk H;clear H
         try go_wp2
         replace aa := yf.mk (yO aa.out);replace af := yf.mk (yO af.out);replace HB := yf.mk (za HB.out)
         have aA : 0 ≤ ((ag) : Int) := of_decide_eq_true ‹_›
         have az : (ag) < (l1.length : Int) := of_decide_eq_true ‹_›
         obtain ⟨bg, aZ, ay, ax, au, av⟩ := BU HR1.out (ag) aA az;have aX := av;have bn := au;have bi := ax;have aY := ay;obtain rfl : ah = bg := (by injection aZ);replace ay := cB HB ay;replace ax := cB HB ax;replace au := cB HB au;replace av := cB HB av;replace aA := eq_true aA;replace az := eq_true az
         have aV : 0 ≤ ((ag) : Int) := of_decide_eq_true ‹_›
         have aW : (ag) < (l1.length : Int) := of_decide_eq_true ‹_›
         obtain ⟨bP, bN, aH, aD, aJ, aN⟩ := BU HR1.out (ag) aV aW;have di := aN;have bU := aJ;have d9 := aD;have bR := aH;obtain rfl : ah = bP := (by injection bN);replace aH := cB HB aH;replace aD := cB HB aD;replace aJ := cB HB aJ;replace aN := cB HB aN;replace aV := eq_true aV;replace aW := eq_true aW
         have df : 0 ≤ ((ag) : Int) := of_decide_eq_true ‹_›
         have cO : (ag) < (l1.length : Int) := of_decide_eq_true ‹_›
         obtain ⟨dG, dK, bC, bu, bF, bL⟩ := BU HR1.out (ag) df cO;have dX := bL;have dN := bF;have dO := bu;have dI := bC;obtain rfl : ah = dG := (by injection dK);replace bC := cB HB bC;replace bu := cB HB bu;replace bF := cB HB bF;replace bL := cB HB bL;replace df := eq_true df;replace cO := eq_true cO
         refine Bc (n := 35) (S := fun w' => w'.cell? ⟨ae, 0, none⟩ = some (.int .i64 ((yg l1 yN).f0)) ∧ w'.cell? ⟨ae, 1, none⟩ = some (.int .i64 ((yg l1 yN).f1)) ∧ w'.cell? ⟨ae, 2, none⟩ = some (.int .i64 ((yg l1 yN).f2.f0)) ∧ w'.cell? ⟨ae, 3, none⟩ = some (.int .i64 ((yg l1 yN).f2.f1)) ∧ w'.cell? (ah.add (((ag)).toNat * 4)) = some (.int .i64 ((yg l1 (ag)).f0)) ∧ w'.cell? ⟨(ah.add (((ag)).toNat * 4)).block, (ah.add (((ag)).toNat * 4)).off + 1, none⟩ = some (.int .i64 ((yg l1 (ag)).f1)) ∧ w'.cell? ⟨(ah.add (((ag)).toNat * 4)).block, (ah.add (((ag)).toNat * 4)).off + 2, none⟩ = some (.int .i64 ((yg l1 (ag)).f2.f0)) ∧ w'.cell? ⟨(ah.add (((ag)).toNat * 4)).block, (ah.add (((ag)).toNat * 4)).off + 3, none⟩ = some (.int .i64 ((yg l1 (ag)).f2.f1)) ∧ w'.cell? (ah.add (((ag)).toNat * 4)) = some (.int .i64 ((yg l1 (ag)).f0)) ∧ w'.cell? ⟨(ah.add (((ag)).toNat * 4)).block, (ah.add (((ag)).toNat * 4)).off + 1, none⟩ = some (.int .i64 ((yg l1 (ag)).f1)) ∧ w'.cell? ⟨(ah.add (((ag)).toNat * 4)).block, (ah.add (((ag)).toNat * 4)).off + 2, none⟩ = some (.int .i64 ((yg l1 (ag)).f2.f0)) ∧ w'.cell? ⟨(ah.add (((ag)).toNat * 4)).block, (ah.add (((ag)).toNat * 4)).off + 3, none⟩ = some (.int .i64 ((yg l1 (ag)).f2.f1)) ∧ w'.cell? (ah.add (((ag)).toNat * 4)) = some (.int .i64 ((yg l1 (ag)).f0)) ∧ w'.cell? ⟨(ah.add (((ag)).toNat * 4)).block, (ah.add (((ag)).toNat * 4)).off + 1, none⟩ = some (.int .i64 ((yg l1 (ag)).f1)) ∧ w'.cell? ⟨(ah.add (((ag)).toNat * 4)).block, (ah.add (((ag)).toNat * 4)).off + 2, none⟩ = some (.int .i64 ((yg l1 (ag)).f2.f0)) ∧ w'.cell? ⟨(ah.add (((ag)).toNat * 4)).block, (ah.add (((ag)).toNat * 4)).off + 3, none⟩ = some (.int .i64 ((yg l1 (ag)).f2.f1))) (ds := []) (bz 35 0) (by kernel_rfl) rfl rfl ⟨(yA af.out 0).trans rfl, (yA af.out 1).trans rfl, (yA af.out 2).trans rfl, (yA af.out 3).trans rfl, (cB HB aY), (cB HB bi), (cB HB bn), (cB HB aX), (cB HB bR), (cB HB d9), (cB HB bU), (cB HB di), (cB HB dI), (cB HB dO), (cB HB dN), (cB HB dX)⟩ (fun hHeld => ?_); refine zF yj.NJ yj.Jm (fun yz Bi => ?_)
         generalize wc.drew = w48 at aa af HB ay ax au av aH aD aJ aN bC bu bF bL hHeld ⊢;refine pU 0 63 35 1 yz ?_;refine pU 1 64 35 3 yz ?_;refine pU 2 65 35 7 yz ?_;refine pU 3 66 35 15 yz ?_;refine pU 4 67 35 31 yz ?_;refine pU 5 68 35 63 yz ?_;refine pU 6 69 35 127 yz ?_;refine pU 7 70 35 255 yz ?_;refine pU 9 72 35 767 yz ?_
         refine BO 8 71 35 1023 yz Bi hHeld ?_
         refine BO 10 73 35 2047 yz Bi hHeld ?_
         refine pU 11 74 35 4095 yz ?_;refine pU 12 75 35 8191 yz ?_;refine pU 13 76 35 16383 yz ?_;refine pU 14 77 35 32767 yz ?_;refine pU 15 78 35 65535 yz ?_;refine pU 16 79 35 131071 yz ?_;refine pU 17 80 35 262143 yz ?_;refine pU 19 82 35 786431 yz ?_
         refine BO 18 81 35 1048575 yz Bi hHeld ?_
         refine BO 20 83 35 2097151 yz Bi hHeld ?_
         refine pU 21 84 35 4194303 yz ?_;refine pU 22 85 35 8388607 yz ?_;refine pU 23 86 35 16777215 yz ?_;refine pU 24 87 35 33554431 yz ?_;refine pU 25 88 35 67108863 yz ?_;refine pU 26 89 35 134217727 yz ?_;refine pU 27 90 35 268435455 yz ?_;refine pU 29 92 35 805306367 yz ?_
         refine BO 28 91 35 1073741823 yz Bi hHeld ?_
         refine BO 30 93 35 2147483647 yz Bi hHeld ?_
         refine pU 31 94 35 4294967295 yz ?_;refine pU 32 95 35 8589934591 yz ?_;refine pU 33 96 35 17179869183 yz ?_;refine pU 34 97 35 34359738367 yz ?_
         refine BG (Al yz.out (by kernel_rfl)) ?_
         try go_wp2
         go_meet
         case rel => exact ⟨_, (decide (((yg l1 (ag)).f1) ≥ ((yg l1 yN).f1))), (by rfl), H', ⟨by have := BJ.out; have := ZH.out; omega⟩, ⟨kk aa⟩, ⟨kk af⟩, ⟨bO HB⟩⟩
        ·
         rw [if_neg J2] at H;have KF := beq_eq_false_iff_ne.mpr J2;have dJ := bne_iff_ne.mpr J2;have H' := yf.mk H;clear H
         try go_wp2
         replace aa := yf.mk (yO aa.out);replace af := yf.mk (yO af.out);replace HB := yf.mk (za HB.out)
         have aA : 0 ≤ ((ag) : Int) := of_decide_eq_true ‹_›
         have az : (ag) < (l1.length : Int) := of_decide_eq_true ‹_›
         obtain ⟨bg, aZ, ay, ax, au, av⟩ := BU HR1.out (ag) aA az;have aX := av;have bn := au;have bi := ax;have aY := ay;obtain rfl : ah = bg := (by injection aZ);replace ay := cB HB ay;replace ax := cB HB ax;replace au := cB HB au;replace av := cB HB av;replace aA := eq_true aA;replace az := eq_true az
         have aV : 0 ≤ ((ag) : Int) := of_decide_eq_true ‹_›
         have aW : (ag) < (l1.length : Int) := of_decide_eq_true ‹_›
         obtain ⟨bP, bN, aH, aD, aJ, aN⟩ := BU HR1.out (ag) aV aW;have di := aN;have bU := aJ;have d9 := aD;have bR := aH;obtain rfl : ah = bP := (by injection bN);replace aH := cB HB aH;replace aD := cB HB aD;replace aJ := cB HB aJ;replace aN := cB HB aN;replace aV := eq_true aV;replace aW := eq_true aW
         refine Bc (n := 35) (S := fun w' => w'.cell? ⟨ae, 0, none⟩ = some (.int .i64 ((yg l1 yN).f0)) ∧ w'.cell? ⟨ae, 1, none⟩ = some (.int .i64 ((yg l1 yN).f1)) ∧ w'.cell? ⟨ae, 2, none⟩ = some (.int .i64 ((yg l1 yN).f2.f0)) ∧ w'.cell? ⟨ae, 3, none⟩ = some (.int .i64 ((yg l1 yN).f2.f1)) ∧ w'.cell? (ah.add (((ag)).toNat * 4)) = some (.int .i64 ((yg l1 (ag)).f0)) ∧ w'.cell? ⟨(ah.add (((ag)).toNat * 4)).block, (ah.add (((ag)).toNat * 4)).off + 1, none⟩ = some (.int .i64 ((yg l1 (ag)).f1)) ∧ w'.cell? ⟨(ah.add (((ag)).toNat * 4)).block, (ah.add (((ag)).toNat * 4)).off + 2, none⟩ = some (.int .i64 ((yg l1 (ag)).f2.f0)) ∧ w'.cell? ⟨(ah.add (((ag)).toNat * 4)).block, (ah.add (((ag)).toNat * 4)).off + 3, none⟩ = some (.int .i64 ((yg l1 (ag)).f2.f1)) ∧ w'.cell? (ah.add (((ag)).toNat * 4)) = some (.int .i64 ((yg l1 (ag)).f0)) ∧ w'.cell? ⟨(ah.add (((ag)).toNat * 4)).block, (ah.add (((ag)).toNat * 4)).off + 1, none⟩ = some (.int .i64 ((yg l1 (ag)).f1)) ∧ w'.cell? ⟨(ah.add (((ag)).toNat * 4)).block, (ah.add (((ag)).toNat * 4)).off + 2, none⟩ = some (.int .i64 ((yg l1 (ag)).f2.f0)) ∧ w'.cell? ⟨(ah.add (((ag)).toNat * 4)).block, (ah.add (((ag)).toNat * 4)).off + 3, none⟩ = some (.int .i64 ((yg l1 (ag)).f2.f1))) (ds := []) (bz 35 0) (by kernel_rfl) rfl rfl ⟨(yA af.out 0).trans rfl, (yA af.out 1).trans rfl, (yA af.out 2).trans rfl, (yA af.out 3).trans rfl, (cB HB aY), (cB HB bi), (cB HB bn), (cB HB aX), (cB HB bR), (cB HB d9), (cB HB bU), (cB HB di)⟩ (fun hHeld => ?_); refine zF yj.NJ yj.Jm (fun yz Bi => ?_)
         generalize wc.drew = w49 at aa af HB ay ax au av aH aD aJ aN hHeld ⊢;refine pU 0 63 35 1 yz ?_;refine pU 1 64 35 3 yz ?_;refine pU 2 65 35 7 yz ?_;refine pU 3 66 35 15 yz ?_;refine pU 4 67 35 31 yz ?_;refine pU 5 68 35 63 yz ?_;refine pU 6 69 35 127 yz ?_;refine pU 7 70 35 255 yz ?_;refine pU 9 72 35 767 yz ?_
         refine BO 8 71 35 1023 yz Bi hHeld ?_
         refine BO 10 73 35 2047 yz Bi hHeld ?_
         refine pU 11 74 35 4095 yz ?_;refine pU 12 75 35 8191 yz ?_;refine pU 13 76 35 16383 yz ?_;refine pU 14 77 35 32767 yz ?_;refine pU 15 78 35 65535 yz ?_;refine pU 16 79 35 131071 yz ?_;refine pU 17 80 35 262143 yz ?_;refine pU 19 82 35 786431 yz ?_
         refine BO 18 81 35 1048575 yz Bi hHeld ?_
         refine BO 20 83 35 2097151 yz Bi hHeld ?_
         refine pU 21 84 35 4194303 yz ?_;refine pU 22 85 35 8388607 yz ?_;refine pN 23 86 35 16777215 yz ?_;refine pN 24 87 35 33554431 yz ?_;refine pN 25 88 35 67108863 yz ?_;refine pN 26 89 35 134217727 yz ?_;refine pN 27 90 35 268435455 yz ?_;refine pN 28 91 35 536870911 yz ?_;refine pN 29 92 35 1073741823 yz ?_;refine pN 30 93 35 2147483647 yz ?_;refine pN 31 94 35 4294967295 yz ?_;refine pU 32 95 35 8589934591 yz ?_;refine pU 33 96 35 17179869183 yz ?_;refine pU 34 97 35 34359738367 yz ?_
         refine BG (Al yz.out (by kernel_rfl)) ?_
         try go_wp2
         go_meet
         case rel => exact ⟨_, (false), (by rfl), H', ⟨by have := BJ.out; have := ZH.out; omega⟩, ⟨kk aa⟩, ⟨kk af⟩, ⟨bO HB⟩⟩
      ·
       rw [if_neg M5] at H;exact absurd H (by simp)
     ·
      rw [if_neg Kq] at H;exact absurd H (by simp)
    ·
     rw [if_neg JH] at H;have UE := decide_eq_false JH;clear JH
     (skip)
     have H' := yf.mk H;clear H
     try go_wp2
     replace aa := yf.mk (yO aa.out);replace af := yf.mk (yO af.out);replace HB := yf.mk (za HB.out)
     refine Bc (n := 35) (S := fun w' => True) (ds := []) (bz 35 0) (by kernel_rfl) rfl rfl trivial (fun hHeld => ?_); refine zF yj.NJ yj.Jm (fun yz Bi => ?_)
     generalize wc.drew = w50 at aa af HB hHeld ⊢;refine pU 0 63 35 1 yz ?_;refine pU 1 64 35 3 yz ?_;refine pU 2 65 35 7 yz ?_;refine pN 3 66 35 15 yz ?_;refine pN 4 67 35 31 yz ?_;refine pN 5 68 35 63 yz ?_;refine pN 6 69 35 127 yz ?_;refine pN 7 70 35 255 yz ?_;refine pN 8 71 35 511 yz ?_;refine pN 9 72 35 1023 yz ?_;refine pN 10 73 35 2047 yz ?_;refine pN 11 74 35 4095 yz ?_;refine pN 12 75 35 8191 yz ?_;refine pN 13 76 35 16383 yz ?_;refine pN 14 77 35 32767 yz ?_;refine pN 15 78 35 65535 yz ?_;refine pN 16 79 35 131071 yz ?_;refine pN 17 80 35 262143 yz ?_;refine pN 18 81 35 524287 yz ?_;refine pN 19 82 35 1048575 yz ?_;refine pN 20 83 35 2097151 yz ?_;refine pN 21 84 35 4194303 yz ?_;refine pN 22 85 35 8388607 yz ?_;refine pN 23 86 35 16777215 yz ?_;refine pN 24 87 35 33554431 yz ?_;refine pN 25 88 35 67108863 yz ?_;refine pN 26 89 35 134217727 yz ?_;refine pN 27 90 35 268435455 yz ?_;refine pN 28 91 35 536870911 yz ?_;refine pN 29 92 35 1073741823 yz ?_;refine pN 30 93 35 2147483647 yz ?_;refine pN 31 94 35 4294967295 yz ?_;refine pN 32 95 35 8589934591 yz ?_;refine pN 33 96 35 17179869183 yz ?_;refine pU 34 97 35 34359738367 yz ?_
     refine BG (Al yz.out (by kernel_rfl)) ?_
     try go_wp2
     go_meet
     case rel => exact ⟨_, (false), (by rfl), H', ⟨by have := BJ.out; have := ZH.out; omega⟩, ⟨kk aa⟩, ⟨kk af⟩, ⟨bO HB⟩⟩
   case rest =>
    clear bX;obtain ⟨kq, bM, rfl, HA, bv, aa, af, HB⟩ := hcut
    cases kq with
    | zero => exact absurd HA.out (by simp [yj.j2])
    | succ dB =>
     have H := HA.out;clear HA;simp only [yj.j2] at H
     by_cases c51 : bM = true
     ·
      subst c51;rw [if_pos rfl] at H;obtain rfl := Option.some.inj H
      go_wp2
      go_ret
      exact ⟨by rfl, bO HB⟩
     ·
      replace c51 := Bool.eq_false_iff.mpr c51;subst c51
      rw [if_neg (show ¬ (false = true) by decide)] at H
      have H' := yf.mk H;clear H
      go_wp2
      go_loopg [7] dB (fun kq v7 w' => ∃ (ai : Int), v7 = .int .i64 ai ∧ yf (yj.l1 kq l1 yN ai yn yh yo yu ((yg l1 yN).f0) ((yg l1 yN).f1) ((yg l1 yN).f2.f0) ((yg l1 yN).f2.f1) = some r) ∧ yf (kq ≤ dB) ∧ yf (w'.heap[aj]? = some (.cells #[.int .i64 yn, (.slice yQ yh.length yM), .int .i64 yo, .int .i64 yu] 31 (0, 0))) ∧ yf (w'.heap[ae]? = some (.cells #[.int .i64 ((yg l1 yN).f0), .int .i64 ((yg l1 yN).f1), .int .i64 ((yg l1 yN).f2.f0), .int .i64 ((yg l1 yN).f2.f1)] 47 (0, 0))) ∧ yf (Below w.heap.size w w'))
      case atStart => exact ⟨(0), (by rfl), H', ⟨Nat.le_refl _⟩, ⟨kk aa⟩, ⟨kk af⟩, ⟨bO HB⟩⟩
      case round =>
       clear H';obtain ⟨ai, rfl, HA, Ja, aa, af, HB⟩ := hrel
       cases gk with
       | zero => exact absurd HA.out (by simp [yj.l1])
       | succ k4 =>
        have H := HA.out;clear HA;simp only [yj.l1] at H
        by_cases Ye : ai < yN
        ·
         rw [if_pos Ye] at H;have dV := decide_eq_true Ye;clear Ye
         by_cases c53 : 0 ≤ ai
         ·
          rw [if_pos c53] at H;have eD := decide_eq_true c53;clear c53
          by_cases Qk : ai < (l1.length : Int)
          ·
           rw [if_pos Qk] at H;have UF := decide_eq_true Qk;clear Qk
           by_cases Oy : (((yg l1 ai).f2.f0) == ((yg l1 yN).f2.f0) && (((yg l1 ai).f2.f1) == ((yg l1 yN).f2.f1))) = true
           ·
            rw [if_pos Oy] at H
            have a1g : (((yg l1 ai).f2.f0) == ((yg l1 yN).f2.f0) && (((yg l1 ai).f2.f1) == ((yg l1 yN).f2.f1))) = true := Oy
            (try (have dM : decide (((yg l1 ai).f2.f0) = ((yg l1 yN).f2.f0) && (((yg l1 ai).f2.f1) == ((yg l1 yN).f2.f1))) = true := by simpa using Oy))
            (try (have dQ : (((yg l1 ai).f2.f0) == ((yg l1 yN).f2.f0) && (((yg l1 ai).f2.f1) == ((yg l1 yN).f2.f1))) = true := by simpa using Oy))
            clear Oy;obtain rfl := Option.some.inj H
            try go_wp2
            replace aa := yf.mk (yO aa.out);replace af := yf.mk (yO af.out);replace HB := yf.mk (za HB.out)
            have aQ : 0 ≤ (ai : Int) := of_decide_eq_true ‹_›
            have aT : ai < (l1.length : Int) := of_decide_eq_true ‹_›
            obtain ⟨cu, bV, aK, aG, aM, aI⟩ := BU HR1.out ai aQ aT;have bQ := aI;have dm := aM;have bZ := aG;have bY := aK;obtain rfl : ah = cu := (by injection bV);replace aK := cB HB aK;replace aG := cB HB aG;replace aM := cB HB aM;replace aI := cB HB aI;replace aQ := eq_true aQ;replace aT := eq_true aT
            refine Bc (n := 8) (S := fun w' => w'.cell? ⟨ae, 0, none⟩ = some (.int .i64 ((yg l1 yN).f0)) ∧ w'.cell? ⟨ae, 1, none⟩ = some (.int .i64 ((yg l1 yN).f1)) ∧ w'.cell? ⟨ae, 2, none⟩ = some (.int .i64 ((yg l1 yN).f2.f0)) ∧ w'.cell? ⟨ae, 3, none⟩ = some (.int .i64 ((yg l1 yN).f2.f1)) ∧ w'.cell? (ah.add ((ai).toNat * 4)) = some (.int .i64 ((yg l1 ai).f0)) ∧ w'.cell? ⟨(ah.add ((ai).toNat * 4)).block, (ah.add ((ai).toNat * 4)).off + 1, none⟩ = some (.int .i64 ((yg l1 ai).f1)) ∧ w'.cell? ⟨(ah.add ((ai).toNat * 4)).block, (ah.add ((ai).toNat * 4)).off + 2, none⟩ = some (.int .i64 ((yg l1 ai).f2.f0)) ∧ w'.cell? ⟨(ah.add ((ai).toNat * 4)).block, (ah.add ((ai).toNat * 4)).off + 3, none⟩ = some (.int .i64 ((yg l1 ai).f2.f1))) (ds := []) (bz 8 0) (by kernel_rfl) rfl rfl ⟨(yA af.out 0).trans rfl, (yA af.out 1).trans rfl, (yA af.out 2).trans rfl, (yA af.out 3).trans rfl, (cB HB bY), (cB HB bZ), (cB HB dm), (cB HB bQ)⟩ (fun hHeld => ?_); refine zF yj.OY yj.LA (fun yz Bi => ?_)
            generalize wr.drew = w56 at aa af HB aK aG aM aI hHeld ⊢;refine pU 0 103 8 1 yz ?_;refine pU 1 104 8 3 yz ?_;refine pU 2 105 8 7 yz ?_;refine pU 3 106 8 15 yz ?_;refine pU 5 108 8 47 yz ?_
            refine BO 4 107 8 63 yz Bi hHeld ?_
            refine BO 6 109 8 127 yz Bi hHeld ?_
            refine pU 7 110 8 255 yz ?_
            refine BG (Al yz.out (by kernel_rfl)) ?_
            try go_wp2
            go_ret
            exact ⟨by rfl, bO HB⟩
           ·
            rw [if_neg Oy] at H
            have a1g : (((yg l1 ai).f2.f0) == ((yg l1 yN).f2.f0) && (((yg l1 ai).f2.f1) == ((yg l1 yN).f2.f1))) = false := by simpa using Oy
            (try (have dM : decide (((yg l1 ai).f2.f0) = ((yg l1 yN).f2.f0) && (((yg l1 ai).f2.f1) == ((yg l1 yN).f2.f1))) = false := by simpa using Oy))
            (try (have dQ : (((yg l1 ai).f2.f0) == ((yg l1 yN).f2.f0) && (((yg l1 ai).f2.f1) == ((yg l1 yN).f2.f1))) = false := by simpa using Oy))
            (try (have ed : ¬ (((yg l1 ai).f2.f0) = ((yg l1 yN).f2.f0) && (((yg l1 ai).f2.f1) == ((yg l1 yN).f2.f1))) := by simpa using Oy))
            clear Oy;have H' := yf.mk H;clear H
            try go_wp2
            replace aa := yf.mk (yO aa.out);replace af := yf.mk (yO af.out);replace HB := yf.mk (za HB.out)
            have aQ : 0 ≤ (ai : Int) := of_decide_eq_true ‹_›
            have aT : ai < (l1.length : Int) := of_decide_eq_true ‹_›
            obtain ⟨cu, bV, aK, aG, aM, aI⟩ := BU HR1.out ai aQ aT;have bQ := aI;have dm := aM;have bZ := aG;have bY := aK;obtain rfl : ah = cu := (by injection bV);replace aK := cB HB aK;replace aG := cB HB aG;replace aM := cB HB aM;replace aI := cB HB aI;replace aQ := eq_true aQ;replace aT := eq_true aT
            refine Bc (n := 8) (S := fun w' => w'.cell? ⟨ae, 0, none⟩ = some (.int .i64 ((yg l1 yN).f0)) ∧ w'.cell? ⟨ae, 1, none⟩ = some (.int .i64 ((yg l1 yN).f1)) ∧ w'.cell? ⟨ae, 2, none⟩ = some (.int .i64 ((yg l1 yN).f2.f0)) ∧ w'.cell? ⟨ae, 3, none⟩ = some (.int .i64 ((yg l1 yN).f2.f1)) ∧ w'.cell? (ah.add ((ai).toNat * 4)) = some (.int .i64 ((yg l1 ai).f0)) ∧ w'.cell? ⟨(ah.add ((ai).toNat * 4)).block, (ah.add ((ai).toNat * 4)).off + 1, none⟩ = some (.int .i64 ((yg l1 ai).f1)) ∧ w'.cell? ⟨(ah.add ((ai).toNat * 4)).block, (ah.add ((ai).toNat * 4)).off + 2, none⟩ = some (.int .i64 ((yg l1 ai).f2.f0)) ∧ w'.cell? ⟨(ah.add ((ai).toNat * 4)).block, (ah.add ((ai).toNat * 4)).off + 3, none⟩ = some (.int .i64 ((yg l1 ai).f2.f1))) (ds := []) (bz 8 0) (by kernel_rfl) rfl rfl ⟨(yA af.out 0).trans rfl, (yA af.out 1).trans rfl, (yA af.out 2).trans rfl, (yA af.out 3).trans rfl, (cB HB bY), (cB HB bZ), (cB HB dm), (cB HB bQ)⟩ (fun hHeld => ?_); refine zF yj.OY yj.LA (fun yz Bi => ?_)
            generalize wr.drew = w57 at aa af HB aK aG aM aI hHeld ⊢;refine pU 0 103 8 1 yz ?_;refine pU 1 104 8 3 yz ?_;refine pU 2 105 8 7 yz ?_;refine pU 3 106 8 15 yz ?_;refine pU 5 108 8 47 yz ?_
            refine BO 4 107 8 63 yz Bi hHeld ?_
            refine BO 6 109 8 127 yz Bi hHeld ?_
            refine pU 7 110 8 255 yz ?_
            refine BG (Al yz.out (by kernel_rfl)) ?_
            try go_wp2
            go_roundg k4
            case measure => have := BJ.out; have := ZH.out; have := bv.out; have := Ja.out; omega
            case rel => exact ⟨(wrap64 (ai + 1)), (by rfl), H', ⟨by have := BJ.out; have := ZH.out; have := bv.out; have := Ja.out; omega⟩, ⟨kk aa⟩, ⟨kk af⟩, ⟨bO HB⟩⟩
          ·
           rw [if_neg Qk] at H;exact absurd H (by simp)
         ·
          rw [if_neg c53] at H;exact absurd H (by simp)
        ·
         rw [if_neg Ye] at H;have dV := decide_eq_false Ye;clear Ye;have H' := yf.mk H;clear H
         go_wp2
         go_roundg k4
         case measure => have := BJ.out; have := ZH.out; have := bv.out; have := Ja.out; omega
         case rel => exact ⟨(wrap64 (yN + 1)), (by rfl), H', ⟨by have := BJ.out; have := ZH.out; have := bv.out; have := Ja.out; omega⟩, ⟨kk aa⟩, ⟨bO HB⟩⟩
end Go.Proofs.Ytjonnfmoocijlaa.P
