/- Texts of a claim, packed. -/
import Derived.Test.YtjonnfmoocijlaaD2
import Derived.Test.YtjonnfmoocijlaaD4
set_option linter.all false
namespace Go.Proofs.Ytjonnfmoocijlaa.P
open Go.RowKit Go.Proofs.YtjonnfmoocijlaaKW.PrintWords Go.Proofs.YtjonnfmoocijlaaKW.PrintLast Go.Proofs.YtjonnfmoocijlaaKW.PrintMore
attribute [local go_sem] zz zA zS zT zn zo zB zC
def zw.f (yn : Int) (yg : List (List Int)) (yo : Int) (yt : Int) (BF : Int) (Al : Int) (zY : Int) (BS : List (List Int)) (Bn : List (List Int)) (DZ : Int) (CK : Int) (a1 : Int) (a2 : Int) : Option (Int × Int) := if zY = 0 then (none) else (if BF = 0 then (none) else (if 0 ≤ (Int.tmod a1 zY) then (if (Int.tmod a1 zY) < (yg.length : Int) then (if 0 ≤ (Int.tmod (wrap64 (a2 + (wrap64 (Int.tdiv a1 zY)))) BF) then (if (Int.tmod (wrap64 (a2 + (wrap64 (Int.tdiv a1 zY)))) BF) < ((yT yg (Int.tmod a1 zY)).length : Int) then (if (Int.tmod a1 zY) < (BS.length : Int) then (if (Int.tmod (wrap64 (a2 + (wrap64 (Int.tdiv a1 zY)))) BF) < ((yT BS (Int.tmod a1 zY)).length : Int) then (some (rd (yT yg (Int.tmod a1 zY)) (Int.tmod (wrap64 (a2 + (wrap64 (Int.tdiv a1 zY)))) BF), wrap64 ((wrap64 ((wrap64 (Int.tdiv a1 zY)) * Al)) + (rd (yT BS (Int.tmod a1 zY)) (Int.tmod (wrap64 (a2 + (wrap64 (Int.tdiv a1 zY)))) BF))))) else (none)) else (none)) else (none)) else (none)) else (none)) else (none)))
def zw.T1 : Bool × List (List Nat × List Nat) := (true, [([], []), ([], []), ([1], [1]), ([0, 2], [0, 2]), ([], []), ([], []), ([5], [5]), ([4, 6], [4, 6]), ([3, 0, 1, 2, 3], [3]), ([7, 8, 0, 1, 2, 3, 4, 5, 6, 7, 8], [7])])
def zw.B1 : List Nat := [0, 0, 2, 7, 0, 0, 32, 112, 15, 511]
theorem zw.Zz : CX .any (opsOf Try.f67 1) = zw.T1 := by kernel_rfl
theorem zw.UT : Bi zw.T1.2 zw.B1 = true := by kernel_rfl
def zw.T3 : Bool × List (List Nat × List Nat) := (true, [([], []), ([0], [0]), ([1], [1]), ([2], [2]), ([], []), ([3, 4], [3, 4]), ([5], [5]), ([], []), ([6, 7], [6, 7]), ([8], [8]), ([], []), ([], []), ([11], [11]), ([10, 12], [10, 12]), ([], []), ([14], [14]), ([], []), ([15, 16], [15, 16]), ([17], [17]), ([], []), ([18, 19], [18, 19]), ([20], [20]), ([13, 21], [13, 21]), ([9, 22], [9, 22]), ([23, 0, 1, 2, 3, 4, 5, 6, 7, 8, 9, 10, 11, 12, 13, 14, 15, 16, 17, 18, 19, 20, 21, 22, 23], [23])])
def zw.B3 : List Nat := [0, 1, 3, 7, 0, 31, 63, 0, 255, 511, 0, 0, 2048, 7168, 0, 16384, 0, 114688, 245760, 0, 1032192, 2080768, 4193280, 8388607, 16777215]
theorem zw.Zy : CX .any (opsOf Try.f67 3) = zw.T3 := by kernel_rfl
theorem zw.UO : Bi zw.T3.2 zw.B3 = true := by kernel_rfl
set_option maxHeartbeats 8000000 in
set_option maxRecDepth 100000 in
theorem zw.calls (yn : Int) (yP : Option Addr) (yI : Nat) (yg : List (List Int)) (yo : Int) (yt : Int) (BF : Int) (Al : Int) (zY : Int) (F8 : Option Addr) (EX : Nat) (BS : List (List Int)) (FC : Option Addr) (EY : Nat) (Bn : List (List Int)) (DZ : Int) (CK : Int) (a1 : Int) (a2 : Int) (r1 : Int) (r2 : Int) (w : World) (zR : Kd.C (Kd.slice 3 (Kd.int .i64)) w yP yg.length yg) (zU : yg.length ≤ yI) (G9 : Kd.C (Kd.slice 3 (Kd.int .i64)) w F8 BS.length BS) (Ga : BS.length ≤ EX) (Gb : Kd.C (Kd.slice 3 (Kd.int .i64)) w FC Bn.length Bn) (Gc : Bn.length ≤ EY) (h : zw.f yn yg yo yt BF Al zY BS Bn DZ CK a1 a2 = some (r1, r2)) :
  Calls Try.prog 67 #[.agg #[.int .i64 yn, .slice yP yg.length yI, .int .i64 yo, .int .i64 yt, .int .i64 BF, .int .i64 Al, .int .i64 zY, .slice F8 BS.length EX, .slice FC Bn.length EY, .int .i64 DZ, .int .i64 CK], .int .i64 a1, .int .i64 a2] w fun e w' => e = .returned (.agg #[.int .i64 r1, .int .i64 r2]) ∧ Below w.heap.size w w' := by
 have Jm := Try.underlying102;have Lv := Try.underlying38;have zq := yf.mk zR;have zG := yf.mk zU;clear zR zU;have K4 := yf.mk G9;have LB := yf.mk Ga;clear G9 Ga;have K5 := yf.mk Gb;have LC := yf.mk Gc;clear Gb Gc;have HB := yf.mk (Below.refl w.heap.size w)
 have H : (if zY = 0 then (none) else (if BF = 0 then (none) else (if 0 ≤ (Int.tmod a1 zY) then (if (Int.tmod a1 zY) < (yg.length : Int) then (if 0 ≤ (Int.tmod (wrap64 (a2 + (wrap64 (Int.tdiv a1 zY)))) BF) then (if (Int.tmod (wrap64 (a2 + (wrap64 (Int.tdiv a1 zY)))) BF) < ((yT yg (Int.tmod a1 zY)).length : Int) then (if (Int.tmod a1 zY) < (BS.length : Int) then (if (Int.tmod (wrap64 (a2 + (wrap64 (Int.tdiv a1 zY)))) BF) < ((yT BS (Int.tmod a1 zY)).length : Int) then (some (rd (yT yg (Int.tmod a1 zY)) (Int.tmod (wrap64 (a2 + (wrap64 (Int.tdiv a1 zY)))) BF), wrap64 ((wrap64 ((wrap64 (Int.tdiv a1 zY)) * Al)) + (rd (yT BS (Int.tmod a1 zY)) (Int.tmod (wrap64 (a2 + (wrap64 (Int.tdiv a1 zY)))) BF))))) else (none)) else (none)) else (none)) else (none)) else (none)) else (none)))) = some (r1, r2) := h
 clear h
 by_cases c4 : zY = 0
 ·
  rw [if_pos c4] at H;exact absurd H (by simp)
 rw [if_neg c4] at H;have Ex := beq_eq_false_iff_ne.mpr c4;have KA := bne_iff_ne.mpr c4
 by_cases c5 : BF = 0
 ·
  rw [if_pos c5] at H;exact absurd H (by simp)
 rw [if_neg c5] at H;have Ez := beq_eq_false_iff_ne.mpr c5;have Jj := bne_iff_ne.mpr c5;obtain ⟨Dj, WS⟩ : ∃ j_ : Int, (Int.tmod a1 zY) = j_ := ⟨_, rfl⟩
 replace H : (if 0 ≤ (Dj) then (if (Dj) < (yg.length : Int) then (if 0 ≤ (Int.tmod (wrap64 (a2 + (wrap64 (Int.tdiv a1 zY)))) BF) then (if (Int.tmod (wrap64 (a2 + (wrap64 (Int.tdiv a1 zY)))) BF) < ((yT yg (Dj)).length : Int) then (if (Dj) < (BS.length : Int) then (if (Int.tmod (wrap64 (a2 + (wrap64 (Int.tdiv a1 zY)))) BF) < ((yT BS (Dj)).length : Int) then (some (rd (yT yg (Dj)) (Int.tmod (wrap64 (a2 + (wrap64 (Int.tdiv a1 zY)))) BF), wrap64 ((wrap64 ((wrap64 (Int.tdiv a1 zY)) * Al)) + (rd (yT BS (Dj)) (Int.tmod (wrap64 (a2 + (wrap64 (Int.tdiv a1 zY)))) BF))))) else (none)) else (none)) else (none)) else (none)) else (none)) else (none)) = some (r1, r2) := by (rw [WS] at H; exact H)
 by_cases c7 : 0 ≤ (Dj)
 rotate_left
 ·
  rw [if_neg c7] at H;exact absurd H (by simp)
 rw [if_pos c7] at H;have FR := decide_eq_true c7;clear c7
 by_cases c8 : (Dj) < (yg.length : Int)
 rotate_left
 ·
  rw [if_neg c8] at H;exact absurd H (by simp)
 rw [if_pos c8] at H;have Gl := decide_eq_true c8;clear c8;obtain ⟨J3, Qf⟩ : ∃ j_ : Int, (Int.tmod (wrap64 (a2 + (wrap64 (Int.tdiv a1 zY)))) BF) = j_ := ⟨_, rfl⟩
 replace H : (if 0 ≤ (J3) then (if (J3) < ((yT yg (Dj)).length : Int) then (if (Dj) < (BS.length : Int) then (if (J3) < ((yT BS (Dj)).length : Int) then (some (rd (yT yg (Dj)) (J3), wrap64 ((wrap64 ((wrap64 (Int.tdiv a1 zY)) * Al)) + (rd (yT BS (Dj)) (J3))))) else (none)) else (none)) else (none)) else (none)) = some (r1, r2) := by (rw [Qf] at H; exact H)
 by_cases c10 : 0 ≤ (J3)
 rotate_left
 ·
  rw [if_neg c10] at H;exact absurd H (by simp)
 rw [if_pos c10] at H;have Fv := decide_eq_true c10;clear c10
 by_cases c11 : (J3) < ((yT yg (Dj)).length : Int)
 rotate_left
 ·
  rw [if_neg c11] at H;exact absurd H (by simp)
 rw [if_pos c11] at H;have Gv := decide_eq_true c11;clear c11
 by_cases c12 : (Dj) < (BS.length : Int)
 rotate_left
 ·
  rw [if_neg c12] at H;exact absurd H (by simp)
 rw [if_pos c12] at H;have Jg := decide_eq_true c12;clear c12
 by_cases c13 : (J3) < ((yT BS (Dj)).length : Int)
 rotate_left
 ·
  rw [if_neg c13] at H;exact absurd H (by simp)
 rw [if_pos c13] at H;have Lh := decide_eq_true c13;clear c13;simp only [Option.some.injEq, Prod.mk.injEq] at H;obtain ⟨rfl, rfl⟩ := H
 go_enter Try.func67, Try.ntmps67
 try go_wp2_with (first | ((with_reducible refine yK (N := 3) rfl ?_); refine yE rfl (N := 3) rfl (cs := #[.int .i64 yn, .slice yP yg.length yI, .int .i64 yo, .int .i64 yt, .int .i64 BF, .int .i64 Al, .int .i64 zY, .slice F8 BS.length EX, .slice FC Bn.length EY, .int .i64 DZ, .int .i64 CK]) (t := 102) (by go_simp) ?_; intro ag hg w14 yG hb; have af := yf.mk (yG); have bH := bG (w := w) hg; have bJ := bG (w := w) hg; replace HB := bS HB hb; clear hb yG hg) | ((with_reducible refine yK (N := 6) rfl ?_); refine yE rfl (N := 6) rfl (cs := #[.int .i64 0, .int .i64 0]) (t := 38) (by go_simp) ?_; intro aa hg w15 yG hb; have ah := yf.mk (yG); have ai := bG (w := w) hg; have bC := bG (w := w) hg; have ae := BL af hg; have aI := Ag af hg; replace af := bB af hb; replace HB := bS HB hb; clear hb yG hg))
 replace af := yf.mk (yZ af.out);replace ah := yf.mk (yZ ah.out);replace HB := yf.mk (ze HB.out)
 refine AV (n := 10) (S := fun w' => w'.cell? ⟨ag, 0, none⟩ = some (.int .i64 yn) ∧ w'.cell? ⟨ag, 1, none⟩ = some (.slice yP yg.length yI) ∧ w'.cell? ⟨ag, 2, none⟩ = some (.int .i64 yo) ∧ w'.cell? ⟨ag, 3, none⟩ = some (.int .i64 yt) ∧ w'.cell? ⟨ag, 4, none⟩ = some (.int .i64 BF) ∧ w'.cell? ⟨ag, 5, none⟩ = some (.int .i64 Al) ∧ w'.cell? ⟨ag, 6, none⟩ = some (.int .i64 zY) ∧ w'.cell? ⟨ag, 7, none⟩ = some (.slice F8 BS.length EX) ∧ w'.cell? ⟨ag, 8, none⟩ = some (.slice FC Bn.length EY) ∧ w'.cell? ⟨ag, 9, none⟩ = some (.int .i64 DZ) ∧ w'.cell? ⟨ag, 10, none⟩ = some (.int .i64 CK)) (ds := []) (bz 10 0) (by kernel_rfl) rfl rfl (Dt af) (fun hHeld => ?_); refine zQ zw.Zz zw.UT (fun yD AZ => ?_)
 generalize w15.drew = w16 at af ah HB hHeld ⊢;refine pU 0 10 10 1 yD ?_;refine pU 1 11 10 3 yD ?_;refine pU 4 14 10 19 yD ?_;refine pU 5 15 10 51 yD ?_
 refine BQ 2 12 10 55 yD AZ hHeld ?_
 refine pU 3 13 10 63 yD ?_;refine pU 8 7 10 319 yD ?_
 refine BQ 6 16 10 383 yD AZ hHeld ?_
 refine pU 7 17 10 511 yD ?_;refine pU 9 8 10 1023 yD ?_
 refine BI (Az yD.out (by kernel_rfl)) ?_
 have XE := ae.out;have XF := aI.out;have Uz := Dt af;have UA := bf af
 try go_wp2
 replace af := yf.mk (yZ af.out);replace ah := yf.mk (yZ ah.out);replace HB := yf.mk (ze HB.out)
 have aJ : 0 ≤ ((Dj) : Int) := of_decide_eq_true ‹_›
 have ay : (Dj) < (yg.length : Int) := of_decide_eq_true ‹_›
 obtain ⟨aT, bF, bq, bv, av, aZ, aW⟩ := Dw zq.out (Dj) aJ ay;have aA := av;cases bv;replace av := cB HB av;have bg := yf.mk aW;have bI := yf.mk aZ;clear aW aZ;replace aJ := eq_true aJ;replace ay := eq_true ay
 have ax : 0 ≤ ((J3) : Int) := of_decide_eq_true ‹_›
 have aK : (J3) < ((yT yg (Dj)).length : Int) := of_decide_eq_true ‹_›
 obtain ⟨aU, bn, ak⟩ := Kd.Bv bg.out (J3) ax aK;have az := ak;cases bn;replace ak := cB HB ak;replace ax := eq_true ax;replace aK := eq_true aK
 have aN : 0 ≤ ((Dj) : Int) := of_decide_eq_true ‹_›
 have aG : (Dj) < (BS.length : Int) := of_decide_eq_true ‹_›
 obtain ⟨aX, bA, bu, e283, aj, aV, aY⟩ := Dw K4.out (Dj) aN aG;have aC := aj;cases e283;replace aj := cB HB aj;have aQ := yf.mk aY;have bD := yf.mk aV;clear aY aV;replace aN := eq_true aN;replace aG := eq_true aG
 have aD : 0 ≤ ((J3) : Int) := of_decide_eq_true ‹_›
 have aM : (J3) < ((yT BS (Dj)).length : Int) := of_decide_eq_true ‹_›
 obtain ⟨bi, e284, au⟩ := Kd.Bv aQ.out (J3) aD aM;have aH := au;cases e284;replace au := cB HB au;replace aD := eq_true aD;replace aM := eq_true aM
 refine AV (n := 25) (S := fun w' => w'.cell? ⟨ag, 0, none⟩ = some (.int .i64 yn) ∧ w'.cell? ⟨ag, 1, none⟩ = some (.slice (some aT) yg.length yI) ∧ w'.cell? ⟨ag, 2, none⟩ = some (.int .i64 yo) ∧ w'.cell? ⟨ag, 3, none⟩ = some (.int .i64 yt) ∧ w'.cell? ⟨ag, 4, none⟩ = some (.int .i64 BF) ∧ w'.cell? ⟨ag, 5, none⟩ = some (.int .i64 Al) ∧ w'.cell? ⟨ag, 6, none⟩ = some (.int .i64 zY) ∧ w'.cell? ⟨ag, 7, none⟩ = some (.slice (some aX) BS.length EX) ∧ w'.cell? ⟨ag, 8, none⟩ = some (.slice FC Bn.length EY) ∧ w'.cell? ⟨ag, 9, none⟩ = some (.int .i64 DZ) ∧ w'.cell? ⟨ag, 10, none⟩ = some (.int .i64 CK) ∧ w'.cell? (aT.add ((Dj)).toNat) = some (.slice (some aU) (yT yg (Dj)).length bq) ∧ w'.cell? (aU.add ((J3)).toNat) = some (.int .i64 (rd (yT yg (Dj)) (J3))) ∧ w'.cell? (aX.add ((Dj)).toNat) = some (.slice (some bi) (yT BS (Dj)).length bu) ∧ w'.cell? (bi.add ((J3)).toNat) = some (.int .i64 (rd (yT BS (Dj)) (J3)))) (ds := []) (bz 25 0) (by kernel_rfl) rfl rfl ⟨(yz af.out 0).trans rfl, (yz af.out 1).trans rfl, (yz af.out 2).trans rfl, (yz af.out 3).trans rfl, (yz af.out 4).trans rfl, (yz af.out 5).trans rfl, (yz af.out 6).trans rfl, (yz af.out 7).trans rfl, (yz af.out 8).trans rfl, (yz af.out 9).trans rfl, (yz af.out 10).trans rfl, (cB HB aA), (cB HB az), (cB HB aC), (cB HB aH)⟩ (fun hHeld => ?_); refine zQ zw.Zy zw.UO (fun yD AZ => ?_)
 generalize w16.drew = w19 at af ah HB bg aQ av ak aj au hHeld ⊢;refine pU 0 24 25 1 yD ?_;refine pU 1 25 25 3 yD ?_;refine pU 2 26 25 7 yD ?_;refine pU 4 28 25 23 yD ?_;refine pU 7 31 25 151 yD ?_;refine pU 10 34 25 1175 yD ?_;refine pU 11 35 25 3223 yD ?_;refine pU 14 38 25 19607 yD ?_;refine pU 16 40 25 85143 yD ?_;refine pU 19 43 25 609431 yD ?_
 refine BQ 3 27 25 609439 yD AZ hHeld ?_
 refine pU 5 29 25 609471 yD ?_
 refine BQ 6 30 25 609535 yD AZ hHeld ?_
 refine pU 8 32 25 609791 yD ?_
 refine BQ 9 33 25 610303 yD AZ hHeld ?_
 refine BQ 12 36 25 614399 yD AZ hHeld ?_
 refine pU 13 37 25 622591 yD ?_
 refine BQ 15 39 25 655359 yD AZ hHeld ?_
 refine pU 17 41 25 786431 yD ?_
 refine BQ 18 42 25 1048575 yD AZ hHeld ?_
 refine pU 20 44 25 2097151 yD ?_
 refine BQ 21 45 25 4194303 yD AZ hHeld ?_
 refine pU 22 46 25 8388607 yD ?_;refine pU 23 47 25 16777215 yD ?_
 refine BP (i := 24) (N := none) (bz 25 33554431) rfl rfl (Af yD.out (by kernel_rfl)) (by decide) (fun K hK => ?_)
 have a2X : w19.cell? ⟨aa, 0, none⟩ = some (.int .i64 0) := (yz ah.out 0).trans rfl
 have a0W := zm ah.out 0;have WT := ae.out;have WU := aI.out
 have a0X : w19.cell? ⟨aa, 1, none⟩ = some (.int .i64 0) := (yz ah.out 1).trans rfl
 have XW := zm ah.out 1;have Rs := ae.out;have Rt := aI.out
 refine G5 (w1 := ?_) (by rfl) rfl ?_ ?_
 rotate_left
 ·
  go_simp
  rfl
 refine hK.out _ _ ⟨((cell_far (p := ⟨aa, _, none⟩) ae.out _).trans (((cell_far (p := ⟨aa, _, none⟩) ae.out _).trans (hHeld.1)))), ((cell_far (p := ⟨aa, _, none⟩) ae.out _).trans (((cell_far (p := ⟨aa, _, none⟩) ae.out _).trans (hHeld.2.1)))), ((cell_far (p := ⟨aa, _, none⟩) ae.out _).trans (((cell_far (p := ⟨aa, _, none⟩) ae.out _).trans (hHeld.2.2.1)))), ((cell_far (p := ⟨aa, _, none⟩) ae.out _).trans (((cell_far (p := ⟨aa, _, none⟩) ae.out _).trans (hHeld.2.2.2.1)))), ((cell_far (p := ⟨aa, _, none⟩) ae.out _).trans (((cell_far (p := ⟨aa, _, none⟩) ae.out _).trans (hHeld.2.2.2.2.1)))), ((cell_far (p := ⟨aa, _, none⟩) ae.out _).trans (((cell_far (p := ⟨aa, _, none⟩) ae.out _).trans (hHeld.2.2.2.2.2.1)))), ((cell_far (p := ⟨aa, _, none⟩) ae.out _).trans (((cell_far (p := ⟨aa, _, none⟩) ae.out _).trans (hHeld.2.2.2.2.2.2.1)))), ((cell_far (p := ⟨aa, _, none⟩) ae.out _).trans (((cell_far (p := ⟨aa, _, none⟩) ae.out _).trans (hHeld.2.2.2.2.2.2.2.1)))), ((cell_far (p := ⟨aa, _, none⟩) ae.out _).trans (((cell_far (p := ⟨aa, _, none⟩) ae.out _).trans (hHeld.2.2.2.2.2.2.2.2.1)))), ((cell_far (p := ⟨aa, _, none⟩) ae.out _).trans (((cell_far (p := ⟨aa, _, none⟩) ae.out _).trans (hHeld.2.2.2.2.2.2.2.2.2.1)))), ((cell_far (p := ⟨aa, _, none⟩) ae.out _).trans (((cell_far (p := ⟨aa, _, none⟩) ae.out _).trans (hHeld.2.2.2.2.2.2.2.2.2.2.1)))), ((cell_far (p := ⟨aa, _, none⟩) (by exact Nat.ne_of_lt (Nat.lt_of_lt_of_le (by have := World.block_lt_of_cell? _ _ aA; exact this) ai.out)) _).trans (((cell_far (p := ⟨aa, _, none⟩) (by exact Nat.ne_of_lt (Nat.lt_of_lt_of_le (by have := World.block_lt_of_cell? _ _ aA; exact this) ai.out)) _).trans (hHeld.2.2.2.2.2.2.2.2.2.2.2.1)))), ((cell_far (p := ⟨aa, _, none⟩) (by exact Nat.ne_of_lt (Nat.lt_of_lt_of_le (by have := World.block_lt_of_cell? _ _ az; exact this) ai.out)) _).trans (((cell_far (p := ⟨aa, _, none⟩) (by exact Nat.ne_of_lt (Nat.lt_of_lt_of_le (by have := World.block_lt_of_cell? _ _ az; exact this) ai.out)) _).trans (hHeld.2.2.2.2.2.2.2.2.2.2.2.2.1)))), ((cell_far (p := ⟨aa, _, none⟩) (by exact Nat.ne_of_lt (Nat.lt_of_lt_of_le (by have := World.block_lt_of_cell? _ _ aC; exact this) ai.out)) _).trans (((cell_far (p := ⟨aa, _, none⟩) (by exact Nat.ne_of_lt (Nat.lt_of_lt_of_le (by have := World.block_lt_of_cell? _ _ aC; exact this) ai.out)) _).trans (hHeld.2.2.2.2.2.2.2.2.2.2.2.2.2.1)))), ((cell_far (p := ⟨aa, _, none⟩) (by exact Nat.ne_of_lt (Nat.lt_of_lt_of_le (by have := World.block_lt_of_cell? _ _ aH; exact this) ai.out)) _).trans (((cell_far (p := ⟨aa, _, none⟩) (by exact Nat.ne_of_lt (Nat.lt_of_lt_of_le (by have := World.block_lt_of_cell? _ _ aH; exact this) ai.out)) _).trans (hHeld.2.2.2.2.2.2.2.2.2.2.2.2.2.2))))⟩ (fun hHeld => ?_)
 clear hK K
 refine BI (Az yD.out (by kernel_rfl)) ?_
 try go_wp2
 refine bodyPost_ret (results_cell_row rfl _ _ aa 38 #[.int .i64 (rd (yT yg (Dj)) (J3)), .int .i64 (wrap64 ((wrap64 ((wrap64 (Int.tdiv a1 zY)) * Al)) + (rd (yT BS (Dj)) (J3))))] (0, 0) _ rfl (CF ah rfl) Try.underlying38 rfl (by kernel_rfl)) rfl ?_
 exact ⟨by rfl, bO HB⟩
end Go.Proofs.Ytjonnfmoocijlaa.P
namespace Go.Proofs.Ytjonnfmoocijlaa.P
open Go.RowKit Go.Proofs.YtjonnfmoocijlaaKW.PrintWords Go.Proofs.YtjonnfmoocijlaaKW.PrintLast Go.Proofs.YtjonnfmoocijlaaKW.PrintMore
def LD (gi : Nat) (p : List (List Int) × List Int) (x : Int) : List (List Int) × List Int := (p.1.set x.toNat (p.1.getD x.toNat [] ++ [(gi : Int)]), p.2 ++ [((p.1.getD x.toNat []).length : Int)])
def TH (gi : Nat) (g : List Int) (on : List (List Int)) : List (List Int) × List Int := g.foldl (LD gi) (on, [])
def mGo (s : List (List Int) × List (List Int)) (y : List Int × Nat) : List (List Int) × List (List Int) := ((TH y.2 y.1 s.1).1, s.2 ++ [(TH y.2 y.1 s.1).2])
def FN (d : Nat) (L : List (List Int)) : List (List Int) × List (List Int) := L.zipIdx.foldl mGo (List.replicate d [], [])
def MOk (d : Int) (L : List (List Int)) : Prop := L.length ≤ 4096 ∧ ∀ g ∈ L, g.length ≤ 60 ∧ ∀ x ∈ g, 0 ≤ x ∧ x < d
instance (d : Int) (L : List (List Int)) : Decidable (MOk d L) := by unfold MOk; infer_instance
def layout_measure_fin (d : Int) (L : List (List Int)) (T S W r n h c : Int) : Option (Int × (List (List Int)) × Int × Int × Int × Int × Int × (List (List Int)) × (List (List Int)) × Int × Int × Bool) :=
 if MOk d L then some (d, L, T, S, W, r, n, (FN d.toNat L).2, (FN d.toNat L).1, h, c, true) else none
theorem OU (gi : Nat) (g : List Int) (on : List (List Int)) (j : Nat) (h : j < g.length) : TH gi (g.take (j + 1)) on = LD gi (TH gi (g.take j) on) g[j] := by
 unfold TH
 rw [List.take_succ_eq_append_getElem h, List.foldl_append]
 rfl
def E5 (d : Nat) (L : List (List Int)) (i : Nat) : List (List Int) × List (List Int) := (L.zipIdx.take i).foldl mGo (List.replicate d [], [])
theorem Hy (d : Nat) (L : List (List Int)) : E5 d L 0 = (List.replicate d [], []) := rfl
theorem K6 (d : Nat) (L : List (List Int)) (i : Nat) (h : i < L.length) : E5 d L (i + 1) = mGo (E5 d L i) (L[i], i) := by
 unfold E5
 rw [List.take_succ_eq_append_getElem (by simpa using h), List.foldl_append]
 simp
theorem Qm (d : Nat) (L : List (List Int)) : E5 d L L.length = FN d L := by
 unfold E5 FN
 rw [List.take_of_length_le (by simp)]
def Bd (n b : Nat) (on : List (List Int)) : Prop := on.length = n ∧ ∀ k, (on.getD k []).length ≤ b
theorem Bd.step {n b gi : Nat} {p : List (List Int) × List Int} (h : Bd n b p.1) (x : Int) : Bd n (b + 1) (LD gi p x).1 := by
  refine ⟨by simp [LD, h.1], fun k => ?_⟩
  simp only [LD]
  have h1 := h.2 k
  have h2 := h.2 x.toNat
  rw [List.getD_eq_getElem?_getD] at h1 h2 ⊢
  rw [List.getElem?_set]
  split
  · split
    · simp only [Option.getD_some, List.length_append, List.length_singleton, List.getD_eq_getElem?_getD]; omega
    · simp
  · omega
theorem Bd.row (n b gi : Nat) (g : List Int) (on : List (List Int)) (h : Bd n b on) : ∀ j, j ≤ g.length → Bd n (b + j) (TH gi (g.take j) on).1 ∧ (TH gi (g.take j) on).2.length = j
 | 0, _ => ⟨h, rfl⟩
 | j + 1, hj => by
  obtain ⟨h1, h2⟩ := Bd.row n b gi g on h j (by omega)
  rw [OU gi g on j (by omega)]
  exact ⟨h1.step _, by simp [LD, h2]⟩
theorem Bd.mono {n b b' : Nat} {on : List (List Int)} (h : Bd n b on) (hb : b ≤ b') : Bd n b' on := ⟨h.1, fun k => Nat.le_trans (h.2 k) hb⟩
theorem Bd.all (d : Nat) (L : List (List Int)) (hL : ∀ g ∈ L, g.length ≤ 60) : ∀ i, i ≤ L.length → Bd d (i * 60) (E5 d L i).1 ∧ (E5 d L i).2.length = i
 | 0, _ => ⟨⟨by simp [Hy], fun k => by simp only [Hy, List.getD_eq_getElem?_getD, List.getElem?_replicate]; split <;> simp⟩, rfl⟩
 | i + 1, hi => by
  obtain ⟨h1, h2⟩ := Bd.all d L hL i (by omega)
  rw [K6 d L i (by omega)]
  have h3 := (Bd.row _ _ i L[i] _ h1 L[i].length (Nat.le_refl _)).1
  rw [List.take_of_length_le (Nat.le_refl _)] at h3
  exact ⟨h3.mono (by have := hL _ (List.getElem_mem (show i < L.length by omega)); rw [Nat.succ_mul]; omega), by simp [mGo, h2]⟩
def IU (W : World) (base : Nat) (on : List (List Int)) (vo : Value) (rk : List (List Int)) (vr : Value) (row : List Int) (v : Value) : Prop :=
 ∃ oO oR oT : Nat → Prop, Kd.S (Kd.slice 3 (Kd.int .i64)) 63 W base oO vo on ∧ Kd.R (Kd.slice 3 (Kd.int .i64)) 63 W base oR vr rk ∧ Kd.R (Kd.int .i64) 3 W base oT v row ∧
  (∀ k, oO k → ¬ oR k ∧ ¬ oT k) ∧ (∀ k, oR k → ¬ oT k) ∧ (∀ k, oO k ∨ oR k ∨ oT k → k < W.heap.size)
section
variable {W w1 : World} {base bo c : Nat} {on rk : List (List Int)} {vo vr v v1 vr1 : Value} {row row' xs' : List Int} {oO oR oT : Nat → Prop}
theorem IU.step {W w1 : World} (h : IU W base on vo rk vr row v) (hb : Below W.heap.size W w1) : IU w1 base on vo rk vr row v := by
 obtain ⟨oO, oR, oT, hS, hR, hT, d1, d2, d3⟩ := h
 exact ⟨oO, oR, oT, Kd.EI hS hb, Kd.Bh hR hb, Kd.Bh hT hb, d1, d2, fun k hk => Nat.lt_of_lt_of_le (d3 k hk) hb.size⟩
theorem IU.drew (h : IU W base on vo rk vr row v) : IU W.drew base on vo rk vr row v := h.step (ES (Below.refl W.heap.size W))
theorem IU.far {p : Addr} {o : Array Value} {t : Nat} (h : IU W base on vo rk vr row v) (hp : W.heap[p.block]? = some (.cells o t (0, 0))) (ht1 : 63 ≠ t) (ht2 : 3 ≠ t) (u : Value) : IU (W.setCell p u) base on vo rk vr row v := by
 obtain ⟨oO, oR, oT, hS, hR, hT, d1, d2, d3⟩ := h
 have hq : ∀ q, q ∈ 63 :: (Kd.slice 3 (Kd.int .i64)).E → q ≠ t := by
  intro q hq
  simp only [Kd.slice, Kd.int, Kd.scalar, List.mem_cons, List.not_mem_nil, or_false] at hq
  rcases hq with rfl | rfl
  · exact ht1
  · exact ht2
 have hq' : ∀ q, q ∈ 3 :: (Kd.int .i64).E → q ≠ t := by
  intro q hq
  simp only [Kd.int, Kd.scalar, List.mem_cons, List.not_mem_nil, or_false] at hq
  rcases hq with rfl
  exact ht2
 exact ⟨fun k => oO k ∧ k ≠ p.block, fun k => oR k ∧ k ≠ p.block, fun k => oT k ∧ k ≠ p.block, Kd.Gt (Kd.BD hS hp hq) (fun k hk => hk.2) u, Kd.J6 (Kd.AU hR hp hq) (fun k hk => hk.2) u, Kd.J6 (Kd.AU hT hp hq') (fun k hk => hk.2) u,
  fun k hk => ⟨fun h2 => (d1 k hk.1).1 h2.1, fun h2 => (d1 k hk.1).2 h2.1⟩, fun k hk h2 => d2 k hk.1 h2.1, fun k hk => by
   have : k < W.heap.size := d3 k (hk.elim (fun h => .inl h.1) (fun h => h.elim (fun h => .inr (.inl h.1)) (fun h => .inr (.inr h.1))))
   simpa [World.setCell] using this⟩
theorem IU.push (hS : Kd.S (Kd.slice 3 (Kd.int .i64)) 63 W base oO vo on) (hR : Kd.R (Kd.slice 3 (Kd.int .i64)) 63 W base oR vr rk) (hT : Kd.R (Kd.int .i64) 3 W base oT v row)
    (d1 : ∀ k, oO k → ¬ oR k ∧ ¬ oT k) (d2 : ∀ k, oR k → ¬ oT k) (d3 : ∀ k, oO k ∨ oR k ∨ oT k → k < W.heap.size) (ho : Kd.R (Kd.int .i64) 3 w1 base (fun k => oT k ∨ W.heap.size ≤ k) v1 row') (hg : W.grownBy w1 v.ownBlock) : IU w1 base on vo rk vr row' v1 := by
  refine ⟨oO, oR, fun k => (oT k ∨ W.heap.size ≤ k) ∧ k < w1.heap.size, Kd.R8 hS hg (fun k hk e => (d1 k hk).2 (hT.1 k e.symm)), Kd.Nv hR hg (fun k hk e => d2 k hk (hT.1 k e.symm)), Kd.zb (Kd.Dl ho) (fun k h => ⟨h.1, h.2.2.1⟩), ?_, ?_, ?_⟩
  · exact fun k hk => ⟨(d1 k hk).1, fun h2 => h2.1.elim (d1 k hk).2 (fun h3 => by have := d3 k (.inl hk); omega)⟩
  · exact fun k hk h2 => h2.1.elim (d2 k hk) (fun h3 => by have := d3 k (.inr (.inl hk)); omega)
  · have := hg.size
    exact fun k hk => hk.elim (fun h => Nat.lt_of_lt_of_le (d3 k (.inl h)) this) (fun h => h.elim (fun h => Nat.lt_of_lt_of_le (d3 k (.inr (.inl h))) this) (fun h => h.2))
theorem IU.rank (hS : Kd.S (Kd.slice 3 (Kd.int .i64)) 63 W base oO vo on) (hR : Kd.R (Kd.slice 3 (Kd.int .i64)) 63 W base oR vr rk)
    (d1 : ∀ k, oO k → ¬ oR k ∧ ¬ oT k) (d3 : ∀ k, oO k ∨ oR k ∨ oT k → k < W.heap.size) (ho : Kd.R (Kd.slice 3 (Kd.int .i64)) 63 w1 base (fun k => (oR k ∨ oT k) ∨ W.heap.size ≤ k) vr1 (rk ++ [row])) (hg : W.grownBy w1 vr.ownBlock) :
    IU w1 base on vo (rk ++ [row]) vr1 [] (.slice none 0 0) := by
  refine ⟨oO, fun k => ((oR k ∨ oT k) ∨ W.heap.size ≤ k) ∧ k < w1.heap.size, fun _ => False, Kd.R8 hS hg (fun k hk e => (d1 k hk).1 (hR.1 k e.symm)), Kd.zb (Kd.Dl ho) (fun k h => ⟨h.1, h.2.2.1⟩), Kd.Dh _ _ _ _ _, ?_, ?_, ?_⟩
  · exact fun k hk => ⟨fun h2 => h2.1.elim (fun h => h.elim (d1 k hk).1 (d1 k hk).2) (fun h3 => by have := d3 k (.inl hk); omega), id⟩
  · exact fun k hk => id
  · have := hg.size
    exact fun k hk => hk.elim (fun h => Nat.lt_of_lt_of_le (d3 k (.inl h)) this) (fun h => h.elim (fun h => h.2) (fun h => h.elim))
theorem IU.start {ok : Nat → Prop} (hS : Kd.S (Kd.slice 3 (Kd.int .i64)) 63 W base ok vo on) : IU W base on vo [] (.slice none 0 0) [] (.slice none 0 0) :=
 ⟨fun k => ok k ∧ k < W.heap.size, fun _ => False, fun _ => False, Kd.Bw (Kd.Jc hS) (fun k h => ⟨h.1, h.2.2.1⟩), Kd.Dh _ _ _ _ _, Kd.Dh _ _ _ _ _, fun _ _ => ⟨id, id⟩, fun _ h => h.elim, fun k hk => hk.elim (fun h => h.2) (fun h => h.elim (fun h => h.elim) (fun h => h.elim))⟩
theorem IU.head {A : Option Addr} {n : Nat} (h : IU W base on (.slice A n c) rk vr row v) (dd : Nat) (hd : dd < n) : n = on.length ∧ ∃ bo, A = some ⟨bo, 0, none⟩ := by
 obtain ⟨oO, oR, oT, hS, hR, hT, d1, d2, d3⟩ := h
 have h1 := Kd.Ca hS
 obtain ⟨ad, hA, _⟩ := h1.2.2.2.2 (by omega)
 subst hA
 exact ⟨h1.1, Kd.YU (Kd.Wl hS) |>.imp fun g hg => by rw [hg]⟩
theorem IU.ZA (h : IU W base on (.slice (some ⟨bo, 0, none⟩) on.length c) rk vr row v) (dd : Nat) (hd : dd < on.length) :
    ∃ (oi : Nat → Prop) (vd : Value), Kd.R (Kd.int .i64) 3 W base oi vd (on.getD dd []) ∧ W.cell? ⟨bo, dd, none⟩ = some vd ∧ (∀ j, W.frozen? ⟨bo, j, none⟩ = false) ∧ bo < W.heap.size ∧ base ≤ bo ∧ (∀ k, vd.ownBlock = some k → k ≠ bo) ∧ (∃ cells, W.heap[bo]? = some (.cells cells 63 (0, 0))) ∧
      ∀ w1 v1 xs', Kd.R (Kd.int .i64) 3 w1 base (fun k => oi k ∨ W.heap.size ≤ k) v1 xs' → W.grownBy w1 vd.ownBlock → IU (w1.setCell ⟨bo, dd, none⟩ v1) base (on.set dd xs') (.slice (some ⟨bo, 0, none⟩) on.length c) rk vr row v := by
  obtain ⟨oO, oR, oT, hS, hR, hT, d1, d2, d3⟩ := h
  have hbo : oO bo := hS.elim fun f hf => hf.1 bo rfl
  have hlt := d3 bo (.inl hbo)
  obtain ⟨oki, cc, hcl, ⟨vd, rfl, hM⟩, hcc, hfr, hoki, H⟩ := Kd.Z5 hS [] (dd : Int) (by omega) (by omega)
  rw [Int.toNat_natCast] at hM hcc hfr
  refine ⟨oki, vd, hM, by have := hcc 0 _ rfl; simpa [Kd.slice] using this, fun j => ?_, hlt, Kd.Q4 hS bo rfl, fun k hk => (hoki k (hM.1 k hk)).2, ?_, fun w1 v1 xs' ho hg => ?_⟩
  · obtain ⟨cells, hce⟩ := Kd.KM (Kd.Wl hS) bo rfl
    exact zm hce j
  · exact Kd.KM (Kd.Wl hS) bo rfl
  · have hvd : ∀ k, vd.ownBlock = some k → oO k := fun k hk => (hoki k (hM.1 k hk)).1
    have H2 := Kd.Wz (Kd.Wy (Kd.Z4 H (ok' := fun k => oO k ∨ W.heap.size ≤ k) (fun k hk => .inl hk))) hg (fun k hk => .inl (hM.1 k hk))
    have hv1 : v1.oneCell' = true := (Kd.Xk ho).2
    obtain ⟨H3, hg3⟩ := Kd.a0x H2 (by omega) (by omega) (seg := [v1]) (j := 0) (by simp [Kd.slice]) (by intro q hq; simp only [List.mem_singleton] at hq; subst hq; exact hv1)
    rw [Int.toNat_natCast] at H3 hg3
    have e1 : w1.setCells bo (dd * (Kd.slice 3 (Kd.int .i64)).sz + 0) [v1] = w1.setCell ⟨bo, dd, none⟩ v1 := by
      rw [show dd * (Kd.slice 3 (Kd.int .i64)).sz + 0 = dd from Nat.mul_one dd]; rfl
    rw [e1] at H3 hg3
    have hRw : Kd.R (Kd.int .i64) 3 (w1.setCell ⟨bo, dd, none⟩ v1) base (fun k => oki k ∨ W.heap.size ≤ k) v1 xs' := Kd.J6 ho (fun k hk => by
      rcases hk with hk | hk
      · exact (hoki k hk).2
      · show k ≠ bo
        omega) v1
    have aa := Kd.YZ H3 (x' := xs') (Kd.R4 hRw) (fun k hk => hk.elim .inl (fun h => .inr ⟨.inr h, h⟩))
    rw [Int.toNat_natCast] at aa
    have hgs : W.heap.size ≤ (w1.setCell ⟨bo, dd, none⟩ v1).heap.size := Nat.le_trans hg.size hg3.size
    refine ⟨fun k => (oO k ∨ W.heap.size ≤ k) ∧ k < (w1.setCell ⟨bo, dd, none⟩ v1).heap.size, oR, oT, Kd.Bw (Kd.Jc aa) (fun k h => ⟨h.1, h.2.2.1⟩),
      Kd.J6 (p := ⟨bo, dd, none⟩) (Kd.Nv hR hg (fun k hk e => (d1 k (hvd k e.symm)).1 hk)) (fun k hk e => (d1 bo hbo).1 ((show k = bo from e) ▸ hk)) v1,
      Kd.J6 (p := ⟨bo, dd, none⟩) (Kd.Nv hT hg (fun k hk e => (d1 k (hvd k e.symm)).2 hk)) (fun k hk e => (d1 bo hbo).2 ((show k = bo from e) ▸ hk)) v1, ?_, d2, ?_⟩
    · refine fun k hk => ⟨fun h2 => hk.1.elim (fun h => (d1 k h).1 h2) (fun h => by have := d3 k (.inr (.inl h2)); omega), fun h2 => hk.1.elim (fun h => (d1 k h).2 h2) (fun h => by have := d3 k (.inr (.inr h2)); omega)⟩
    · exact fun k hk => hk.elim (fun h => h.2) (fun h => Nat.lt_of_lt_of_le (d3 k (.inr h)) hgs)
end
def K7 : Bool × List (List Nat × List Nat) := (true, [([], []), ([0], [0]), ([], []), ([], []), ([3], [3]), ([], []), ([4, 5], [4, 5]), ([6], [6]), ([], []), ([8], [8]), ([7, 9], [7, 9]), ([1, 2, 0, 1, 2, 3, 4, 5, 6, 7, 8, 9, 10], [1, 2]), ([11, 10, 10, 0, 1, 2, 3, 4, 5, 6, 7, 8, 9, 10], [10, 11])])
def OV : List Nat := [0, 1, 0, 0, 8, 0, 56, 120, 0, 256, 1016, 2047, 4095]
theorem Mt : CX .any (opsOf Try.f61 20) = K7 := by kernel_rfl
theorem LF : Bi K7.2 OV = true := by kernel_rfl
end Go.Proofs.Ytjonnfmoocijlaa.P
