/- Texts of a claim, packed. -/
import Derived.Test.YtjonnfmoocijlaaC2
import Derived.Test.YtjonnfmoocijlaaC4
set_option linter.all false
namespace Go.Proofs.Ytjonnfmoocijlaa.P
open Go.RowKit Go.Proofs.YtjonnfmoocijlaaKW.PrintWords Go.Proofs.YtjonnfmoocijlaaKW.PrintLast Go.Proofs.YtjonnfmoocijlaaKW.PrintMore
attribute [local go_sem] zO zP Aj Ak zC zD zQ zR
def zL.f (yn : Int) (yh : List (List Int)) (yo : Int) (yu : Int) (DK : Int) (BB : Int) (AY : Int) (CX : List (List Int)) (Ez : List (List Int)) (FO : Int) (Em : Int) (a1 : Int) (a2 : Int) : Option (Int × Int) := if AY = 0 then (none) else (if DK = 0 then (none) else (if 0 ≤ (Int.tmod a1 AY) then (if (Int.tmod a1 AY) < (yh.length : Int) then (if 0 ≤ (Int.tmod (wrap64 (a2 + (wrap64 (Int.tdiv a1 AY)))) DK) then (if (Int.tmod (wrap64 (a2 + (wrap64 (Int.tdiv a1 AY)))) DK) < ((zt yh (Int.tmod a1 AY)).length : Int) then (if (Int.tmod a1 AY) < (CX.length : Int) then (if (Int.tmod (wrap64 (a2 + (wrap64 (Int.tdiv a1 AY)))) DK) < ((zt CX (Int.tmod a1 AY)).length : Int) then (some (rd (zt yh (Int.tmod a1 AY)) (Int.tmod (wrap64 (a2 + (wrap64 (Int.tdiv a1 AY)))) DK), wrap64 ((wrap64 ((wrap64 (Int.tdiv a1 AY)) * BB)) + (rd (zt CX (Int.tmod a1 AY)) (Int.tmod (wrap64 (a2 + (wrap64 (Int.tdiv a1 AY)))) DK))))) else (none)) else (none)) else (none)) else (none)) else (none)) else (none)))
def zL.T1 : Bool × List (List Nat × List Nat) := (true, [([], []), ([], []), ([1], [1]), ([0, 2], [0, 2]), ([], []), ([], []), ([5], [5]), ([4, 6], [4, 6]), ([3, 0, 1, 2, 3], [3]), ([7, 8, 0, 1, 2, 3, 4, 5, 6, 7, 8], [7])])
def zL.B1 : List Nat := [0, 0, 2, 7, 0, 0, 32, 112, 15, 511]
theorem zL.a2w : CZ .any (opsOf Try.f67 1) = zL.T1 := by kernel_rfl
theorem zL.WV : BD zL.T1.2 zL.B1 = true := by kernel_rfl
def zL.T3 : Bool × List (List Nat × List Nat) := (true, [([], []), ([0], [0]), ([1], [1]), ([2], [2]), ([], []), ([3, 4], [3, 4]), ([5], [5]), ([], []), ([6, 7], [6, 7]), ([8], [8]), ([], []), ([], []), ([11], [11]), ([10, 12], [10, 12]), ([], []), ([14], [14]), ([], []), ([15, 16], [15, 16]), ([17], [17]), ([], []), ([18, 19], [18, 19]), ([20], [20]), ([13, 21], [13, 21]), ([9, 22], [9, 22]), ([23, 0, 1, 2, 3, 4, 5, 6, 7, 8, 9, 10, 11, 12, 13, 14, 15, 16, 17, 18, 19, 20, 21, 22, 23], [23])])
def zL.B3 : List Nat := [0, 1, 3, 7, 0, 31, 63, 0, 255, 511, 0, 0, 2048, 7168, 0, 16384, 0, 114688, 245760, 0, 1032192, 2080768, 4193280, 8388607, 16777215]
theorem zL.a2v : CZ .any (opsOf Try.f67 3) = zL.T3 := by kernel_rfl
theorem zL.WQ : BD zL.T3.2 zL.B3 = true := by kernel_rfl
set_option maxHeartbeats 8000000 in
set_option maxRecDepth 100000 in
theorem zL.calls (yn : Int) (yQ : Option Addr) (yM : Nat) (yh : List (List Int)) (yo : Int) (yu : Int) (DK : Int) (BB : Int) (AY : Int) (II : Option Addr) (Ii : Nat) (CX : List (List Int)) (Ij : Option Addr) (Ik : Nat) (Ez : List (List Int)) (FO : Int) (Em : Int) (a1 : Int) (a2 : Int) (r1 : Int) (r2 : Int) (w : World) (Ah : Kd.C (Kd.slice 3 (Kd.int .i64)) w yQ yh.length yh) (Ai : yh.length ≤ yM) (Jg : Kd.C (Kd.slice 3 (Kd.int .i64)) w II CX.length CX) (Jh : CX.length ≤ Ii) (Ji : Kd.C (Kd.slice 3 (Kd.int .i64)) w Ij Ez.length Ez) (Jj : Ez.length ≤ Ik) (h : zL.f yn yh yo yu DK BB AY CX Ez FO Em a1 a2 = some (r1, r2)) :
  Calls Try.prog 67 #[.agg #[.int .i64 yn, .slice yQ yh.length yM, .int .i64 yo, .int .i64 yu, .int .i64 DK, .int .i64 BB, .int .i64 AY, .slice II CX.length Ii, .slice Ij Ez.length Ik, .int .i64 FO, .int .i64 Em], .int .i64 a1, .int .i64 a2] w fun e w' => e = .returned (.agg #[.int .i64 r1, .int .i64 r2]) ∧ Below w.heap.size w w' := by
 have Nu := Try.underlying102;have Jd := Try.underlying38;have zA := yf.mk Ah;have zK := yf.mk Ai;clear Ah Ai;have Nv := yf.mk Jg;have Pe := yf.mk Jh;clear Jg Jh;have Pf := yf.mk Ji;have Pg := yf.mk Jj;clear Ji Jj;have HB := yf.mk (Below.refl w.heap.size w)
 have H : (if AY = 0 then (none) else (if DK = 0 then (none) else (if 0 ≤ (Int.tmod a1 AY) then (if (Int.tmod a1 AY) < (yh.length : Int) then (if 0 ≤ (Int.tmod (wrap64 (a2 + (wrap64 (Int.tdiv a1 AY)))) DK) then (if (Int.tmod (wrap64 (a2 + (wrap64 (Int.tdiv a1 AY)))) DK) < ((zt yh (Int.tmod a1 AY)).length : Int) then (if (Int.tmod a1 AY) < (CX.length : Int) then (if (Int.tmod (wrap64 (a2 + (wrap64 (Int.tdiv a1 AY)))) DK) < ((zt CX (Int.tmod a1 AY)).length : Int) then (some (rd (zt yh (Int.tmod a1 AY)) (Int.tmod (wrap64 (a2 + (wrap64 (Int.tdiv a1 AY)))) DK), wrap64 ((wrap64 ((wrap64 (Int.tdiv a1 AY)) * BB)) + (rd (zt CX (Int.tmod a1 AY)) (Int.tmod (wrap64 (a2 + (wrap64 (Int.tdiv a1 AY)))) DK))))) else (none)) else (none)) else (none)) else (none)) else (none)) else (none)))) = some (r1, r2) := h
 clear h
 by_cases c4 : AY = 0
 ·
  rw [if_pos c4] at H;exact absurd H (by simp)
 rw [if_neg c4] at H;have ES := beq_eq_false_iff_ne.mpr c4;have Lx := bne_iff_ne.mpr c4
 by_cases c5 : DK = 0
 ·
  rw [if_pos c5] at H;exact absurd H (by simp)
 rw [if_neg c5] at H;have FE := beq_eq_false_iff_ne.mpr c5;have MF := bne_iff_ne.mpr c5;obtain ⟨Ei, Zk⟩ : ∃ j_ : Int, (Int.tmod a1 AY) = j_ := ⟨_, rfl⟩
 replace H : (if 0 ≤ (Ei) then (if (Ei) < (yh.length : Int) then (if 0 ≤ (Int.tmod (wrap64 (a2 + (wrap64 (Int.tdiv a1 AY)))) DK) then (if (Int.tmod (wrap64 (a2 + (wrap64 (Int.tdiv a1 AY)))) DK) < ((zt yh (Ei)).length : Int) then (if (Ei) < (CX.length : Int) then (if (Int.tmod (wrap64 (a2 + (wrap64 (Int.tdiv a1 AY)))) DK) < ((zt CX (Ei)).length : Int) then (some (rd (zt yh (Ei)) (Int.tmod (wrap64 (a2 + (wrap64 (Int.tdiv a1 AY)))) DK), wrap64 ((wrap64 ((wrap64 (Int.tdiv a1 AY)) * BB)) + (rd (zt CX (Ei)) (Int.tmod (wrap64 (a2 + (wrap64 (Int.tdiv a1 AY)))) DK))))) else (none)) else (none)) else (none)) else (none)) else (none)) else (none)) = some (r1, r2) := by (rw [Zk] at H; exact H)
 by_cases c7 : 0 ≤ (Ei)
 rotate_left
 ·
  rw [if_neg c7] at H;exact absurd H (by simp)
 rw [if_pos c7] at H;have GN := decide_eq_true c7;clear c7
 by_cases c8 : (Ei) < (yh.length : Int)
 rotate_left
 ·
  rw [if_neg c8] at H;exact absurd H (by simp)
 rw [if_pos c8] at H;have GZ := decide_eq_true c8;clear c8;obtain ⟨Kn, Tc⟩ : ∃ j_ : Int, (Int.tmod (wrap64 (a2 + (wrap64 (Int.tdiv a1 AY)))) DK) = j_ := ⟨_, rfl⟩
 replace H : (if 0 ≤ (Kn) then (if (Kn) < ((zt yh (Ei)).length : Int) then (if (Ei) < (CX.length : Int) then (if (Kn) < ((zt CX (Ei)).length : Int) then (some (rd (zt yh (Ei)) (Kn), wrap64 ((wrap64 ((wrap64 (Int.tdiv a1 AY)) * BB)) + (rd (zt CX (Ei)) (Kn))))) else (none)) else (none)) else (none)) else (none)) = some (r1, r2) := by (rw [Tc] at H; exact H)
 by_cases c10 : 0 ≤ (Kn)
 rotate_left
 ·
  rw [if_neg c10] at H;exact absurd H (by simp)
 rw [if_pos c10] at H;have Gi := decide_eq_true c10;clear c10
 by_cases c11 : (Kn) < ((zt yh (Ei)).length : Int)
 rotate_left
 ·
  rw [if_neg c11] at H;exact absurd H (by simp)
 rw [if_pos c11] at H;have GD := decide_eq_true c11;clear c11
 by_cases c12 : (Ei) < (CX.length : Int)
 rotate_left
 ·
  rw [if_neg c12] at H;exact absurd H (by simp)
 rw [if_pos c12] at H;have Gh := decide_eq_true c12;clear c12
 by_cases c13 : (Kn) < ((zt CX (Ei)).length : Int)
 rotate_left
 ·
  rw [if_neg c13] at H;exact absurd H (by simp)
 rw [if_pos c13] at H;have J9 := decide_eq_true c13;clear c13;simp only [Option.some.injEq, Prod.mk.injEq] at H;obtain ⟨rfl, rfl⟩ := H
 go_enter Try.func67, Try.ntmps67
 try go_wp2_with (first | ((with_reducible refine yI (N := 3) rfl ?_); refine yG rfl (N := 3) rfl (cs := #[.int .i64 yn, .slice yQ yh.length yM, .int .i64 yo, .int .i64 yu, .int .i64 DK, .int .i64 BB, .int .i64 AY, .slice II CX.length Ii, .slice Ij Ez.length Ik, .int .i64 FO, .int .i64 Em]) (t := 102) (by go_simp) ?_; intro ag hg w14 yJ hb; have af := yf.mk (yJ); have bI := bG (w := w) hg; have bJ := bG (w := w) hg; replace HB := bS HB hb; clear hb yJ hg) | ((with_reducible refine yI (N := 6) rfl ?_); refine yG rfl (N := 6) rfl (cs := #[.int .i64 0, .int .i64 0]) (t := 38) (by go_simp) ?_; intro aa hg w15 yJ hb; have ah := yf.mk (yJ); have ai := bG (w := w) hg; have bA := bG (w := w) hg; have ae := Co af hg; have aK := Ar af hg; replace af := bB af hb; replace HB := bS HB hb; clear hb yJ hg))
 replace af := yf.mk (yO af.out);replace ah := yf.mk (yO ah.out);replace HB := yf.mk (za HB.out)
 refine Bc (n := 10) (S := fun w' => w'.cell? ⟨ag, 0, none⟩ = some (.int .i64 yn) ∧ w'.cell? ⟨ag, 1, none⟩ = some (.slice yQ yh.length yM) ∧ w'.cell? ⟨ag, 2, none⟩ = some (.int .i64 yo) ∧ w'.cell? ⟨ag, 3, none⟩ = some (.int .i64 yu) ∧ w'.cell? ⟨ag, 4, none⟩ = some (.int .i64 DK) ∧ w'.cell? ⟨ag, 5, none⟩ = some (.int .i64 BB) ∧ w'.cell? ⟨ag, 6, none⟩ = some (.int .i64 AY) ∧ w'.cell? ⟨ag, 7, none⟩ = some (.slice II CX.length Ii) ∧ w'.cell? ⟨ag, 8, none⟩ = some (.slice Ij Ez.length Ik) ∧ w'.cell? ⟨ag, 9, none⟩ = some (.int .i64 FO) ∧ w'.cell? ⟨ag, 10, none⟩ = some (.int .i64 Em)) (ds := []) (bz 10 0) (by kernel_rfl) rfl rfl (EW af) (fun hHeld => ?_); refine zF zL.a2w zL.WV (fun yz Bi => ?_)
 generalize w15.drew = w16 at af ah HB hHeld ⊢;refine pU 0 10 10 1 yz ?_;refine pU 1 11 10 3 yz ?_;refine pU 4 14 10 19 yz ?_;refine pU 5 15 10 51 yz ?_
 refine BO 2 12 10 55 yz Bi hHeld ?_
 refine pU 3 13 10 63 yz ?_;refine pU 8 7 10 319 yz ?_
 refine BO 6 16 10 383 yz Bi hHeld ?_
 refine pU 7 17 10 511 yz ?_;refine pU 9 8 10 1023 yz ?_
 refine BG (Al yz.out (by kernel_rfl)) ?_
 have WL := ae.out;have WM := aK.out;have Ue := EW af;have Uf := bf af
 try go_wp2
 replace af := yf.mk (yO af.out);replace ah := yf.mk (yO ah.out);replace HB := yf.mk (za HB.out)
 have ay : 0 ≤ ((Ei) : Int) := of_decide_eq_true ‹_›
 have aC : (Ei) < (yh.length : Int) := of_decide_eq_true ‹_›
 obtain ⟨aQ, bC, bv, bq, av, aZ, aU⟩ := EC zA.out (Ei) ay aC;have aN := av;cases bq;replace av := cB HB av;have aW := yf.mk aU;have bF := yf.mk aZ;clear aU aZ;replace ay := eq_true ay;replace aC := eq_true aC
 have aH : 0 ≤ ((Kn) : Int) := of_decide_eq_true ‹_›
 have aA : (Kn) < ((zt yh (Ei)).length : Int) := of_decide_eq_true ‹_›
 obtain ⟨aT, bu, au⟩ := Kd.C9 aW.out (Kn) aH aA;have aM := au;cases bu;replace au := cB HB au;replace aH := eq_true aH;replace aA := eq_true aA
 have ax : 0 ≤ ((Ei) : Int) := of_decide_eq_true ‹_›
 have aG : (Ei) < (CX.length : Int) := of_decide_eq_true ‹_›
 obtain ⟨aX, bH, bn, e283, aj, aY, bi⟩ := EC Nv.out (Ei) ax aG;have aI := aj;cases e283;replace aj := cB HB aj;have aV := yf.mk bi;have bD := yf.mk aY;clear bi aY;replace ax := eq_true ax;replace aG := eq_true aG
 have az : 0 ≤ ((Kn) : Int) := of_decide_eq_true ‹_›
 have aD : (Kn) < ((zt CX (Ei)).length : Int) := of_decide_eq_true ‹_›
 obtain ⟨bg, e284, ak⟩ := Kd.C9 aV.out (Kn) az aD;have aJ := ak;cases e284;replace ak := cB HB ak;replace az := eq_true az;replace aD := eq_true aD
 refine Bc (n := 25) (S := fun w' => w'.cell? ⟨ag, 0, none⟩ = some (.int .i64 yn) ∧ w'.cell? ⟨ag, 1, none⟩ = some (.slice (some aQ) yh.length yM) ∧ w'.cell? ⟨ag, 2, none⟩ = some (.int .i64 yo) ∧ w'.cell? ⟨ag, 3, none⟩ = some (.int .i64 yu) ∧ w'.cell? ⟨ag, 4, none⟩ = some (.int .i64 DK) ∧ w'.cell? ⟨ag, 5, none⟩ = some (.int .i64 BB) ∧ w'.cell? ⟨ag, 6, none⟩ = some (.int .i64 AY) ∧ w'.cell? ⟨ag, 7, none⟩ = some (.slice (some aX) CX.length Ii) ∧ w'.cell? ⟨ag, 8, none⟩ = some (.slice Ij Ez.length Ik) ∧ w'.cell? ⟨ag, 9, none⟩ = some (.int .i64 FO) ∧ w'.cell? ⟨ag, 10, none⟩ = some (.int .i64 Em) ∧ w'.cell? (aQ.add ((Ei)).toNat) = some (.slice (some aT) (zt yh (Ei)).length bv) ∧ w'.cell? (aT.add ((Kn)).toNat) = some (.int .i64 (rd (zt yh (Ei)) (Kn))) ∧ w'.cell? (aX.add ((Ei)).toNat) = some (.slice (some bg) (zt CX (Ei)).length bn) ∧ w'.cell? (bg.add ((Kn)).toNat) = some (.int .i64 (rd (zt CX (Ei)) (Kn)))) (ds := []) (bz 25 0) (by kernel_rfl) rfl rfl ⟨(yA af.out 0).trans rfl, (yA af.out 1).trans rfl, (yA af.out 2).trans rfl, (yA af.out 3).trans rfl, (yA af.out 4).trans rfl, (yA af.out 5).trans rfl, (yA af.out 6).trans rfl, (yA af.out 7).trans rfl, (yA af.out 8).trans rfl, (yA af.out 9).trans rfl, (yA af.out 10).trans rfl, (cB HB aN), (cB HB aM), (cB HB aI), (cB HB aJ)⟩ (fun hHeld => ?_); refine zF zL.a2v zL.WQ (fun yz Bi => ?_)
 generalize w16.drew = w19 at af ah HB aW aV av au aj ak hHeld ⊢;refine pU 0 24 25 1 yz ?_;refine pU 1 25 25 3 yz ?_;refine pU 2 26 25 7 yz ?_;refine pU 4 28 25 23 yz ?_;refine pU 7 31 25 151 yz ?_;refine pU 10 34 25 1175 yz ?_;refine pU 11 35 25 3223 yz ?_;refine pU 14 38 25 19607 yz ?_;refine pU 16 40 25 85143 yz ?_;refine pU 19 43 25 609431 yz ?_
 refine BO 3 27 25 609439 yz Bi hHeld ?_
 refine pU 5 29 25 609471 yz ?_
 refine BO 6 30 25 609535 yz Bi hHeld ?_
 refine pU 8 32 25 609791 yz ?_
 refine BO 9 33 25 610303 yz Bi hHeld ?_
 refine BO 12 36 25 614399 yz Bi hHeld ?_
 refine pU 13 37 25 622591 yz ?_
 refine BO 15 39 25 655359 yz Bi hHeld ?_
 refine pU 17 41 25 786431 yz ?_
 refine BO 18 42 25 1048575 yz Bi hHeld ?_
 refine pU 20 44 25 2097151 yz ?_
 refine BO 21 45 25 4194303 yz Bi hHeld ?_
 refine pU 22 46 25 8388607 yz ?_;refine pU 23 47 25 16777215 yz ?_
 refine Ck (i := 24) (N := none) (bz 25 33554431) rfl rfl (Af yz.out (by kernel_rfl)) (by decide) (fun K hK => ?_)
 have a6F : w19.cell? ⟨aa, 0, none⟩ = some (.int .i64 0) := (yA ah.out 0).trans rfl
 have a4A := zH ah.out 0;have Zl := ae.out;have Zm := aK.out
 have a6G : w19.cell? ⟨aa, 1, none⟩ = some (.int .i64 0) := (yA ah.out 1).trans rfl
 have a4B := zH ah.out 1;have Zn := ae.out;have Zo := aK.out
 refine IR (w1 := ?_) (by rfl) rfl ?_ ?_
 rotate_left
 ·
  go_simp
  rfl
 refine hK.out _ _ ⟨((cell_far (p := ⟨aa, _, none⟩) ae.out _).trans (((cell_far (p := ⟨aa, _, none⟩) ae.out _).trans (hHeld.1)))), ((cell_far (p := ⟨aa, _, none⟩) ae.out _).trans (((cell_far (p := ⟨aa, _, none⟩) ae.out _).trans (hHeld.2.1)))), ((cell_far (p := ⟨aa, _, none⟩) ae.out _).trans (((cell_far (p := ⟨aa, _, none⟩) ae.out _).trans (hHeld.2.2.1)))), ((cell_far (p := ⟨aa, _, none⟩) ae.out _).trans (((cell_far (p := ⟨aa, _, none⟩) ae.out _).trans (hHeld.2.2.2.1)))), ((cell_far (p := ⟨aa, _, none⟩) ae.out _).trans (((cell_far (p := ⟨aa, _, none⟩) ae.out _).trans (hHeld.2.2.2.2.1)))), ((cell_far (p := ⟨aa, _, none⟩) ae.out _).trans (((cell_far (p := ⟨aa, _, none⟩) ae.out _).trans (hHeld.2.2.2.2.2.1)))), ((cell_far (p := ⟨aa, _, none⟩) ae.out _).trans (((cell_far (p := ⟨aa, _, none⟩) ae.out _).trans (hHeld.2.2.2.2.2.2.1)))), ((cell_far (p := ⟨aa, _, none⟩) ae.out _).trans (((cell_far (p := ⟨aa, _, none⟩) ae.out _).trans (hHeld.2.2.2.2.2.2.2.1)))), ((cell_far (p := ⟨aa, _, none⟩) ae.out _).trans (((cell_far (p := ⟨aa, _, none⟩) ae.out _).trans (hHeld.2.2.2.2.2.2.2.2.1)))), ((cell_far (p := ⟨aa, _, none⟩) ae.out _).trans (((cell_far (p := ⟨aa, _, none⟩) ae.out _).trans (hHeld.2.2.2.2.2.2.2.2.2.1)))), ((cell_far (p := ⟨aa, _, none⟩) ae.out _).trans (((cell_far (p := ⟨aa, _, none⟩) ae.out _).trans (hHeld.2.2.2.2.2.2.2.2.2.2.1)))), ((cell_far (p := ⟨aa, _, none⟩) (by exact Nat.ne_of_lt (Nat.lt_of_lt_of_le (by have := World.block_lt_of_cell? _ _ aN; exact this) ai.out)) _).trans (((cell_far (p := ⟨aa, _, none⟩) (by exact Nat.ne_of_lt (Nat.lt_of_lt_of_le (by have := World.block_lt_of_cell? _ _ aN; exact this) ai.out)) _).trans (hHeld.2.2.2.2.2.2.2.2.2.2.2.1)))), ((cell_far (p := ⟨aa, _, none⟩) (by exact Nat.ne_of_lt (Nat.lt_of_lt_of_le (by have := World.block_lt_of_cell? _ _ aM; exact this) ai.out)) _).trans (((cell_far (p := ⟨aa, _, none⟩) (by exact Nat.ne_of_lt (Nat.lt_of_lt_of_le (by have := World.block_lt_of_cell? _ _ aM; exact this) ai.out)) _).trans (hHeld.2.2.2.2.2.2.2.2.2.2.2.2.1)))), ((cell_far (p := ⟨aa, _, none⟩) (by exact Nat.ne_of_lt (Nat.lt_of_lt_of_le (by have := World.block_lt_of_cell? _ _ aI; exact this) ai.out)) _).trans (((cell_far (p := ⟨aa, _, none⟩) (by exact Nat.ne_of_lt (Nat.lt_of_lt_of_le (by have := World.block_lt_of_cell? _ _ aI; exact this) ai.out)) _).trans (hHeld.2.2.2.2.2.2.2.2.2.2.2.2.2.1)))), ((cell_far (p := ⟨aa, _, none⟩) (by exact Nat.ne_of_lt (Nat.lt_of_lt_of_le (by have := World.block_lt_of_cell? _ _ aJ; exact this) ai.out)) _).trans (((cell_far (p := ⟨aa, _, none⟩) (by exact Nat.ne_of_lt (Nat.lt_of_lt_of_le (by have := World.block_lt_of_cell? _ _ aJ; exact this) ai.out)) _).trans (hHeld.2.2.2.2.2.2.2.2.2.2.2.2.2.2))))⟩ (fun hHeld => ?_)
 clear hK K
 refine BG (Al yz.out (by kernel_rfl)) ?_
 try go_wp2
 refine bodyPost_ret (results_cell_row rfl _ _ aa 38 #[.int .i64 (rd (zt yh (Ei)) (Kn)), .int .i64 (wrap64 ((wrap64 ((wrap64 (Int.tdiv a1 AY)) * BB)) + (rd (zt CX (Ei)) (Kn))))] (0, 0) _ rfl (CJ ah rfl) Try.underlying38 rfl (by kernel_rfl)) rfl ?_
 exact ⟨by rfl, bO HB⟩
end Go.Proofs.Ytjonnfmoocijlaa.P
namespace Go.Proofs.Ytjonnfmoocijlaa.P
open Go.RowKit Go.Proofs.YtjonnfmoocijlaaKW.PrintWords Go.Proofs.YtjonnfmoocijlaaKW.PrintLast Go.Proofs.YtjonnfmoocijlaaKW.PrintMore
def Nw (gi : Nat) (p : List (List Int) × List Int) (x : Int) : List (List Int) × List Int := (p.1.set x.toNat (p.1.getD x.toNat [] ++ [(gi : Int)]), p.2 ++ [((p.1.getD x.toNat []).length : Int)])
def VH (gi : Nat) (g : List Int) (on : List (List Int)) : List (List Int) × List Int := g.foldl (Nw gi) (on, [])
def mGo (s : List (List Int) × List (List Int)) (y : List Int × Nat) : List (List Int) × List (List Int) := ((VH y.2 y.1 s.1).1, s.2 ++ [(VH y.2 y.1 s.1).2])
def Ny (d : Nat) (L : List (List Int)) : List (List Int) × List (List Int) := L.zipIdx.foldl mGo (List.replicate d [], [])
def MOk (d : Int) (L : List (List Int)) : Prop := L.length ≤ 4096 ∧ ∀ g ∈ L, g.length ≤ 60 ∧ ∀ x ∈ g, 0 ≤ x ∧ x < d
instance (d : Int) (L : List (List Int)) : Decidable (MOk d L) := by unfold MOk; infer_instance
def layout_measure_fin (d : Int) (L : List (List Int)) (T S W r n h c : Int) : Option (Int × (List (List Int)) × Int × Int × Int × Int × Int × (List (List Int)) × (List (List Int)) × Int × Int × Bool) :=
 if MOk d L then some (d, L, T, S, W, r, n, (Ny d.toNat L).2, (Ny d.toNat L).1, h, c, true) else none
theorem R6 (gi : Nat) (g : List Int) (on : List (List Int)) (j : Nat) (h : j < g.length) : VH gi (g.take (j + 1)) on = Nw gi (VH gi (g.take j) on) g[j] := by
 unfold VH
 rw [List.take_succ_eq_append_getElem h, List.foldl_append]
 rfl
def EQ (d : Nat) (L : List (List Int)) (i : Nat) : List (List Int) × List (List Int) := (L.zipIdx.take i).foldl mGo (List.replicate d [], [])
theorem Jk (d : Nat) (L : List (List Int)) : EQ d L 0 = (List.replicate d [], []) := rfl
theorem Mf (d : Nat) (L : List (List Int)) (i : Nat) (h : i < L.length) : EQ d L (i + 1) = mGo (EQ d L i) (L[i], i) := by
 unfold EQ
 rw [List.take_succ_eq_append_getElem (by simpa using h), List.foldl_append]
 simp
theorem Tm (d : Nat) (L : List (List Int)) : EQ d L L.length = Ny d L := by
 unfold EQ Ny
 rw [List.take_of_length_le (by simp)]
def Bd (n b : Nat) (on : List (List Int)) : Prop := on.length = n ∧ ∀ k, (on.getD k []).length ≤ b
theorem Bd.step {n b gi : Nat} {p : List (List Int) × List Int} (h : Bd n b p.1) (x : Int) : Bd n (b + 1) (Nw gi p x).1 := by
  refine ⟨by simp [Nw, h.1], fun k => ?_⟩
  simp only [Nw]
  have h1 := h.2 k
  have h2 := h.2 x.toNat
  rw [List.getD_eq_getElem?_getD] at h1 h2 ⊢
  rw [List.getElem?_set]
  split
  · split
    · simp only [Option.getD_some, List.length_append, List.length_singleton, List.getD_eq_getElem?_getD]; omega
    · simp
  · omega
theorem Bd.row (n b gi : Nat) (g : List Int) (on : List (List Int)) (h : Bd n b on) : ∀ j, j ≤ g.length → Bd n (b + j) (VH gi (g.take j) on).1 ∧ (VH gi (g.take j) on).2.length = j
 | 0, _ => ⟨h, rfl⟩
 | j + 1, hj => by
  obtain ⟨h1, h2⟩ := Bd.row n b gi g on h j (by omega)
  rw [R6 gi g on j (by omega)]
  exact ⟨h1.step _, by simp [Nw, h2]⟩
theorem Bd.mono {n b b' : Nat} {on : List (List Int)} (h : Bd n b on) (hb : b ≤ b') : Bd n b' on := ⟨h.1, fun k => Nat.le_trans (h.2 k) hb⟩
theorem Bd.all (d : Nat) (L : List (List Int)) (hL : ∀ g ∈ L, g.length ≤ 60) : ∀ i, i ≤ L.length → Bd d (i * 60) (EQ d L i).1 ∧ (EQ d L i).2.length = i
 | 0, _ => ⟨⟨by simp [Jk], fun k => by simp only [Jk, List.getD_eq_getElem?_getD, List.getElem?_replicate]; split <;> simp⟩, rfl⟩
 | i + 1, hi => by
  obtain ⟨h1, h2⟩ := Bd.all d L hL i (by omega)
  rw [Mf d L i (by omega)]
  have h3 := (Bd.row _ _ i L[i] _ h1 L[i].length (Nat.le_refl _)).1
  rw [List.take_of_length_le (Nat.le_refl _)] at h3
  exact ⟨h3.mono (by have := hL _ (List.getElem_mem (show i < L.length by omega)); rw [Nat.succ_mul]; omega), by simp [mGo, h2]⟩
def K8 (W : World) (base : Nat) (on : List (List Int)) (vo : Value) (rk : List (List Int)) (vr : Value) (row : List Int) (v : Value) : Prop :=
 ∃ oO oR oT : Nat → Prop, Kd.S (Kd.slice 3 (Kd.int .i64)) 63 W base oO vo on ∧ Kd.R (Kd.slice 3 (Kd.int .i64)) 63 W base oR vr rk ∧ Kd.R (Kd.int .i64) 3 W base oT v row ∧
  (∀ k, oO k → ¬ oR k ∧ ¬ oT k) ∧ (∀ k, oR k → ¬ oT k) ∧ (∀ k, oO k ∨ oR k ∨ oT k → k < W.heap.size)
section
variable {W w1 : World} {base bo c : Nat} {on rk : List (List Int)} {vo vr v v1 vr1 : Value} {row row' xs' : List Int} {oO oR oT : Nat → Prop}
theorem K8.step {W w1 : World} (h : K8 W base on vo rk vr row v) (hb : Below W.heap.size W w1) : K8 w1 base on vo rk vr row v := by
 obtain ⟨oO, oR, oT, hS, hR, hT, d1, d2, d3⟩ := h
 exact ⟨oO, oR, oT, Kd.E9 hS hb, Kd.CP hR hb, Kd.CP hT hb, d1, d2, fun k hk => Nat.lt_of_lt_of_le (d3 k hk) hb.size⟩
theorem K8.drew (h : K8 W base on vo rk vr row v) : K8 W.drew base on vo rk vr row v := h.step (G8 (Below.refl W.heap.size W))
theorem K8.far {p : Addr} {o : Array Value} {t : Nat} (h : K8 W base on vo rk vr row v) (hp : W.heap[p.block]? = some (.cells o t (0, 0))) (ht1 : 63 ≠ t) (ht2 : 3 ≠ t) (u : Value) : K8 (W.setCell p u) base on vo rk vr row v := by
 obtain ⟨oO, oR, oT, hS, hR, hT, d1, d2, d3⟩ := h
 have hq : ∀ q, q ∈ 63 :: (Kd.slice 3 (Kd.int .i64)).E → q ≠ t := by
  intro q hq
  simp only [Kd.slice, Kd.int, Kd.scalar, List.mem_cons, List.not_mem_nil, or_false] at hq
  rcases hq with rfl | rfl
  · exact ht1
  · exact ht2
 have hq' : ∀ q, q ∈ 3 :: (Kd.int .i64).E → q ≠ t := by
  intro q hq
  simp only [Kd.int, Kd.scalar, List.mem_cons, List.not_mem_nil, or_false] at hq
  rcases hq with rfl
  exact ht2
 exact ⟨fun k => oO k ∧ k ≠ p.block, fun k => oR k ∧ k ≠ p.block, fun k => oT k ∧ k ≠ p.block, Kd.Ic (Kd.AO hS hp hq) (fun k hk => hk.2) u, Kd.Kt (Kd.Aw hR hp hq) (fun k hk => hk.2) u, Kd.Kt (Kd.Aw hT hp hq') (fun k hk => hk.2) u,
  fun k hk => ⟨fun h2 => (d1 k hk.1).1 h2.1, fun h2 => (d1 k hk.1).2 h2.1⟩, fun k hk h2 => d2 k hk.1 h2.1, fun k hk => by
   have : k < W.heap.size := d3 k (hk.elim (fun h => .inl h.1) (fun h => h.elim (fun h => .inr (.inl h.1)) (fun h => .inr (.inr h.1))))
   simpa [World.setCell] using this⟩
theorem K8.push (hS : Kd.S (Kd.slice 3 (Kd.int .i64)) 63 W base oO vo on) (hR : Kd.R (Kd.slice 3 (Kd.int .i64)) 63 W base oR vr rk) (hT : Kd.R (Kd.int .i64) 3 W base oT v row)
    (d1 : ∀ k, oO k → ¬ oR k ∧ ¬ oT k) (d2 : ∀ k, oR k → ¬ oT k) (d3 : ∀ k, oO k ∨ oR k ∨ oT k → k < W.heap.size) (ho : Kd.R (Kd.int .i64) 3 w1 base (fun k => oT k ∨ W.heap.size ≤ k) v1 row') (hg : W.grownBy w1 v.ownBlock) : K8 w1 base on vo rk vr row' v1 := by
  refine ⟨oO, oR, fun k => (oT k ∨ W.heap.size ≤ k) ∧ k < w1.heap.size, Kd.U6 hS hg (fun k hk e => (d1 k hk).2 (hT.1 k e.symm)), Kd.PO hR hg (fun k hk e => d2 k hk (hT.1 k e.symm)), Kd.yX (Kd.Ej ho) (fun k h => ⟨h.1, h.2.2.1⟩), ?_, ?_, ?_⟩
  · exact fun k hk => ⟨(d1 k hk).1, fun h2 => h2.1.elim (d1 k hk).2 (fun h3 => by have := d3 k (.inl hk); omega)⟩
  · exact fun k hk h2 => h2.1.elim (d2 k hk) (fun h3 => by have := d3 k (.inr (.inl hk)); omega)
  · have := hg.size
    exact fun k hk => hk.elim (fun h => Nat.lt_of_lt_of_le (d3 k (.inl h)) this) (fun h => h.elim (fun h => Nat.lt_of_lt_of_le (d3 k (.inr (.inl h))) this) (fun h => h.2))
theorem K8.rank (hS : Kd.S (Kd.slice 3 (Kd.int .i64)) 63 W base oO vo on) (hR : Kd.R (Kd.slice 3 (Kd.int .i64)) 63 W base oR vr rk)
    (d1 : ∀ k, oO k → ¬ oR k ∧ ¬ oT k) (d3 : ∀ k, oO k ∨ oR k ∨ oT k → k < W.heap.size) (ho : Kd.R (Kd.slice 3 (Kd.int .i64)) 63 w1 base (fun k => (oR k ∨ oT k) ∨ W.heap.size ≤ k) vr1 (rk ++ [row])) (hg : W.grownBy w1 vr.ownBlock) :
    K8 w1 base on vo (rk ++ [row]) vr1 [] (.slice none 0 0) := by
  refine ⟨oO, fun k => ((oR k ∨ oT k) ∨ W.heap.size ≤ k) ∧ k < w1.heap.size, fun _ => False, Kd.U6 hS hg (fun k hk e => (d1 k hk).1 (hR.1 k e.symm)), Kd.yX (Kd.Ej ho) (fun k h => ⟨h.1, h.2.2.1⟩), Kd.Er _ _ _ _ _, ?_, ?_, ?_⟩
  · exact fun k hk => ⟨fun h2 => h2.1.elim (fun h => h.elim (d1 k hk).1 (d1 k hk).2) (fun h3 => by have := d3 k (.inl hk); omega), id⟩
  · exact fun k hk => id
  · have := hg.size
    exact fun k hk => hk.elim (fun h => Nat.lt_of_lt_of_le (d3 k (.inl h)) this) (fun h => h.elim (fun h => h.2) (fun h => h.elim))
theorem K8.start {ok : Nat → Prop} (hS : Kd.S (Kd.slice 3 (Kd.int .i64)) 63 W base ok vo on) : K8 W base on vo [] (.slice none 0 0) [] (.slice none 0 0) :=
 ⟨fun k => ok k ∧ k < W.heap.size, fun _ => False, fun _ => False, Kd.Bo (Kd.KC hS) (fun k h => ⟨h.1, h.2.2.1⟩), Kd.Er _ _ _ _ _, Kd.Er _ _ _ _ _, fun _ _ => ⟨id, id⟩, fun _ h => h.elim, fun k hk => hk.elim (fun h => h.2) (fun h => h.elim (fun h => h.elim) (fun h => h.elim))⟩
theorem K8.head {A : Option Addr} {n : Nat} (h : K8 W base on (.slice A n c) rk vr row v) (dd : Nat) (hd : dd < n) : n = on.length ∧ ∃ bo, A = some ⟨bo, 0, none⟩ := by
 obtain ⟨oO, oR, oT, hS, hR, hT, d1, d2, d3⟩ := h
 have h1 := Kd.zG hS
 obtain ⟨ad, hA, _⟩ := h1.2.2.2.2 (by omega)
 subst hA
 exact ⟨h1.1, Kd.a1J (Kd.YM hS) |>.imp fun g hg => by rw [hg]⟩
theorem K8.a2x (h : K8 W base on (.slice (some ⟨bo, 0, none⟩) on.length c) rk vr row v) (dd : Nat) (hd : dd < on.length) :
    ∃ (oi : Nat → Prop) (vd : Value), Kd.R (Kd.int .i64) 3 W base oi vd (on.getD dd []) ∧ W.cell? ⟨bo, dd, none⟩ = some vd ∧ (∀ j, W.frozen? ⟨bo, j, none⟩ = false) ∧ bo < W.heap.size ∧ base ≤ bo ∧ (∀ k, vd.ownBlock = some k → k ≠ bo) ∧ (∃ cells, W.heap[bo]? = some (.cells cells 63 (0, 0))) ∧
      ∀ w1 v1 xs', Kd.R (Kd.int .i64) 3 w1 base (fun k => oi k ∨ W.heap.size ≤ k) v1 xs' → W.grownBy w1 vd.ownBlock → K8 (w1.setCell ⟨bo, dd, none⟩ v1) base (on.set dd xs') (.slice (some ⟨bo, 0, none⟩) on.length c) rk vr row v := by
  obtain ⟨oO, oR, oT, hS, hR, hT, d1, d2, d3⟩ := h
  have hbo : oO bo := hS.elim fun f hf => hf.1 bo rfl
  have hlt := d3 bo (.inl hbo)
  obtain ⟨oki, cc, hcl, ⟨vd, rfl, hM⟩, hcc, hfr, hoki, H⟩ := Kd.a1R hS [] (dd : Int) (by omega) (by omega)
  rw [Int.toNat_natCast] at hM hcc hfr
  refine ⟨oki, vd, hM, by have := hcc 0 _ rfl; simpa [Kd.slice] using this, fun j => ?_, hlt, Kd.SG hS bo rfl, fun k hk => (hoki k (hM.1 k hk)).2, ?_, fun w1 v1 xs' ho hg => ?_⟩
  · obtain ⟨cells, hce⟩ := Kd.IB (Kd.YM hS) bo rfl
    exact zH hce j
  · exact Kd.IB (Kd.YM hS) bo rfl
  · have hvd : ∀ k, vd.ownBlock = some k → oO k := fun k hk => (hoki k (hM.1 k hk)).1
    have H2 := Kd.YZ (Kd.YY (Kd.a1Q H (ok' := fun k => oO k ∨ W.heap.size ≤ k) (fun k hk => .inl hk))) hg (fun k hk => .inl (hM.1 k hk))
    have hv1 : v1.oneCell' = true := (Kd.ZU ho).2
    obtain ⟨H3, hg3⟩ := Kd.a4h H2 (by omega) (by omega) (seg := [v1]) (j := 0) (by simp [Kd.slice]) (by intro q hq; simp only [List.mem_singleton] at hq; subst hq; exact hv1)
    rw [Int.toNat_natCast] at H3 hg3
    have e1 : w1.setCells bo (dd * (Kd.slice 3 (Kd.int .i64)).sz + 0) [v1] = w1.setCell ⟨bo, dd, none⟩ v1 := by
      rw [show dd * (Kd.slice 3 (Kd.int .i64)).sz + 0 = dd from Nat.mul_one dd]; rfl
    rw [e1] at H3 hg3
    have hRw : Kd.R (Kd.int .i64) 3 (w1.setCell ⟨bo, dd, none⟩ v1) base (fun k => oki k ∨ W.heap.size ≤ k) v1 xs' := Kd.Kt ho (fun k hk => by
      rcases hk with hk | hk
      · exact (hoki k hk).2
      · show k ≠ bo
        omega) v1
    have aa := Kd.a1O H3 (x' := xs') (Kd.U0 hRw) (fun k hk => hk.elim .inl (fun h => .inr ⟨.inr h, h⟩))
    rw [Int.toNat_natCast] at aa
    have hgs : W.heap.size ≤ (w1.setCell ⟨bo, dd, none⟩ v1).heap.size := Nat.le_trans hg.size hg3.size
    refine ⟨fun k => (oO k ∨ W.heap.size ≤ k) ∧ k < (w1.setCell ⟨bo, dd, none⟩ v1).heap.size, oR, oT, Kd.Bo (Kd.KC aa) (fun k h => ⟨h.1, h.2.2.1⟩),
      Kd.Kt (p := ⟨bo, dd, none⟩) (Kd.PO hR hg (fun k hk e => (d1 k (hvd k e.symm)).1 hk)) (fun k hk e => (d1 bo hbo).1 ((show k = bo from e) ▸ hk)) v1,
      Kd.Kt (p := ⟨bo, dd, none⟩) (Kd.PO hT hg (fun k hk e => (d1 k (hvd k e.symm)).2 hk)) (fun k hk e => (d1 bo hbo).2 ((show k = bo from e) ▸ hk)) v1, ?_, d2, ?_⟩
    · refine fun k hk => ⟨fun h2 => hk.1.elim (fun h => (d1 k h).1 h2) (fun h => by have := d3 k (.inr (.inl h2)); omega), fun h2 => hk.1.elim (fun h => (d1 k h).2 h2) (fun h => by have := d3 k (.inr (.inr h2)); omega)⟩
    · exact fun k hk => hk.elim (fun h => h.2) (fun h => Nat.lt_of_lt_of_le (d3 k (.inr h)) hgs)
end
def Mg : Bool × List (List Nat × List Nat) := (true, [([], []), ([0], [0]), ([], []), ([], []), ([3], [3]), ([], []), ([4, 5], [4, 5]), ([6], [6]), ([], []), ([8], [8]), ([7, 9], [7, 9]), ([1, 2, 0, 1, 2, 3, 4, 5, 6, 7, 8, 9, 10], [1, 2]), ([11, 10, 10, 0, 1, 2, 3, 4, 5, 6, 7, 8, 9, 10], [10, 11])])
def R7 : List Nat := [0, 1, 0, 0, 8, 0, 56, 120, 0, 256, 1016, 2047, 4095]
theorem Ow : CZ .any (opsOf Try.f61 20) = Mg := by kernel_rfl
theorem Nz : BD Mg.2 R7 = true := by kernel_rfl
end Go.Proofs.Ytjonnfmoocijlaa.P
