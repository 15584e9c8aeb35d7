/- Texts of a claim, packed. -/
import Derived.Test.YtjonnfmoocijlaaGreatE2
import Derived.Test.YtjonnfmoocijlaaGreatE4
set_option linter.all false
namespace Go.Proofs.YtjonnfmoocijlaaGreat.P
open Go.RowKit Go.Proofs.YtjonnfmoocijlaaGreatKW.PrintWords Go.Proofs.YtjonnfmoocijlaaGreatKW.PrintLast Go.Proofs.YtjonnfmoocijlaaGreatKW.PrintMore
attribute [local go_sem] zN zP Af Ag zz zA zO zQ
def zG.f (yj : Int) (yg : List (List Int)) (ym : Int) (yn : Int) (Cf : Int) (Au : Int) (Ah : Int) (Cs : List (List Int)) (BL : List (List Int)) (Ex : Int) (De : Int) (a1 : Int) (a2 : Int) : Option (Int × Int) := if Ah = 0 then (none) else (if Cf = 0 then (none) else (if 0 ≤ (Int.tmod a1 Ah) then (if (Int.tmod a1 Ah) < (yg.length : Int) then (if 0 ≤ (Int.tmod (wrap64 (a2 + (wrap64 (Int.tdiv a1 Ah)))) Cf) then (if (Int.tmod (wrap64 (a2 + (wrap64 (Int.tdiv a1 Ah)))) Cf) < ((yX yg (Int.tmod a1 Ah)).length : Int) then (if (Int.tmod a1 Ah) < (Cs.length : Int) then (if (Int.tmod (wrap64 (a2 + (wrap64 (Int.tdiv a1 Ah)))) Cf) < ((yX Cs (Int.tmod a1 Ah)).length : Int) then (some (rd (yX yg (Int.tmod a1 Ah)) (Int.tmod (wrap64 (a2 + (wrap64 (Int.tdiv a1 Ah)))) Cf),wrap64 ((wrap64 ((wrap64 (Int.tdiv a1 Ah)) * Au)) + (rd (yX Cs (Int.tmod a1 Ah)) (Int.tmod (wrap64 (a2 + (wrap64 (Int.tdiv a1 Ah)))) Cf))))) else (none)) else (none)) else (none)) else (none)) else (none)) else (none)))
def zG.T1 : Bool × List (List Nat × List Nat) := (true,[([],[]),([],[]),([1],[1]),([0,2],[0,2]),([],[]),([],[]),([5],[5]),([4,6],[4,6]),([3,0,1,2,3],[3]),([7,8,0,1,2,3,4,5,6,7,8],[7])])
def zG.B1 : List Nat := [0,0,2,7,0,0,32,112,15,511]
theorem zG.a2R : Dv .any (opsOf Tryz.f61 1) = zG.T1 := by kernel_rfl
theorem zG.VH : BH zG.T1.2 zG.B1 = true := by kernel_rfl
def zG.T3 : Bool × List (List Nat × List Nat) := (true,[([],[]),([0],[0]),([1],[1]),([2],[2]),([],[]),([3,4],[3,4]),([5],[5]),([],[]),([6,7],[6,7]),([8],[8]),([],[]),([],[]),([11],[11]),([10,12],[10,12]),([],[]),([14],[14]),([],[]),([15,16],[15,16]),([17],[17]),([],[]),([18,19],[18,19]),([20],[20]),([13,21],[13,21]),([9,22],[9,22]),([23,0,1,2,3,4,5,6,7,8,9,10,11,12,13,14,15,16,17,18,19,20,21,22,23],[23])])
def zG.B3 : List Nat := [0,1,3,7,0,31,63,0,255,511,0,0,2048,7168,0,16384,0,114688,245760,0,1032192,2080768,4193280,8388607,16777215]
theorem zG.a2S : Dv .any (opsOf Tryz.f61 3) = zG.T3 := by kernel_rfl
theorem zG.VK : BH zG.T3.2 zG.B3 = true := by kernel_rfl
set_option maxHeartbeats 8000000 in
set_option maxRecDepth 100000 in
theorem zG.calls (yj : Int) (yK : Option Addr) (yE : Nat) (yg : List (List Int)) (ym : Int) (yn : Int) (Cf : Int) (Au : Int) (Ah : Int) (FR : Option Addr) (FL : Nat) (Cs : List (List Int)) (Gl : Option Addr) (FM : Nat) (BL : List (List Int)) (Ex : Int) (De : Int) (a1 : Int) (a2 : Int) (r1 : Int) (r2 : Int) (w : World) (zS : Kd.C (Kd.slice 3 (Kd.int .i64)) w yK yg.length yg) (zT : yg.length ≤ yE) (H7 : Kd.C (Kd.slice 3 (Kd.int .i64)) w FR Cs.length Cs) (H5 : Cs.length ≤ FL) (H8 : Kd.C (Kd.slice 3 (Kd.int .i64)) w Gl BL.length BL) (H6 : BL.length ≤ FM) (h : zG.f yj yg ym yn Cf Au Ah Cs BL Ex De a1 a2 = some (r1,r2)) :
  Calls Tryz.prog 61 #[.agg #[.int .i64 yj,.slice yK yg.length yE,.int .i64 ym,.int .i64 yn,.int .i64 Cf,.int .i64 Au,.int .i64 Ah,.slice FR Cs.length FL,.slice Gl BL.length FM,.int .i64 Ex,.int .i64 De],.int .i64 a1,.int .i64 a2] w fun e w' => e = .returned (.agg #[.int .i64 r1,.int .i64 r2]) ∧ Below w.heap.size w w' := by
 have PI := Tryz.underlying94;have KE := Tryz.underlying51;have zk := yf.mk zS;have zq := yf.mk zT;clear zS zT;have Lx := yf.mk H7;have MP := yf.mk H5;clear H7 H5;have LA := yf.mk H8;have MQ := yf.mk H6;clear H8 H6;have HB := yf.mk (Below.refl w.heap.size w)
 have H : (if Ah = 0 then (none) else (if Cf = 0 then (none) else (if 0 ≤ (Int.tmod a1 Ah) then (if (Int.tmod a1 Ah) < (yg.length : Int) then (if 0 ≤ (Int.tmod (wrap64 (a2 + (wrap64 (Int.tdiv a1 Ah)))) Cf) then (if (Int.tmod (wrap64 (a2 + (wrap64 (Int.tdiv a1 Ah)))) Cf) < ((yX yg (Int.tmod a1 Ah)).length : Int) then (if (Int.tmod a1 Ah) < (Cs.length : Int) then (if (Int.tmod (wrap64 (a2 + (wrap64 (Int.tdiv a1 Ah)))) Cf) < ((yX Cs (Int.tmod a1 Ah)).length : Int) then (some (rd (yX yg (Int.tmod a1 Ah)) (Int.tmod (wrap64 (a2 + (wrap64 (Int.tdiv a1 Ah)))) Cf),wrap64 ((wrap64 ((wrap64 (Int.tdiv a1 Ah)) * Au)) + (rd (yX Cs (Int.tmod a1 Ah)) (Int.tmod (wrap64 (a2 + (wrap64 (Int.tdiv a1 Ah)))) Cf))))) else (none)) else (none)) else (none)) else (none)) else (none)) else (none)))) = some (r1,r2) := h
 clear h
 by_cases c4 : Ah = 0
 ·
  rw [if_pos c4] at H;exact absurd H (by simp)
 rw [if_neg c4] at H;have ER := beq_eq_false_iff_ne.mpr c4;have Mh := bne_iff_ne.mpr c4
 by_cases c5 : Cf = 0
 ·
  rw [if_pos c5] at H;exact absurd H (by simp)
 rw [if_neg c5] at H;have ES := beq_eq_false_iff_ne.mpr c5;have Mj := bne_iff_ne.mpr c5;obtain ⟨DV,Z8⟩ : ∃ j_ : Int,(Int.tmod a1 Ah) = j_ := ⟨_,rfl⟩
 replace H : (if 0 ≤ (DV) then (if (DV) < (yg.length : Int) then (if 0 ≤ (Int.tmod (wrap64 (a2 + (wrap64 (Int.tdiv a1 Ah)))) Cf) then (if (Int.tmod (wrap64 (a2 + (wrap64 (Int.tdiv a1 Ah)))) Cf) < ((yX yg (DV)).length : Int) then (if (DV) < (Cs.length : Int) then (if (Int.tmod (wrap64 (a2 + (wrap64 (Int.tdiv a1 Ah)))) Cf) < ((yX Cs (DV)).length : Int) then (some (rd (yX yg (DV)) (Int.tmod (wrap64 (a2 + (wrap64 (Int.tdiv a1 Ah)))) Cf),wrap64 ((wrap64 ((wrap64 (Int.tdiv a1 Ah)) * Au)) + (rd (yX Cs (DV)) (Int.tmod (wrap64 (a2 + (wrap64 (Int.tdiv a1 Ah)))) Cf))))) else (none)) else (none)) else (none)) else (none)) else (none)) else (none)) = some (r1,r2) := by (rw [Z8] at H;exact H)
 by_cases c7 : 0 ≤ (DV)
 rotate_left
 ·
  rw [if_neg c7] at H;exact absurd H (by simp)
 rw [if_pos c7] at H;have GL := decide_eq_true c7;clear c7
 by_cases c8 : (DV) < (yg.length : Int)
 rotate_left
 ·
  rw [if_neg c8] at H;exact absurd H (by simp)
 rw [if_pos c8] at H;have GN := decide_eq_true c8;clear c8;obtain ⟨K8,SI⟩ : ∃ j_ : Int,(Int.tmod (wrap64 (a2 + (wrap64 (Int.tdiv a1 Ah)))) Cf) = j_ := ⟨_,rfl⟩
 replace H : (if 0 ≤ (K8) then (if (K8) < ((yX yg (DV)).length : Int) then (if (DV) < (Cs.length : Int) then (if (K8) < ((yX Cs (DV)).length : Int) then (some (rd (yX yg (DV)) (K8),wrap64 ((wrap64 ((wrap64 (Int.tdiv a1 Ah)) * Au)) + (rd (yX Cs (DV)) (K8))))) else (none)) else (none)) else (none)) else (none)) = some (r1,r2) := by (rw [SI] at H;exact H)
 by_cases c10 : 0 ≤ (K8)
 rotate_left
 ·
  rw [if_neg c10] at H;exact absurd H (by simp)
 rw [if_pos c10] at H;have Fu := decide_eq_true c10;clear c10
 by_cases c11 : (K8) < ((yX yg (DV)).length : Int)
 rotate_left
 ·
  rw [if_neg c11] at H;exact absurd H (by simp)
 rw [if_pos c11] at H;have Fv := decide_eq_true c11;clear c11
 by_cases c12 : (DV) < (Cs.length : Int)
 rotate_left
 ·
  rw [if_neg c12] at H;exact absurd H (by simp)
 rw [if_pos c12] at H;have Gj := decide_eq_true c12;clear c12
 by_cases c13 : (K8) < ((yX Cs (DV)).length : Int)
 rotate_left
 ·
  rw [if_neg c13] at H;exact absurd H (by simp)
 rw [if_pos c13] at H;have J3 := decide_eq_true c13;clear c13;simp only [Option.some.injEq,Prod.mk.injEq] at H;obtain ⟨rfl,rfl⟩ := H
 go_enter Tryz.func61,Tryz.ntmps61
 try go_wp2_with (first | ((with_reducible refine yG (N := 3) rfl ?_);refine yD rfl (N := 3) rfl (cs := #[.int .i64 yj,.slice yK yg.length yE,.int .i64 ym,.int .i64 yn,.int .i64 Cf,.int .i64 Au,.int .i64 Ah,.slice FR Cs.length FL,.slice Gl BL.length FM,.int .i64 Ex,.int .i64 De]) (t := 94) (by go_simp) ?_;intro ag hg w14 yI hb;have af := yf.mk (yI);have bD := bG (w := w) hg;have bA := bG (w := w) hg;replace HB := bS HB hb;clear hb yI hg) | ((with_reducible refine yG (N := 6) rfl ?_);refine yD rfl (N := 6) rfl (cs := #[.int .i64 0,.int .i64 0]) (t := 51) (by go_simp) ?_;intro aa hg w15 yI hb;have ah := yf.mk (yI);have ai := bG (w := w) hg;have bC := bG (w := w) hg;have ae := Cq af hg;have ax := Aq af hg;replace af := bB af hb;replace HB := bS HB hb;clear hb yI hg))
 replace af := yf.mk (zl af.out);replace ah := yf.mk (zl ah.out);replace HB := yf.mk (zt HB.out)
 refine Bt (n := 10) (S := fun w' => w'.cell? ⟨ag,0,none⟩ = some (.int .i64 yj) ∧ w'.cell? ⟨ag,1,none⟩ = some (.slice yK yg.length yE) ∧ w'.cell? ⟨ag,2,none⟩ = some (.int .i64 ym) ∧ w'.cell? ⟨ag,3,none⟩ = some (.int .i64 yn) ∧ w'.cell? ⟨ag,4,none⟩ = some (.int .i64 Cf) ∧ w'.cell? ⟨ag,5,none⟩ = some (.int .i64 Au) ∧ w'.cell? ⟨ag,6,none⟩ = some (.int .i64 Ah) ∧ w'.cell? ⟨ag,7,none⟩ = some (.slice FR Cs.length FL) ∧ w'.cell? ⟨ag,8,none⟩ = some (.slice Gl BL.length FM) ∧ w'.cell? ⟨ag,9,none⟩ = some (.int .i64 Ex) ∧ w'.cell? ⟨ag,10,none⟩ = some (.int .i64 De)) (ds := []) (bz 10 0) (by kernel_rfl) rfl rfl (E9 af) (fun hHeld => ?_);refine Ab zG.a2R zG.VH (fun yJ Bv => ?_)
 generalize w15.drew = w16 at af ah HB hHeld ⊢;refine pU 0 10 10 1 yJ ?_;refine pU 1 11 10 3 yJ ?_;refine pU 4 14 10 19 yJ ?_;refine pU 5 15 10 51 yJ ?_
 refine Co 2 12 10 55 yJ Bv hHeld ?_
 refine pU 3 13 10 63 yJ ?_;refine pU 8 7 10 319 yJ ?_
 refine Co 6 16 10 383 yJ Bv hHeld ?_
 refine pU 7 17 10 511 yJ ?_;refine pU 9 8 10 1023 yJ ?_
 refine Cn (AZ yJ.out (by kernel_rfl)) ?_
 have X3 := ae.out;have Xg := ax.out;have TI := E9 af;have TP := bf af
 try go_wp2
 replace af := yf.mk (zl af.out);replace ah := yf.mk (zl ah.out);replace HB := yf.mk (zt HB.out)
 have aD : 0 ≤ ((DV) : Int) := of_decide_eq_true ‹_›
 have aJ : (DV) < (yg.length : Int) := of_decide_eq_true ‹_›
 obtain ⟨aU,bu,bn,e306,aj,bg,aY⟩ := Ec zk.out (DV) aD aJ;have ay := aj;cases e306;replace aj := cB HB aj;have aQ := yf.mk aY;have bF := yf.mk bg;clear aY bg;replace aD := eq_true aD;replace aJ := eq_true aJ
 have aG : 0 ≤ ((K8) : Int) := of_decide_eq_true ‹_›
 have aK : (K8) < ((yX yg (DV)).length : Int) := of_decide_eq_true ‹_›
 obtain ⟨aV,e307,ak⟩ := Kd.BG aQ.out (K8) aG aK;have az := ak;cases e307;replace ak := cB HB ak;replace aG := eq_true aG;replace aK := eq_true aK
 have aH : 0 ≤ ((DV) : Int) := of_decide_eq_true ‹_›
 have aM : (DV) < (Cs.length : Int) := of_decide_eq_true ‹_›
 obtain ⟨aW,bv,bq,e308,au,bi,aZ⟩ := Ec Lx.out (DV) aH aM;have aA := au;cases e308;replace au := cB HB au;have aT := yf.mk aZ;have bH := yf.mk bi;clear aZ bi;replace aH := eq_true aH;replace aM := eq_true aM
 have aI : 0 ≤ ((K8) : Int) := of_decide_eq_true ‹_›
 have aN : (K8) < ((yX Cs (DV)).length : Int) := of_decide_eq_true ‹_›
 obtain ⟨aX,e309,av⟩ := Kd.BG aT.out (K8) aI aN;have aC := av;cases e309;replace av := cB HB av;replace aI := eq_true aI;replace aN := eq_true aN
 refine Bt (n := 25) (S := fun w' => w'.cell? ⟨ag,0,none⟩ = some (.int .i64 yj) ∧ w'.cell? ⟨ag,1,none⟩ = some (.slice (some aU) yg.length yE) ∧ w'.cell? ⟨ag,2,none⟩ = some (.int .i64 ym) ∧ w'.cell? ⟨ag,3,none⟩ = some (.int .i64 yn) ∧ w'.cell? ⟨ag,4,none⟩ = some (.int .i64 Cf) ∧ w'.cell? ⟨ag,5,none⟩ = some (.int .i64 Au) ∧ w'.cell? ⟨ag,6,none⟩ = some (.int .i64 Ah) ∧ w'.cell? ⟨ag,7,none⟩ = some (.slice (some aW) Cs.length FL) ∧ w'.cell? ⟨ag,8,none⟩ = some (.slice Gl BL.length FM) ∧ w'.cell? ⟨ag,9,none⟩ = some (.int .i64 Ex) ∧ w'.cell? ⟨ag,10,none⟩ = some (.int .i64 De) ∧ w'.cell? (aU.add ((DV)).toNat) = some (.slice (some aV) (yX yg (DV)).length bn) ∧ w'.cell? (aV.add ((K8)).toNat) = some (.int .i64 (rd (yX yg (DV)) (K8))) ∧ w'.cell? (aW.add ((DV)).toNat) = some (.slice (some aX) (yX Cs (DV)).length bq) ∧ w'.cell? (aX.add ((K8)).toNat) = some (.int .i64 (rd (yX Cs (DV)) (K8)))) (ds := []) (bz 25 0) (by kernel_rfl) rfl rfl ⟨(yx af.out 0).trans rfl,(yx af.out 1).trans rfl,(yx af.out 2).trans rfl,(yx af.out 3).trans rfl,(yx af.out 4).trans rfl,(yx af.out 5).trans rfl,(yx af.out 6).trans rfl,(yx af.out 7).trans rfl,(yx af.out 8).trans rfl,(yx af.out 9).trans rfl,(yx af.out 10).trans rfl,(cB HB ay),(cB HB az),(cB HB aA),(cB HB aC)⟩ (fun hHeld => ?_);refine Ab zG.a2S zG.VK (fun yJ Bv => ?_)
 generalize w16.drew = w19 at af ah HB aQ aT aj ak au av hHeld ⊢;refine pU 0 24 25 1 yJ ?_;refine pU 1 25 25 3 yJ ?_;refine pU 2 26 25 7 yJ ?_;refine pU 4 28 25 23 yJ ?_;refine pU 7 31 25 151 yJ ?_;refine pU 10 34 25 1175 yJ ?_;refine pU 11 35 25 3223 yJ ?_;refine pU 14 38 25 19607 yJ ?_;refine pU 16 40 25 85143 yJ ?_;refine pU 19 43 25 609431 yJ ?_
 refine Co 3 27 25 609439 yJ Bv hHeld ?_
 refine pU 5 29 25 609471 yJ ?_
 refine Co 6 30 25 609535 yJ Bv hHeld ?_
 refine pU 8 32 25 609791 yJ ?_
 refine Co 9 33 25 610303 yJ Bv hHeld ?_
 refine Co 12 36 25 614399 yJ Bv hHeld ?_
 refine pU 13 37 25 622591 yJ ?_
 refine Co 15 39 25 655359 yJ Bv hHeld ?_
 refine pU 17 41 25 786431 yJ ?_
 refine Co 18 42 25 1048575 yJ Bv hHeld ?_
 refine pU 20 44 25 2097151 yJ ?_
 refine Co 21 45 25 4194303 yJ Bv hHeld ?_
 refine pU 22 46 25 8388607 yJ ?_;refine pU 23 47 25 16777215 yJ ?_
 refine CB (i := 24) (N := none) (bz 25 33554431) rfl rfl (Ar yJ.out (by kernel_rfl)) (by decide) (fun K hK => ?_)
 have a6f : w19.cell? ⟨aa,0,none⟩ = some (.int .i64 0) := (yx ah.out 0).trans rfl
 have a3T := zy ah.out 0;have Zb := ae.out;have Z9 := ax.out
 have a4W : w19.cell? ⟨aa,1,none⟩ = some (.int .i64 0) := (yx ah.out 1).trans rfl
 have a0f := zy ah.out 1;have Ui := ae.out;have TU := ax.out
 refine Ia (w1 := ?_) (by rfl) rfl ?_ ?_
 rotate_left
 ·
  go_simp
  rfl
 refine hK.out _ _ ⟨((cell_far (p := ⟨aa,_,none⟩) ae.out _).trans (((cell_far (p := ⟨aa,_,none⟩) ae.out _).trans (hHeld.1)))),((cell_far (p := ⟨aa,_,none⟩) ae.out _).trans (((cell_far (p := ⟨aa,_,none⟩) ae.out _).trans (hHeld.2.1)))),((cell_far (p := ⟨aa,_,none⟩) ae.out _).trans (((cell_far (p := ⟨aa,_,none⟩) ae.out _).trans (hHeld.2.2.1)))),((cell_far (p := ⟨aa,_,none⟩) ae.out _).trans (((cell_far (p := ⟨aa,_,none⟩) ae.out _).trans (hHeld.2.2.2.1)))),((cell_far (p := ⟨aa,_,none⟩) ae.out _).trans (((cell_far (p := ⟨aa,_,none⟩) ae.out _).trans (hHeld.2.2.2.2.1)))),((cell_far (p := ⟨aa,_,none⟩) ae.out _).trans (((cell_far (p := ⟨aa,_,none⟩) ae.out _).trans (hHeld.2.2.2.2.2.1)))),((cell_far (p := ⟨aa,_,none⟩) ae.out _).trans (((cell_far (p := ⟨aa,_,none⟩) ae.out _).trans (hHeld.2.2.2.2.2.2.1)))),((cell_far (p := ⟨aa,_,none⟩) ae.out _).trans (((cell_far (p := ⟨aa,_,none⟩) ae.out _).trans (hHeld.2.2.2.2.2.2.2.1)))),((cell_far (p := ⟨aa,_,none⟩) ae.out _).trans (((cell_far (p := ⟨aa,_,none⟩) ae.out _).trans (hHeld.2.2.2.2.2.2.2.2.1)))),((cell_far (p := ⟨aa,_,none⟩) ae.out _).trans (((cell_far (p := ⟨aa,_,none⟩) ae.out _).trans (hHeld.2.2.2.2.2.2.2.2.2.1)))),((cell_far (p := ⟨aa,_,none⟩) ae.out _).trans (((cell_far (p := ⟨aa,_,none⟩) ae.out _).trans (hHeld.2.2.2.2.2.2.2.2.2.2.1)))),((cell_far (p := ⟨aa,_,none⟩) (by exact Nat.ne_of_lt (Nat.lt_of_lt_of_le (by have := World.block_lt_of_cell? _ _ ay;exact this) ai.out)) _).trans (((cell_far (p := ⟨aa,_,none⟩) (by exact Nat.ne_of_lt (Nat.lt_of_lt_of_le (by have := World.block_lt_of_cell? _ _ ay;exact this) ai.out)) _).trans (hHeld.2.2.2.2.2.2.2.2.2.2.2.1)))),((cell_far (p := ⟨aa,_,none⟩) (by exact Nat.ne_of_lt (Nat.lt_of_lt_of_le (by have := World.block_lt_of_cell? _ _ az;exact this) ai.out)) _).trans (((cell_far (p := ⟨aa,_,none⟩) (by exact Nat.ne_of_lt (Nat.lt_of_lt_of_le (by have := World.block_lt_of_cell? _ _ az;exact this) ai.out)) _).trans (hHeld.2.2.2.2.2.2.2.2.2.2.2.2.1)))),((cell_far (p := ⟨aa,_,none⟩) (by exact Nat.ne_of_lt (Nat.lt_of_lt_of_le (by have := World.block_lt_of_cell? _ _ aA;exact this) ai.out)) _).trans (((cell_far (p := ⟨aa,_,none⟩) (by exact Nat.ne_of_lt (Nat.lt_of_lt_of_le (by have := World.block_lt_of_cell? _ _ aA;exact this) ai.out)) _).trans (hHeld.2.2.2.2.2.2.2.2.2.2.2.2.2.1)))),((cell_far (p := ⟨aa,_,none⟩) (by exact Nat.ne_of_lt (Nat.lt_of_lt_of_le (by have := World.block_lt_of_cell? _ _ aC;exact this) ai.out)) _).trans (((cell_far (p := ⟨aa,_,none⟩) (by exact Nat.ne_of_lt (Nat.lt_of_lt_of_le (by have := World.block_lt_of_cell? _ _ aC;exact this) ai.out)) _).trans (hHeld.2.2.2.2.2.2.2.2.2.2.2.2.2.2))))⟩ (fun hHeld => ?_)
 clear hK K
 refine Cn (AZ yJ.out (by kernel_rfl)) ?_
 try go_wp2
 refine bodyPost_ret (results_cell_row rfl _ _ aa 51 #[.int .i64 (rd (yX yg (DV)) (K8)),.int .i64 (wrap64 ((wrap64 ((wrap64 (Int.tdiv a1 Ah)) * Au)) + (rd (yX Cs (DV)) (K8))))] (0,0) _ rfl (CY ah rfl) Tryz.underlying51 rfl (by kernel_rfl)) rfl ?_
 exact ⟨by rfl,bO HB⟩
end Go.Proofs.YtjonnfmoocijlaaGreat.P
namespace Go.Proofs.YtjonnfmoocijlaaGreat.P
open Go.RowKit Go.Proofs.YtjonnfmoocijlaaGreatKW.PrintWords Go.Proofs.YtjonnfmoocijlaaGreatKW.PrintLast Go.Proofs.YtjonnfmoocijlaaGreatKW.PrintMore
def NL (gi : Nat) (p : List (List Int) × List Int) (x : Int) : List (List Int) × List Int := (p.1.set x.toNat (p.1.getD x.toNat [] ++ [(gi : Int)]),p.2 ++ [((p.1.getD x.toNat []).length : Int)])
def Vs (gi : Nat) (g : List Int) (on : List (List Int)) : List (List Int) × List Int := g.foldl (NL gi) (on,[])
def mGo (s : List (List Int) × List (List Int)) (y : List Int × Nat) : List (List Int) × List (List Int) := ((Vs y.2 y.1 s.1).1,s.2 ++ [(Vs y.2 y.1 s.1).2])
def GH (d : Nat) (L : List (List Int)) : List (List Int) × List (List Int) := L.zipIdx.foldl mGo (List.replicate d [],[])
def MOk (d : Int) (L : List (List Int)) : Prop := L.length ≤ 4096 ∧ ∀ g ∈ L,g.length ≤ 60 ∧ ∀ x ∈ g,0 ≤ x ∧ x < d
instance (d : Int) (L : List (List Int)) : Decidable (MOk d L) := by unfold MOk;infer_instance
def layout_measure_fin (d : Int) (L : List (List Int)) (T S W r n h c : Int) : Option (Int × (List (List Int)) × Int × Int × Int × Int × Int × (List (List Int)) × (List (List Int)) × Int × Int × Bool) :=
 if MOk d L then some (d,L,T,S,W,r,n,(GH d.toNat L).2,(GH d.toNat L).1,h,c,true) else none
theorem QX (gi : Nat) (g : List Int) (on : List (List Int)) (j : Nat) (h : j < g.length) : Vs gi (g.take (j + 1)) on = NL gi (Vs gi (g.take j) on) g[j] := by
 unfold Vs
 rw [List.take_succ_eq_append_getElem h,List.foldl_append]
 rfl
def Ey (d : Nat) (L : List (List Int)) (i : Nat) : List (List Int) × List (List Int) := (L.zipIdx.take i).foldl mGo (List.replicate d [],[])
theorem J9 (d : Nat) (L : List (List Int)) : Ey d L 0 = (List.replicate d [],[]) := rfl
theorem M0 (d : Nat) (L : List (List Int)) (i : Nat) (h : i < L.length) : Ey d L (i + 1) = mGo (Ey d L i) (L[i],i) := by
 unfold Ey
 rw [List.take_succ_eq_append_getElem (by simpa using h),List.foldl_append]
 simp
theorem SY (d : Nat) (L : List (List Int)) : Ey d L L.length = GH d L := by
 unfold Ey GH
 rw [List.take_of_length_le (by simp)]
def Bd (n b : Nat) (on : List (List Int)) : Prop := on.length = n ∧ ∀ k,(on.getD k []).length ≤ b
theorem Bd.step {n b gi : Nat} {p : List (List Int) × List Int} (h : Bd n b p.1) (x : Int) : Bd n (b + 1) (NL gi p x).1 := by
  refine ⟨by simp [NL,h.1],fun k => ?_⟩
  simp only [NL]
  have h1 := h.2 k
  have h2 := h.2 x.toNat
  rw [List.getD_eq_getElem?_getD] at h1 h2 ⊢
  rw [List.getElem?_set]
  split
  · split
    · simp only [Option.getD_some,List.length_append,List.length_singleton,List.getD_eq_getElem?_getD];omega
    · simp
  · omega
theorem Bd.row (n b gi : Nat) (g : List Int) (on : List (List Int)) (h : Bd n b on) : ∀ j,j ≤ g.length → Bd n (b + j) (Vs gi (g.take j) on).1 ∧ (Vs gi (g.take j) on).2.length = j
 | 0,_ => ⟨h,rfl⟩
 | j + 1,hj => by
  obtain ⟨h1,h2⟩ := Bd.row n b gi g on h j (by omega)
  rw [QX gi g on j (by omega)]
  exact ⟨h1.step _,by simp [NL,h2]⟩
theorem Bd.mono {n b b' : Nat} {on : List (List Int)} (h : Bd n b on) (hb : b ≤ b') : Bd n b' on := ⟨h.1,fun k => Nat.le_trans (h.2 k) hb⟩
theorem Bd.all (d : Nat) (L : List (List Int)) (hL : ∀ g ∈ L,g.length ≤ 60) : ∀ i,i ≤ L.length → Bd d (i * 60) (Ey d L i).1 ∧ (Ey d L i).2.length = i
 | 0,_ => ⟨⟨by simp [J9],fun k => by simp only [J9,List.getD_eq_getElem?_getD,List.getElem?_replicate];split <;> simp⟩,rfl⟩
 | i + 1,hi => by
  obtain ⟨h1,h2⟩ := Bd.all d L hL i (by omega)
  rw [M0 d L i (by omega)]
  have h3 := (Bd.row _ _ i L[i] _ h1 L[i].length (Nat.le_refl _)).1
  rw [List.take_of_length_le (Nat.le_refl _)] at h3
  exact ⟨h3.mono (by have := hL _ (List.getElem_mem (show i < L.length by omega));rw [Nat.succ_mul];omega),by simp [mGo,h2]⟩
def JQ (W : World) (base : Nat) (on : List (List Int)) (vo : Value) (rk : List (List Int)) (vr : Value) (row : List Int) (v : Value) : Prop :=
 ∃ oO oR oT : Nat → Prop,Kd.S (Kd.slice 3 (Kd.int .i64)) 37 W base oO vo on ∧ Kd.R (Kd.slice 3 (Kd.int .i64)) 37 W base oR vr rk ∧ Kd.R (Kd.int .i64) 3 W base oT v row ∧
  (∀ k,oO k → ¬ oR k ∧ ¬ oT k) ∧ (∀ k,oR k → ¬ oT k) ∧ (∀ k,oO k ∨ oR k ∨ oT k → k < W.heap.size)
section
variable {W w1 : World} {base bo c : Nat} {on rk : List (List Int)} {vo vr v v1 vr1 : Value} {row row' xs' : List Int} {oO oR oT : Nat → Prop}
theorem JQ.step {W w1 : World} (h : JQ W base on vo rk vr row v) (hb : Below W.heap.size W w1) : JQ w1 base on vo rk vr row v := by
 obtain ⟨oO,oR,oT,hS,hR,hT,d1,d2,d3⟩ := h
 exact ⟨oO,oR,oT,Kd.Fj hS hb,Kd.Cj hR hb,Kd.Cj hT hb,d1,d2,fun k hk => Nat.lt_of_lt_of_le (d3 k hk) hb.size⟩
theorem JQ.drew (h : JQ W base on vo rk vr row v) : JQ W.drew base on vo rk vr row v := h.step (FJ (Below.refl W.heap.size W))
theorem JQ.far {p : Addr} {o : Array Value} {t : Nat} (h : JQ W base on vo rk vr row v) (hp : W.heap[p.block]? = some (.cells o t (0,0))) (ht1 : 37 ≠ t) (ht2 : 3 ≠ t) (u : Value) : JQ (W.setCell p u) base on vo rk vr row v := by
 obtain ⟨oO,oR,oT,hS,hR,hT,d1,d2,d3⟩ := h
 have hq : ∀ q,q ∈ 37 :: (Kd.slice 3 (Kd.int .i64)).E → q ≠ t := by
  intro q hq
  simp only [Kd.slice,Kd.int,Kd.scalar,List.mem_cons,List.not_mem_nil,or_false] at hq
  rcases hq with rfl | rfl
  · exact ht1
  · exact ht2
 have hq' : ∀ q,q ∈ 3 :: (Kd.int .i64).E → q ≠ t := by
  intro q hq
  simp only [Kd.int,Kd.scalar,List.mem_cons,List.not_mem_nil,or_false] at hq
  rcases hq with rfl
  exact ht2
 exact ⟨fun k => oO k ∧ k ≠ p.block,fun k => oR k ∧ k ≠ p.block,fun k => oT k ∧ k ≠ p.block,Kd.Hz (Kd.C8 hS hp hq) (fun k hk => hk.2) u,Kd.Ka (Kd.Bw hR hp hq) (fun k hk => hk.2) u,Kd.Ka (Kd.Bw hT hp hq') (fun k hk => hk.2) u,
  fun k hk => ⟨fun h2 => (d1 k hk.1).1 h2.1,fun h2 => (d1 k hk.1).2 h2.1⟩,fun k hk h2 => d2 k hk.1 h2.1,fun k hk => by
   have : k < W.heap.size := d3 k (hk.elim (fun h => .inl h.1) (fun h => h.elim (fun h => .inr (.inl h.1)) (fun h => .inr (.inr h.1))))
   simpa [World.setCell] using this⟩
theorem JQ.push (hS : Kd.S (Kd.slice 3 (Kd.int .i64)) 37 W base oO vo on) (hR : Kd.R (Kd.slice 3 (Kd.int .i64)) 37 W base oR vr rk) (hT : Kd.R (Kd.int .i64) 3 W base oT v row)
    (d1 : ∀ k,oO k → ¬ oR k ∧ ¬ oT k) (d2 : ∀ k,oR k → ¬ oT k) (d3 : ∀ k,oO k ∨ oR k ∨ oT k → k < W.heap.size) (ho : Kd.R (Kd.int .i64) 3 w1 base (fun k => oT k ∨ W.heap.size ≤ k) v1 row') (hg : W.grownBy w1 v.ownBlock) : JQ w1 base on vo rk vr row' v1 := by
  refine ⟨oO,oR,fun k => (oT k ∨ W.heap.size ≤ k) ∧ k < w1.heap.size,Kd.Tq hS hg (fun k hk e => (d1 k hk).2 (hT.1 k e.symm)),Kd.Pf hR hg (fun k hk e => d2 k hk (hT.1 k e.symm)),Kd.zf (Kd.DZ ho) (fun k h => ⟨h.1,h.2.2.1⟩),?_,?_,?_⟩
  · exact fun k hk => ⟨(d1 k hk).1,fun h2 => h2.1.elim (d1 k hk).2 (fun h3 => by have := d3 k (.inl hk);omega)⟩
  · exact fun k hk h2 => h2.1.elim (d2 k hk) (fun h3 => by have := d3 k (.inr (.inl hk));omega)
  · have := hg.size
    exact fun k hk => hk.elim (fun h => Nat.lt_of_lt_of_le (d3 k (.inl h)) this) (fun h => h.elim (fun h => Nat.lt_of_lt_of_le (d3 k (.inr (.inl h))) this) (fun h => h.2))
theorem JQ.rank (hS : Kd.S (Kd.slice 3 (Kd.int .i64)) 37 W base oO vo on) (hR : Kd.R (Kd.slice 3 (Kd.int .i64)) 37 W base oR vr rk)
    (d1 : ∀ k,oO k → ¬ oR k ∧ ¬ oT k) (d3 : ∀ k,oO k ∨ oR k ∨ oT k → k < W.heap.size) (ho : Kd.R (Kd.slice 3 (Kd.int .i64)) 37 w1 base (fun k => (oR k ∨ oT k) ∨ W.heap.size ≤ k) vr1 (rk ++ [row])) (hg : W.grownBy w1 vr.ownBlock) :
    JQ w1 base on vo (rk ++ [row]) vr1 [] (.slice none 0 0) := by
  refine ⟨oO,fun k => ((oR k ∨ oT k) ∨ W.heap.size ≤ k) ∧ k < w1.heap.size,fun _ => False,Kd.Tq hS hg (fun k hk e => (d1 k hk).1 (hR.1 k e.symm)),Kd.zf (Kd.DZ ho) (fun k h => ⟨h.1,h.2.2.1⟩),Kd.Dc _ _ _ _ _,?_,?_,?_⟩
  · exact fun k hk => ⟨fun h2 => h2.1.elim (fun h => h.elim (d1 k hk).1 (d1 k hk).2) (fun h3 => by have := d3 k (.inl hk);omega),id⟩
  · exact fun k hk => id
  · have := hg.size
    exact fun k hk => hk.elim (fun h => Nat.lt_of_lt_of_le (d3 k (.inl h)) this) (fun h => h.elim (fun h => h.2) (fun h => h.elim))
theorem JQ.start {ok : Nat → Prop} (hS : Kd.S (Kd.slice 3 (Kd.int .i64)) 37 W base ok vo on) : JQ W base on vo [] (.slice none 0 0) [] (.slice none 0 0) :=
 ⟨fun k => ok k ∧ k < W.heap.size,fun _ => False,fun _ => False,Kd.BI (Kd.Kb hS) (fun k h => ⟨h.1,h.2.2.1⟩),Kd.Dc _ _ _ _ _,Kd.Dc _ _ _ _ _,fun _ _ => ⟨id,id⟩,fun _ h => h.elim,fun k hk => hk.elim (fun h => h.2) (fun h => h.elim (fun h => h.elim) (fun h => h.elim))⟩
theorem JQ.head {A : Option Addr} {n : Nat} (h : JQ W base on (.slice A n c) rk vr row v) (dd : Nat) (hd : dd < n) : n = on.length ∧ ∃ bo,A = some ⟨bo,0,none⟩ := by
 obtain ⟨oO,oR,oT,hS,hR,hT,d1,d2,d3⟩ := h
 have h1 := Kd.Cb hS
 obtain ⟨ad,hA,_⟩ := h1.2.2.2.2 (by omega)
 subst hA
 exact ⟨h1.1,Kd.a1t (Kd.Ym hS) |>.imp fun g hg => by rw [hg]⟩
theorem JQ.a2E (h : JQ W base on (.slice (some ⟨bo,0,none⟩) on.length c) rk vr row v) (dd : Nat) (hd : dd < on.length) :
    ∃ (oi : Nat → Prop) (vd : Value),Kd.R (Kd.int .i64) 3 W base oi vd (on.getD dd []) ∧ W.cell? ⟨bo,dd,none⟩ = some vd ∧ (∀ j,W.frozen? ⟨bo,j,none⟩ = false) ∧ bo < W.heap.size ∧ base ≤ bo ∧ (∀ k,vd.ownBlock = some k → k ≠ bo) ∧ (∃ cells,W.heap[bo]? = some (.cells cells 37 (0,0))) ∧
      ∀ w1 v1 xs',Kd.R (Kd.int .i64) 3 w1 base (fun k => oi k ∨ W.heap.size ≤ k) v1 xs' → W.grownBy w1 vd.ownBlock → JQ (w1.setCell ⟨bo,dd,none⟩ v1) base (on.set dd xs') (.slice (some ⟨bo,0,none⟩) on.length c) rk vr row v := by
  obtain ⟨oO,oR,oT,hS,hR,hT,d1,d2,d3⟩ := h
  have hbo : oO bo := hS.elim fun f hf => hf.1 bo rfl
  have hlt := d3 bo (.inl hbo)
  obtain ⟨oki,cc,hcl,⟨vd,rfl,hM⟩,hcc,hfr,hoki,H⟩ := Kd.a1w hS [] (dd : Int) (by omega) (by omega)
  rw [Int.toNat_natCast] at hM hcc hfr
  refine ⟨oki,vd,hM,by have := hcc 0 _ rfl;simpa [Kd.slice] using this,fun j => ?_,hlt,Kd.RO hS bo rfl,fun k hk => (hoki k (hM.1 k hk)).2,?_,fun w1 v1 xs' ho hg => ?_⟩
  · obtain ⟨cells,hce⟩ := Kd.Ii (Kd.Ym hS) bo rfl
    exact zy hce j
  · exact Kd.Ii (Kd.Ym hS) bo rfl
  · have hvd : ∀ k,vd.ownBlock = some k → oO k := fun k hk => (hoki k (hM.1 k hk)).1
    have H2 := Kd.YA (Kd.YB (Kd.a1p H (ok' := fun k => oO k ∨ W.heap.size ≤ k) (fun k hk => .inl hk))) hg (fun k hk => .inl (hM.1 k hk))
    have hv1 : v1.oneCell' = true := (Kd.ZM ho).2
    obtain ⟨H3,hg3⟩ := Kd.a3s H2 (by omega) (by omega) (seg := [v1]) (j := 0) (by simp [Kd.slice]) (by intro q hq;simp only [List.mem_singleton] at hq;subst hq;exact hv1)
    rw [Int.toNat_natCast] at H3 hg3
    have e1 : w1.setCells bo (dd * (Kd.slice 3 (Kd.int .i64)).sz + 0) [v1] = w1.setCell ⟨bo,dd,none⟩ v1 := by
      rw [show dd * (Kd.slice 3 (Kd.int .i64)).sz + 0 = dd from Nat.mul_one dd];rfl
    rw [e1] at H3 hg3
    have hRw : Kd.R (Kd.int .i64) 3 (w1.setCell ⟨bo,dd,none⟩ v1) base (fun k => oki k ∨ W.heap.size ≤ k) v1 xs' := Kd.Ka ho (fun k hk => by
      rcases hk with hk | hk
      · exact (hoki k hk).2
      · show k ≠ bo
        omega) v1
    have aa := Kd.a1o H3 (x' := xs') (Kd.Tm hRw) (fun k hk => hk.elim .inl (fun h => .inr ⟨.inr h,h⟩))
    rw [Int.toNat_natCast] at aa
    have hgs : W.heap.size ≤ (w1.setCell ⟨bo,dd,none⟩ v1).heap.size := Nat.le_trans hg.size hg3.size
    refine ⟨fun k => (oO k ∨ W.heap.size ≤ k) ∧ k < (w1.setCell ⟨bo,dd,none⟩ v1).heap.size,oR,oT,Kd.BI (Kd.Kb aa) (fun k h => ⟨h.1,h.2.2.1⟩),
      Kd.Ka (p := ⟨bo,dd,none⟩) (Kd.Pf hR hg (fun k hk e => (d1 k (hvd k e.symm)).1 hk)) (fun k hk e => (d1 bo hbo).1 ((show k = bo from e) ▸ hk)) v1,
      Kd.Ka (p := ⟨bo,dd,none⟩) (Kd.Pf hT hg (fun k hk e => (d1 k (hvd k e.symm)).2 hk)) (fun k hk e => (d1 bo hbo).2 ((show k = bo from e) ▸ hk)) v1,?_,d2,?_⟩
    · refine fun k hk => ⟨fun h2 => hk.1.elim (fun h => (d1 k h).1 h2) (fun h => by have := d3 k (.inr (.inl h2));omega),fun h2 => hk.1.elim (fun h => (d1 k h).2 h2) (fun h => by have := d3 k (.inr (.inr h2));omega)⟩
    · exact fun k hk => hk.elim (fun h => h.2) (fun h => Nat.lt_of_lt_of_le (d3 k (.inr h)) hgs)
end
def M3 : Bool × List (List Nat × List Nat) := (true,[([],[]),([0],[0]),([],[]),([],[]),([3],[3]),([],[]),([4,5],[4,5]),([6],[6]),([],[]),([8],[8]),([7,9],[7,9]),([1,2,0,1,2,3,4,5,6,7,8,9,10],[1,2]),([11,10,10,0,1,2,3,4,5,6,7,8,9,10],[10,11])])
def QY : List Nat := [0,1,0,0,8,0,56,120,0,256,1016,2047,4095]
theorem Od : Dv .any (opsOf Tryz.f51 20) = M3 := by kernel_rfl
theorem NM : BH M3.2 QY = true := by kernel_rfl
end Go.Proofs.YtjonnfmoocijlaaGreat.P
