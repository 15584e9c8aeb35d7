/- Texts of a claim, packed. -/
import Derived.Shelf.SlSortCmp.WholeK
import Derived.Shelf.SlSortCmp.NoneTotal
import Derived.Ground.SlsfProg
import Derived.Test.YtjonnfmoocijlaaGreatE27
set_option linter.all false
namespace Go.Proofs.YtjonnfmoocijlaaGreat.P
open Go.RowKit Go.Proofs.YtjonnfmoocijlaaGreatKW.PrintWords Go.Proofs.YtjonnfmoocijlaaGreatKW.PrintLast Go.Proofs.YtjonnfmoocijlaaGreatKW.PrintMore
attribute [local go_sem] zN zP Af Ag zz zA zO zQ
def zo.f (k : Nat) (yj : Int) (yg : List (List Int)) (ym : Int) (yn : Int) (Cf : Int) (Au : Int) (Ah : Int) (Cs : List (List Int)) (BL : List (List Int)) (Ex : Int) (De : Int) (a1 : Int) (a2 : Int) : Option (Int × Int) := if Au = 0 then (none) else (if 0 ≤ a1 then (if a1 < (BL.length : Int) then (if 0 ≤ (Int.tmod a2 Au) then (if (Int.tmod a2 Au) < ((yX BL a1).length : Int) then (if 0 ≤ (rd (yX BL a1) (Int.tmod a2 Au)) then (if (rd (yX BL a1) (Int.tmod a2 Au)) < (yg.length : Int) then ((slices_Index_int.f k (yX yg (rd (yX BL a1) (Int.tmod a2 Au))) a1).bind fun Rh => (if Cf = 0 then (none) else (some (wrap64 ((wrap64 ((wrap64 (Int.tdiv a2 Au)) * Ah)) + (rd (yX BL a1) (Int.tmod a2 Au))),Int.tmod (wrap64 ((Int.tmod (wrap64 (Rh - (wrap64 (Int.tdiv a2 Au)))) Cf) + Cf)) Cf)))) else (none)) else (none)) else (none)) else (none)) else (none)) else (none))
theorem zo.mono : ∀ a0 a1 a2 a3 a4 a5 a6 a7 a8 a9 a10 aa a12 k,Bh (zo.f k a0 a1 a2 a3 a4 a5 a6 a7 a8 a9 a10 aa a12) (zo.f (k + 1) a0 a1 a2 a3 a4 a5 a6 a7 a8 a9 a10 aa a12) := by
 intro a0 a1 a2 a3 a4 a5 a6 a7 a8 a9 a10 aa a12 k
 unfold zo.f
 repeat' first
  | exact slices_Index_int.mono _ _ _
  | exact Bh.refl _
  | exact Bh.none _
  | refine Bh.ite ?_ ?_
  | refine Bh.bind ?_ (fun _ => ?_)
def zo.T2 : Bool × List (List Nat × List Nat) := (true,[([],[]),([0],[0]),([],[]),([1,2],[1,2]),([3],[3]),([],[]),([],[]),([6],[6]),([5,7],[5,7]),([4,8],[4,8]),([9],[9]),([10,0,1,2,3,4,5,6,7,8,9,10],[10])])
def zo.B2 : List Nat := [0,1,0,7,15,0,0,64,224,511,1023,2047]
theorem zo.Yb : Dv .any (opsOf Tryz.f52 2) = zo.T2 := by kernel_rfl
theorem zo.Q9 : BH zo.T2.2 zo.B2 = true := by kernel_rfl
def zo.T4 : Bool × List (List Nat × List Nat) := (true,[([],[]),([],[]),([1],[1]),([0,2],[0,2]),([],[]),([3,4],[3,4]),([],[]),([],[]),([6,7],[6,7]),([],[]),([9],[9]),([8,10],[8,10]),([],[]),([12],[12]),([11,13],[11,13]),([],[]),([15],[15]),([14,16],[14,16]),([5,17],[5,17]),([18,0,1,2,3,4,5,6,7,8,9,10,11,12,13,14,15,16,17,18],[18])])
def zo.B4 : List Nat := [0,0,2,7,0,31,0,0,192,0,512,1984,0,4096,16320,0,32768,131008,262143,524287]
theorem zo.a2T : Dv .any (opsOf Tryz.f52 4) = zo.T4 := by kernel_rfl
theorem zo.VL : BH zo.T4.2 zo.B4 = true := by kernel_rfl
set_option maxHeartbeats 8000000 in
set_option maxRecDepth 100000 in
theorem zo.calls (k : Nat) (yj : Int) (yK : Option Addr) (yE : Nat) (yg : List (List Int)) (ym : Int) (yn : Int) (Cf : Int) (Au : Int) (Ah : Int) (FR : Option Addr) (FL : Nat) (Cs : List (List Int)) (Gl : Option Addr) (FM : Nat) (BL : List (List Int)) (Ex : Int) (De : Int) (a1 : Int) (a2 : Int) (r1 : Int) (r2 : Int) (w : World) (zS : Kd.C (Kd.slice 3 (Kd.int .i64)) w yK yg.length yg) (zT : yg.length ≤ yE) (H7 : Kd.C (Kd.slice 3 (Kd.int .i64)) w FR Cs.length Cs) (H5 : Cs.length ≤ FL) (H8 : Kd.C (Kd.slice 3 (Kd.int .i64)) w Gl BL.length BL) (H6 : BL.length ≤ FM) (h : zo.f k yj yg ym yn Cf Au Ah Cs BL Ex De a1 a2 = some (r1,r2)) :
  Calls Tryz.prog 52 #[.agg #[.int .i64 yj,.slice yK yg.length yE,.int .i64 ym,.int .i64 yn,.int .i64 Cf,.int .i64 Au,.int .i64 Ah,.slice FR Cs.length FL,.slice Gl BL.length FM,.int .i64 Ex,.int .i64 De],.int .i64 a1,.int .i64 a2] w fun e w' => e = .returned (.agg #[.int .i64 r1,.int .i64 r2]) ∧ Below w.heap.size w w' := by
 have PI := Tryz.underlying94;have SL := Tryz.underlying45;have zk := yf.mk zS;have zq := yf.mk zT;clear zS zT;have Lx := yf.mk H7;have MP := yf.mk H5;clear H7 H5;have LA := yf.mk H8;have MQ := yf.mk H6;clear H8 H6;have HB := yf.mk (Below.refl w.heap.size w)
 have H : (if Au = 0 then (none) else (if 0 ≤ a1 then (if a1 < (BL.length : Int) then (if 0 ≤ (Int.tmod a2 Au) then (if (Int.tmod a2 Au) < ((yX BL a1).length : Int) then (if 0 ≤ (rd (yX BL a1) (Int.tmod a2 Au)) then (if (rd (yX BL a1) (Int.tmod a2 Au)) < (yg.length : Int) then ((slices_Index_int.f k (yX yg (rd (yX BL a1) (Int.tmod a2 Au))) a1).bind fun Rh => (if Cf = 0 then (none) else (some (wrap64 ((wrap64 ((wrap64 (Int.tdiv a2 Au)) * Ah)) + (rd (yX BL a1) (Int.tmod a2 Au))),Int.tmod (wrap64 ((Int.tmod (wrap64 (Rh - (wrap64 (Int.tdiv a2 Au)))) Cf) + Cf)) Cf)))) else (none)) else (none)) else (none)) else (none)) else (none)) else (none))) = some (r1,r2) := h
 clear h
 by_cases c4 : Au = 0
 ·
  rw [if_pos c4] at H;exact absurd H (by simp)
 rw [if_neg c4] at H;have ER := beq_eq_false_iff_ne.mpr c4;have Mh := bne_iff_ne.mpr c4
 by_cases c5 : 0 ≤ a1
 rotate_left
 ·
  rw [if_neg c5] at H;exact absurd H (by simp)
 rw [if_pos c5] at H;have ES := decide_eq_true c5;clear c5
 by_cases c6 : a1 < (BL.length : Int)
 rotate_left
 ·
  rw [if_neg c6] at H;exact absurd H (by simp)
 rw [if_pos c6] at H;have Eu := decide_eq_true c6;clear c6;obtain ⟨ah,bq⟩ : ∃ j_ : Int,(Int.tmod a2 Au) = j_ := ⟨_,rfl⟩
 replace H : (if 0 ≤ (ah) then (if (ah) < ((yX BL a1).length : Int) then (if 0 ≤ (rd (yX BL a1) (ah)) then (if (rd (yX BL a1) (ah)) < (yg.length : Int) then ((slices_Index_int.f k (yX yg (rd (yX BL a1) (ah))) a1).bind fun Rh => (if Cf = 0 then (none) else (some (wrap64 ((wrap64 ((wrap64 (Int.tdiv a2 Au)) * Ah)) + (rd (yX BL a1) (ah))),Int.tmod (wrap64 ((Int.tmod (wrap64 (Rh - (wrap64 (Int.tdiv a2 Au)))) Cf) + Cf)) Cf)))) else (none)) else (none)) else (none)) else (none)) = some (r1,r2) := by (rw [bq] at H;exact H)
 by_cases c8 : 0 ≤ (ah)
 rotate_left
 ·
  rw [if_neg c8] at H;exact absurd H (by simp)
 rw [if_pos c8] at H;have GN := decide_eq_true c8;clear c8
 by_cases c9 : (ah) < ((yX BL a1).length : Int)
 rotate_left
 ·
  rw [if_neg c9] at H;exact absurd H (by simp)
 rw [if_pos c9] at H;have I5 := decide_eq_true c9;clear c9
 by_cases c10 : 0 ≤ (rd (yX BL a1) (ah))
 rotate_left
 ·
  rw [if_neg c10] at H;exact absurd H (by simp)
 rw [if_pos c10] at H;have Fu := decide_eq_true c10;clear c10
 by_cases c11 : (rd (yX BL a1) (ah)) < (yg.length : Int)
 rotate_left
 ·
  rw [if_neg c11] at H;exact absurd H (by simp)
 rw [if_pos c11] at H;have Fv := decide_eq_true c11;clear c11;obtain ⟨Rh,aU,H⟩ := bE H
 try dsimp only at H
 by_cases c13 : Cf = 0
 ·
  rw [if_pos c13] at H;exact absurd H (by simp)
 rw [if_neg c13] at H;have J3 := beq_eq_false_iff_ne.mpr c13;have Tx := bne_iff_ne.mpr c13;simp only [Option.some.injEq,Prod.mk.injEq] at H;obtain ⟨rfl,rfl⟩ := H
 go_enter Tryz.func52,Tryz.ntmps52
 try go_wp2_with (first | ((with_reducible refine yG (N := 3) rfl ?_);refine yD rfl (N := 3) rfl (cs := #[.int .i64 yj,.slice yK yg.length yE,.int .i64 ym,.int .i64 yn,.int .i64 Cf,.int .i64 Au,.int .i64 Ah,.slice FR Cs.length FL,.slice Gl BL.length FM,.int .i64 Ex,.int .i64 De]) (t := 94) (by go_simp) ?_;intro ag hg w14 yI hb;have aa := yf.mk (yI);have bF := bG (w := w) hg;have bC := bG (w := w) hg;replace HB := bS HB hb;clear hb yI hg) | ((with_reducible refine yG (N := 6) rfl ?_);refine yD rfl (N := 6) rfl (cs := #[.int .i64 0,.int .i64 0]) (t := 45) (by go_simp) ?_;intro ae hg w15 yI hb;have ai := yf.mk (yI);have bH := bG (w := w) hg;have bD := bG (w := w) hg;have af := Cq aa hg;have ax := Aq aa hg;replace aa := bB aa hb;replace HB := bS HB hb;clear hb yI hg;have a0s := af.out;have a0J := ax.out;have IB := E9 aa;have IG := bf aa))
 replace aa := yf.mk (zl aa.out);replace ai := yf.mk (zl ai.out);replace HB := yf.mk (zt HB.out)
 have ay : 0 ≤ (a1 : Int) := of_decide_eq_true ‹_›
 have aC : a1 < (BL.length : Int) := of_decide_eq_true ‹_›
 obtain ⟨aj,bA,aY,bg,au,aN,aK⟩ := Ec LA.out a1 ay aC;have bu := au;cases bg;replace au := cB HB au;have aH := yf.mk aK;have bI := yf.mk aN;clear aK aN;replace ay := eq_true ay;replace aC := eq_true aC
 have az : 0 ≤ ((ah) : Int) := of_decide_eq_true ‹_›
 have aD : (ah) < ((yX BL a1).length : Int) := of_decide_eq_true ‹_›
 obtain ⟨aI,bi,av⟩ := Kd.BG aH.out (ah) az aD;have bv := av;cases bi;replace av := cB HB av;replace az := eq_true az;replace aD := eq_true aD
 refine Bt (n := 12) (S := fun w' => w'.cell? ⟨ag,0,none⟩ = some (.int .i64 yj) ∧ w'.cell? ⟨ag,1,none⟩ = some (.slice yK yg.length yE) ∧ w'.cell? ⟨ag,2,none⟩ = some (.int .i64 ym) ∧ w'.cell? ⟨ag,3,none⟩ = some (.int .i64 yn) ∧ w'.cell? ⟨ag,4,none⟩ = some (.int .i64 Cf) ∧ w'.cell? ⟨ag,5,none⟩ = some (.int .i64 Au) ∧ w'.cell? ⟨ag,6,none⟩ = some (.int .i64 Ah) ∧ w'.cell? ⟨ag,7,none⟩ = some (.slice FR Cs.length FL) ∧ w'.cell? ⟨ag,8,none⟩ = some (.slice (some aj) BL.length FM) ∧ w'.cell? ⟨ag,9,none⟩ = some (.int .i64 Ex) ∧ w'.cell? ⟨ag,10,none⟩ = some (.int .i64 De) ∧ w'.cell? (aj.add (a1).toNat) = some (.slice (some aI) (yX BL a1).length aY) ∧ w'.cell? (aI.add ((ah)).toNat) = some (.int .i64 (rd (yX BL a1) (ah)))) (ds := []) (bz 12 0) (by kernel_rfl) rfl rfl ⟨(yx aa.out 0).trans rfl,(yx aa.out 1).trans rfl,(yx aa.out 2).trans rfl,(yx aa.out 3).trans rfl,(yx aa.out 4).trans rfl,(yx aa.out 5).trans rfl,(yx aa.out 6).trans rfl,(yx aa.out 7).trans rfl,(yx aa.out 8).trans rfl,(yx aa.out 9).trans rfl,(yx aa.out 10).trans rfl,(cB HB bu),(cB HB bv)⟩ (fun hHeld => ?_);refine Ab zo.Yb zo.Q9 (fun yJ Bv => ?_)
 generalize w15.drew = w18 at aa ai HB aH au av hHeld ⊢;refine pU 0 14 12 1 yJ ?_;refine pU 2 16 12 5 yJ ?_;refine pU 5 19 12 37 yJ ?_;refine pU 6 20 12 101 yJ ?_
 refine Co 1 15 12 103 yJ Bv hHeld ?_
 refine pU 3 17 12 111 yJ ?_
 refine Co 4 18 12 127 yJ Bv hHeld ?_
 refine Co 7 21 12 255 yJ Bv hHeld ?_
 refine pU 8 22 12 511 yJ ?_;refine pU 9 23 12 1023 yJ ?_
 refine Co 10 24 12 2047 yJ Bv hHeld ?_
 refine pU 11 8 12 4095 yJ ?_
 refine Cn (AZ yJ.out (by kernel_rfl)) ?_
 have TJ := E9 aa;have TQ := bf aa
 have aA : 0 ≤ ((rd (yX BL a1) (ah)) : Int) := of_decide_eq_true ‹_›
 have aG : (rd (yX BL a1) (ah)) < (yg.length : Int) := of_decide_eq_true ‹_›
 obtain ⟨aJ,aV,aZ,bn,aT,aQ,aM⟩ := Ec zk.out (rd (yX BL a1) (ah)) aA aG;cases bn;replace aT := cB HB aT;have aX := yf.mk aM;have aW := yf.mk aQ;clear aM aQ;replace aA := eq_true aA;replace aG := eq_true aG
 try go_wp2_with (((with_reducible refine yz (f := 64) rfl ?_);refine Le (some 33) rfl rfl Tryz.func64 (by kernel_rfl) rfl #[.slice aV (yX yg (rd (yX BL a1) (ah))).length aZ,.int .i64 a1] rfl (by (try simp only [List.map_toArray,List.map_cons,List.map_nil]);rfl) ?_;(with_reducible refine (slices_Index_int.calls k _ _ (yX yg (rd (yX BL a1) (ah))) a1 Rh _ ?yB ?yC aU.out).mono ?_);(case yB => exact CU aX);(case yC => exact aW.out);rintro e w' ⟨rfl,⟨nd,rfl⟩⟩;refine ⟨_,rfl,?_⟩;(try (rw [Sk w18];generalize ak : World.drewN w18 _ = w18;have BR : yf (w18.heap[ag]? = some (.cells #[.int .i64 yj,.slice (some aJ) yg.length yE,.int .i64 ym,.int .i64 yn,.int .i64 Cf,.int .i64 Au,.int .i64 Ah,.slice FR Cs.length FL,.slice (some aj) BL.length FM,.int .i64 Ex,.int .i64 De] 94 (0,0))) := ⟨by rw [← ak];exact (kk aa)⟩;have BS : yf (w18.heap[ae]? = some (.cells #[.int .i64 0,.int .i64 0] 45 (0,0))) := ⟨by rw [← ak];exact (kk ai)⟩;have Ce : yf (Below w.heap.size w w18) := ⟨by rw [← ak];exact (bO HB)⟩;clear aa ai HB ak;have aa := BR;have ai := BS;have HB := Ce;clear BR BS Ce))))
 replace aa := yf.mk (zl aa.out);replace ai := yf.mk (zl ai.out);replace HB := yf.mk (zt HB.out)
 refine Bt (n := 20) (S := fun w' => w'.cell? ⟨ag,0,none⟩ = some (.int .i64 yj) ∧ w'.cell? ⟨ag,1,none⟩ = some (.slice (some aJ) yg.length yE) ∧ w'.cell? ⟨ag,2,none⟩ = some (.int .i64 ym) ∧ w'.cell? ⟨ag,3,none⟩ = some (.int .i64 yn) ∧ w'.cell? ⟨ag,4,none⟩ = some (.int .i64 Cf) ∧ w'.cell? ⟨ag,5,none⟩ = some (.int .i64 Au) ∧ w'.cell? ⟨ag,6,none⟩ = some (.int .i64 Ah) ∧ w'.cell? ⟨ag,7,none⟩ = some (.slice FR Cs.length FL) ∧ w'.cell? ⟨ag,8,none⟩ = some (.slice (some aj) BL.length FM) ∧ w'.cell? ⟨ag,9,none⟩ = some (.int .i64 Ex) ∧ w'.cell? ⟨ag,10,none⟩ = some (.int .i64 De)) (ds := []) (bz 20 0) (by kernel_rfl) rfl rfl (E9 aa) (fun hHeld => ?_);refine Ab zo.a2T zo.VL (fun yJ Bv => ?_)
 generalize w18.drew = w20 at aa ai HB hHeld ⊢;refine pU 0 34 20 1 yJ ?_;refine pU 1 35 20 3 yJ ?_;refine pU 4 38 20 19 yJ ?_;refine pU 6 40 20 83 yJ ?_;refine pU 7 41 20 211 yJ ?_;refine pU 8 42 20 467 yJ ?_;refine pU 9 43 20 979 yJ ?_;refine pU 12 46 20 5075 yJ ?_;refine pU 15 49 20 37843 yJ ?_
 refine Co 2 36 20 37847 yJ Bv hHeld ?_
 refine pU 3 37 20 37855 yJ ?_;refine pU 5 39 20 37887 yJ ?_
 refine Co 10 44 20 38911 yJ Bv hHeld ?_
 refine pU 11 45 20 40959 yJ ?_
 refine Co 13 47 20 49151 yJ Bv hHeld ?_
 refine pU 14 48 20 65535 yJ ?_
 refine Co 16 50 20 131071 yJ Bv hHeld ?_
 refine pU 17 51 20 262143 yJ ?_;refine pU 18 52 20 524287 yJ ?_
 refine CB (i := 19) (N := none) (bz 20 1048575) rfl rfl (Ar yJ.out (by kernel_rfl)) (by decide) (fun K hK => ?_)
 have a4W : w20.cell? ⟨ae,0,none⟩ = some (.int .i64 0) := (yx ai.out 0).trans rfl
 have a0f := zy ai.out 0;have Ui := af.out;have TU := ax.out
 have a6g : w20.cell? ⟨ae,1,none⟩ = some (.int .i64 0) := (yx ai.out 1).trans rfl
 have a3U := zy ai.out 1;have Zc := af.out;have Za := ax.out
 refine Ia (w1 := ?_) (by rfl) rfl ?_ ?_
 rotate_left
 ·
  go_simp
  rfl
 refine hK.out _ _ ⟨((cell_far (p := ⟨ae,_,none⟩) af.out _).trans (((cell_far (p := ⟨ae,_,none⟩) af.out _).trans (hHeld.1)))),((cell_far (p := ⟨ae,_,none⟩) af.out _).trans (((cell_far (p := ⟨ae,_,none⟩) af.out _).trans (hHeld.2.1)))),((cell_far (p := ⟨ae,_,none⟩) af.out _).trans (((cell_far (p := ⟨ae,_,none⟩) af.out _).trans (hHeld.2.2.1)))),((cell_far (p := ⟨ae,_,none⟩) af.out _).trans (((cell_far (p := ⟨ae,_,none⟩) af.out _).trans (hHeld.2.2.2.1)))),((cell_far (p := ⟨ae,_,none⟩) af.out _).trans (((cell_far (p := ⟨ae,_,none⟩) af.out _).trans (hHeld.2.2.2.2.1)))),((cell_far (p := ⟨ae,_,none⟩) af.out _).trans (((cell_far (p := ⟨ae,_,none⟩) af.out _).trans (hHeld.2.2.2.2.2.1)))),((cell_far (p := ⟨ae,_,none⟩) af.out _).trans (((cell_far (p := ⟨ae,_,none⟩) af.out _).trans (hHeld.2.2.2.2.2.2.1)))),((cell_far (p := ⟨ae,_,none⟩) af.out _).trans (((cell_far (p := ⟨ae,_,none⟩) af.out _).trans (hHeld.2.2.2.2.2.2.2.1)))),((cell_far (p := ⟨ae,_,none⟩) af.out _).trans (((cell_far (p := ⟨ae,_,none⟩) af.out _).trans (hHeld.2.2.2.2.2.2.2.2.1)))),((cell_far (p := ⟨ae,_,none⟩) af.out _).trans (((cell_far (p := ⟨ae,_,none⟩) af.out _).trans (hHeld.2.2.2.2.2.2.2.2.2.1)))),((cell_far (p := ⟨ae,_,none⟩) af.out _).trans (((cell_far (p := ⟨ae,_,none⟩) af.out _).trans (hHeld.2.2.2.2.2.2.2.2.2.2))))⟩ (fun hHeld => ?_)
 clear hK K
 refine Cn (AZ yJ.out (by kernel_rfl)) ?_
 try go_wp2
 refine bodyPost_ret (results_cell_row rfl _ _ ae 45 #[.int .i64 (wrap64 ((wrap64 ((wrap64 (Int.tdiv a2 Au)) * Ah)) + (rd (yX BL a1) (ah)))),.int .i64 (Int.tmod (wrap64 ((Int.tmod (wrap64 (Rh - (wrap64 (Int.tdiv a2 Au)))) Cf) + Cf)) Cf)] (0,0) _ rfl (CY ai rfl) Tryz.underlying45 rfl (by kernel_rfl)) rfl ?_
 exact ⟨by rfl,bO HB⟩
end Go.Proofs.YtjonnfmoocijlaaGreat.P
namespace Go.Proofs.YtjonnfmoocijlaaGreat.P
open Go.RowKit Go.Proofs.YtjonnfmoocijlaaGreatKW.PrintWords
set_option maxRecDepth 100000
def atOk (L : List (List Int)) (w n r : Nat) (x j : Nat) (o : Option (Int × Int)) : Bool := match o with
 | none => false
 | some p => decide (0 ≤ p.1 ∧ p.1.toNat / n = j / r ∧ 0 ≤ p.2 ∧ p.2 < (w : Int) ∧ Ed L w n r p.1.toNat p.2.toNat = ((x : Int),(j : Int)))
def a1H (d : Int) (n r : Nat) (g i : Nat) (h : Int × Int) (o : Option (Int × Int)) : Bool := decide (0 ≤ h.1 ∧ h.1 < d ∧ 0 ≤ h.2 ∧ h.2.toNat < (g / n + 1) * r ∧ o = some ((g : Int),(i : Int)))
structure FB (d : Int) (L : List (List Int)) (w n r : Nat) : Prop where
 at_ : ∀ T S H C : Int,(List.range d.toNat).all (fun x => (List.range (5 * r)).all fun j => atOk L w n r x j (zo.f 400 d L T S (w : Int) (r : Int) (n : Int) (GH d.toNat L).2 (GH d.toNat L).1 H C (x : Int) (j : Int))) = true
 back : ∀ T S H C : Int,(List.range (5 * n)).all (fun g => (List.range w).all fun i => a1H d n r g i (Ed L w n r g i) (zo.f 400 d L T S (w : Int) (r : Int) (n : Int) (GH d.toNat L).2 (GH d.toNat L).1 H C (Ed L w n r g i).1 (Ed L w n r g i).2)) = true
theorem at0 : FB 5 ds0 4 5 4 := ⟨fun T S H C => by kernel_rfl,fun T S H C => by kernel_rfl⟩
theorem at1 : FB 6 ds1 4 15 10 := ⟨fun T S H C => by kernel_rfl,fun T S H C => by kernel_rfl⟩
theorem at2 : FB 6 ds2 5 6 5 := ⟨fun T S H C => by kernel_rfl,fun T S H C => by kernel_rfl⟩
theorem at3 : FB 4 ds3 4 1 1 := ⟨fun T S H C => by kernel_rfl,fun T S H C => by kernel_rfl⟩
theorem at4 : FB 5 ds4 5 1 1 := ⟨fun T S H C => by kernel_rfl,fun T S H C => by kernel_rfl⟩
theorem at5 : FB 13 ds5 4 13 4 := ⟨fun T S H C => by kernel_rfl,fun T S H C => by kernel_rfl⟩
theorem at6 : FB 7 ds6 5 21 15 := ⟨fun T S H C => by kernel_rfl,fun T S H C => by kernel_rfl⟩
end Go.Proofs.YtjonnfmoocijlaaGreat.P
namespace Go.Proofs.YtjonnfmoocijlaaGreat.P
open Go.RowKit Go.Proofs.YtjonnfmoocijlaaGreatKW.PrintWords
theorem R9 (x : Int) (h0 : 0 ≤ x) (h1 : x < 65536) : ∃ (d : Int) (L : List (List Int)) (w n r : Nat) (T S : Int),Ev (fun k => zC.f k x) (d,L,T,S) ∧ Lo d L w n r T S ∧ FB d L w n r := by
  have e0 : wrap64 x = x := ww (by omega) (by omega)
  have e1 : Int.tmod x 8 = x % 8 := Int.tmod_eq_emod_of_nonneg h0
  have e2 : wrap64 (Int.tdiv x 16) = x / 16 := by rw [Int.tdiv_eq_ediv_of_nonneg h0];exact ww (by omega) (by omega)
  have e3 : wrap64 (Int.tdiv x 80) = x / 80 := by rw [Int.tdiv_eq_ediv_of_nonneg h0];exact ww (by omega) (by omega)
  have e4 : Int.tmod (x / 16) 5 = x / 16 % 5 := Int.tmod_eq_emod_of_nonneg (by omega)
  have e5 : Int.tmod (x / 80) 8 = x / 80 % 8 := Int.tmod_eq_emod_of_nonneg (by omega)
  have e6 : wrap64 (1 + x / 16 % 5) = 1 + x / 16 % 5 := ww (by omega) (by omega)
  have e7 : wrap64 (Int.tdiv x 8) = x / 8 := by rw [Int.tdiv_eq_ediv_of_nonneg h0];exact ww (by omega) (by omega)
  have e8 : Int.tmod (x / 8) 2 = x / 8 % 2 := Int.tmod_eq_emod_of_nonneg (by omega)
  have e9 : wrap64 (4 + x / 8 % 2) = 4 + x / 8 % 2 := ww (by omega) (by omega)
  have hT : 1 ≤ 1 + x / 16 % 5 ∧ 1 + x / 16 % 5 ≤ 5 := by omega
  have hS : 0 ≤ x / 80 % 8 ∧ x / 80 % 8 ≤ 7 := by omega
  have hc : ∀ {a b : Int} {d : Int} {L : List (List Int)},yo.f 1500 a b = some (d,L) → Ev (fun k => yo.f k a b) (d,L) := fun h => Qt (fun k => yo.mono _ _ k) h
  have hj : ∀ bb : Bool,bb = decide (x % 8 = 0 ∨ x % 8 = 1 ∨ x % 8 = 2) → ∃ (d : Int) (L : List (List Int)) (w n r : Nat) (T S : Int),Ev (fun k => zC.j0 k x (x % 8) bb 0) (d,L,T,S) ∧ Lo d L w n r T S ∧ FB d L w n r := by
    intro bb hbb
    cases bb with
    | true =>
      refine ⟨_,_,_,_,_,_,_,evs (fun k => by rw [zC.j0]) (AA rfl ?_),⟨a5e,hT,hS⟩,at0⟩
      exact Ep (hc cmp0) (Hw (by rw [e2,e4,e6,e3,e5]))
    | false =>
      have hn := of_decide_eq_false hbb.symm
      by_cases c3 : x % 8 = 3
      · refine ⟨_,_,_,_,_,_,_,evs (fun k => by rw [zC.j0]) (BF (by decide) (AA c3 ?_)),⟨a6i,hT,hS⟩,at1⟩
        exact Ep (hc a5M) (Hw (by rw [e2,e4,e6,e3,e5]))
      by_cases c4 : x % 8 = 4
      · refine ⟨_,_,_,_,_,_,_,evs (fun k => by rw [zC.j0]) (BF (by decide) (BF c3 (AA c4 ?_))),⟨a6j,hT,hS⟩,at2⟩
        exact Ep (hc a5N) (Hw (by rw [e2,e4,e6,e3,e5]))
      by_cases c5 : x % 8 = 5
      · rcases (show x / 8 % 2 = 0 ∨ x / 8 % 2 = 1 by omega) with c8 | c8
        · refine ⟨_,_,_,_,_,_,_,evs (fun k => by rw [zC.j0]) (BF (by decide) (BF c3 (BF c4 (AA c5 ?_)))),⟨a6k,hT,hS⟩,at3⟩
          rw [e7,e8,e9,c8]
          exact Ep (hc a5O) (Hw (by rw [e2,e4,e6,e3,e5]))
        · refine ⟨_,_,_,_,_,_,_,evs (fun k => by rw [zC.j0]) (BF (by decide) (BF c3 (BF c4 (AA c5 ?_)))),⟨a6l,hT,hS⟩,at4⟩
          rw [e7,e8,e9,c8]
          exact Ep (hc a5P) (Hw (by rw [e2,e4,e6,e3,e5]))
      by_cases c6 : x % 8 = 6
      · refine ⟨_,_,_,_,_,_,_,evs (fun k => by rw [zC.j0]) (BF (by decide) (BF c3 (BF c4 (BF c5 (AA c6 ?_))))),⟨a6m,hT,hS⟩,at5⟩
        exact Ep (Qt (fun k => yA.mono _ k) a5Q) (Hw (by rw [e2,e4,e6,e3,e5]))
      have c7 : x % 8 = 7 := by omega
      refine ⟨_,_,_,_,_,_,_,evs (fun k => by rw [zC.j0]) (BF (by decide) (BF c3 (BF c4 (BF c5 (BF c6 (AA c7 ?_)))))),⟨a6n,hT,hS⟩,at6⟩
      exact Ep (hc a5R) (Hw (by rw [e2,e4,e6,e3,e5]))
  unfold zC.f
  rw [e0,e1]
  by_cases c0 : x % 8 = 0
  · obtain ⟨d,L,w,n,r,T,S,h1,h2⟩ := hj (x % 8 == 0) (by simp [c0])
    exact ⟨d,L,w,n,r,T,S,AA c0 h1,h2⟩
  by_cases c1 : x % 8 = 1
  · obtain ⟨d,L,w,n,r,T,S,h1,h2⟩ := hj (x % 8 == 1) (by simp [c1])
    exact ⟨d,L,w,n,r,T,S,BF c0 (AA c1 h1),h2⟩
  · obtain ⟨d,L,w,n,r,T,S,h1,h2⟩ := hj (x % 8 == 2) (by simp [c0,c1];rfl)
    exact ⟨d,L,w,n,r,T,S,BF c0 (BF c1 h1),h2⟩
end Go.Proofs.YtjonnfmoocijlaaGreat.P
namespace Go.Proofs
open Go.Shelf
def Tryz.Ve : Go.Shelf.Ren := ⟨fun | 6 => 26 | 15 => 55 | 14 => 54 | 28 => 82 | 29 => 83 | 20 => 74 | 21 => 75 | 22 => 76 | 23 => 77 | 24 => 78 | 25 => 79 | 26 => 80 | 27 => 81 | 46 => 88 | 47 => 89 | 48 => 90 | 49 => 91 | 50 => 92 | 57 => 103 | n => n,fun | 22 => 33 | 24 => 45 | 25 => 74 | 3 => 3 | 39 => 98 | 0 => 0 | 53 => 125 | 55 => 127 | 4 => 4 | 46 => 119 | 45 => 118 | 50 => 69 | 5 => 5 | 9 => 9 | 66 => 132 | 70 => 136 | 76 => 144 | 77 => 111 | n => n,fun | n => n⟩
theorem Tryz.He : Go.Proofs.SlLaysF0.n6 Tryz.prog Tryz.Ve := {
 mixed := by kernel_rfl
 f6 := ⟨Tryz.f26.name,by decide,Tryz.func26.trans (congrArg some (by kernel_rfl))⟩
 f14 := ⟨Tryz.f54.name,by decide,Tryz.func54.trans (congrArg some (by kernel_rfl))⟩
 f15 := Tryz.func55.trans (congrArg some (by kernel_rfl))
 f20 := ⟨Tryz.f74.name,by decide,Tryz.func74.trans (congrArg some (by kernel_rfl))⟩
 f21 := ⟨Tryz.f75.name,by decide,Tryz.func75.trans (congrArg some (by kernel_rfl))⟩
 f22 := ⟨Tryz.f76.name,by decide,Tryz.func76.trans (congrArg some (by kernel_rfl))⟩
 f23 := ⟨Tryz.f77.name,by decide,Tryz.func77.trans (congrArg some (by kernel_rfl))⟩
 f24 := ⟨Tryz.f78.name,by decide,Tryz.func78.trans (congrArg some (by kernel_rfl))⟩
 f25 := ⟨Tryz.f79.name,by decide,Tryz.func79.trans (congrArg some (by kernel_rfl))⟩
 f26 := ⟨Tryz.f80.name,by decide,Tryz.func80.trans (congrArg some (by kernel_rfl))⟩
 f27 := ⟨Tryz.f81.name,by decide,Tryz.func81.trans (congrArg some (by kernel_rfl))⟩
 f28 := Tryz.func82.trans (congrArg some (by kernel_rfl))
 f29 := Tryz.func83.trans (congrArg some (by kernel_rfl))
 f46 := ⟨Tryz.f88.name,by decide,Tryz.func88.trans (congrArg some (by kernel_rfl))⟩
 f47 := Tryz.func89.trans (congrArg some (by kernel_rfl))
 f48 := Tryz.func90.trans (congrArg some (by kernel_rfl))
 f49 := ⟨Tryz.f91.name,by decide,Tryz.func91.trans (congrArg some (by kernel_rfl))⟩
 f50 := ⟨Tryz.f92.name,by decide,Tryz.func92.trans (congrArg some (by kernel_rfl))⟩
 f57 := ⟨Tryz.f103.name,by decide,Tryz.func103.trans (congrArg some (by kernel_rfl))⟩
 t0 := Tryz.underlying0
 a0 := Tryz.isAgg0
 z0 := Tryz.sizeOf0
 v0 := Tryz.zeroValue0
 t3 := Tryz.underlying3
 a3 := Tryz.isAgg3
 z3 := Tryz.sizeOf3
 v3 := Tryz.zeroValue3
 t4 := Tryz.underlying4
 a4 := Tryz.isAgg4
 z4 := Tryz.sizeOf4
 v4 := Tryz.zeroValue4
 t5 := Tryz.underlying5
 a5 := Tryz.isAgg5
 z5 := Tryz.sizeOf5
 v5 := Tryz.zeroValue5
 t9 := Tryz.underlying9
 a9 := Tryz.isAgg9
 z9 := Tryz.sizeOf9
 v9 := Tryz.zeroValue9
 t22 := Tryz.underlying33
 a22 := Tryz.isAgg33
 z22 := Tryz.sizeOf33
 v22 := Tryz.zeroValue33
 t25 := Tryz.underlying74
 a25 := Tryz.isAgg74
 z25 := Tryz.sizeOf74
 v25 := Tryz.zeroValue74
 t39 := Tryz.underlying98
 a39 := Tryz.isAgg98
 z39 := Tryz.sizeOf98
 v39 := Tryz.zeroValue98
 t45 := Tryz.underlying118
 a45 := Tryz.isAgg118
 z45 := Tryz.sizeOf118
 v45 := Tryz.zeroValue118
 t46 := Tryz.underlying119
 a46 := Tryz.isAgg119
 z46 := Tryz.sizeOf119
 v46 := Tryz.zeroValue119
 t50 := Tryz.underlying69
 a50 := Tryz.isAgg69
 z50 := Tryz.sizeOf69
 v50 := Tryz.zeroValue69
 t53 := Tryz.underlying125
 a53 := Tryz.isAgg125
 z53 := Tryz.sizeOf125
 v53 := Tryz.zeroValue125
 t55 := Tryz.underlying127
 a55 := Tryz.isAgg127
 z55 := Tryz.sizeOf127
 v55 := Tryz.zeroValue127
 t66 := Tryz.underlying132
 a66 := Tryz.isAgg132
 z66 := Tryz.sizeOf132
 v66 := Tryz.zeroValue132
 t70 := Tryz.underlying136
 a70 := Tryz.isAgg136
 z70 := Tryz.sizeOf136
 v70 := Tryz.zeroValue136
 t76 := Tryz.underlying144
 a76 := Tryz.isAgg144
 z76 := Tryz.sizeOf144
 v76 := Tryz.zeroValue144
 t77 := Tryz.underlying111
 a77 := Tryz.isAgg111
 z77 := Tryz.sizeOf111
 v77 := Tryz.zeroValue111 }
end Go.Proofs
