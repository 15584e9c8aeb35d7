/- Texts of a claim, packed. -/
import Derived.Test.YtjonnfmoocijlaaGreatE10
set_option linter.all false
namespace Go.Proofs.YtjonnfmoocijlaaGreat.P
open Go.RowKit Go.Proofs.YtjonnfmoocijlaaGreatKW.PrintWords Go.Proofs.YtjonnfmoocijlaaGreatKW.PrintLast Go.Proofs.YtjonnfmoocijlaaGreatKW.PrintMore
attribute [local go_sem] zN zP Af Ag zz zA zO zQ
def yU.l0 : Nat → Int → Int → Int → Int → Int → Int → Int → Int → List (List Int) → Int → Int → Option (Int × Int)
 | 0,_,_,_,_,_,_,_,_,_,_,_ => none
 | k + 1,x7,x8,x9,EU,DX,F5,G8,ae,aa,af,ag => if G8 < x7 then (if 0 ≤ G8 then (if G8 < (aa.length : Int) then ((zV.f k (yX aa G8) EU).bind fun a2N => (if a2N = true then (if G8 < x9 then (yU.l0 k x7 x8 x9 EU (wrap64 (DX + 1)) (wrap64 (F5 + 1)) (wrap64 (G8 + 1)) ae aa af ag) else (yU.l0 k x7 x8 x9 EU (wrap64 (DX + 1)) F5 (wrap64 (G8 + 1)) ae aa af ag)) else (yU.l0 k x7 x8 x9 EU DX F5 (wrap64 (G8 + 1)) ae aa af ag))) else (none)) else (none)) else (some (EU,wrap64 ((wrap64 (x8 * DX)) + F5)))
def yU.f (k : Nat) (yj : Int) (yg : List (List Int)) (ym : Int) (yn : Int) (a1 : Int) (a2 : Int) : Option (Int × Int) := if (yg.length : Int) = 0 then (none) else (if 0 ≤ (Int.tmod a1 (yg.length : Int)) then (if (Int.tmod a1 (yg.length : Int)) < (yg.length : Int) then ((zn.f yj yg ym yn).bind fun IP => (if IP = 0 then (none) else (if 0 ≤ (Int.tmod (wrap64 (a2 + (wrap64 (Int.tdiv a1 (yg.length : Int))))) IP) then (if (Int.tmod (wrap64 (a2 + (wrap64 (Int.tdiv a1 (yg.length : Int))))) IP) < ((yX yg (Int.tmod a1 (yg.length : Int))).length : Int) then (yU.l0 k (yg.length : Int) (wrap64 (Int.tdiv a1 (yg.length : Int))) (Int.tmod a1 (yg.length : Int)) (rd (yX yg (Int.tmod a1 (yg.length : Int))) (Int.tmod (wrap64 (a2 + (wrap64 (Int.tdiv a1 (yg.length : Int))))) IP)) 0 0 0 yj yg ym yn) else (none)) else (none)))) else (none)) else (none))
theorem yU.mono_l : ∀ k,(∀ y0 y1 y2 y3 y4 y5 y6 y7 y8 y9 aa,Bh (yU.l0 k y0 y1 y2 y3 y4 y5 y6 y7 y8 y9 aa) (yU.l0 (k + 1) y0 y1 y2 y3 y4 y5 y6 y7 y8 y9 aa))
 | 0 => fun _ _ _ _ _ _ _ _ _ _ _ r h => by simp [yU.l0] at h
 | k + 1 => by
  have Fz := yU.mono_l k
  ·
   intro y0 y1 y2 y3 y4 y5 y6 y7 y8 y9 aa
   unfold yU.l0
   repeat' first
   | exact Fz _ _ _ _ _ _ _ _ _ _ _
   | exact zV.mono _ _ _
   | exact Bh.refl _
   | exact Bh.none _
   | refine Bh.ite ?_ ?_
   | refine Bh.bind ?_ (fun _ => ?_)
theorem yU.mono : ∀ a0 a1 a2 a3 a4 a5 k,Bh (yU.f k a0 a1 a2 a3 a4 a5) (yU.f (k + 1) a0 a1 a2 a3 a4 a5) := by
 intro a0 a1 a2 a3 a4 a5 k
 have Fz := yU.mono_l k
 unfold yU.f
 repeat' first
  | exact Fz _ _ _ _ _ _ _ _ _ _ _
  | exact zV.mono _ _ _
  | exact Bh.refl _
  | exact Bh.none _
  | refine Bh.ite ?_ ?_
  | refine Bh.bind ?_ (fun _ => ?_)
def yU.T2 : Bool × List (List Nat × List Nat) := (true,[([],[]),([],[]),([0,1],[0,1]),([],[]),([],[]),([3,4],[3,4]),([2,0,1,2],[2]),([5,6,0,1,2,3,4,5,6],[5])])
def yU.B2 : List Nat := [0,0,3,0,0,24,7,127]
theorem yU.Yb : Dv .any (opsOf Tryz.f58 2) = yU.T2 := by kernel_rfl
theorem yU.Q9 : BH yU.T2.2 yU.B2 = true := by kernel_rfl
def yU.T3 : Bool × List (List Nat × List Nat) := (true,[([],[]),([0],[0]),([1],[1]),([],[]),([2,3],[2,3]),([4],[4]),([],[]),([],[]),([6,7],[6,7]),([],[]),([9],[9]),([8,10],[8,10]),([5,11],[5,11]),([12],[12]),([13,10,0,1,2,3,4,5,6,7,8,9,10,11,12,13],[13])])
def yU.B3 : List Nat := [0,1,3,0,15,31,0,0,192,0,512,1984,4095,8191,16383]
theorem yU.a2S : Dv .any (opsOf Tryz.f58 3) = yU.T3 := by kernel_rfl
theorem yU.VK : BH yU.T3.2 yU.B3 = true := by kernel_rfl
set_option maxHeartbeats 8000000 in
set_option maxRecDepth 100000 in
theorem yU.calls (k : Nat) (yj : Int) (yK : Option Addr) (yE : Nat) (yg : List (List Int)) (ym : Int) (yn : Int) (a1 : Int) (a2 : Int) (r1 : Int) (r2 : Int) (w : World) (zS : Kd.C (Kd.slice 3 (Kd.int .i64)) w yK yg.length yg) (zT : yg.length ≤ yE) (h : yU.f k yj yg ym yn a1 a2 = some (r1,r2)) :
  Calls Tryz.prog 58 #[.agg #[.int .i64 yj,.slice yK yg.length yE,.int .i64 ym,.int .i64 yn],.int .i64 a1,.int .i64 a2] w fun e w' => e = .returned (.agg #[.int .i64 r1,.int .i64 r2]) ∧ Below w.heap.size w w' := by
 have ET := Tryz.underlying29;have KE := Tryz.underlying51;have zk := yf.mk zS;have zq := yf.mk zT;clear zS zT;have HB := yf.mk (Below.refl w.heap.size w)
 have H : (if (yg.length : Int) = 0 then (none) else (if 0 ≤ (Int.tmod a1 (yg.length : Int)) then (if (Int.tmod a1 (yg.length : Int)) < (yg.length : Int) then ((zn.f yj yg ym yn).bind fun IP => (if IP = 0 then (none) else (if 0 ≤ (Int.tmod (wrap64 (a2 + (wrap64 (Int.tdiv a1 (yg.length : Int))))) IP) then (if (Int.tmod (wrap64 (a2 + (wrap64 (Int.tdiv a1 (yg.length : Int))))) IP) < ((yX yg (Int.tmod a1 (yg.length : Int))).length : Int) then (yU.l0 k (yg.length : Int) (wrap64 (Int.tdiv a1 (yg.length : Int))) (Int.tmod a1 (yg.length : Int)) (rd (yX yg (Int.tmod a1 (yg.length : Int))) (Int.tmod (wrap64 (a2 + (wrap64 (Int.tdiv a1 (yg.length : Int))))) IP)) 0 0 0 yj yg ym yn) else (none)) else (none)))) else (none)) else (none))) = some (r1,r2) := h
 clear h
 by_cases c4 : (yg.length : Int) = 0
 ·
  rw [if_pos c4] at H;exact absurd H (by simp)
 rw [if_neg c4] at H;have ER := beq_eq_false_iff_ne.mpr c4;have Mh := bne_iff_ne.mpr c4
 have bu : ¬ (yg = []) := fun h_ => c4 (by rw [h_];rfl)
 obtain ⟨ae,bC⟩ : ∃ j_ : Int,(Int.tmod a1 (yg.length : Int)) = j_ := ⟨_,rfl⟩
 replace H : (if 0 ≤ (ae) then (if (ae) < (yg.length : Int) then ((zn.f yj yg ym yn).bind fun IP => (if IP = 0 then (none) else (if 0 ≤ (Int.tmod (wrap64 (a2 + (wrap64 (Int.tdiv a1 (yg.length : Int))))) IP) then (if (Int.tmod (wrap64 (a2 + (wrap64 (Int.tdiv a1 (yg.length : Int))))) IP) < ((yX yg (ae)).length : Int) then (yU.l0 k (yg.length : Int) (wrap64 (Int.tdiv a1 (yg.length : Int))) ae (rd (yX yg (ae)) (Int.tmod (wrap64 (a2 + (wrap64 (Int.tdiv a1 (yg.length : Int))))) IP)) 0 0 0 yj yg ym yn) else (none)) else (none)))) else (none)) else (none)) = some (r1,r2) := by (rw [bC] at H;exact H)
 by_cases c6 : 0 ≤ (ae)
 rotate_left
 ·
  rw [if_neg c6] at H;exact absurd H (by simp)
 rw [if_pos c6] at H;have Eu := decide_eq_true c6;clear c6
 by_cases c7 : (ae) < (yg.length : Int)
 rotate_left
 ·
  rw [if_neg c7] at H;exact absurd H (by simp)
 rw [if_pos c7] at H;have GL := decide_eq_true c7;clear c7;obtain ⟨IP,A8,H⟩ := bE H
 try dsimp only at H
 by_cases c9 : IP = 0
 ·
  rw [if_pos c9] at H;exact absurd H (by simp)
 rw [if_neg c9] at H;have I5 := beq_eq_false_iff_ne.mpr c9;have Qo := bne_iff_ne.mpr c9;obtain ⟨ag,aZ⟩ : ∃ j_ : Int,(Int.tmod (wrap64 (a2 + (wrap64 (Int.tdiv a1 (yg.length : Int))))) IP) = j_ := ⟨_,rfl⟩
 replace H : (if 0 ≤ (ag) then (if (ag) < ((yX yg (ae)).length : Int) then (yU.l0 k (yg.length : Int) (wrap64 (Int.tdiv a1 (yg.length : Int))) ae (rd (yX yg (ae)) (ag)) 0 0 0 yj yg ym yn) else (none)) else (none)) = some (r1,r2) := by (rw [aZ] at H;exact H)
 (try rw [aZ] at A8)
 by_cases c11 : 0 ≤ (ag)
 rotate_left
 ·
  rw [if_neg c11] at H;exact absurd H (by simp)
 rw [if_pos c11] at H;have Fv := decide_eq_true c11;clear c11
 by_cases c12 : (ag) < ((yX yg (ae)).length : Int)
 rotate_left
 ·
  rw [if_neg c12] at H;exact absurd H (by simp)
 rw [if_pos c12] at H;have Gj := decide_eq_true c12;clear c12;have H' := yf.mk H;clear H
 go_enter Tryz.func58,Tryz.ntmps58
 try go_wp2_with (first | ((with_reducible refine yG (N := 3) rfl ?_);refine yD rfl (N := 3) rfl (cs := #[.int .i64 yj,.slice yK yg.length yE,.int .i64 ym,.int .i64 yn]) (t := 29) (by go_simp) ?_;intro aJ hg w13 yI hb;have aa := yf.mk (yI);have bI := bG (w := w) hg;have bF := bG (w := w) hg;replace HB := bS HB hb;clear hb yI hg) | ((with_reducible refine yG (N := 6) rfl ?_);refine yD rfl (N := 6) rfl (cs := #[.int .i64 0,.int .i64 0]) (t := 51) (by go_simp) ?_;intro aX hg w14 yI hb;have ah := yf.mk (yI);have bJ := bG (w := w) hg;have bH := bG (w := w) hg;have aC := Cq aa hg;have aD := Aq aa hg;replace aa := bB aa hb;replace HB := bS HB hb;clear hb yI hg;have X0 := aC.out;have Xf := aD.out;have IA := AO aa;have IE := bf aa))
 replace aa := yf.mk (zl aa.out);replace ah := yf.mk (zl ah.out);replace HB := yf.mk (zt HB.out)
 refine Bt (n := 8) (S := fun w' => True) (ds := []) (bz 8 0) (by kernel_rfl) rfl rfl trivial (fun hHeld => ?_);refine Ab yU.Yb yU.Q9 (fun yJ Bv => ?_)
 generalize w14.drew = w17 at aa ah HB hHeld ⊢;refine pU 0 18 8 1 yJ ?_;refine pU 1 19 8 3 yJ ?_;refine pU 2 20 8 7 yJ ?_;refine pU 3 21 8 15 yJ ?_;refine pU 4 22 8 31 yJ ?_;refine pU 5 23 8 63 yJ ?_;refine pU 6 8 8 127 yJ ?_;refine pU 7 9 8 255 yJ ?_
 refine Cn (AZ yJ.out (by kernel_rfl)) ?_
 try go_wp2
 replace aa := yf.mk (zl aa.out);replace ah := yf.mk (zl ah.out);replace HB := yf.mk (zt HB.out)
 have aN : 0 ≤ ((ae) : Int) := of_decide_eq_true ‹_›
 have aT : (ae) < (yg.length : Int) := of_decide_eq_true ‹_›
 obtain ⟨ax,bD,bq,bv,aK,bg,aY⟩ := Ec zk.out (ae) aN aT;have bi := aK;cases bv;replace aK := cB HB aK;have aV := yf.mk aY;have bL := yf.mk bg;clear aY bg;replace aN := eq_true aN;replace aT := eq_true aT
 have aQ : 0 ≤ ((ag) : Int) := of_decide_eq_true ‹_›
 have aU : (ag) < ((yX yg (ae)).length : Int) := of_decide_eq_true ‹_›
 obtain ⟨aW,bA,aM⟩ := Kd.BG aV.out (ag) aQ aU;have bn := aM;cases bA;replace aM := cB HB aM;replace aQ := eq_true aQ;replace aU := eq_true aU
 refine Bt (n := 15) (S := fun w' => w'.cell? ⟨aJ,0,none⟩ = some (.int .i64 yj) ∧ w'.cell? ⟨aJ,1,none⟩ = some (.slice (some ax) yg.length yE) ∧ w'.cell? ⟨aJ,2,none⟩ = some (.int .i64 ym) ∧ w'.cell? ⟨aJ,3,none⟩ = some (.int .i64 yn) ∧ w'.cell? (ax.add ((ae)).toNat) = some (.slice (some aW) (yX yg (ae)).length bq) ∧ w'.cell? (aW.add ((ag)).toNat) = some (.int .i64 (rd (yX yg (ae)) (ag)))) (ds := []) (bz 15 0) (by kernel_rfl) rfl rfl ⟨(yx aa.out 0).trans rfl,(yx aa.out 1).trans rfl,(yx aa.out 2).trans rfl,(yx aa.out 3).trans rfl,(cB HB bi),(cB HB bn)⟩ (fun hHeld => ?_);refine Ab yU.a2S yU.VK (fun yJ Bv => ?_)
 generalize w17.drew = w18 at aa ah HB aV aK aM hHeld ⊢;refine pU 0 24 15 1 yJ ?_;refine pU 1 25 15 3 yJ ?_;refine pU 3 27 15 11 yJ ?_;refine pU 6 30 15 75 yJ ?_;refine pU 7 31 15 203 yJ ?_;refine pU 8 32 15 459 yJ ?_
 refine Co 2 26 15 463 yJ Bv hHeld ?_
 refine pU 4 28 15 479 yJ ?_
 refine Co 5 29 15 511 yJ Bv hHeld ?_
 refine Co 9 33 15 1023 yJ Bv hHeld ?_
 refine CB (i := 10) (N := some 34) (bz 15 2047) rfl rfl (Ar yJ.out (by kernel_rfl)) (by decide) (fun K hK => ?_)
 refine gO Tryz.func14 #[.agg #[.int .i64 yj,.slice (some ax) yg.length yE,.int .i64 ym,.int .i64 yn]] ?_
 with_reducible refine (zn.calls yj _ _ yg ym yn IP _ ?yB ?yC A8.out).mono ?_
 (case yB => exact CU zk)
 (case yC => exact zq.out)
 rintro e w19 ⟨rfl,hb⟩
 refine ⟨_,rfl,?_⟩
 replace aa := bB aa hb;replace ah := bB ah hb;replace HB := bS HB hb;clear hb
 refine hK.out _ _ ⟨(yx aa.out 0).trans rfl,(yx aa.out 1).trans rfl,(yx aa.out 2).trans rfl,(yx aa.out 3).trans rfl,(cB HB bi),(cB HB bn)⟩ (fun hHeld => ?_)
 clear hK K
 refine AU (a' := ?_) ?_ ?_
 rotate_left
 ·
  show Act.put _ (some 34) _ = _
  simp only [pz]
  rfl
 refine pU 11 35 15 4095 yJ ?_;refine pU 12 36 15 8191 yJ ?_
 refine Co 13 37 15 16383 yJ Bv hHeld ?_
 refine pU 14 10 15 32767 yJ ?_
 refine Cn (AZ yJ.out (by kernel_rfl)) ?_
 try go_wp2
 go_loopg [11,12,13] k (fun kq v11 v12 v13 w' => ∃ (Ae : Int) (AV : Int) (af : Int),v11 = .int .i64 Ae ∧ v12 = .int .i64 AV ∧ v13 = .int .i64 af ∧ yf (yU.l0 kq (yg.length : Int) (wrap64 (Int.tdiv a1 (yg.length : Int))) ae (rd (yX yg (ae)) (ag)) Ae AV af yj yg ym yn = some (r1,r2)) ∧ yf (kq ≤ k) ∧ yf (w'.heap[aJ]? = some (.cells #[.int .i64 yj,(.slice (some ax) yg.length yE),.int .i64 ym,.int .i64 yn] 29 (0,0))) ∧ yf (w'.heap[aX]? = some (.cells #[.int .i64 0,.int .i64 0] 51 (0,0))) ∧ yf (Below w.heap.size w w'))
 case atStart => exact ⟨(0),(0),(0),(by rfl),(by rfl),(by rfl),H',⟨Nat.le_refl _⟩,⟨kk aa⟩,⟨kk ah⟩,⟨bO HB⟩⟩
 case round =>
 clear H' c4 ER Mh bu Eu GL c9 I5 Qo Fv Gj IA IE aK aM aN aQ aT aU;obtain ⟨Ae,AV,af,rfl,rfl,rfl,HA,Bn,aa,ah,HB⟩ := hrel
 cases gk with
 | zero => exact absurd HA.out (by simp [yU.l0])
 | succ k1 =>
 have H := HA.out;clear HA;simp only [yU.l0] at H
 by_cases c20 : af < (yg.length : Int)
 rotate_left
 ·
  rw [if_neg c20] at H;have Ki := decide_eq_false c20;clear c20;simp only [Option.some.injEq,Prod.mk.injEq] at H;obtain ⟨rfl,rfl⟩ := H;have QL := aD.out;have QP := aC.out;have Nz := bc2 ah;have NF := bf ah
  go_wp2
  refine bodyPost_ret (results_cell_row rfl _ _ aX 51 #[.int .i64 (rd (yX yg (ae)) (ag)),.int .i64 (wrap64 ((wrap64 ((wrap64 (Int.tdiv a1 (yg.length : Int))) * Ae)) + AV))] (0,0) _ rfl (CY ah rfl) Tryz.underlying51 rfl (by kernel_rfl)) rfl ?_
  exact ⟨by rfl,bO HB⟩
 rw [if_pos c20] at H;have Ki := decide_eq_true c20;clear c20
 by_cases c21 : 0 ≤ af
 rotate_left
 ·
  rw [if_neg c21] at H;exact absurd H (by simp)
 rw [if_pos c21] at H;have Qj := decide_eq_true c21;clear c21
 by_cases I4 : af < (yg.length : Int)
 rotate_left
 ·
  rw [if_neg I4] at H;exact absurd H (by simp)
 rw [if_pos I4] at H;have JE := decide_eq_true I4;clear I4;obtain ⟨a2N,A23,H⟩ := bE H
 try dsimp only at H
 by_cases c24 : a2N = true
 rotate_left
 ·
  replace c24 := Bool.eq_false_iff.mpr c24;subst c24
  rw [if_neg (show ¬ (false = true) by decide)] at H
  have H' := yf.mk H;clear H;have OI := aC.out;have OJ := aD.out;have JI := AO aa;have JK := bf aa
  have ai : 0 ≤ (af : Int) := of_decide_eq_true ‹_›
  have aj : af < (yg.length : Int) := of_decide_eq_true ‹_›
  obtain ⟨aG,ay,aH,aI,av,au,ak⟩ := Ec zk.out af ai aj;obtain rfl : ax = aG := (by injection aI);replace av := cB HB av;have aA := yf.mk ak;have az := yf.mk au;clear ak au;replace ai := eq_true ai;replace aj := eq_true aj
  go_wp2_with (((with_reducible refine yz (f := 85) rfl ?_);refine Le (some 50) rfl rfl Tryz.func85 (by kernel_rfl) rfl #[.slice ay (yX yg af).length aH,.int .i64 (rd (yX yg (ae)) (ag))] rfl (by (try simp only [List.map_toArray,List.map_cons,List.map_nil]);rfl) ?_;(with_reducible refine (zV.calls k1 _ _ (yX yg af) (rd (yX yg (ae)) (ag)) false _ ?yB ?yC A23.out).mono ?_);(case yB => exact CU aA);(case yC => exact az.out);rintro e w' ⟨rfl,⟨nd,rfl⟩⟩;refine ⟨_,rfl,?_⟩))
  go_roundg k1
  case measure => have := Bn.out;omega
  case rel => exact ⟨(Ae),(AV),(wrap64 (af + 1)),(by rfl),(by rfl),(by rfl),H',⟨by have := Bn.out;omega⟩,⟨kk aa⟩,⟨kk ah⟩,⟨bO HB⟩⟩
 subst c24;rw [if_pos rfl] at H
 by_cases LF : af < ae
 ·
  rw [if_pos LF] at H;have Ou := decide_eq_true LF;clear LF;have H' := yf.mk H;clear H;have TY := aC.out;have U9 := aD.out;have IC := AO aa;have II := bf aa
  have ai : 0 ≤ (af : Int) := of_decide_eq_true ‹_›
  have aj : af < (yg.length : Int) := of_decide_eq_true ‹_›
  obtain ⟨aG,ay,aH,aI,av,au,ak⟩ := Ec zk.out af ai aj;obtain rfl : ax = aG := (by injection aI);replace av := cB HB av;have aA := yf.mk ak;have az := yf.mk au;clear ak au;replace ai := eq_true ai;replace aj := eq_true aj
  go_wp2_with (((with_reducible refine yz (f := 85) rfl ?_);refine Le (some 50) rfl rfl Tryz.func85 (by kernel_rfl) rfl #[.slice ay (yX yg af).length aH,.int .i64 (rd (yX yg (ae)) (ag))] rfl (by (try simp only [List.map_toArray,List.map_cons,List.map_nil]);rfl) ?_;(with_reducible refine (zV.calls k1 _ _ (yX yg af) (rd (yX yg (ae)) (ag)) true _ ?yB ?yC A23.out).mono ?_);(case yB => exact CU aA);(case yC => exact az.out);rintro e w' ⟨rfl,⟨nd,rfl⟩⟩;refine ⟨_,rfl,?_⟩))
  go_roundg k1
  case measure => have := Bn.out;omega
  case rel => exact ⟨(wrap64 (Ae + 1)),(wrap64 (AV + 1)),(wrap64 (af + 1)),(by rfl),(by rfl),(by rfl),H',⟨by have := Bn.out;omega⟩,⟨kk aa⟩,⟨kk ah⟩,⟨bO HB⟩⟩
 rw [if_neg LF] at H;have Ou := decide_eq_false LF;clear LF;have H' := yf.mk H;clear H;have a4k := aC.out;have a4E := aD.out;have WO := AO aa;have WT := bf aa
 have ai : 0 ≤ (af : Int) := of_decide_eq_true ‹_›
 have aj : af < (yg.length : Int) := of_decide_eq_true ‹_›
 obtain ⟨aG,ay,aH,aI,av,au,ak⟩ := Ec zk.out af ai aj;obtain rfl : ax = aG := (by injection aI);replace av := cB HB av;have aA := yf.mk ak;have az := yf.mk au;clear ak au;replace ai := eq_true ai;replace aj := eq_true aj
 go_wp2_with (((with_reducible refine yz (f := 85) rfl ?_);refine Le (some 50) rfl rfl Tryz.func85 (by kernel_rfl) rfl #[.slice ay (yX yg af).length aH,.int .i64 (rd (yX yg (ae)) (ag))] rfl (by (try simp only [List.map_toArray,List.map_cons,List.map_nil]);rfl) ?_;(with_reducible refine (zV.calls k1 _ _ (yX yg af) (rd (yX yg (ae)) (ag)) true _ ?yB ?yC A23.out).mono ?_);(case yB => exact CU aA);(case yC => exact az.out);rintro e w' ⟨rfl,⟨nd,rfl⟩⟩;refine ⟨_,rfl,?_⟩))
 go_roundg k1
 case measure => have := Bn.out;omega
 case rel => exact ⟨(wrap64 (Ae + 1)),(AV),(wrap64 (af + 1)),(by rfl),(by rfl),(by rfl),H',⟨by have := Bn.out;omega⟩,⟨kk aa⟩,⟨kk ah⟩,⟨bO HB⟩⟩
end Go.Proofs.YtjonnfmoocijlaaGreat.P
