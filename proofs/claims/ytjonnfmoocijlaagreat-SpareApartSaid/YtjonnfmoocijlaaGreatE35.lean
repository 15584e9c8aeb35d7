/- Texts of a claim, packed. -/
import Derived.Test.YtjonnfmoocijlaaGreatE29
import Derived.Test.YtjonnfmoocijlaaGreatE34
set_option linter.all false
namespace Go.Proofs.YtjonnfmoocijlaaGreat.P
open Go.RowKit Go.Proofs.YtjonnfmoocijlaaGreatKW.PrintWords Go.Proofs.YtjonnfmoocijlaaGreatKW.PrintLast Go.Proofs.YtjonnfmoocijlaaGreatKW.PrintMore
attribute [local go_sem] zN zP Af Ag zz zA zO zQ
mutual
def yN.l0 : Nat → List Int → List (AP) → Int → Int → List (List Int) → Int → Int → Option ((List (AP)))
 | 0,_,_,_,_,_,_,_ => none
 | k + 1,x1,x5,x6,aa,ae,af,ag => if x6 < (x1.length : Int) then (if 0 ≤ x6 then ((Ao.f aa ae af ag).bind fun Dp => ((zn.f aa ae af ag).bind fun Dq => (if (wrap64 (Dp * Dq)) = 0 then (none) else ((zn.f aa ae af ag).bind fun EO => (if EO = 0 then (none) else ((zn.f aa ae af ag).bind fun Fw => (if Fw = 0 then (none) else (if 0 ≤ aa then (if (aa : Int).toNat ≤ 281474976710656 then ((some (List.replicate (aa : Int).toNat false : List Bool)).bind fun Gi => (if (Gi.length : Int) = 0 then (none) else (if 0 ≤ (((Int.tdiv (rd x1 x6) 2) % 256) % (Gi.length : Int)) then (if (((Int.tdiv (rd x1 x6) 2) % 256) % (Gi.length : Int)) < (Gi.length : Int) then ((yH.f k aa ae af ag x5 (wrap64 (Int.tdiv (Int.tmod (wrap64 ((wrap64 (rd x1 x6)) * 7)) (wrap64 (Dp * Dq))) EO)) (Gi.set ((((Int.tdiv (rd x1 x6) 2) % 256) % (Gi.length : Int)) : Int).toNat true)).bind fun Gy => (if Gy.2.2 = true then (yN.j1 k x1 x5 x6 aa ae af ag (wrap64 (Int.tdiv (Int.tmod (wrap64 ((wrap64 (rd x1 x6)) * 7)) (wrap64 (Dp * Dq))) EO)) (Int.tmod (Int.tmod (wrap64 ((wrap64 (rd x1 x6)) * 7)) (wrap64 (Dp * Dq))) Fw) 0 0 Gy.1 Gy.2.1) else (yN.j1 k x1 x5 x6 aa ae af ag (wrap64 (Int.tdiv (Int.tmod (wrap64 ((wrap64 (rd x1 x6)) * 7)) (wrap64 (Dp * Dq))) EO)) (Int.tmod (Int.tmod (wrap64 ((wrap64 (rd x1 x6)) * 7)) (wrap64 (Dp * Dq))) Fw) 0 0 (-1) 0))) else (none)) else (none)))) else (none)) else (none))))))))) else (none)) else (some x5)
def yN.j1 : Nat → List Int → List (AP) → Int → Int → List (List Int) → Int → Int → Int → Int → Int → Int → Int → Int → Option ((List (AP)))
 | 0,_,_,_,_,_,_,_,_,_,_,_,_,_ => none
 | k + 1,x1,x5,x6,aa,ae,af,ag,ai,aj,av,ax,ak,au => (Az.f k aa ae af ag x5 ai aj ak au).bind fun ah => (if ah.2 = 0 then (yN.l0 k x1 ah.1 (wrap64 (x6 + 1)) aa ae af ag) else (yN.l0 k x1 x5 (wrap64 (x6 + 1)) aa ae af ag))
end
def yN.f (k : Nat) (yj : Int) (yg : List (List Int)) (ym : Int) (yn : Int) (l1 : List Int) : Option ((List (AP))) := yN.l0 k l1 ([] : List (AP)) 0 yj yg ym yn
def yN.T5 : Bool × List (List Nat × List Nat) := (true,[([],[]),([],[]),([0,1],[0,1]),([2],[2]),([3],[3]),([4],[4]),([],[]),([6],[6]),([],[]),([8,7],[8]),([7,9],[7,9]),([5,10],[5,10]),([11,9,0,1,2,3,4,5,6,7,8,9,10,11],[11])])
def yN.B5 : List Nat := [0,0,3,7,15,31,0,64,0,448,960,2047,4095]
theorem yN.Zx : Dv .any (opsOf Tryz.f7 5) = yN.T5 := by kernel_rfl
theorem yN.Tw : BH yN.T5.2 yN.B5 = true := by kernel_rfl
def yN.T6 : Bool × List (List Nat × List Nat) := (true,[([],[]),([],[]),([1],[1]),([0,2],[0,2]),([],[]),([],[]),([5,2],[5]),([4,6],[4,6]),([3,7],[3,7]),([],[]),([9,8,6,0,1,2,3,4,5,6,7,8,9],[8,9])])
def yN.B6 : List Nat := [0,0,2,7,0,0,38,118,255,0,1023]
theorem yN.a2U : Dv .any (opsOf Tryz.f7 6) = yN.T6 := by kernel_rfl
theorem yN.VN : BH yN.T6.2 yN.B6 = true := by kernel_rfl
set_option maxHeartbeats 8000000 in
set_option maxRecDepth 100000 in
theorem yN.calls (k : Nat) (yj : Int) (yK : Option Addr) (yE : Nat) (yg : List (List Int)) (ym : Int) (yn : Int) (A1 : Option Addr) (c1 : Nat) (l1 : List Int) (r : List (AP)) (w : World) (zS : Kd.C (Kd.slice 3 (Kd.int .i64)) w yK yg.length yg) (zT : yg.length ≤ yE) (hr1 : Kd.C (Kd.int .u8) w A1 l1.length l1) (hc1 : l1.length ≤ c1) (h : yN.f k yj yg ym yn l1 = some r) :
  Calls Tryz.prog 7 #[.agg #[.int .i64 yj,.slice yK yg.length yE,.int .i64 ym,.int .i64 yn],.slice A1 l1.length c1] w fun e w' => ∃ G7 : Value,e = .returned (G7) ∧ Kd.R DN 60 w' w.heap.size (fun _ => True) G7 r ∧ Below w.heap.size w w' := by
 have ET := Tryz.underlying29;have Ob := Tryz.underlying60;have KE := Tryz.underlying51;have zk := yf.mk zS;have zq := yf.mk zT;clear zS zT;have HR1 := yf.mk hr1;have Gt := yf.mk hc1;clear hr1 hc1;have HB := yf.mk (Below.refl w.heap.size w)
 have H : (yN.l0 k l1 ([] : List (AP)) 0 yj yg ym yn) = some r := h
 clear h;have H' := yf.mk H;clear H
 go_enter Tryz.func7,Tryz.ntmps7
 go_wp2_with (((with_reducible refine yG (N := 2) rfl ?_);refine yD rfl (N := 2) rfl (cs := #[.int .i64 yj,.slice yK yg.length yE,.int .i64 ym,.int .i64 yn]) (t := 29) (by go_simp) ?_;intro ah hg w3 yI hb;have aa := yf.mk (yI);have cZ := bG (w := w) hg;have cz := bG (w := w) hg;replace HB := bS HB hb;clear hb yI hg))
 go_loopg [5,6] k (fun kq v5 v6 w' => ∃ (yP : List (AP)) (Bi : Int),v6 = .int .i64 Bi ∧ yf (yN.l0 kq l1 yP Bi yj yg ym yn = some r) ∧ yf (kq ≤ k) ∧ yf (Kd.R DN 60 w' w.heap.size (fun _ => True) v5 yP) ∧ yf (w'.heap[ah]? = some (.cells #[.int .i64 yj,(.slice yK yg.length yE),.int .i64 ym,.int .i64 yn] 29 (0,0))) ∧ yf (Below w.heap.size w w'))
 case atStart => exact ⟨(([] : List (AP))),(0),(by rfl),H',⟨Nat.le_refl _⟩,⟨by exact Kd.Dc _ _ _ _ _⟩,⟨kk aa⟩,⟨bO HB⟩⟩
 case round =>
 clear H';obtain ⟨yP,Bi,rfl,HA,Bn,Bo,aa,HB⟩ := hrel
 cases gk with
 | zero => exact absurd HA.out (by simp [yN.l0])
 | succ k1 =>
 have H := HA.out;clear HA;simp only [yN.l0] at H
 by_cases c4 : Bi < (l1.length : Int)
 rotate_left
 ·
  rw [if_neg c4] at H;have ER := decide_eq_false c4;clear c4;obtain rfl := Option.some.inj H
  go_wp2
  go_ret
  exact ⟨_,by rfl,by (with_reducible repeat (apply Kd.zg));exact Bo.out,bO HB⟩
 rw [if_pos c4] at H;have ER := decide_eq_true c4;clear c4
 by_cases c5 : 0 ≤ Bi
 rotate_left
 ·
  rw [if_neg c5] at H;exact absurd H (by simp)
 rw [if_pos c5] at H;have ES := decide_eq_true c5;clear c5;obtain ⟨Dp,A6,H⟩ := bE H
 try dsimp only at H
 obtain ⟨Dq,A7,H⟩ := bE H
 try dsimp only at H
 by_cases c8 : (wrap64 (Dp * Dq)) = 0
 ·
  rw [if_pos c8] at H;exact absurd H (by simp)
 rw [if_neg c8] at H;have GN := beq_eq_false_iff_ne.mpr c8;have Nk := bne_iff_ne.mpr c8;obtain ⟨EO,A9,H⟩ := bE H
 try dsimp only at H
 by_cases c10 : EO = 0
 ·
  rw [if_pos c10] at H;exact absurd H (by simp)
 rw [if_neg c10] at H;have Fu := beq_eq_false_iff_ne.mpr c10;have N9 := bne_iff_ne.mpr c10;obtain ⟨Fw,Yp,H⟩ := bE H
 try dsimp only at H
 by_cases c12 : Fw = 0
 ·
  rw [if_pos c12] at H;exact absurd H (by simp)
 rw [if_neg c12] at H;have Gj := beq_eq_false_iff_ne.mpr c12;have Ot := bne_iff_ne.mpr c12
 by_cases c13 : 0 ≤ yj
 rotate_left
 ·
  rw [if_neg c13] at H;exact absurd H (by simp)
 rw [if_pos c13] at H;have J3 := eq_true c13;have Tx := decide_eq_true c13;clear c13
 by_cases c14 : (yj : Int).toNat ≤ 281474976710656
 rotate_left
 ·
  rw [if_neg c14] at H;exact absurd H (by simp)
 rw [if_pos c14] at H;have Na := eq_true c14;have Nb := decide_eq_true c14;clear c14;obtain ⟨Gi,bq⟩ : ∃ y_ : List Bool,y_ = (List.replicate (yj : Int).toNat false) := ⟨_,rfl⟩
 replace H : (if (Gi.length : Int) = 0 then (none) else (if 0 ≤ (((Int.tdiv (rd l1 Bi) 2) % 256) % (Gi.length : Int)) then (if (((Int.tdiv (rd l1 Bi) 2) % 256) % (Gi.length : Int)) < (Gi.length : Int) then ((yH.f k1 yj yg ym yn yP (wrap64 (Int.tdiv (Int.tmod (wrap64 ((wrap64 (rd l1 Bi)) * 7)) (wrap64 (Dp * Dq))) EO)) (Gi.set ((((Int.tdiv (rd l1 Bi) 2) % 256) % (Gi.length : Int)) : Int).toNat true)).bind fun Gy => (if Gy.2.2 = true then (yN.j1 k1 l1 yP Bi yj yg ym yn (wrap64 (Int.tdiv (Int.tmod (wrap64 ((wrap64 (rd l1 Bi)) * 7)) (wrap64 (Dp * Dq))) EO)) (Int.tmod (Int.tmod (wrap64 ((wrap64 (rd l1 Bi)) * 7)) (wrap64 (Dp * Dq))) Fw) 0 0 Gy.1 Gy.2.1) else (yN.j1 k1 l1 yP Bi yj yg ym yn (wrap64 (Int.tdiv (Int.tmod (wrap64 ((wrap64 (rd l1 Bi)) * 7)) (wrap64 (Dp * Dq))) EO)) (Int.tmod (Int.tmod (wrap64 ((wrap64 (rd l1 Bi)) * 7)) (wrap64 (Dp * Dq))) Fw) 0 0 (-1) 0))) else (none)) else (none))) = some r := by (have H2_ := (Option.bind_some _ _).symm.trans H;rw [bq];with_reducible exact H2_)
 have bR := yf.mk bq;clear bq
 by_cases c15 : (Gi.length : Int) = 0
 ·
  rw [if_pos c15] at H;exact absurd H (by simp)
 rw [if_neg c15] at H;have Iy := beq_eq_false_iff_ne.mpr c15;have a3y := bne_iff_ne.mpr c15
 have df : ¬ (Gi = []) := fun h_ => c15 (by rw [h_];rfl)
 obtain ⟨ax,aG⟩ : ∃ j_ : Int,(((Int.tdiv (rd l1 Bi) 2) % 256) % (Gi.length : Int)) = j_ := ⟨_,rfl⟩
 replace H : (if 0 ≤ (ax) then (if (ax) < (Gi.length : Int) then ((yH.f k1 yj yg ym yn yP (wrap64 (Int.tdiv (Int.tmod (wrap64 ((wrap64 (rd l1 Bi)) * 7)) (wrap64 (Dp * Dq))) EO)) (Gi.set ((ax) : Int).toNat true)).bind fun Gy => (if Gy.2.2 = true then (yN.j1 k1 l1 yP Bi yj yg ym yn (wrap64 (Int.tdiv (Int.tmod (wrap64 ((wrap64 (rd l1 Bi)) * 7)) (wrap64 (Dp * Dq))) EO)) (Int.tmod (Int.tmod (wrap64 ((wrap64 (rd l1 Bi)) * 7)) (wrap64 (Dp * Dq))) Fw) 0 0 Gy.1 Gy.2.1) else (yN.j1 k1 l1 yP Bi yj yg ym yn (wrap64 (Int.tdiv (Int.tmod (wrap64 ((wrap64 (rd l1 Bi)) * 7)) (wrap64 (Dp * Dq))) EO)) (Int.tmod (Int.tmod (wrap64 ((wrap64 (rd l1 Bi)) * 7)) (wrap64 (Dp * Dq))) Fw) 0 0 (-1) 0))) else (none)) else (none)) = some r := by (rw [aG] at H;exact H)
 (try rw [aG] at A6)
 (try rw [aG] at A7)
 (try rw [aG] at A9)
 (try rw [aG] at Yp)
 by_cases c17 : 0 ≤ (ax)
 rotate_left
 ·
  rw [if_neg c17] at H;exact absurd H (by simp)
 rw [if_pos c17] at H;have Nc := decide_eq_true c17;clear c17
 by_cases c18 : (ax) < (Gi.length : Int)
 rotate_left
 ·
  rw [if_neg c18] at H;exact absurd H (by simp)
 rw [if_pos c18] at H;have Qh := decide_eq_true c18;clear c18;obtain ⟨aA,bu⟩ : ∃ y_ : List Bool,y_ = (Gi.set ((ax) : Int).toNat true) := ⟨_,rfl⟩
 replace H : ((yH.f k1 yj yg ym yn yP (wrap64 (Int.tdiv (Int.tmod (wrap64 ((wrap64 (rd l1 Bi)) * 7)) (wrap64 (Dp * Dq))) EO)) aA).bind fun Gy => (if Gy.2.2 = true then (yN.j1 k1 l1 yP Bi yj yg ym yn (wrap64 (Int.tdiv (Int.tmod (wrap64 ((wrap64 (rd l1 Bi)) * 7)) (wrap64 (Dp * Dq))) EO)) (Int.tmod (Int.tmod (wrap64 ((wrap64 (rd l1 Bi)) * 7)) (wrap64 (Dp * Dq))) Fw) 0 0 Gy.1 Gy.2.1) else (yN.j1 k1 l1 yP Bi yj yg ym yn (wrap64 (Int.tdiv (Int.tmod (wrap64 ((wrap64 (rd l1 Bi)) * 7)) (wrap64 (Dp * Dq))) EO)) (Int.tmod (Int.tmod (wrap64 ((wrap64 (rd l1 Bi)) * 7)) (wrap64 (Dp * Dq))) Fw) 0 0 (-1) 0))) = some r := by (rw [bu];with_reducible exact H)
 have bT := yf.mk bu;clear bu;obtain ⟨⟨bL,bM,bN⟩,bP,H⟩ := bE H
 try dsimp only at H
 have aY := yf.mk H;clear H
 try go_wp2
 replace Bo := yf.mk (Kd.DI Bo.out);replace aa := yf.mk (zl aa.out);replace HB := yf.mk (zt HB.out)
 have bv : 0 ≤ (Bi : Int) := of_decide_eq_true ‹_›
 have bA : Bi < (l1.length : Int) := of_decide_eq_true ‹_›
 obtain ⟨bI,bV,aN⟩ := Kd.BG HR1.out Bi bv bA;have bi := aN;cases bV;replace aN := cB HB aN;replace bv := eq_true bv;replace bA := eq_true bA
 refine Bt (n := 13) (S := fun w' => w'.cell? ⟨ah,0,none⟩ = some (.int .i64 yj) ∧ w'.cell? ⟨ah,1,none⟩ = some (.slice yK yg.length yE) ∧ w'.cell? ⟨ah,2,none⟩ = some (.int .i64 ym) ∧ w'.cell? ⟨ah,3,none⟩ = some (.int .i64 yn) ∧ w'.cell? (bI.add (Bi).toNat) = some (.int .u8 (rd l1 Bi))) (ds := []) (bz 13 0) (by kernel_rfl) rfl rfl ⟨(yx aa.out 0).trans rfl,(yx aa.out 1).trans rfl,(yx aa.out 2).trans rfl,(yx aa.out 3).trans rfl,(cB HB bi)⟩ (fun hHeld => ?_);refine Ab yN.Zx yN.Tw (fun yJ Bv => ?_)
 generalize wr.drew = w22 at Bo aa HB aN hHeld ⊢;refine pU 0 20 13 1 yJ ?_;refine pU 1 21 13 3 yJ ?_;refine pU 2 22 13 7 yJ ?_
 refine Co 3 23 13 15 yJ Bv hHeld ?_
 refine pU 4 24 13 31 yJ ?_;refine pU 5 25 13 63 yJ ?_
 refine Co 6 26 13 127 yJ Bv hHeld ?_
 refine Co 8 28 13 383 yJ Bv hHeld ?_
 refine CB (i := 7) (N := some 27) (bz 13 511) rfl rfl (Ar yJ.out (by kernel_rfl)) (by decide) (fun K hK => ?_)
 refine gO Tryz.func13 #[.agg #[.int .i64 yj,.slice yK yg.length yE,.int .i64 ym,.int .i64 yn]] ?_
 with_reducible refine (Ao.calls yj _ _ yg ym yn Dp _ ?yB ?yC A6.out).mono ?_
 (case yB => exact CU zk)
 (case yC => exact zq.out)
 rintro e w23 ⟨rfl,hb⟩
 refine ⟨_,rfl,?_⟩
 replace Bo := CR Bo hb;replace aa := bB aa hb;replace HB := bS HB hb;clear hb
 refine hK.out _ _ ⟨(yx aa.out 0).trans rfl,(yx aa.out 1).trans rfl,(yx aa.out 2).trans rfl,(yx aa.out 3).trans rfl,(cB HB bi)⟩ (fun hHeld => ?_)
 clear hK K
 refine AU (a' := ?_) ?_ ?_
 rotate_left
 ·
  show Act.put _ (some 27) _ = _
  simp only [pz]
  rfl
 refine CB (i := 9) (N := some 29) (bz 13 1023) rfl rfl (Ar yJ.out (by kernel_rfl)) (by decide) (fun K hK => ?_)
 refine gO Tryz.func14 #[.agg #[.int .i64 yj,.slice yK yg.length yE,.int .i64 ym,.int .i64 yn]] ?_
 with_reducible refine (zn.calls yj _ _ yg ym yn Dq _ ?yB ?yC A7.out).mono ?_
 (case yB => exact CU zk)
 (case yC => exact zq.out)
 rintro e w24 ⟨rfl,hb⟩
 refine ⟨_,rfl,?_⟩
 replace Bo := CR Bo hb;replace aa := bB aa hb;replace HB := bS HB hb;clear hb
 refine hK.out _ _ ⟨(yx aa.out 0).trans rfl,(yx aa.out 1).trans rfl,(yx aa.out 2).trans rfl,(yx aa.out 3).trans rfl,(cB HB bi)⟩ (fun hHeld => ?_)
 clear hK K
 refine AU (a' := ?_) ?_ ?_
 rotate_left
 ·
  show Act.put _ (some 29) _ = _
  simp only [pz]
  rfl
 refine pU 10 30 13 2047 yJ ?_;refine pU 11 31 13 4095 yJ ?_;refine pU 12 7 13 8191 yJ ?_
 refine Cn (AZ yJ.out (by kernel_rfl)) ?_
 try go_wp2
 replace Bo := yf.mk (Kd.DI Bo.out);replace aa := yf.mk (zl aa.out);replace HB := yf.mk (zt HB.out)
 refine Bt (n := 11) (S := fun w' => w'.cell? ⟨ah,0,none⟩ = some (.int .i64 yj) ∧ w'.cell? ⟨ah,1,none⟩ = some (.slice yK yg.length yE) ∧ w'.cell? ⟨ah,2,none⟩ = some (.int .i64 ym) ∧ w'.cell? ⟨ah,3,none⟩ = some (.int .i64 yn)) (ds := []) (bz 11 0) (by kernel_rfl) rfl rfl (AO aa) (fun hHeld => ?_);refine Ab yN.a2U yN.VN (fun yJ Bv => ?_)
 generalize w24.drew = w25 at Bo aa HB hHeld ⊢;refine pU 0 32 11 1 yJ ?_;refine pU 4 36 11 17 yJ ?_
 refine Co 1 33 11 19 yJ Bv hHeld ?_
 refine Co 5 37 11 51 yJ Bv hHeld ?_
 refine Ul (σ := Nat) 1 (bz 11 1023) (fun s_ => [(34,.int .i64 EO),(38,.int .i64 Fw),(8,.pointer (some ⟨s_,0,none⟩)),(35,.int .i64 (wrap64 (Int.tdiv (Int.tmod (wrap64 ((wrap64 (rd l1 Bi)) * 7)) (wrap64 (Dp * Dq))) EO))),(39,.int .i64 (Int.tmod (Int.tmod (wrap64 ((wrap64 (rd l1 Bi)) * 7)) (wrap64 (Dp * Dq))) Fw)),(40,.agg #[.int .i64 (wrap64 (Int.tdiv (Int.tmod (wrap64 ((wrap64 (rd l1 Bi)) * 7)) (wrap64 (Dp * Dq))) EO)),.int .i64 (Int.tmod (Int.tmod (wrap64 ((wrap64 (rd l1 Bi)) * 7)) (wrap64 (Dp * Dq))) Fw),.int .i64 0,.int .i64 0])]) (fun s_ w' => (w'.cell? ⟨ah,0,none⟩ = some (.int .i64 yj) ∧ w'.cell? ⟨ah,1,none⟩ = some (.slice yK yg.length yE) ∧ w'.cell? ⟨ah,2,none⟩ = some (.int .i64 ym) ∧ w'.cell? ⟨ah,3,none⟩ = some (.int .i64 yn)) ∧ (Kd.R DN 60 w' w.heap.size (fun k_ => k_ ≠ s_) u5 yP) ∧ (w'.heap[ah]? = some (.cells #[.int .i64 yj,.slice yK yg.length yE,.int .i64 ym,.int .i64 yn] 29 (0,0))) ∧ (w'.heap[s_]? = some (.cells #[.int .i64 0,.int .i64 0,.int .i64 0,.int .i64 0] 60 (0,0))) ∧ (w.heap.size ≤ s_) ∧ (w.heap.size ≤ s_) ∧ (ah ≠ s_) ∧ (s_ ≠ ah) ∧ (Below w.heap.size w w')) ?_ ?_
 rotate_left
 ·
  intro hCont
  refine Rl (i := 2) (j := 9) (Ni := some 34) (Nj := some 8) (bz 11 55) (bz 11 563) rfl rfl rfl rfl (Ji yJ.out (by kernel_rfl)) (by decide) (by decide) (fun K hK => ?_) (fun K hK => ?_)
  ·
   skip
   refine gO Tryz.func14 #[.agg #[.int .i64 yj,.slice yK yg.length yE,.int .i64 ym,.int .i64 yn]] ?_
   with_reducible refine (zn.calls yj _ _ yg ym yn EO _ ?yB ?yC A9.out).mono ?_
   (case yB => exact CU zk)
   (case yC => exact zq.out)
   rintro e w26 ⟨rfl,hb⟩
   refine ⟨_,rfl,?_⟩
   replace Bo := CR Bo hb;replace aa := bB aa hb;replace HB := bS HB hb;clear hb
   refine hK.out _ _ (AO aa) (fun hHeld => ?_)
   clear hK K
   refine AU (a' := ?_) ?_ ?_
   rotate_left
   ·
    show Act.put _ (some 34) _ = _
    simp only [pz]
    rfl
   refine pU 3 35 11 63 yJ ?_
   refine Rl (i := 6) (j := 9) (Ni := some 38) (Nj := some 8) (bz 11 127) (bz 11 575) rfl rfl rfl rfl (Ji yJ.out (by kernel_rfl)) (by decide) (by decide) (fun K hK => ?_) (fun K hK => ?_)
   ·
    skip
    refine gO Tryz.func14 #[.agg #[.int .i64 yj,.slice yK yg.length yE,.int .i64 ym,.int .i64 yn]] ?_
    with_reducible refine (zn.calls yj _ _ yg ym yn Fw _ ?yB ?yC Yp.out).mono ?_
    (case yB => exact CU zk)
    (case yC => exact zq.out)
    rintro e w27 ⟨rfl,hb⟩
    refine ⟨_,rfl,?_⟩
    replace Bo := CR Bo hb;replace aa := bB aa hb;replace HB := bS HB hb;clear hb
    refine hK.out _ _ (AO aa) (fun hHeld => ?_)
    clear hK K
    refine AU (a' := ?_) ?_ ?_
    rotate_left
    ·
     show Act.put _ (some 38) _ = _
     simp only [pz]
     rfl
    refine pU 7 39 11 255 yJ ?_;refine pU 8 40 11 511 yJ ?_
    refine CB (i := 9) (N := some 8) (bz 11 1023) rfl rfl (Ar yJ.out (by kernel_rfl)) (by decide) (fun K hK => ?_)
    refine Ei ?hg (N := 8) ?hd (cs := #[.int .i64 0,.int .i64 0,.int .i64 0,.int .i64 0]) (t := 60) ?hr ?_;(case hd => rfl);(case hg => rfl);(case hr => go_simp)
    intro ae hg w28 yI hb
    have BR := yf.mk (Kd.Cj (Kd.FT (kR Bo) ae (Nat.le_of_eq hg.symm)) hb);have BS := bB aa hb;have Ce := bS HB hb;have CZ := yf.mk (yI);have Dx := bG (w := w) hg;have E5 := bG (w := w) hg;have G6 := Cq aa hg;have GI := Aq aa hg;clear Bo aa HB;have Bo := BR;have aa := BS;have HB := Ce;have af := CZ;have az := Dx;have ay := E5;have ag := G6;have ak := GI;clear BR BS Ce CZ Dx E5 G6 GI hb yI hg
    refine hK.out _ _ (AO aa) (fun hHeld => ?_)
    clear hK K
    refine AU (a' := ?_) ?_ ?_
    rotate_left
    ·
     show Act.put _ (some 8) _ = _
     simp only [pz]
     rfl
    exact Gb (hCont (ae) _ ⟨hHeld,(by (with_reducible repeat (apply Kd.zg));exact Kd.zf Bo.out (fun _ hk => hk.2)),(kk aa),(kk af),az.out,ay.out,ag.out,ak.out,(bO HB)⟩)
   skip
   refine Ei ?hg (N := 8) ?hd (cs := #[.int .i64 0,.int .i64 0,.int .i64 0,.int .i64 0]) (t := 60) ?hr ?_;(case hd => rfl);(case hg => rfl);(case hr => go_simp)
   intro ae hg w27 yI hb
   have BR := yf.mk (Kd.Cj (Kd.FT (kR Bo) ae (Nat.le_of_eq hg.symm)) hb);have BS := bB aa hb;have Ce := bS HB hb;have CZ := yf.mk (yI);have Dx := bG (w := w) hg;have E5 := bG (w := w) hg;have G6 := Cq aa hg;have GI := Aq aa hg;clear Bo aa HB;have Bo := BR;have aa := BS;have HB := Ce;have af := CZ;have az := Dx;have ay := E5;have ag := G6;have ak := GI;clear BR BS Ce CZ Dx E5 G6 GI hb yI hg
   refine hK.out _ _ (AO aa) (fun hHeld => ?_)
   clear hK K
   refine AU (a' := ?_) ?_ ?_
   rotate_left
   ·
    show Act.put _ (some 8) _ = _
    simp only [pz]
    rfl
   refine CB (i := 6) (N := some 38) (bz 11 639) rfl rfl (Ar yJ.out (by kernel_rfl)) (by decide) (fun K hK => ?_)
   refine gO Tryz.func14 #[.agg #[.int .i64 yj,.slice yK yg.length yE,.int .i64 ym,.int .i64 yn]] ?_
   with_reducible refine (zn.calls yj _ _ yg ym yn Fw _ ?yB ?yC Yp.out).mono ?_
   (case yB => exact CU zk)
   (case yC => exact zq.out)
   rintro e w28 ⟨rfl,hb⟩
   refine ⟨_,rfl,?_⟩
   replace Bo := CR Bo hb;replace aa := bB aa hb;replace af := bB af hb;replace HB := bS HB hb;clear hb
   refine hK.out _ _ (AO aa) (fun hHeld => ?_)
   clear hK K
   refine AU (a' := ?_) ?_ ?_
   rotate_left
   ·
    show Act.put _ (some 38) _ = _
    simp only [pz]
    rfl
   refine pU 7 39 11 767 yJ ?_;refine pU 8 40 11 1023 yJ ?_
   exact Gb (hCont (ae) _ ⟨hHeld,(by (with_reducible repeat (apply Kd.zg));exact Kd.zf Bo.out (fun _ hk => hk.2)),(kk aa),(kk af),az.out,ay.out,ag.out,ak.out,(bO HB)⟩)
  skip
  refine Ei ?hg (N := 8) ?hd (cs := #[.int .i64 0,.int .i64 0,.int .i64 0,.int .i64 0]) (t := 60) ?hr ?_;(case hd => rfl);(case hg => rfl);(case hr => go_simp)
  intro ae hg w26 yI hb
  have BR := yf.mk (Kd.Cj (Kd.FT (kR Bo) ae (Nat.le_of_eq hg.symm)) hb);have BS := bB aa hb;have Ce := bS HB hb;have CZ := yf.mk (yI);have Dx := bG (w := w) hg;have E5 := bG (w := w) hg;have G6 := Cq aa hg;have GI := Aq aa hg;clear Bo aa HB;have Bo := BR;have aa := BS;have HB := Ce;have af := CZ;have az := Dx;have ay := E5;have ag := G6;have ak := GI;clear BR BS Ce CZ Dx E5 G6 GI hb yI hg
  refine hK.out _ _ (AO aa) (fun hHeld => ?_)
  clear hK K
  refine AU (a' := ?_) ?_ ?_
  rotate_left
  ·
   show Act.put _ (some 8) _ = _
   simp only [pz]
   rfl
  refine CB (i := 2) (N := some 34) (bz 11 567) rfl rfl (Ar yJ.out (by kernel_rfl)) (by decide) (fun K hK => ?_)
  refine gO Tryz.func14 #[.agg #[.int .i64 yj,.slice yK yg.length yE,.int .i64 ym,.int .i64 yn]] ?_
  with_reducible refine (zn.calls yj _ _ yg ym yn EO _ ?yB ?yC A9.out).mono ?_
  (case yB => exact CU zk)
  (case yC => exact zq.out)
  rintro e w27 ⟨rfl,hb⟩
  refine ⟨_,rfl,?_⟩
  replace Bo := CR Bo hb;replace aa := bB aa hb;replace af := bB af hb;replace HB := bS HB hb;clear hb
  refine hK.out _ _ (AO aa) (fun hHeld => ?_)
  clear hK K
  refine AU (a' := ?_) ?_ ?_
  rotate_left
  ·
   show Act.put _ (some 34) _ = _
   simp only [pz]
   rfl
  refine pU 3 35 11 575 yJ ?_
  refine CB (i := 6) (N := some 38) (bz 11 639) rfl rfl (Ar yJ.out (by kernel_rfl)) (by decide) (fun K hK => ?_)
  refine gO Tryz.func14 #[.agg #[.int .i64 yj,.slice yK yg.length yE,.int .i64 ym,.int .i64 yn]] ?_
  with_reducible refine (zn.calls yj _ _ yg ym yn Fw _ ?yB ?yC Yp.out).mono ?_
  (case yB => exact CU zk)
  (case yC => exact zq.out)
  rintro e w28 ⟨rfl,hb⟩
  refine ⟨_,rfl,?_⟩
  replace Bo := CR Bo hb;replace aa := bB aa hb;replace af := bB af hb;replace HB := bS HB hb;clear hb
  refine hK.out _ _ (AO aa) (fun hHeld => ?_)
  clear hK K
  refine AU (a' := ?_) ?_ ?_
  rotate_left
  ·
   show Act.put _ (some 38) _ = _
   simp only [pz]
   rfl
  refine pU 7 39 11 767 yJ ?_;refine pU 8 40 11 1023 yJ ?_
  exact Gb (hCont (ae) _ ⟨hHeld,(by (with_reducible repeat (apply Kd.zg));exact Kd.zf Bo.out (fun _ hk => hk.2)),(kk aa),(kk af),az.out,ay.out,ag.out,ak.out,(bO HB)⟩)
 rintro ae w29 ⟨hS_,WH,UN,UO,WI,WJ,WK,WL,WM⟩
 have af : yf (w29.heap[ae]? = some (.cells #[.int .i64 0,.int .i64 0,.int .i64 0,.int .i64 0] 60 (0,0))) := ⟨UO⟩
 have az : yf (w.heap.size ≤ ae) := ⟨WI⟩
 have ay : yf (w.heap.size ≤ ae) := ⟨WJ⟩
 have ag : yf (ah ≠ ae) := ⟨WK⟩
 have ak : yf (ae ≠ ah) := ⟨WL⟩
 replace Bo : yf (Kd.R DN 60 w29 w.heap.size (fun k_ => k_ ≠ ae) u5 yP) := ⟨WH⟩
 replace aa : yf (w29.heap[ah]? = some (.cells #[.int .i64 yj,.slice yK yg.length yE,.int .i64 ym,.int .i64 yn] 29 (0,0))) := ⟨UN⟩
 replace HB : yf (Below w.heap.size w w29) := ⟨WM⟩
 clear WH UN UO WI WJ WK WL WM
 have hHeld : w29.cell? ⟨ah,0,none⟩ = some (.int .i64 yj) ∧ w29.cell? ⟨ah,1,none⟩ = some (.slice yK yg.length yE) ∧ w29.cell? ⟨ah,2,none⟩ = some (.int .i64 ym) ∧ w29.cell? ⟨ah,3,none⟩ = some (.int .i64 yn) := hS_
 refine AU (a' := ?_) ?_ ?_
 rotate_left
 ·
  simp only [Jd,Act.put,List.setIfInBounds_toArray,List.set_cons_zero,List.set_cons_succ]
  rfl
 refine CB (i := 10) (N := none) (bz 11 2047) rfl rfl (Ar yJ.out (by kernel_rfl)) (by decide) (fun K hK => ?_)
 have dJ : w29.cell? ⟨ae,0,none⟩ = some (.int .i64 0) := (yx af.out 0).trans rfl
 have dn := zy af.out 0;have dF := ag.out;have dB := ak.out
 have dK : w29.cell? ⟨ae,1,none⟩ = some (.int .i64 0) := (yx af.out 1).trans rfl
 have dw := zy af.out 1;have dG := ag.out;have dC := ak.out
 have dL : w29.cell? ⟨ae,2,none⟩ = some (.int .i64 0) := (yx af.out 2).trans rfl
 have dx := zy af.out 2;have dH := ag.out;have dD := ak.out
 have dM : w29.cell? ⟨ae,3,none⟩ = some (.int .i64 0) := (yx af.out 3).trans rfl
 have dz := zy af.out 3;have dI := ag.out;have dE := ak.out
 refine Ia (w1 := ?_) (by rfl) rfl ?_ ?_
 rotate_left
 ·
  go_simp
  rfl
 refine hK.out _ _ ⟨((cell_far (p := ⟨ae,_,none⟩) ag.out _).trans (((cell_far (p := ⟨ae,_,none⟩) ag.out _).trans (((cell_far (p := ⟨ae,_,none⟩) ag.out _).trans (((cell_far (p := ⟨ae,_,none⟩) ag.out _).trans (hHeld.1)))))))),((cell_far (p := ⟨ae,_,none⟩) ag.out _).trans (((cell_far (p := ⟨ae,_,none⟩) ag.out _).trans (((cell_far (p := ⟨ae,_,none⟩) ag.out _).trans (((cell_far (p := ⟨ae,_,none⟩) ag.out _).trans (hHeld.2.1)))))))),((cell_far (p := ⟨ae,_,none⟩) ag.out _).trans (((cell_far (p := ⟨ae,_,none⟩) ag.out _).trans (((cell_far (p := ⟨ae,_,none⟩) ag.out _).trans (((cell_far (p := ⟨ae,_,none⟩) ag.out _).trans (hHeld.2.2.1)))))))),((cell_far (p := ⟨ae,_,none⟩) ag.out _).trans (((cell_far (p := ⟨ae,_,none⟩) ag.out _).trans (((cell_far (p := ⟨ae,_,none⟩) ag.out _).trans (((cell_far (p := ⟨ae,_,none⟩) ag.out _).trans (hHeld.2.2.2))))))))⟩ (fun hHeld => ?_)
 clear hK K
 refine Cn (AZ yJ.out (by kernel_rfl)) ?_
 have U0 := ag.out;have Ub := ak.out;have Ku := AO aa;have KC := bf aa
 go_upto_if 66 with (first | ((with_reducible refine yG (N := 44) rfl ?_);refine Kd.MW Kd.bool _ 4 rfl (N := 44) rfl 49 _ _ rfl yj rfl rfl Tryz.underlying49 (.bool false) 1 a14 rfl (by decide) (by omega) false (ok := fun _ => True) (okp := fun _ => True) rfl (fun _ hk => hk) trivial (of_decide_eq_true ‹_›) (Nat.le_trans (Nat.mul_le_mul_right _ (of_decide_eq_true ‹_› : yj.toNat ≤ 281474976710656)) (by omega)) (Below.refl _ _) (Nat.le_refl _) ?_;intro v578 w36 NI hb JY DL;clear JY DL;(rw [← bR.out] at NI);replace Bo := yf.mk (Kd.Cj (by (with_reducible repeat (apply Kd.zg));exact (Kd.zf (GG (g := ae) (Kd.zf Bo.out (fun k_ hk => (⟨hk,hk⟩ : _ ∧ k_ ≠ ae))) (fun _ hk => hk.2)) (fun _ h_ => h_.1))) hb);have aj := yf.mk (Kd.AC NI (yF (bO HB)));replace aa := yf.mk (yZ (g := ah) (o := .cells #[.int .i64 yj,.slice yK yg.length yE,.int .i64 ym,.int .i64 yn] 29 (0,0)) (CY aa rfl) hb);replace af := yf.mk (yZ (g := ae) (o := .cells #[.int .i64 (wrap64 (Int.tdiv (Int.tmod (wrap64 ((wrap64 (rd l1 Bi)) * 7)) (wrap64 (Dp * Dq))) EO)),.int .i64 (Int.tmod (Int.tmod (wrap64 ((wrap64 (rd l1 Bi)) * 7)) (wrap64 (Dp * Dq))) Fw),.int .i64 0,.int .i64 0] 60 (0,0)) (CY af rfl) hb);replace HB := bS HB hb;clear hb NI;have aU : 0 ≤ (Bi : Int) := of_decide_eq_true ‹_›;have aW : Bi < (l1.length : Int) := of_decide_eq_true ‹_›;obtain ⟨bU,bW,bn⟩ := Kd.BG HR1.out Bi aU aW;obtain rfl : bI = bU := (by injection bW);replace bn := cB HB bn;replace aU := eq_true aU;replace aW := eq_true aW;obtain ⟨cu,bg,bX⟩ := Kd.zB aj.out;subst bX;have aT : 0 ≤ ((ax) : Int) := of_decide_eq_true ‹_›;have aV : ((ax) : Int) < ((Gi.length : Int) : Int) := of_decide_eq_true ‹_›;obtain ⟨aD,Ko,Pz,bJ,bY,dh,bF⟩ := Kd.Hm aj.out (by omega);(cases Pz);have bQ := yf.mk bJ;have cO := yf.mk bF;clear bJ bY bF;obtain ⟨bZ,dm⟩ := Kd.Fh false aj.out ((ax) : Int) aT aV;replace aT := eq_true aT;replace aV := eq_true aV;obtain ⟨dN,dO⟩ := Kd.Fh false aj.out ((ax) : Int) (of_decide_eq_true ‹_›) (of_decide_eq_true ‹_›);have aZ := Kd.KW aj.out ((ax) : Int) true) | ((with_reducible refine F8 (t := 4) (p := 55) rfl ?_);refine EI (t := 4) (p := 55) (v := ?vo_w40) (w1 := (w36.setCell ⟨aD,((ax) : Int).toNat,none⟩ (.bool true))) ?hg ?ho ?hn ?hr ?_;(case ho => rfl);(case hg => rfl);(case hn => rfl);(case hr => go_simp);intro w40 hw;have hg : w36.grownBy w40 (some aD) := (by rw [hw];exact aZ.2);have OL : Kd.R Kd.bool 4 w40 w.heap.size (fun _ => True) (.slice (some ⟨aD,0,none⟩) Gi.length bg) aA := (by rw [hw,bT.out];exact aZ.1);clear aZ;replace Bo := yf.mk (Kd.Jl (v := (.slice (some ⟨aD,0,none⟩) Gi.length bg)) (kR Bo) (Kd.Ii aj.out) (by decide) hg);replace aa := yf.mk (zL (g := ah) (o := .cells #[.int .i64 yj,.slice yK yg.length yE,.int .i64 ym,.int .i64 yn] 29 (0,0)) (kk aa) hg (Kd.DC aj.out aa.out (by decide)));replace af := yf.mk (zL (g := ae) (o := .cells #[.int .i64 (wrap64 (Int.tdiv (Int.tmod (wrap64 ((wrap64 (rd l1 Bi)) * 7)) (wrap64 (Dp * Dq))) EO)),.int .i64 (Int.tmod (Int.tmod (wrap64 ((wrap64 (rd l1 Bi)) * 7)) (wrap64 (Dp * Dq))) Fw),.int .i64 0,.int .i64 0] 60 (0,0)) (kk af) hg (Kd.DC aj.out af.out (by decide)));replace aj := yf.mk (OL);replace HB := yf.mk ((by rw [hw];exact Dw (HB.out) bQ.out : Below w.heap.size w w40));clear hg hw OL;have OC := AO aa;have OG := bf aa;have QA := AO af;have QG := bf af;obtain ⟨RD,Px,Sw⟩ := Kd.zB Bo.out;subst Sw) | ((with_reducible refine yz (f := 20) rfl ?_);refine Le (some 62) rfl rfl Tryz.func20 (by kernel_rfl) rfl #[.agg #[.int .i64 yj,.slice yK yg.length yE,.int .i64 ym,.int .i64 yn],.slice RD yP.length Px,.int .i64 (wrap64 (Int.tdiv (Int.tmod (wrap64 ((wrap64 (rd l1 Bi)) * 7)) (wrap64 (Dp * Dq))) EO)),.slice (some ⟨aD,0,none⟩) aA.length bg] rfl (by (try simp only [List.map_toArray,List.map_cons,List.map_nil]);(rw [show aA.length = Gi.length from (Kd.zb aj.out).1.symm] <;> rfl)) ?_;(with_reducible refine (yH.calls k1 yj _ _ yg ym yn _ _ yP (wrap64 (Int.tdiv (Int.tmod (wrap64 ((wrap64 (rd l1 Bi)) * 7)) (wrap64 (Dp * Dq))) EO)) _ _ aA bL bM bN _ ?yB ?yC ?zI ?zJ ?En ?Eo bP.out).mono ?_);(case yB => exact CU zk);(case yC => exact zq.out);(case zI => exact Jq Bo);(case zJ => exact (Kd.zb Bo.out).2.1);(case En => exact Jq aj);(case Eo => rw [show aA.length = Gi.length from (Kd.zb aj.out).1.symm];exact (Kd.zb aj.out).2.1);rintro e w44 ⟨rfl,hb⟩;refine ⟨_,rfl,?_⟩;replace Bo := CR Bo hb;replace aj := CR aj hb;replace aa := bB aa hb;replace af := bB af hb;replace HB := bS HB hb;clear hb) | ((with_reducible refine yG (N := 10) rfl ?_);refine yD rfl (N := 10) rfl (cs := #[.int .i64 0,.int .i64 0]) (t := 51) (by go_simp) ?_;intro aC hg w45 yI hb;have ai := yf.mk (yI);have d9 := bG (w := w) hg;have cK := bG (w := w) hg;have aI := Cq aa hg;have aK := Aq aa hg;have aJ := Cq af hg;have aM := Aq af hg;replace Bo := CR Bo hb;replace aj := CR aj hb;replace aa := bB aa hb;replace af := bB af hb;replace HB := bS HB hb;clear hb yI hg;have QM := aK.out;have QQ := aI.out;have U5 := aM.out;have Ug := aJ.out;have OD := bc2 ai;have OH := bf ai))
 (try simp only [pz])
 go_cut [] (fun wc => ∃ (kq : Nat) (au : Int) (av : Int),yf (yN.j1 kq l1 yP Bi yj yg ym yn (wrap64 (Int.tdiv (Int.tmod (wrap64 ((wrap64 (rd l1 Bi)) * 7)) (wrap64 (Dp * Dq))) EO)) (Int.tmod (Int.tmod (wrap64 ((wrap64 (rd l1 Bi)) * 7)) (wrap64 (Dp * Dq))) Fw) 0 0 au av = some r) ∧ yf (kq ≤ k1) ∧ yf (Kd.R DN 60 wc w.heap.size (fun k_ => k_ ≠ ae) (.slice RD yP.length Px) yP) ∧ yf (wc.heap[ah]? = some (.cells #[.int .i64 yj,(.slice yK yg.length yE),.int .i64 ym,.int .i64 yn] 29 (0,0))) ∧ yf (wc.heap[ae]? = some (.cells #[.int .i64 (wrap64 (Int.tdiv (Int.tmod (wrap64 ((wrap64 (rd l1 Bi)) * 7)) (wrap64 (Dp * Dq))) EO)),.int .i64 (Int.tmod (Int.tmod (wrap64 ((wrap64 (rd l1 Bi)) * 7)) (wrap64 (Dp * Dq))) Fw),.int .i64 0,.int .i64 0] 60 (0,0))) ∧ yf (wc.heap[aC]? = some (.cells #[.int .i64 au,.int .i64 av] 51 (0,0))) ∧ yf (Below w.heap.size w wc))
 case first =>
  have H := aY.out;clear aY
  by_cases c49 : bN = true
  ·
   subst c49;rw [if_pos rfl] at H;have H' := yf.mk H;clear H
   go_wp2
   go_meet
   case rel => exact ⟨_,(bL),(bM),H',⟨by have := Bn.out;omega⟩,⟨by (with_reducible repeat (apply Kd.zg));exact Kd.zf (GG (g := aC) (Kd.Bw Bo.out ai.out (by decide)) (fun _ hk => hk.2)) (fun _ hk => hk.1)⟩,bK aa rfl,bK af rfl,bK ai rfl,⟨bO HB⟩⟩
  replace c49 := Bool.eq_false_iff.mpr c49;subst c49
  rw [if_neg (show ¬ (false = true) by decide)] at H
  have H' := yf.mk H;clear H;have QN := aK.out;have QR := aI.out;have U6 := aM.out;have Uh := aJ.out;have QC := bc2 ai;have QI := bf ai
  go_wp2
  go_meet
  case rel => exact ⟨_,((-1)),(0),H',⟨by have := Bn.out;omega⟩,⟨by (with_reducible repeat (apply Kd.zg));exact Kd.zf (GG (g := aC) (Kd.Bw Bo.out ai.out (by decide)) (fun _ hk => hk.2)) (fun _ hk => hk.1)⟩,bK aa rfl,bK af rfl,bK ai rfl,⟨bO HB⟩⟩
 case rest =>
 clear aY aT aV Ku OC QA OD KC OG QG OH bZ bn aU aW;obtain ⟨kq,au,av,HA,aH,Bo,aa,af,ai,HB⟩ := hcut
 cases kq with
 | zero => exact absurd HA.out (by simp [yN.j1])
 | succ aQ =>
  have H := HA.out;clear HA;simp only [yN.j1] at H;obtain ⟨⟨bC,aX⟩,bD,H⟩ := bE H
  try dsimp only at H
  by_cases Mi : aX = 0
  ·
   rw [if_pos Mi] at H;have Qn := beq_iff_eq.mpr Mi
   have ZU : (aX != 0) = false := bne_eq_false_iff_eq.mpr Mi
   clear Mi;have H' := yf.mk H;clear H;have a0A := aK.out;have a0R := aI.out;have Xa := aM.out;have Xn := aJ.out;have a0a := bc2 ai;have a0n := bf ai;have a0C := ak.out;have a0T := ag.out;have WR := AO af;have WW := bf af;have TM := AO aa;have TT := bf aa
   go_wp2_with (((with_reducible refine yz (f := 21) rfl ?_);refine gL (some 74) Tryz.func21 #[.agg #[.int .i64 yj,.slice yK yg.length yE,.int .i64 ym,.int .i64 yn],.slice RD yP.length Px,.agg #[.int .i64 (wrap64 (Int.tdiv (Int.tmod (wrap64 ((wrap64 (rd l1 Bi)) * 7)) (wrap64 (Dp * Dq))) EO)),.int .i64 (Int.tmod (Int.tmod (wrap64 ((wrap64 (rd l1 Bi)) * 7)) (wrap64 (Dp * Dq))) Fw),.int .i64 au,.int .i64 av]] ?_;(with_reducible refine (Az.calls aQ yj _ _ yg ym yn _ _ yP (wrap64 (Int.tdiv (Int.tmod (wrap64 ((wrap64 (rd l1 Bi)) * 7)) (wrap64 (Dp * Dq))) EO)) (Int.tmod (Int.tmod (wrap64 ((wrap64 (rd l1 Bi)) * 7)) (wrap64 (Dp * Dq))) Fw) au av bC aX _ ?yB ?yC ?zI ?zJ bD.out).mono ?_);(case yB => exact Kd.CE zk.out (bO HB));(case yC => exact zq.out);(case zI => refine (Kd.zb (e := 60) (base := w.heap.size) (ok := fun k_ => k_ ≠ ae) (n := yP.length) (c := Px) ?_).2.2;exact (by (with_reducible repeat (apply Kd.zg));exact (Kd.zf (GG (g := ae) (Kd.zf Bo.out (fun k_ hk => (⟨hk,hk⟩ : _ ∧ k_ ≠ ae))) (fun _ hk => hk.2)) (fun _ h_ => h_.1))));(case zJ => exact (Kd.zb Bo.out).2.1);rintro e w61 ⟨v587,rfl,ho0,hb⟩;refine ⟨_,rfl,?_⟩;have BR := yf.mk (Kd.Bu (by (with_reducible repeat (apply Kd.zg));exact (Kd.zf (GG (g := ae) (Kd.zf Bo.out (fun k_ hk => (⟨hk,hk⟩ : _ ∧ k_ ≠ ae))) (fun _ hk => hk.2)) (fun _ h_ => h_.1))) (Kd.Ba ho0) hb);have BS := yf.mk (Kd.AC (Kd.MX (Kd.CV ho0 (Kd.EL (by (with_reducible repeat (apply Kd.zg));exact (Kd.zf (GG (g := ae) (Kd.zf Bo.out (fun k_ hk => (⟨hk,hk⟩ : _ ∧ k_ ≠ ae))) (fun _ hk => hk.2)) (fun _ h_ => h_.1))))) (g := ae) (o := .cells #[.int .i64 (wrap64 (Int.tdiv (Int.tmod (wrap64 ((wrap64 (rd l1 Bi)) * 7)) (wrap64 (Dp * Dq))) EO)),.int .i64 (Int.tmod (Int.tmod (wrap64 ((wrap64 (rd l1 Bi)) * 7)) (wrap64 (Dp * Dq))) Fw),.int .i64 au,.int .i64 av] 60 (0,0)) (CY af rfl)) (yF (bO HB)));have Ce := yf.mk (yZ (g := ah) (o := .cells #[.int .i64 yj,.slice yK yg.length yE,.int .i64 ym,.int .i64 yn] 29 (0,0)) (CY aa rfl) hb);have CZ := yf.mk (yZ (g := ae) (o := .cells #[.int .i64 (wrap64 (Int.tdiv (Int.tmod (wrap64 ((wrap64 (rd l1 Bi)) * 7)) (wrap64 (Dp * Dq))) EO)),.int .i64 (Int.tmod (Int.tmod (wrap64 ((wrap64 (rd l1 Bi)) * 7)) (wrap64 (Dp * Dq))) Fw),.int .i64 au,.int .i64 av] 60 (0,0)) (CY af rfl) hb);have Dx := yf.mk (yZ (g := aC) (o := .cells #[.int .i64 au,.int .i64 av] 51 (0,0)) (CY ai rfl) hb);have E5 := bS HB hb;clear Bo;clear aa;clear af;clear ai;clear HB;have Bo := BR;have bH := BS;have aa := Ce;have af := CZ;have ai := Dx;have HB := E5;clear BR BS Ce CZ Dx E5;clear hb;clear ho0))
   go_roundg aQ
   case measure => have := Bn.out;have := aH.out;omega
   case rel => exact ⟨(bC),(wrap64 (Bi + 1)),(by rfl),H',⟨by have := Bn.out;have := aH.out;omega⟩,⟨by (with_reducible repeat (apply Kd.zg));exact Kd.zf bH.out (fun _ hk => trivial)⟩,⟨kk aa⟩,⟨bO HB⟩⟩
  ·
   rw [if_neg Mi] at H;have Qn := beq_eq_false_iff_ne.mpr Mi;have ZU := bne_iff_ne.mpr Mi;have H' := yf.mk H;clear H;have a4p := aK.out;have a4J := aI.out;have a0D := aM.out;have a0U := aJ.out;have a3P := bc2 ai;have a4d := bf ai;have a0E := ak.out;have a0V := ag.out;have di := AO af;have dA := bf af;have a0c := AO aa;have a0p := bf aa
   go_wp2_with (((with_reducible refine yz (f := 21) rfl ?_);refine gL (some 74) Tryz.func21 #[.agg #[.int .i64 yj,.slice yK yg.length yE,.int .i64 ym,.int .i64 yn],.slice RD yP.length Px,.agg #[.int .i64 (wrap64 (Int.tdiv (Int.tmod (wrap64 ((wrap64 (rd l1 Bi)) * 7)) (wrap64 (Dp * Dq))) EO)),.int .i64 (Int.tmod (Int.tmod (wrap64 ((wrap64 (rd l1 Bi)) * 7)) (wrap64 (Dp * Dq))) Fw),.int .i64 au,.int .i64 av]] ?_;(with_reducible refine (Az.calls aQ yj _ _ yg ym yn _ _ yP (wrap64 (Int.tdiv (Int.tmod (wrap64 ((wrap64 (rd l1 Bi)) * 7)) (wrap64 (Dp * Dq))) EO)) (Int.tmod (Int.tmod (wrap64 ((wrap64 (rd l1 Bi)) * 7)) (wrap64 (Dp * Dq))) Fw) au av bC aX _ ?yB ?yC ?zI ?zJ bD.out).mono ?_);(case yB => exact Kd.CE zk.out (bO HB));(case yC => exact zq.out);(case zI => refine (Kd.zb (e := 60) (base := w.heap.size) (ok := fun k_ => k_ ≠ ae) (n := yP.length) (c := Px) ?_).2.2;exact (by (with_reducible repeat (apply Kd.zg));exact (Kd.zf (GG (g := ae) (Kd.zf Bo.out (fun k_ hk => (⟨hk,hk⟩ : _ ∧ k_ ≠ ae))) (fun _ hk => hk.2)) (fun _ h_ => h_.1))));(case zJ => exact (Kd.zb Bo.out).2.1);rintro e w68 ⟨v587,rfl,ho0,hb⟩;refine ⟨_,rfl,?_⟩;have BR := yf.mk (Kd.Bu (by (with_reducible repeat (apply Kd.zg));exact (Kd.zf (GG (g := ae) (Kd.zf Bo.out (fun k_ hk => (⟨hk,hk⟩ : _ ∧ k_ ≠ ae))) (fun _ hk => hk.2)) (fun _ h_ => h_.1))) (Kd.Ba ho0) hb);have BS := yf.mk (Kd.AC (Kd.MX (Kd.CV ho0 (Kd.EL (by (with_reducible repeat (apply Kd.zg));exact (Kd.zf (GG (g := ae) (Kd.zf Bo.out (fun k_ hk => (⟨hk,hk⟩ : _ ∧ k_ ≠ ae))) (fun _ hk => hk.2)) (fun _ h_ => h_.1))))) (g := ae) (o := .cells #[.int .i64 (wrap64 (Int.tdiv (Int.tmod (wrap64 ((wrap64 (rd l1 Bi)) * 7)) (wrap64 (Dp * Dq))) EO)),.int .i64 (Int.tmod (Int.tmod (wrap64 ((wrap64 (rd l1 Bi)) * 7)) (wrap64 (Dp * Dq))) Fw),.int .i64 au,.int .i64 av] 60 (0,0)) (CY af rfl)) (yF (bO HB)));have Ce := yf.mk (yZ (g := ah) (o := .cells #[.int .i64 yj,.slice yK yg.length yE,.int .i64 ym,.int .i64 yn] 29 (0,0)) (CY aa rfl) hb);have CZ := yf.mk (yZ (g := ae) (o := .cells #[.int .i64 (wrap64 (Int.tdiv (Int.tmod (wrap64 ((wrap64 (rd l1 Bi)) * 7)) (wrap64 (Dp * Dq))) EO)),.int .i64 (Int.tmod (Int.tmod (wrap64 ((wrap64 (rd l1 Bi)) * 7)) (wrap64 (Dp * Dq))) Fw),.int .i64 au,.int .i64 av] 60 (0,0)) (CY af rfl) hb);have Dx := yf.mk (yZ (g := aC) (o := .cells #[.int .i64 au,.int .i64 av] 51 (0,0)) (CY ai rfl) hb);have E5 := bS HB hb;clear Bo;clear aa;clear af;clear ai;clear HB;have Bo := BR;have bH := BS;have aa := Ce;have af := CZ;have ai := Dx;have HB := E5;clear BR BS Ce CZ Dx E5;clear hb;clear ho0))
   go_roundg aQ
   case measure => have := Bn.out;have := aH.out;omega
   case rel => exact ⟨(yP),(wrap64 (Bi + 1)),(by rfl),H',⟨by have := Bn.out;have := aH.out;omega⟩,⟨by (with_reducible repeat (apply Kd.zg));exact Kd.zf Bo.out (fun _ hk => trivial)⟩,⟨kk aa⟩,⟨bO HB⟩⟩
end Go.Proofs.YtjonnfmoocijlaaGreat.P
