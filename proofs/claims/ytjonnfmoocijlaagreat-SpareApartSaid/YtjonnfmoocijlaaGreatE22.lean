/- Texts of a claim, packed. -/
import Derived.Test.YtjonnfmoocijlaaGreatE21
set_option linter.all false
namespace Go.Proofs.YtjonnfmoocijlaaGreat.P
open Go.RowKit Go.Proofs.YtjonnfmoocijlaaGreatKW.PrintWords Go.Proofs.YtjonnfmoocijlaaGreatKW.PrintLast Go.Proofs.YtjonnfmoocijlaaGreatKW.PrintMore
attribute [local go_sem] zN zP Af Ag zz zA zO zQ
mutual
def yM.l0 : Nat → Int → Int → List Int → List Int → Int → Int → Int → List (List Int) → Int → Int → List (AP) → Int → Int → Option (List Int)
 | 0,_,_,_,_,_,_,_,_,_,_,_,_,_ => none
 | k + 1,x1,x5,x6,x7,x26,x27,ae,af,ag,ah,aa,ai,aj => if x27 < x26 then (if x5 = 0 then (none) else ((AJ.f ae af ag ah aa ai aj).bind fun t175 => (if t175 = 0 then (none) else (if 0 ≤ (Int.tmod (wrap64 (x27 + (wrap64 (Int.tdiv x1 x5)))) t175) then (if (Int.tmod (wrap64 (x27 + (wrap64 (Int.tdiv x1 x5)))) t175) < (x6.length : Int) then (if x7.length < 17592186044416 then (yM.l0 k x1 x5 x6 (x7 ++ [rd x6 (Int.tmod (wrap64 (x27 + (wrap64 (Int.tdiv x1 x5)))) t175)]) x26 (wrap64 (x27 + 1)) ae af ag ah aa ai aj) else (none)) else (none)) else (none))))) else ((yt.f k aa x1 0).bind fun ak => (yM.l1 k x1 x7 ak.1 ae af ag ah aa ai aj))
def yM.l1 : Nat → Int → List Int → Int → Int → List (List Int) → Int → Int → List (AP) → Int → Int → Option (List Int)
 | 0,_,_,_,_,_,_,_,_,_,_ => none
 | k + 1,x1,x7,x9,ae,af,ag,ah,aa,ai,aj => if x9 < (aa.length : Int) then (if 0 ≤ x9 then (if ((yh aa x9).f0) = x1 then (if 0 ≤ ((yh aa x9).f1) then (if ((yh aa x9).f1) < (x7.length : Int) then (yM.l1 k x1 (x7.set (((yh aa x9).f1) : Int).toNat ((yh aa x9).f2.f0)) (wrap64 (x9 + 1)) ae af ag ah aa ai aj) else (none)) else (none)) else (some x7)) else (none)) else (some x7)
end
def yM.f (k : Nat) (yj : Int) (yg : List (List Int)) (ym : Int) (yn : Int) (Aj : List (AP)) (Au : Int) (Ah : Int) (a1 : Int) : Option (List Int) := if (yg.length : Int) = 0 then (none) else (if 0 ≤ (Int.tmod a1 (yg.length : Int)) then (if (Int.tmod a1 (yg.length : Int)) < (yg.length : Int) then ((AJ.f yj yg ym yn Aj Au Ah).bind fun NW => (yM.l0 k a1 (yg.length : Int) (yX yg (Int.tmod a1 (yg.length : Int))) ([] : List Int) NW 0 yj yg ym yn Aj Au Ah)) else (none)) else (none))
def yM.T2 : Bool × List (List Nat × List Nat) := (true,[([],[]),([0],[0]),([1],[1]),([2],[2]),([],[]),([],[]),([4,5],[4,5]),([3,6],[3,6]),([7],[7]),([8,0,1,2,3,4,5,6,7,8],[8])])
def yM.B2 : List Nat := [0,1,3,7,0,0,48,127,255,511]
theorem yM.Yb : Dv .any (opsOf Tryz.f36 2) = yM.T2 := by kernel_rfl
theorem yM.Q9 : BH yM.T2.2 yM.B2 = true := by kernel_rfl
def yM.T7 : Bool × List (List Nat × List Nat) := (true,[([],[]),([],[]),([],[]),([],[]),([],[]),([3,4],[3,4]),([2,5],[2,5]),([],[]),([7],[7]),([6,8],[6,8]),([1,9],[1,9]),([10],[10]),([11],[11]),([0,12,8],[0,12]),([13,13,0,1,2,3,4,5,6,7,8,9,10,11,12,13],[0,13])])
def yM.B7 : List Nat := [0,0,0,0,0,24,60,0,128,508,1022,2046,4094,8191,16383]
theorem yM.PX : Dv .any (opsOf Tryz.f36 7) = yM.T7 := by kernel_rfl
theorem yM.Ke : BH yM.T7.2 yM.B7 = true := by kernel_rfl
def yM.T12 : Bool × List (List Nat × List Nat) := (true,[([],[]),([],[]),([1],[1]),([],[]),([2,3],[2,3]),([4],[4]),([5],[5]),([],[]),([7],[7]),([],[]),([8,9],[8,9]),([10],[10]),([11],[11]),([12],[12]),([0,6,0,1,2,3,4,5,6,7,8,9,10,11,12,13],[0,6]),([14,13,0,1,2,3,4,5,6,7,8,9,10,11,12,13],[13,14])])
def yM.B12 : List Nat := [0,0,2,0,14,30,62,0,128,0,896,1920,3968,8064,16383,32767]
theorem yM.Y9 : Dv .any (opsOf Tryz.f36 12) = yM.T12 := by kernel_rfl
theorem yM.RU : BH yM.T12.2 yM.B12 = true := by kernel_rfl
set_option maxHeartbeats 8000000 in
set_option maxRecDepth 100000 in
theorem yM.calls (k : Nat) (yj : Int) (yK : Option Addr) (yE : Nat) (yg : List (List Int)) (ym : Int) (yn : Int) (Eg : Option Addr) (Ea : Nat) (Aj : List (AP)) (Au : Int) (Ah : Int) (a1 : Int) (r : List Int) (w : World) (zS : Kd.C (Kd.slice 3 (Kd.int .i64)) w yK yg.length yg) (zT : yg.length ≤ yE) (FZ : Kd.C DN w Eg Aj.length Aj) (FY : Aj.length ≤ Ea) (h : yM.f k yj yg ym yn Aj Au Ah a1 = some r) :
  Calls Tryz.prog 36 #[.agg #[.int .i64 yj,.slice yK yg.length yE,.int .i64 ym,.int .i64 yn,.slice Eg Aj.length Ea,.int .i64 Au,.int .i64 Ah],.int .i64 a1] w fun e w' => ∃ G7 : Value,e = .returned (G7) ∧ Kd.R (Kd.int .i64) 3 w' w.heap.size (fun _ => True) G7 r ∧ Below w.heap.size w w' := by
 have Mq := Tryz.underlying65;have SL := Tryz.underlying45;have zk := yf.mk zS;have zq := yf.mk zT;clear zS zT;have Fa := yf.mk FZ;have Hy := yf.mk FY;clear FZ FY;have HB := yf.mk (Below.refl w.heap.size w)
 have H : (if (yg.length : Int) = 0 then (none) else (if 0 ≤ (Int.tmod a1 (yg.length : Int)) then (if (Int.tmod a1 (yg.length : Int)) < (yg.length : Int) then ((AJ.f yj yg ym yn Aj Au Ah).bind fun NW => (yM.l0 k a1 (yg.length : Int) (yX yg (Int.tmod a1 (yg.length : Int))) ([] : List Int) NW 0 yj yg ym yn Aj Au Ah)) else (none)) else (none))) = some r := h
 clear h
 by_cases c3 : (yg.length : Int) = 0
 ·
  rw [if_pos c3] at H;exact absurd H (by simp)
 rw [if_neg c3] at H;have Gz := beq_eq_false_iff_ne.mpr c3;have Nh := bne_iff_ne.mpr c3
 have YP : ¬ (yg = []) := fun h_ => c3 (by rw [h_];rfl)
 obtain ⟨af,d9⟩ : ∃ j_ : Int,(Int.tmod a1 (yg.length : Int)) = j_ := ⟨_,rfl⟩
 replace H : (if 0 ≤ (af) then (if (af) < (yg.length : Int) then ((AJ.f yj yg ym yn Aj Au Ah).bind fun NW => (yM.l0 k a1 (yg.length : Int) (yX yg (af)) ([] : List Int) NW 0 yj yg ym yn Aj Au Ah)) else (none)) else (none)) = some r := by (rw [d9] at H;exact H)
 by_cases c5 : 0 ≤ (af)
 rotate_left
 ·
  rw [if_neg c5] at H;exact absurd H (by simp)
 rw [if_pos c5] at H;have ES := decide_eq_true c5;clear c5
 by_cases c6 : (af) < (yg.length : Int)
 rotate_left
 ·
  rw [if_neg c6] at H;exact absurd H (by simp)
 rw [if_pos c6] at H;have Eu := decide_eq_true c6;clear c6;obtain ⟨NW,A7,H⟩ := bE H
 try dsimp only at H
 have H' := yf.mk H;clear H
 go_enter Tryz.func36,Tryz.ntmps36
 try go_wp2_with (((with_reducible refine yG (N := 2) rfl ?_);refine yD rfl (N := 2) rfl (cs := #[.int .i64 yj,.slice yK yg.length yE,.int .i64 ym,.int .i64 yn,.slice Eg Aj.length Ea,.int .i64 Au,.int .i64 Ah]) (t := 65) (by go_simp) ?_;intro ae hg w8 yI hb;have aa := yf.mk (yI);have dF := bG (w := w) hg;have dE := bG (w := w) hg;replace HB := bS HB hb;clear hb yI hg;have PD := Fy aa;have PE := bf aa))
 replace aa := yf.mk (zl aa.out);replace HB := yf.mk (zt HB.out)
 have aT : 0 ≤ ((af) : Int) := of_decide_eq_true ‹_›
 have aU : (af) < (yg.length : Int) := of_decide_eq_true ‹_›
 obtain ⟨ai,bN,bY,bZ,ax,bI,bF⟩ := Ec zk.out (af) aT aU;have df := ax;cases bZ;replace ax := cB HB ax;have bC := yf.mk bF;have dG := yf.mk bI;clear bF bI;replace aT := eq_true aT;replace aU := eq_true aU
 refine Bt (n := 10) (S := fun w' => w'.cell? ⟨ae,0,none⟩ = some (.int .i64 yj) ∧ w'.cell? ⟨ae,1,none⟩ = some (.slice (some ai) yg.length yE) ∧ w'.cell? ⟨ae,2,none⟩ = some (.int .i64 ym) ∧ w'.cell? ⟨ae,3,none⟩ = some (.int .i64 yn) ∧ w'.cell? ⟨ae,4,none⟩ = some (.slice Eg Aj.length Ea) ∧ w'.cell? ⟨ae,5,none⟩ = some (.int .i64 Au) ∧ w'.cell? ⟨ae,6,none⟩ = some (.int .i64 Ah) ∧ w'.cell? (ai.add ((af)).toNat) = some (.slice bN (yX yg (af)).length bY)) (ds := []) (bz 10 0) (by kernel_rfl) rfl rfl ⟨(yx aa.out 0).trans rfl,(yx aa.out 1).trans rfl,(yx aa.out 2).trans rfl,(yx aa.out 3).trans rfl,(yx aa.out 4).trans rfl,(yx aa.out 5).trans rfl,(yx aa.out 6).trans rfl,(cB HB df)⟩ (fun hHeld => ?_);refine Ab yM.Yb yM.Q9 (fun yJ Bv => ?_)
 generalize w8.drew = w10 at aa HB bC ax hHeld ⊢;refine pU 0 16 10 1 yJ ?_;refine pU 1 17 10 3 yJ ?_;refine pU 2 18 10 7 yJ ?_;refine pU 4 20 10 23 yJ ?_;refine pU 5 21 10 55 yJ ?_;refine pU 6 22 10 119 yJ ?_
 refine Co 3 19 10 127 yJ Bv hHeld ?_
 refine pU 7 23 10 255 yJ ?_
 refine Co 8 24 10 511 yJ Bv hHeld ?_
 refine pU 9 6 10 1023 yJ ?_
 refine Cn (AZ yJ.out (by kernel_rfl)) ?_
 have Kt := Fy aa;have KA := bf aa
 try go_wp2_with (((with_reducible refine yz (f := 63) rfl ?_);refine gL (some 26) Tryz.func63 #[.agg #[.int .i64 yj,.slice (some ai) yg.length yE,.int .i64 ym,.int .i64 yn,.slice Eg Aj.length Ea,.int .i64 Au,.int .i64 Ah]] ?_;(with_reducible refine (AJ.calls yj _ _ yg ym yn _ _ Aj Au Ah NW _ ?yB ?yC ?zI ?zJ A7.out).mono ?_);(case yB => exact CU zk);(case yC => exact zq.out);(case zI => exact CU Fa);(case zJ => exact Hy.out);rintro e w12 ⟨rfl,hb⟩;refine ⟨_,rfl,?_⟩;replace aa := bB aa hb;replace HB := bS HB hb;clear hb))
 go_loopg [7,27] k (fun kq v7 v27 w' => ∃ (Am : List Int) (aj : Int),v27 = .int .i64 aj ∧ yf (yM.l0 kq a1 (yg.length : Int) (yX yg (af)) Am NW aj yj yg ym yn Aj Au Ah = some r) ∧ yf (kq ≤ k) ∧ yf (Kd.R (Kd.int .i64) 3 w' w.heap.size (fun _ => True) v7 Am) ∧ yf (w'.heap[ae]? = some (.cells #[.int .i64 yj,(.slice (some ai) yg.length yE),.int .i64 ym,.int .i64 yn,(.slice Eg Aj.length Ea),.int .i64 Au,.int .i64 Ah] 65 (0,0))) ∧ yf (Below w.heap.size w w'))
 case atStart => exact ⟨(([] : List Int)),(0),(by rfl),H',⟨Nat.le_refl _⟩,⟨by exact Kd.Dc _ _ _ _ _⟩,⟨kk aa⟩,⟨bO HB⟩⟩
 case round =>
 clear H' c3 Gz Nh YP ES Eu Kt PD KA PE ax aT aU;obtain ⟨Am,aj,rfl,HA,Bn,CX,aa,HB⟩ := hrel
 cases gk with
 | zero => exact absurd HA.out (by simp [yM.l0])
 | succ k1 =>
 have H := HA.out;clear HA;simp only [yM.l0] at H
 by_cases c13 : aj < NW
 ·
  rw [if_pos c13] at H;have J3 := decide_eq_true c13;clear c13
  by_cases c14 : (yg.length : Int) = 0
  ·
   rw [if_pos c14] at H;exact absurd H (by simp)
  rw [if_neg c14] at H;have Na := beq_eq_false_iff_ne.mpr c14;have Nb := bne_iff_ne.mpr c14
  have ZP : ¬ (yg = []) := fun h_ => c14 (by rw [h_];rfl)
  obtain ⟨t175,Yj,H⟩ := bE H
  try dsimp only at H
  by_cases c16 : t175 = 0
  ·
   rw [if_pos c16] at H;exact absurd H (by simp)
  rw [if_neg c16] at H;have FC := beq_eq_false_iff_ne.mpr c16;have Ty := bne_iff_ne.mpr c16;obtain ⟨ah,bH⟩ : ∃ j_ : Int,(Int.tmod (wrap64 (aj + (wrap64 (Int.tdiv a1 (yg.length : Int))))) t175) = j_ := ⟨_,rfl⟩
  replace H : (if 0 ≤ (ah) then (if (ah) < ((yX yg (af)).length : Int) then (if Am.length < 17592186044416 then (yM.l0 k1 a1 (yg.length : Int) (yX yg (af)) (Am ++ [rd (yX yg (af)) (ah)]) NW (wrap64 (aj + 1)) yj yg ym yn Aj Au Ah) else (none)) else (none)) else (none)) = some r := by (rw [bH] at H;exact H)
  (try rw [bH] at Yj)
  by_cases c18 : 0 ≤ (ah)
  rotate_left
  ·
   rw [if_neg c18] at H;exact absurd H (by simp)
  rw [if_pos c18] at H;have Qh := decide_eq_true c18;clear c18
  by_cases c19 : (ah) < ((yX yg (af)).length : Int)
  rotate_left
  ·
   rw [if_neg c19] at H;exact absurd H (by simp)
  rw [if_pos c19] at H;have Qi := decide_eq_true c19;clear c19
  by_cases c20 : Am.length < 17592186044416
  rotate_left
  ·
   rw [if_neg c20] at H;exact absurd H (by simp)
  rw [if_pos c20] at H;have bR := yf.mk c20;clear c20;obtain ⟨bL,aX⟩ : ∃ y_ : List Int,y_ = (Am ++ [rd (yX yg (af)) (ah)]) := ⟨_,rfl⟩
  replace H : (yM.l0 k1 a1 (yg.length : Int) (yX yg (af)) bL NW (wrap64 (aj + 1)) yj yg ym yn Aj Au Ah) = some r := by (rw [aX];with_reducible exact H)
  have bT := yf.mk aX;clear aX;have H' := yf.mk H;clear H
  try go_wp2
  replace CX := yf.mk (Kd.DI CX.out);replace aa := yf.mk (zl aa.out);replace HB := yf.mk (zt HB.out)
  have aZ : 0 ≤ ((ah) : Int) := of_decide_eq_true ‹_›
  have bn : (ah) < ((yX yg (af)).length : Int) := of_decide_eq_true ‹_›
  obtain ⟨bV,cu,aD⟩ := Kd.BG bC.out (ah) aZ bn;have av := aD;cases cu;replace aD := cB HB aD;replace aZ := eq_true aZ;replace bn := eq_true bn
  refine Bt (n := 15) (S := fun w' => w'.cell? ⟨ae,0,none⟩ = some (.int .i64 yj) ∧ w'.cell? ⟨ae,1,none⟩ = some (.slice (some ai) yg.length yE) ∧ w'.cell? ⟨ae,2,none⟩ = some (.int .i64 ym) ∧ w'.cell? ⟨ae,3,none⟩ = some (.int .i64 yn) ∧ w'.cell? ⟨ae,4,none⟩ = some (.slice Eg Aj.length Ea) ∧ w'.cell? ⟨ae,5,none⟩ = some (.int .i64 Au) ∧ w'.cell? ⟨ae,6,none⟩ = some (.int .i64 Ah) ∧ w'.cell? (bV.add ((ah)).toNat) = some (.int .i64 (rd (yX yg (af)) (ah)))) (ds := []) (bz 15 0) (by kernel_rfl) rfl rfl ⟨(yx aa.out 0).trans rfl,(yx aa.out 1).trans rfl,(yx aa.out 2).trans rfl,(yx aa.out 3).trans rfl,(yx aa.out 4).trans rfl,(yx aa.out 5).trans rfl,(yx aa.out 6).trans rfl,(cB HB av)⟩ (fun hHeld => ?_);refine Ab yM.PX yM.Ke (fun yJ Bv => ?_)
  generalize wr.drew = w21 at CX aa HB aD hHeld ⊢;refine pU 0 30 15 1 yJ ?_;refine pU 1 31 15 3 yJ ?_;refine pU 2 32 15 7 yJ ?_;refine pU 3 33 15 15 yJ ?_;refine pU 4 34 15 31 yJ ?_;refine pU 5 35 15 63 yJ ?_;refine pU 6 36 15 127 yJ ?_
  refine Co 7 37 15 255 yJ Bv hHeld ?_
  refine CB (i := 8) (N := some 38) (bz 15 511) rfl rfl (Ar yJ.out (by kernel_rfl)) (by decide) (fun K hK => ?_)
  refine gO Tryz.func63 #[.agg #[.int .i64 yj,.slice (some ai) yg.length yE,.int .i64 ym,.int .i64 yn,.slice Eg Aj.length Ea,.int .i64 Au,.int .i64 Ah]] ?_
  with_reducible refine (AJ.calls yj _ _ yg ym yn _ _ Aj Au Ah t175 _ ?yB ?yC ?zI ?zJ Yj.out).mono ?_
  (case yB => exact CU zk)
  (case yC => exact zq.out)
  (case zI => exact CU Fa)
  (case zJ => exact Hy.out)
  rintro e w22 ⟨rfl,hb⟩
  refine ⟨_,rfl,?_⟩
  replace CX := CR CX hb;replace aa := bB aa hb;replace HB := bS HB hb;clear hb
  refine hK.out _ _ ⟨(yx aa.out 0).trans rfl,(yx aa.out 1).trans rfl,(yx aa.out 2).trans rfl,(yx aa.out 3).trans rfl,(yx aa.out 4).trans rfl,(yx aa.out 5).trans rfl,(yx aa.out 6).trans rfl,(cB HB av)⟩ (fun hHeld => ?_)
  clear hK K
  refine AU (a' := ?_) ?_ ?_
  rotate_left
  ·
   show Act.put _ (some 38) _ = _
   simp only [pz]
   rfl
  refine pU 9 39 15 1023 yJ ?_;refine pU 10 40 15 2047 yJ ?_
  refine Co 11 41 15 4095 yJ Bv hHeld ?_
  refine CB (i := 12) (N := some 42) (bz 15 8191) rfl rfl (Ar yJ.out (by kernel_rfl)) (by decide) (fun K hK => ?_)
  refine Ti (w1 := ?_) (v := ?_) (by rfl) rfl ?_ ?_
  rotate_left 2
  ·
   go_simp
   constructor
   ·
    rfl
   rfl
  refine hK.out _ _ ⟨(yx (Eh aa.out _) 0).trans rfl,(yx (Eh aa.out _) 1).trans rfl,(yx (Eh aa.out _) 2).trans rfl,(yx (Eh aa.out _) 3).trans rfl,(yx (Eh aa.out _) 4).trans rfl,(yx (Eh aa.out _) 5).trans rfl,(yx (Eh aa.out _) 6).trans rfl,(World.cell?_alloc_lt _ _ _ (World.block_lt_of_cell? _ _ ((cB HB av)))).trans ((cB HB av))⟩ (fun hHeld => ?_)
  clear hK K
  refine AU (a' := ?_) ?_ ?_
  rotate_left
  ·
   show Act.put _ (some 42) _ = _
   simp only [pz]
   rfl
  refine CB (i := 13) (N := some 43) (bz 15 16383) rfl rfl (Ar yJ.out (by kernel_rfl)) (by decide) (fun K hK => ?_)
  refine Kd.Hl (Kd.int .i64) (w0 := w) w.heap.size (by rfl) (.tmp 30) (.tmp 42) 37 3 (.int .i64 0) 8 rfl Tryz.underlying37 info3 rfl (by decide) (by omega) u7 Am (rd (yX yg (af)) (ah)) [.int .i64 (rd (yX yg (af)) (ah))] (fun _ => True) (fun _ => False) rfl rfl ?aP (fun _ hk => hk.elim) ?aF ?aO ?aB ?aS ?aL ?_
  (case aP => exact rfl)
  (case aB => exact (bO HB))
  (case aF => exact (fun _ _ => trivial))
  (case aO => exact (kR CX))
  (case aS => exact (yF (bO HB)))
  (case aL => have := bR.out;omega)
  intro v178 w23 ho hb hg hat
  rw [← bT.out] at ho;replace aa := yf.mk (zL (g := ae) (o := .cells #[.int .i64 yj,.slice (some ai) yg.length yE,.int .i64 ym,.int .i64 yn,.slice Eg Aj.length Ea,.int .i64 Au,.int .i64 Ah] 65 (0,0)) (kk aa) hg (Kd.DC CX.out aa.out (by decide)));have bQ := yf.mk (ho);replace HB := yf.mk (hb);clear ho hb hg hat
  refine hK.out _ _ ⟨(yx aa.out 0).trans rfl,(yx aa.out 1).trans rfl,(yx aa.out 2).trans rfl,(yx aa.out 3).trans rfl,(yx aa.out 4).trans rfl,(yx aa.out 5).trans rfl,(yx aa.out 6).trans rfl,(cB HB av)⟩ (fun hHeld => ?_)
  clear hK K
  refine AU (a' := ?_) ?_ ?_
  rotate_left
  ·
   show Act.put _ (some 43) _ = _
   simp only [pz]
   rfl
  refine pU 14 7 15 32767 yJ ?_
  refine Cn (AZ yJ.out (by kernel_rfl)) ?_
  try go_wp2
  go_roundg k1
  case measure => have := Bn.out;omega
  case rel => exact ⟨(bL),(wrap64 (aj + 1)),(by rfl),H',⟨by have := Bn.out;omega⟩,⟨kR bQ⟩,⟨kk aa⟩,⟨bO HB⟩⟩
 rw [if_neg c13] at H;have J3 := decide_eq_false c13;clear c13;obtain ⟨⟨bJ,dC⟩,A24,H⟩ := bE H
 try dsimp only at H
 have H' := yf.mk H;clear H;have LU := Fy aa;have LX := bf aa
 go_wp2_with (((with_reducible refine yz (f := 24) rfl ?_);refine gL (some 50) Tryz.func24 #[.slice Eg Aj.length Ea,.agg #[.int .i64 a1,.int .i64 0],(.func (.func 25) #[] #[])] ?_;(with_reducible refine (yt.calls k1 _ _ Aj a1 0  bJ dC _ ?yB ?yC A24.out).mono ?_);(case yB => exact CU Fa);(case yC => exact Hy.out);rintro e w26 ⟨rfl,hb⟩;refine ⟨_,rfl,?_⟩;replace CX := CR CX hb;replace aa := bB aa hb;replace HB := bS HB hb;clear hb))
 go_loopg [9] k1 (fun kq v9 w' => ∃ (BU : List Int) (Br : Int),v9 = .int .i64 Br ∧ yf (yM.l1 kq a1 BU Br yj yg ym yn Aj Au Ah = some r) ∧ yf (kq ≤ k1) ∧ yf (Kd.R (Kd.int .i64) 3 w' w.heap.size (fun _ => True) u7 BU) ∧ yf (w'.heap[ae]? = some (.cells #[.int .i64 yj,(.slice (some ai) yg.length yE),.int .i64 ym,.int .i64 yn,(.slice Eg Aj.length Ea),.int .i64 Au,.int .i64 Ah] 65 (0,0))) ∧ yf (Below w.heap.size w w'))
 case atStart => exact ⟨(Am),(bJ),(by rfl),H',⟨Nat.le_refl _⟩,⟨kR CX⟩,⟨kk aa⟩,⟨bO HB⟩⟩
 case round =>
 clear H' J3 LU LX;obtain ⟨BU,Br,rfl,HA,Di,CX,aa,HB⟩ := hrel
 cases gk with
 | zero => exact absurd HA.out (by simp [yM.l1])
 | succ k2 =>
  have H := HA.out;clear HA;simp only [yM.l1] at H
  by_cases Pp : Br < (Aj.length : Int)
  ·
   rw [if_pos Pp] at H;have Tz := decide_eq_true Pp;clear Pp
   by_cases c28 : 0 ≤ Br
   ·
    rw [if_pos c28] at H;have Ng := decide_eq_true c28;clear c28
    by_cases L6 : ((yh Aj Br).f0) = a1
    ·
     rw [if_pos L6] at H;have Ow := beq_iff_eq.mpr L6
     have ZR : (((yh Aj Br).f0) != a1) = false := bne_eq_false_iff_eq.mpr L6
     clear L6
     by_cases O6 : 0 ≤ ((yh Aj Br).f1)
     ·
      rw [if_pos O6] at H;have VR := decide_eq_true O6;clear O6
      by_cases c31 : ((yh Aj Br).f1) < (BU.length : Int)
      ·
       rw [if_pos c31] at H;have Ox := decide_eq_true c31;clear c31;obtain ⟨bM,aY⟩ : ∃ y_ : List Int,y_ = (BU.set (((yh Aj Br).f1) : Int).toNat ((yh Aj Br).f2.f0)) := ⟨_,rfl⟩
       replace H : (yM.l1 k2 a1 bM (wrap64 (Br + 1)) yj yg ym yn Aj Au Ah) = some r := by (rw [aY];with_reducible exact H)
       have bU := yf.mk aY;clear aY;have H' := yf.mk H;clear H;have Nz := Fy aa;have NF := bf aa
       have ak : 0 ≤ (Br : Int) := of_decide_eq_true ‹_›
       have au : Br < (Aj.length : Int) := of_decide_eq_true ‹_›
       obtain ⟨ag,aW,ay,az,aA,aC⟩ := Ck Fa.out Br ak au;cases aW;replace ay := cB HB ay;replace az := cB HB az;replace aA := cB HB aA;replace aC := cB HB aC;replace ak := eq_true ak;replace au := eq_true au
       try go_wp2
       replace CX := yf.mk (Kd.DI CX.out);replace aa := yf.mk (zl aa.out);replace HB := yf.mk (zt HB.out)
       have bg : 0 ≤ (Br : Int) := of_decide_eq_true ‹_›
       have bq : Br < (Aj.length : Int) := of_decide_eq_true ‹_›
       obtain ⟨bW,cz,aG,aH,aI,aJ⟩ := Ck Fa.out Br bg bq;have dn := aJ;have dm := aI;have di := aH;have dh := aG;obtain rfl : ag = bW := (by injection cz);replace aG := cB HB aG;replace aH := cB HB aH;replace aI := cB HB aI;replace aJ := cB HB aJ;replace bg := eq_true bg;replace bq := eq_true bq
       have bi : 0 ≤ (Br : Int) := of_decide_eq_true ‹_›
       have bu : Br < (Aj.length : Int) := of_decide_eq_true ‹_›
       obtain ⟨bX,cK,aK,aM,aN,aQ⟩ := Ck Fa.out Br bi bu;have dA := aQ;have dz := aN;have dx := aM;have dw := aK;obtain rfl : ag = bX := (by injection cK);replace aK := cB HB aK;replace aM := cB HB aM;replace aN := cB HB aN;replace aQ := cB HB aQ;replace bi := eq_true bi;replace bu := eq_true bu
       have p32 : 0 ≤ (((yh Aj Br).f1) : Int) := of_decide_eq_true ‹_›
       have q32 : (((yh Aj Br).f1) : Int) < ((BU.length : Int) : Int) := of_decide_eq_true ‹_›
       obtain ⟨dI,G9,Nt,bD,cO,dH,bv⟩ := Kd.Hm CX.out (by omega)
       (cases Nt)
       have dD := yf.mk bD;have bP := yf.mk bv;clear bD cO bv;obtain ⟨dB,cZ⟩ := Kd.Fh 0 CX.out (((yh Aj Br).f1) : Int) p32 q32;replace p32 := eq_true p32;replace q32 := eq_true q32;have aV := Kd.Pg CX.out (((yh Aj Br).f1) : Int) ((yh Aj Br).f2.f0);rw [← bU.out] at aV;have bA := yf.mk aV;clear aV
       refine Bt (n := 16) (S := fun w' => w'.cell? ⟨ae,0,none⟩ = some (.int .i64 yj) ∧ w'.cell? ⟨ae,1,none⟩ = some (.slice (some ai) yg.length yE) ∧ w'.cell? ⟨ae,2,none⟩ = some (.int .i64 ym) ∧ w'.cell? ⟨ae,3,none⟩ = some (.int .i64 yn) ∧ w'.cell? ⟨ae,4,none⟩ = some (.slice (some ag) Aj.length Ea) ∧ w'.cell? ⟨ae,5,none⟩ = some (.int .i64 Au) ∧ w'.cell? ⟨ae,6,none⟩ = some (.int .i64 Ah) ∧ w'.cell? (ag.add ((Br).toNat * 4)) = some (.int .i64 ((yh Aj Br).f0)) ∧ w'.cell? ⟨(ag.add ((Br).toNat * 4)).block,(ag.add ((Br).toNat * 4)).off + 1,none⟩ = some (.int .i64 ((yh Aj Br).f1)) ∧ w'.cell? ⟨(ag.add ((Br).toNat * 4)).block,(ag.add ((Br).toNat * 4)).off + 2,none⟩ = some (.int .i64 ((yh Aj Br).f2.f0)) ∧ w'.cell? ⟨(ag.add ((Br).toNat * 4)).block,(ag.add ((Br).toNat * 4)).off + 3,none⟩ = some (.int .i64 ((yh Aj Br).f2.f1)) ∧ w'.cell? (ag.add ((Br).toNat * 4)) = some (.int .i64 ((yh Aj Br).f0)) ∧ w'.cell? ⟨(ag.add ((Br).toNat * 4)).block,(ag.add ((Br).toNat * 4)).off + 1,none⟩ = some (.int .i64 ((yh Aj Br).f1)) ∧ w'.cell? ⟨(ag.add ((Br).toNat * 4)).block,(ag.add ((Br).toNat * 4)).off + 2,none⟩ = some (.int .i64 ((yh Aj Br).f2.f0)) ∧ w'.cell? ⟨(ag.add ((Br).toNat * 4)).block,(ag.add ((Br).toNat * 4)).off + 3,none⟩ = some (.int .i64 ((yh Aj Br).f2.f1))) (ds := [15]) (bz 16 0) (by kernel_rfl) rfl rfl ⟨(yx aa.out 0).trans rfl,(yx aa.out 1).trans rfl,(yx aa.out 2).trans rfl,(yx aa.out 3).trans rfl,(yx aa.out 4).trans rfl,(yx aa.out 5).trans rfl,(yx aa.out 6).trans rfl,(cB HB dh),(cB HB di),(cB HB dm),(cB HB dn),(cB HB dw),(cB HB dx),(cB HB dz),(cB HB dA)⟩ (fun hHeld => ?_);refine Ab yM.Y9 yM.RU (fun yJ Bv => ?_)
       generalize wr.drew = w34 at CX aa HB bP bA cZ aG aH aI aJ aK aM aN aQ dB hHeld ⊢;refine pU 0 70 16 1 yJ ?_;refine pU 1 71 16 3 yJ ?_;refine pU 3 73 16 11 yJ ?_;refine pU 7 77 16 139 yJ ?_;refine pU 9 79 16 651 yJ ?_
       refine Co 2 72 16 655 yJ Bv hHeld ?_
       refine pU 4 74 16 671 yJ ?_;refine pU 5 75 16 703 yJ ?_
       refine Co 6 76 16 767 yJ Bv hHeld ?_
       refine Co 8 78 16 1023 yJ Bv hHeld ?_
       refine pU 10 80 16 2047 yJ ?_;refine pU 11 81 16 4095 yJ ?_;refine pU 12 82 16 8191 yJ ?_
       refine Co 13 83 16 16383 yJ Bv hHeld ?_
       refine pU 14 84 16 32767 yJ ?_
       refine OO (i := 15) (N := none) (bz 16 65535) rfl rfl (Ar yJ.out (by kernel_rfl)) (by decide) (fun K hK => ?_)
       refine Ia (w1 := ?_) (by rfl) rfl ?_ ?_
       rotate_left
       ·
        go_simp
        rfl
       refine hK.out _ _ ?_
       clear hK K
       refine Cn (AZ yJ.out (by kernel_rfl)) ?_
       try go_wp2
       go_roundg k2
       case measure => have := Bn.out;have := Di.out;omega
       case rel => exact ⟨(bM),(wrap64 (Br + 1)),(by rfl),H',⟨by have := Bn.out;have := Di.out;omega⟩,⟨kR bA⟩,⟨by refine kp ?_;refine Gp ?_ (by have h_ := Kd.DC CX.out aa.out (by decide);intro e_;exact h_ (by rw [e_];rfl)) _;refine kp ?_;exact aa.out⟩,⟨bO HB⟩⟩
      ·
       rw [if_neg c31] at H;exact absurd H (by simp)
     ·
      rw [if_neg O6] at H;exact absurd H (by simp)
    ·
     rw [if_neg L6] at H;have Ow := beq_eq_false_iff_ne.mpr L6;have ZR := bne_iff_ne.mpr L6;obtain rfl := Option.some.inj H;have NC := Fy aa;have NH := bf aa
     have ak : 0 ≤ (Br : Int) := of_decide_eq_true ‹_›
     have au : Br < (Aj.length : Int) := of_decide_eq_true ‹_›
     obtain ⟨ag,aW,ay,az,aA,aC⟩ := Ck Fa.out Br ak au;cases aW;replace ay := cB HB ay;replace az := cB HB az;replace aA := cB HB aA;replace aC := cB HB aC;replace ak := eq_true ak;replace au := eq_true au
     go_wp2
     go_ret
     exact ⟨_,by rfl,by (with_reducible repeat (apply Kd.zg));exact CX.out,bO HB⟩
   ·
    rw [if_neg c28] at H;exact absurd H (by simp)
  ·
   rw [if_neg Pp] at H;have Tz := decide_eq_false Pp;clear Pp;obtain rfl := Option.some.inj H;have Kv := Fy aa;have KD := bf aa
   go_wp2
   go_ret
   exact ⟨_,by rfl,by (with_reducible repeat (apply Kd.zg));exact CX.out,bO HB⟩
end Go.Proofs.YtjonnfmoocijlaaGreat.P
