/- Texts of a claim, packed. -/
import Derived.Test.YtjonnfmoocijlaaGreatE26
set_option linter.all false
namespace Go.Proofs.YtjonnfmoocijlaaGreat.P
open Go.RowKit Go.Proofs.YtjonnfmoocijlaaGreatKW.PrintWords Go.Proofs.YtjonnfmoocijlaaGreatKW.PrintLast Go.Proofs.YtjonnfmoocijlaaGreatKW.PrintMore
attribute [local go_sem] zN zP Af Ag zz zA zO zQ
attribute [local go_sem high] WE
mutual
def yl.l0 : Nat → List (AP) → Int → Int → List (List Int) → Int → Int → Option (Bool)
 | 0,_,_,_,_,_,_ => none
 | k + 1,x1,x5,aa,ae,af,ag => if x5 < (x1.length : Int) then (if 0 ≤ x5 then ((BD.f aa ae af ag ((yh x1 x5).f0) ((yh x1 x5).f1)).bind fun a2O => (if a2O = true then (if ((yh x1 x5).f2.f0) < 0 then (yl.j1 k x1 x5 true aa ae af ag ((yh x1 x5).f0) ((yh x1 x5).f1) ((yh x1 x5).f2.f0) ((yh x1 x5).f2.f1)) else (if ((yh x1 x5).f2.f0) ≥ aa then (yl.j1 k x1 x5 true aa ae af ag ((yh x1 x5).f0) ((yh x1 x5).f1) ((yh x1 x5).f2.f0) ((yh x1 x5).f2.f1)) else ((AY.f aa ae af ag).bind fun Y2 => (if ((yh x1 x5).f2.f1) < Y2 then (yl.j1 k x1 x5 true aa ae af ag ((yh x1 x5).f0) ((yh x1 x5).f1) ((yh x1 x5).f2.f0) ((yh x1 x5).f2.f1)) else ((Ca.f aa ae af ag).bind fun Zv => (yl.j1 k x1 x5 (decide (((yh x1 x5).f2.f1) ≥ Zv)) aa ae af ag ((yh x1 x5).f0) ((yh x1 x5).f1) ((yh x1 x5).f2.f0) ((yh x1 x5).f2.f1))))))) else (yl.j1 k x1 x5 true aa ae af ag ((yh x1 x5).f0) ((yh x1 x5).f1) ((yh x1 x5).f2.f0) ((yh x1 x5).f2.f1)))) else (none)) else (yl.l2 k x1 0 aa ae af ag)
def yl.j1 : Nat → List (AP) → Int → Bool → Int → List (List Int) → Int → Int → Int → Int → Int → Int → Option (Bool)
 | 0,_,_,_,_,_,_,_,_,_,_,_ => none
 | k + 1,x1,x5,ax,aa,ae,af,ag,ah,ai,aj,ak => if ax = true then (some false) else (if x5 > 0 then (if 0 ≤ (wrap64 (x5 - 1)) then (if (wrap64 (x5 - 1)) < (x1.length : Int) then (if ((yh x1 (wrap64 (x5 - 1))).f0) > ah then (yl.j2 k x1 x5 true aa ae af ag ah ai aj ak) else (if ((yh x1 (wrap64 (x5 - 1))).f0) = ah then (yl.j2 k x1 x5 (decide (((yh x1 (wrap64 (x5 - 1))).f1) ≥ ai)) aa ae af ag ah ai aj ak) else (yl.j2 k x1 x5 false aa ae af ag ah ai aj ak))) else (none)) else (none)) else (yl.j2 k x1 x5 false aa ae af ag ah ai aj ak))
def yl.j2 : Nat → List (AP) → Int → Bool → Int → List (List Int) → Int → Int → Int → Int → Int → Int → Option (Bool)
 | 0,_,_,_,_,_,_,_,_,_,_,_ => none
 | k + 1,x1,x5,x97,aa,ae,af,ag,ah,ai,aj,ak => if x97 = true then (some false) else (yl.l1 k x1 x5 0 aa ae af ag ah ai aj ak)
def yl.l1 : Nat → List (AP) → Int → Int → Int → List (List Int) → Int → Int → Int → Int → Int → Int → Option (Bool)
 | 0,_,_,_,_,_,_,_,_,_,_,_ => none
 | k + 1,x1,x5,x7,aa,ae,af,ag,ah,ai,aj,ak => if x7 < x5 then (if 0 ≤ x7 then (if x7 < (x1.length : Int) then (if (((yh x1 x7).f2.f0) == aj && (((yh x1 x7).f2.f1) == ak)) = true then (some false) else (yl.l1 k x1 x5 (wrap64 (x7 + 1)) aa ae af ag ah ai aj ak)) else (none)) else (none)) else (yl.l0 k x1 (wrap64 (x5 + 1)) aa ae af ag)
def yl.l2 : Nat → List (AP) → Int → Int → List (List Int) → Int → Int → Option (Bool)
 | 0,_,_,_,_,_,_ => none
 | k + 1,x1,x8,aa,ae,af,ag => if x8 < (x1.length : Int) then (if 0 ≤ x8 then (yl.l3 k x1 x8 ((yh x1 x8).f0) 0 aa ae af ag) else (none)) else (some true)
def yl.l3 : Nat → List (AP) → Int → Int → Int → Int → List (List Int) → Int → Int → Option (Bool)
 | 0,_,_,_,_,_,_,_,_ => none
 | k + 1,x1,x8,x9,EU,aa,ae,af,ag => (zn.f aa ae af ag).bind fun Y3 => (if EU < Y3 then (yl.l4 k x1 x8 x9 EU 0 aa ae af ag) else (yl.l2 k x1 (wrap64 (x8 + 1)) aa ae af ag))
def yl.l4 : Nat → List (AP) → Int → Int → Int → Int → Int → List (List Int) → Int → Int → Option (Bool)
 | 0,_,_,_,_,_,_,_,_,_ => none
 | k + 1,x1,x8,x9,EU,DX,aa,ae,af,ag => if DX < EU then ((zM.f k aa ae af ag x1 x9 EU).bind fun au => ((zM.f k aa ae af ag x1 x9 DX).bind fun av => (if au.1 = av.1 then (some false) else (yl.l4 k x1 x8 x9 EU (wrap64 (DX + 1)) aa ae af ag)))) else (yl.l3 k x1 x8 x9 (wrap64 (EU + 1)) aa ae af ag)
end
def yl.f (k : Nat) (yj : Int) (yg : List (List Int)) (ym : Int) (yn : Int) (l1 : List (AP)) : Option (Bool) := (zU.f k yj yg ym yn).bind fun Y1 => (if Y1 = true then (yl.l0 k l1 0 yj yg ym yn) else (some false))
def yl.T7 : Bool × List (List Nat × List Nat) := (true,[([],[]),([],[]),([1],[1]),([],[]),([3],[3]),([0,2,4],[0,2,4]),([5],[5]),([6,5],[6]),([7],[7]),([8,7],[7,8]),([9,7],[7,9]),([10,7],[7,10]),([7,11],[7,11]),([12,7],[12]),([13],[13]),([14,13],[13,14]),([15,13],[13,15]),([13],[13]),([17,13],[13,17]),([18,13],[13,18]),([16,19,13],[13,16,19]),([13,20],[13,20]),([21,13],[21]),([22],[22]),([23,22],[22,23]),([24,22],[22,24]),([22],[22]),([26,22,22],[22,26]),([25,27,22],[22,25,27]),([22,28],[22,28]),([29,27],[29]),([30],[30]),([31,30],[30,31]),([32,30],[30,32]),([30],[30]),([34,30,30],[30,34]),([33,35,30],[30,33,35]),([30,36],[30,36])])
def yl.B7 : List Nat := [0,0,2,0,8,31,63,127,255,511,1023,2047,4095,8191,16383,32767,65535,16383,147455,409599,1048575,2097151,4194303,8388607,16777215,33554431,8388607,75497471,268435455,536870911,1073741823,2147483647,4294967295,8589934591,2147483647,19327352831,68719476735,137438953471]
theorem yl.PX : Dv .any (opsOf Tryz.f49 7) = yl.T7 := by kernel_rfl
theorem yl.Ke : BH yl.T7.2 yl.B7 = true := by kernel_rfl
def yl.T9 : Bool × List (List Nat × List Nat) := (true,[([],[]),([0],[0]),([1],[1]),([2],[2]),([2],[2]),([4,2],[2,4]),([3,5,2],[2,3,5]),([6,2],[2,6]),([7,2],[2,7]),([2],[2]),([9,2],[2,9]),([8,10,2],[2,8,10]),([11,2,2],[2,11]),([12],[12]),([12],[12]),([14,12],[12,14]),([13,15,12],[12,13,15]),([16,12],[12,16]),([17,12],[12,17]),([12],[12]),([19,12],[12,19]),([18,20,12],[12,18,20]),([21,12,12],[12,21]),([22],[22]),([22],[22]),([24,22],[22,24]),([23,25,22],[22,23,25]),([26,22],[22,26]),([27,22],[22,27]),([22],[22]),([29,22],[22,29]),([28,30,22],[22,28,30]),([22,31,12],[12,22,31]),([12,32,2],[2,12,32]),([2,33],[2,33])])
def yl.B9 : List Nat := [0,1,3,7,7,23,63,127,255,7,519,2047,4095,8191,8191,24575,65535,131071,262143,8191,532479,2097151,4194303,8388607,8388607,25165823,67108863,134217727,268435455,8388607,545259519,2147483647,4294967295,8589934591,17179869183]
theorem yl.Ri : Dv .any (opsOf Tryz.f49 9) = yl.T9 := by kernel_rfl
theorem yl.LD : BH yl.T9.2 yl.B9 = true := by kernel_rfl
def yl.T14 : Bool × List (List Nat × List Nat) := (true,[([],[]),([],[]),([0,1],[0,1]),([2],[2]),([3],[3]),([],[]),([5],[5]),([4,6],[4,6])])
def yl.B14 : List Nat := [0,0,3,7,15,0,32,127]
theorem yl.P5 : Dv .any (opsOf Tryz.f49 14) = yl.T14 := by kernel_rfl
theorem yl.KZ : BH yl.T14.2 yl.B14 = true := by kernel_rfl
def yl.T26 : Bool × List (List Nat × List Nat) := (true,[([],[]),([],[]),([],[]),([],[]),([0,1,2,3],[0,1,2,3]),([4],[4]),([],[]),([],[]),([],[]),([],[]),([6,7,8,9,4],[6,7,8,9]),([10],[10]),([5,11],[5,11])])
def yl.B26 : List Nat := [0,0,0,0,15,31,0,0,0,0,991,2015,4095]
theorem yl.a1c : Dv .any (opsOf Tryz.f49 26) = yl.T26 := by kernel_rfl
theorem yl.VJ : BH yl.T26.2 yl.B26 = true := by kernel_rfl
set_option maxHeartbeats 8000000 in
set_option maxRecDepth 100000 in
theorem yl.calls (k : Nat) (yj : Int) (yK : Option Addr) (yE : Nat) (yg : List (List Int)) (ym : Int) (yn : Int) (A1 : Option Addr) (c1 : Nat) (l1 : List (AP)) (r : Bool) (w : World) (zS : Kd.C (Kd.slice 3 (Kd.int .i64)) w yK yg.length yg) (zT : yg.length ≤ yE) (hr1 : Kd.C DN w A1 l1.length l1) (hc1 : l1.length ≤ c1) (h : yl.f k yj yg ym yn l1 = some r) :
  Calls Tryz.prog 49 #[.agg #[.int .i64 yj,.slice yK yg.length yE,.int .i64 ym,.int .i64 yn],.slice A1 l1.length c1] w fun e w' => e = .returned (.bool r) ∧ Below w.heap.size w w' := by
 have ET := Tryz.underlying29;have Ob := Tryz.underlying60;have KE := Tryz.underlying51
 have TN : ∀ (x0 x1 : Value) (W : World),(Instr.field 51 (.agg #[x0,x1]) 0).run Tryz.prog W = .ok (x0) W := fun x0 x1 W => by rfl
 have zk := yf.mk zS;have zq := yf.mk zT;clear zS zT;have HR1 := yf.mk hr1;have Gt := yf.mk hc1;clear hr1 hc1;have HB := yf.mk (Below.refl w.heap.size w)
 have H : ((zU.f k yj yg ym yn).bind fun Y1 => (if Y1 = true then (yl.l0 k l1 0 yj yg ym yn) else (some false))) = some r := h
 clear h;obtain ⟨Y1,A3,H⟩ := bE H
 try dsimp only at H
 by_cases c4 : Y1 = true
 rotate_left
 ·
  replace c4 := Bool.eq_false_iff.mpr c4;subst c4
  rw [if_neg (show ¬ (false = true) by decide)] at H
  obtain rfl := Option.some.inj H
  go_enter Tryz.func49,Tryz.ntmps49
  go_wp2_with (first | ((with_reducible refine yG (N := 2) rfl ?_);refine yD rfl (N := 2) rfl (cs := #[.int .i64 yj,.slice yK yg.length yE,.int .i64 ym,.int .i64 yn]) (t := 29) (by go_simp) ?_;intro aj hg w76 yI hb;have aa := yf.mk (yI);have dI := bG (w := w) hg;have dH := bG (w := w) hg;replace HB := bS HB hb;clear hb yI hg;have a3R := AO aa;have a4f := bf aa) | ((with_reducible refine yz (f := 71) rfl ?_);refine gL (some 13) Tryz.func71 #[.agg #[.int .i64 yj,.slice yK yg.length yE,.int .i64 ym,.int .i64 yn]] ?_;(with_reducible refine (zU.calls k yj _ _ yg ym yn false _ ?yB ?yC A3.out).mono ?_);(case yB => exact CU zk);(case yC => exact zq.out);rintro e w78 ⟨rfl,hb⟩;refine ⟨_,rfl,?_⟩;replace aa := bB aa hb;replace HB := bS HB hb;clear hb))
  go_ret
  exact ⟨by rfl,bO HB⟩
 subst c4;rw [if_pos rfl] at H;have H' := yf.mk H;clear H
 go_enter Tryz.func49,Tryz.ntmps49
 go_wp2_with (first | ((with_reducible refine yG (N := 2) rfl ?_);refine yD rfl (N := 2) rfl (cs := #[.int .i64 yj,.slice yK yg.length yE,.int .i64 ym,.int .i64 yn]) (t := 29) (by go_simp) ?_;intro aj hg w5 yI hb;have aa := yf.mk (yI);have dI := bG (w := w) hg;have dH := bG (w := w) hg;replace HB := bS HB hb;clear hb yI hg;have Z4 := AO aa;have Z7 := bf aa) | ((with_reducible refine yz (f := 71) rfl ?_);refine gL (some 13) Tryz.func71 #[.agg #[.int .i64 yj,.slice yK yg.length yE,.int .i64 ym,.int .i64 yn]] ?_;(with_reducible refine (zU.calls k yj _ _ yg ym yn true _ ?yB ?yC A3.out).mono ?_);(case yB => exact CU zk);(case yC => exact zq.out);rintro e w7 ⟨rfl,hb⟩;refine ⟨_,rfl,?_⟩;replace aa := bB aa hb;replace HB := bS HB hb;clear hb))
 go_loopg [5] k (fun kq v5 w' => ∃ (yP : Int),v5 = .int .i64 yP ∧ yf (yl.l0 kq l1 yP yj yg ym yn = some r) ∧ yf (kq ≤ k) ∧ yf (w'.heap[aj]? = some (.cells #[.int .i64 yj,(.slice yK yg.length yE),.int .i64 ym,.int .i64 yn] 29 (0,0))) ∧ yf (Below w.heap.size w w'))
 case atStart => exact ⟨(0),(by rfl),H',⟨Nat.le_refl _⟩,⟨kk aa⟩,⟨bO HB⟩⟩
 case round =>
 clear H' Z4 Z7;obtain ⟨yP,rfl,HA,Bn,aa,HB⟩ := hrel
 cases gk with
 | zero => exact absurd HA.out (by simp [yl.l0])
 | succ k1 =>
 have H := HA.out;clear HA;simp only [yl.l0] at H
 by_cases c8 : yP < (l1.length : Int)
 rotate_left
 ·
  rw [if_neg c8] at H;have GN := decide_eq_false c8;clear c8;have H' := yf.mk H;clear H
  go_wp2
  go_loopg [8] k1 (fun kq v8 w' => ∃ (ak : Int),v8 = .int .i64 ak ∧ yf (yl.l2 kq l1 ak yj yg ym yn = some r) ∧ yf (kq ≤ k1) ∧ yf (w'.heap[aj]? = some (.cells #[.int .i64 yj,(.slice yK yg.length yE),.int .i64 ym,.int .i64 yn] 29 (0,0))) ∧ yf (Below w.heap.size w w'))
  case atStart => exact ⟨(0),(by rfl),H',⟨Nat.le_refl _⟩,⟨kk aa⟩,⟨bO HB⟩⟩
  case round =>
  clear H' GN;obtain ⟨ak,rfl,HA,Di,aa,HB⟩ := hrel
  cases gk with
  | zero => exact absurd HA.out (by simp [yl.l2])
  | succ k2 =>
   have H := HA.out;clear HA;simp only [yl.l2] at H
   by_cases Rt : ak < (l1.length : Int)
   ·
    rw [if_pos Rt] at H;have W9 := decide_eq_true Rt;clear Rt
    by_cases c59 : 0 ≤ ak
    ·
     rw [if_pos c59] at H;have Wd := decide_eq_true c59;clear c59;have H' := yf.mk H;clear H
     have bH : 0 ≤ (ak : Int) := of_decide_eq_true ‹_›
     have bI : ak < (l1.length : Int) := of_decide_eq_true ‹_›
     obtain ⟨bv,dS,cO,cZ,d9,df⟩ := Ck HR1.out ak bH bI;cases dS;replace cO := cB HB cO;replace cZ := cB HB cZ;replace d9 := cB HB d9;replace df := cB HB df;replace bH := eq_true bH;replace bI := eq_true bI
     go_wp2
     go_loopg [10] k2 (fun kq v10 w' => ∃ (aC : Int),v10 = .int .i64 aC ∧ yf (yl.l3 kq l1 ak ((yh l1 ak).f0) aC yj yg ym yn = some r) ∧ yf (kq ≤ k2) ∧ yf (w'.heap[aj]? = some (.cells #[.int .i64 yj,(.slice yK yg.length yE),.int .i64 ym,.int .i64 yn] 29 (0,0))) ∧ yf (Below w.heap.size w w'))
     case atStart => exact ⟨(0),(by rfl),H',⟨Nat.le_refl _⟩,⟨kk aa⟩,⟨bO HB⟩⟩
     case round =>
      clear H' W9 Wd cO cZ d9 df bH bI;obtain ⟨aC,rfl,HA,Fx,aa,HB⟩ := hrel
      cases gk with
      | zero => exact absurd HA.out (by simp [yl.l3])
      | succ k3 =>
       have H := HA.out;clear HA;simp only [yl.l3] at H;obtain ⟨Y3,Vo,H⟩ := bE H
       try dsimp only at H
       by_cases We : aC < Y3
       ·
        rw [if_pos We] at H;have Wh := decide_eq_true We;clear We;have H' := yf.mk H;clear H;have a0b := AO aa;have a0o := bf aa
        go_wp2_with (((with_reducible refine yz (f := 14) rfl ?_);refine gL (some 124) Tryz.func14 #[.agg #[.int .i64 yj,.slice yK yg.length yE,.int .i64 ym,.int .i64 yn]] ?_;(with_reducible refine (zn.calls yj _ _ yg ym yn Y3 _ ?yB ?yC Vo.out).mono ?_);(case yB => exact CU zk);(case yC => exact zq.out);rintro e w63 ⟨rfl,hb⟩;refine ⟨_,rfl,?_⟩;replace aa := bB aa hb;replace HB := bS HB hb;clear hb))
        go_loopg [11] k3 (fun kq v11 w' => ∃ (EQ : Int),v11 = .int .i64 EQ ∧ yf (yl.l4 kq l1 ak ((yh l1 ak).f0) aC EQ yj yg ym yn = some r) ∧ yf (kq ≤ k3) ∧ yf (w'.heap[aj]? = some (.cells #[.int .i64 yj,(.slice yK yg.length yE),.int .i64 ym,.int .i64 yn] 29 (0,0))) ∧ yf (Below w.heap.size w w'))
        case atStart => exact ⟨(0),(by rfl),H',⟨Nat.le_refl _⟩,⟨kk aa⟩,⟨bO HB⟩⟩
        case round =>
         clear H' Wh a0b a0o;obtain ⟨EQ,rfl,HA,Lv,aa,HB⟩ := hrel
         cases gk with
         | zero => exact absurd HA.out (by simp [yl.l4])
         | succ k4 =>
          have H := HA.out;clear HA;simp only [yl.l4] at H
          by_cases c64 : EQ < aC
          ·
           rw [if_pos c64] at H;have LK := decide_eq_true c64;clear c64;obtain ⟨⟨bJ,dF⟩,dw,H⟩ := bE H
           try dsimp only at H
           obtain ⟨⟨bL,dG⟩,dx,H⟩ := bE H
           try dsimp only at H
           by_cases aQ : bJ = bL
           ·
            rw [if_pos aQ] at H;have dO := beq_iff_eq.mpr aQ
            have dP : (bJ != bL) = false := bne_eq_false_iff_eq.mpr aQ
            clear aQ;obtain rfl := Option.some.inj H
            try go_wp2
            replace aa := yf.mk (zl aa.out);replace HB := yf.mk (zt HB.out)
            refine Bt (n := 13) (S := fun w' => w'.cell? ⟨aj,0,none⟩ = some (.int .i64 yj) ∧ w'.cell? ⟨aj,1,none⟩ = some (.slice yK yg.length yE) ∧ w'.cell? ⟨aj,2,none⟩ = some (.int .i64 ym) ∧ w'.cell? ⟨aj,3,none⟩ = some (.int .i64 yn)) (ds := []) (bz 13 0) (by kernel_rfl) rfl rfl (AO aa) (fun hHeld => ?_);refine Ab yl.a1c yl.VJ (fun yJ Bv => ?_)
            generalize wr.drew = w68 at aa HB hHeld ⊢;refine pU 1 134 13 2 yJ ?_;refine pU 2 135 13 6 yJ ?_;refine pU 3 136 13 14 yJ ?_;refine pU 7 140 13 142 yJ ?_;refine pU 8 141 13 398 yJ ?_;refine pU 9 142 13 910 yJ ?_
            refine Co 0 133 13 911 yJ Bv hHeld ?_
            refine Co 6 139 13 975 yJ Bv hHeld ?_
            refine CB (i := 4) (N := some 137) (bz 13 991) rfl rfl (Ar yJ.out (by kernel_rfl)) (by decide) (fun K hK => ?_)
            refine gO Tryz.func30 #[.agg #[.int .i64 yj,.slice yK yg.length yE,.int .i64 ym,.int .i64 yn],.slice (some bv) l1.length c1,.int .i64 ((yh l1 ak).f0),.int .i64 aC] ?_
            with_reducible refine (zM.calls k4 yj _ _ yg ym yn _ _ l1 ((yh l1 ak).f0) aC bJ dF _ ?yB ?yC ?zI ?zJ dw.out).mono ?_
            (case yB => exact CU zk)
            (case yC => exact zq.out)
            (case zI => exact CU HR1)
            (case zJ => exact Gt.out)
            rintro e w69 ⟨rfl,hb⟩
            refine ⟨_,rfl,?_⟩
            replace aa := bB aa hb;replace HB := bS HB hb;clear hb
            refine hK.out _ _ (AO aa) (fun hHeld => ?_)
            clear hK K
            refine AU (a' := ?_) ?_ ?_
            rotate_left
            ·
             show Act.put _ (some 137) _ = _
             simp only [pz]
             rfl
            refine pU 5 138 13 1023 yJ ?_
            refine CB (i := 10) (N := some 143) (bz 13 2047) rfl rfl (Ar yJ.out (by kernel_rfl)) (by decide) (fun K hK => ?_)
            refine gO Tryz.func30 #[.agg #[.int .i64 yj,.slice yK yg.length yE,.int .i64 ym,.int .i64 yn],.slice (some bv) l1.length c1,.int .i64 ((yh l1 ak).f0),.int .i64 EQ] ?_
            with_reducible refine (zM.calls k4 yj _ _ yg ym yn _ _ l1 ((yh l1 ak).f0) EQ bL dG _ ?yB ?yC ?zI ?zJ dx.out).mono ?_
            (case yB => exact CU zk)
            (case yC => exact zq.out)
            (case zI => exact CU HR1)
            (case zJ => exact Gt.out)
            rintro e w70 ⟨rfl,hb⟩
            refine ⟨_,rfl,?_⟩
            replace aa := bB aa hb;replace HB := bS HB hb;clear hb
            refine hK.out _ _ (AO aa) (fun hHeld => ?_)
            clear hK K
            refine AU (a' := ?_) ?_ ?_
            rotate_left
            ·
             show Act.put _ (some 143) _ = _
             simp only [pz]
             rfl
            refine pU 11 144 13 4095 yJ ?_;refine pU 12 145 13 8191 yJ ?_
            refine Cn (AZ yJ.out (by kernel_rfl)) ?_
            try go_wp2
            go_ret
            exact ⟨by rfl,bO HB⟩
           ·
            rw [if_neg aQ] at H;have dO := beq_eq_false_iff_ne.mpr aQ;have dP := bne_iff_ne.mpr aQ;have H' := yf.mk H;clear H
            try go_wp2
            replace aa := yf.mk (zl aa.out);replace HB := yf.mk (zt HB.out)
            refine Bt (n := 13) (S := fun w' => w'.cell? ⟨aj,0,none⟩ = some (.int .i64 yj) ∧ w'.cell? ⟨aj,1,none⟩ = some (.slice yK yg.length yE) ∧ w'.cell? ⟨aj,2,none⟩ = some (.int .i64 ym) ∧ w'.cell? ⟨aj,3,none⟩ = some (.int .i64 yn)) (ds := []) (bz 13 0) (by kernel_rfl) rfl rfl (AO aa) (fun hHeld => ?_);refine Ab yl.a1c yl.VJ (fun yJ Bv => ?_)
            generalize wr.drew = w71 at aa HB hHeld ⊢;refine pU 1 134 13 2 yJ ?_;refine pU 2 135 13 6 yJ ?_;refine pU 3 136 13 14 yJ ?_;refine pU 7 140 13 142 yJ ?_;refine pU 8 141 13 398 yJ ?_;refine pU 9 142 13 910 yJ ?_
            refine Co 0 133 13 911 yJ Bv hHeld ?_
            refine Co 6 139 13 975 yJ Bv hHeld ?_
            refine CB (i := 4) (N := some 137) (bz 13 991) rfl rfl (Ar yJ.out (by kernel_rfl)) (by decide) (fun K hK => ?_)
            refine gO Tryz.func30 #[.agg #[.int .i64 yj,.slice yK yg.length yE,.int .i64 ym,.int .i64 yn],.slice (some bv) l1.length c1,.int .i64 ((yh l1 ak).f0),.int .i64 aC] ?_
            with_reducible refine (zM.calls k4 yj _ _ yg ym yn _ _ l1 ((yh l1 ak).f0) aC bJ dF _ ?yB ?yC ?zI ?zJ dw.out).mono ?_
            (case yB => exact CU zk)
            (case yC => exact zq.out)
            (case zI => exact CU HR1)
            (case zJ => exact Gt.out)
            rintro e w72 ⟨rfl,hb⟩
            refine ⟨_,rfl,?_⟩
            replace aa := bB aa hb;replace HB := bS HB hb;clear hb
            refine hK.out _ _ (AO aa) (fun hHeld => ?_)
            clear hK K
            refine AU (a' := ?_) ?_ ?_
            rotate_left
            ·
             show Act.put _ (some 137) _ = _
             simp only [pz]
             rfl
            refine pU 5 138 13 1023 yJ ?_
            refine CB (i := 10) (N := some 143) (bz 13 2047) rfl rfl (Ar yJ.out (by kernel_rfl)) (by decide) (fun K hK => ?_)
            refine gO Tryz.func30 #[.agg #[.int .i64 yj,.slice yK yg.length yE,.int .i64 ym,.int .i64 yn],.slice (some bv) l1.length c1,.int .i64 ((yh l1 ak).f0),.int .i64 EQ] ?_
            with_reducible refine (zM.calls k4 yj _ _ yg ym yn _ _ l1 ((yh l1 ak).f0) EQ bL dG _ ?yB ?yC ?zI ?zJ dx.out).mono ?_
            (case yB => exact CU zk)
            (case yC => exact zq.out)
            (case zI => exact CU HR1)
            (case zJ => exact Gt.out)
            rintro e w73 ⟨rfl,hb⟩
            refine ⟨_,rfl,?_⟩
            replace aa := bB aa hb;replace HB := bS HB hb;clear hb
            refine hK.out _ _ (AO aa) (fun hHeld => ?_)
            clear hK K
            refine AU (a' := ?_) ?_ ?_
            rotate_left
            ·
             show Act.put _ (some 143) _ = _
             simp only [pz]
             rfl
            refine pU 11 144 13 4095 yJ ?_;refine pU 12 145 13 8191 yJ ?_
            refine Cn (AZ yJ.out (by kernel_rfl)) ?_
            try go_wp2
            go_roundg k4
            case measure => have := Bn.out;have := Di.out;have := Fx.out;have := Lv.out;omega
            case rel => exact ⟨(wrap64 (EQ + 1)),(by rfl),H',⟨by have := Bn.out;have := Di.out;have := Fx.out;have := Lv.out;omega⟩,⟨kk aa⟩,⟨bO HB⟩⟩
          ·
           rw [if_neg c64] at H;have LK := decide_eq_false c64;clear c64;have H' := yf.mk H;clear H
           go_wp2
           go_roundg k4
           case measure => have := Bn.out;have := Di.out;have := Fx.out;have := Lv.out;omega
           case rel => exact ⟨(wrap64 (aC + 1)),(by rfl),H',⟨by have := Bn.out;have := Di.out;have := Fx.out;have := Lv.out;omega⟩,⟨kk aa⟩,⟨bO HB⟩⟩
       ·
        rw [if_neg We] at H;have Wh := decide_eq_false We;clear We;have H' := yf.mk H;clear H;have ek := AO aa;have eu := bf aa
        go_wp2_with (((with_reducible refine yz (f := 14) rfl ?_);refine gL (some 124) Tryz.func14 #[.agg #[.int .i64 yj,.slice yK yg.length yE,.int .i64 ym,.int .i64 yn]] ?_;(with_reducible refine (zn.calls yj _ _ yg ym yn Y3 _ ?yB ?yC Vo.out).mono ?_);(case yB => exact CU zk);(case yC => exact zq.out);rintro e w75 ⟨rfl,hb⟩;refine ⟨_,rfl,?_⟩;replace aa := bB aa hb;replace HB := bS HB hb;clear hb))
        go_roundg k3
        case measure => have := Bn.out;have := Di.out;have := Fx.out;omega
        case rel => exact ⟨(wrap64 (ak + 1)),(by rfl),H',⟨by have := Bn.out;have := Di.out;have := Fx.out;omega⟩,⟨kk aa⟩,⟨bO HB⟩⟩
    ·
     rw [if_neg c59] at H;exact absurd H (by simp)
   ·
    rw [if_neg Rt] at H;have W9 := decide_eq_false Rt;clear Rt;obtain rfl := Option.some.inj H
    go_wp2
    go_ret
    exact ⟨by rfl,bO HB⟩
 rw [if_pos c8] at H;have GN := decide_eq_true c8;clear c8
 by_cases c9 : 0 ≤ yP
 rotate_left
 ·
  rw [if_neg c9] at H;exact absurd H (by simp)
 rw [if_pos c9] at H;have I5 := decide_eq_true c9;clear c9;have RG := yf.mk H;clear H
 have dh : 0 ≤ (yP : Int) := of_decide_eq_true ‹_›
 have dm : yP < (l1.length : Int) := of_decide_eq_true ‹_›
 obtain ⟨ah,dQ,dA,dB,dC,dD⟩ := Ck HR1.out yP dh dm;cases dQ;replace dA := cB HB dA;replace dB := cB HB dB;replace dC := cB HB dC;replace dD := cB HB dD;replace dh := eq_true dh;replace dm := eq_true dm
 go_upto_region 7 with (((with_reducible refine yG (N := 6) rfl ?_);refine yD rfl (N := 6) rfl (cs := #[.int .i64 0,.int .i64 0,.int .i64 0,.int .i64 0]) (t := 60) (by go_simp) ?_;intro ae hg w11 yI hb;have af := yf.mk (yI);have dZ := bG (w := w) hg;have dY := bG (w := w) hg;have dJ := Cq aa hg;have dK := Aq aa hg;replace aa := bB aa hb;replace HB := bS HB hb;clear hb yI hg;have WY := dK.out;have Xd := dJ.out;have Nw := AO af;have ND := bf af))
 (try simp only [pz])
 go_cut [62] (fun v62 wc => ∃ (kq : Nat) (bM : Bool),v62 = .bool bM ∧ yf (yl.j1 kq l1 yP bM yj yg ym yn ((yh l1 yP).f0) ((yh l1 yP).f1) ((yh l1 yP).f2.f0) ((yh l1 yP).f2.f1) = some r) ∧ yf (kq ≤ k1) ∧ yf (wc.heap[aj]? = some (.cells #[.int .i64 yj,(.slice yK yg.length yE),.int .i64 ym,.int .i64 yn] 29 (0,0))) ∧ yf (wc.heap[ae]? = some (.cells #[.int .i64 ((yh l1 yP).f0),.int .i64 ((yh l1 yP).f1),.int .i64 ((yh l1 yP).f2.f0),.int .i64 ((yh l1 yP).f2.f1)] 60 (0,0))) ∧ yf (Below w.heap.size w wc))
 case first =>
  have H := RG.out;clear RG;obtain ⟨a2O,aX,H⟩ := bE H
  try dsimp only at H
  by_cases c15 : a2O = true
  rotate_left
  ·
   replace c15 := Bool.eq_false_iff.mpr c15;subst c15
   rw [if_neg (show ¬ (false = true) by decide)] at H
   have H' := yf.mk H;clear H
   try go_wp2
   have BR : yf (((((w11.setCell ⟨ae,0,none⟩ (.int .i64 ((yh l1 yP).f0))).setCell ⟨ae,1,none⟩ (.int .i64 ((yh l1 yP).f1))).setCell ⟨ae,2,none⟩ (.int .i64 ((yh l1 yP).f2.f0))).setCell ⟨ae,3,none⟩ (.int .i64 ((yh l1 yP).f2.f1))).heap[aj]? = some (.cells #[.int .i64 yj,.slice yK yg.length yE,.int .i64 ym,.int .i64 yn] 29 (0,0))) := bK aa rfl
   have BS : yf (((((w11.setCell ⟨ae,0,none⟩ (.int .i64 ((yh l1 yP).f0))).setCell ⟨ae,1,none⟩ (.int .i64 ((yh l1 yP).f1))).setCell ⟨ae,2,none⟩ (.int .i64 ((yh l1 yP).f2.f0))).setCell ⟨ae,3,none⟩ (.int .i64 ((yh l1 yP).f2.f1))).heap[ae]? = some (.cells #[.int .i64 ((yh l1 yP).f0),.int .i64 ((yh l1 yP).f1),.int .i64 ((yh l1 yP).f2.f0),.int .i64 ((yh l1 yP).f2.f1)] 60 (0,0))) := bK af rfl
   have Ce : yf (Below w.heap.size w ((((w11.setCell ⟨ae,0,none⟩ (.int .i64 ((yh l1 yP).f0))).setCell ⟨ae,1,none⟩ (.int .i64 ((yh l1 yP).f1))).setCell ⟨ae,2,none⟩ (.int .i64 ((yh l1 yP).f2.f0))).setCell ⟨ae,3,none⟩ (.int .i64 ((yh l1 yP).f2.f1)))) := ⟨bO HB⟩
   clear aa af HB;generalize ((((w11.setCell ⟨ae,0,none⟩ (.int .i64 ((yh l1 yP).f0))).setCell ⟨ae,1,none⟩ (.int .i64 ((yh l1 yP).f1))).setCell ⟨ae,2,none⟩ (.int .i64 ((yh l1 yP).f2.f0))).setCell ⟨ae,3,none⟩ (.int .i64 ((yh l1 yP).f2.f1))) = w36 at BR BS Ce ⊢;have aa := BR;have af := BS;have HB := Ce;clear BR BS Ce;replace aa := yf.mk (zl aa.out);replace af := yf.mk (zl af.out);replace HB := yf.mk (zt HB.out)
   refine Bt (n := 38) (S := fun w' => w'.cell? ⟨aj,0,none⟩ = some (.int .i64 yj) ∧ w'.cell? ⟨aj,1,none⟩ = some (.slice yK yg.length yE) ∧ w'.cell? ⟨aj,2,none⟩ = some (.int .i64 ym) ∧ w'.cell? ⟨aj,3,none⟩ = some (.int .i64 yn) ∧ w'.cell? ⟨ae,0,none⟩ = some (.int .i64 ((yh l1 yP).f0)) ∧ w'.cell? ⟨ae,1,none⟩ = some (.int .i64 ((yh l1 yP).f1)) ∧ w'.cell? ⟨ae,2,none⟩ = some (.int .i64 ((yh l1 yP).f2.f0)) ∧ w'.cell? ⟨ae,3,none⟩ = some (.int .i64 ((yh l1 yP).f2.f1))) (ds := []) (bz 38 0) (by kernel_rfl) rfl rfl (MZ aa (AO af)) (fun hHeld => ?_);refine Ab yl.PX yl.Ke (fun yJ Bv => ?_)
   generalize w36.drew = w37 at aa af HB hHeld ⊢;refine pU 1 26 38 2 yJ ?_;refine pU 3 28 38 10 yJ ?_
   refine Co 0 25 38 11 yJ Bv hHeld ?_
   refine Co 2 27 38 15 yJ Bv hHeld ?_
   refine Co 4 29 38 31 yJ Bv hHeld ?_
   refine CB (i := 5) (N := some 30) (bz 38 63) rfl rfl (Ar yJ.out (by kernel_rfl)) (by decide) (fun K hK => ?_)
   refine gO Tryz.func47 #[.agg #[.int .i64 yj,.slice yK yg.length yE,.int .i64 ym,.int .i64 yn],.int .i64 ((yh l1 yP).f0),.int .i64 ((yh l1 yP).f1)] ?_
   with_reducible refine (BD.calls yj _ _ yg ym yn ((yh l1 yP).f0) ((yh l1 yP).f1) false _ ?yB ?yC aX.out).mono ?_
   (case yB => exact CU zk)
   (case yC => exact zq.out)
   rintro e w38 ⟨rfl,hb⟩
   refine ⟨_,rfl,?_⟩
   replace aa := bB aa hb;replace af := bB af hb;replace HB := bS HB hb;clear hb
   refine hK.out _ _ (MZ aa (AO af)) (fun hHeld => ?_)
   clear hK K
   refine AU (a' := ?_) ?_ ?_
   rotate_left
   ·
    show Act.put _ (some 30) _ = _
    simp only [pz]
    rfl
   refine pU 6 31 38 127 yJ ?_;refine pU 7 32 38 255 yJ ?_;refine pN 8 33 38 511 yJ ?_;refine pN 9 34 38 1023 yJ ?_;refine pN 10 35 38 2047 yJ ?_;refine pN 11 36 38 4095 yJ ?_;refine pU 12 37 38 8191 yJ ?_;refine pU 13 38 38 16383 yJ ?_;refine pN 14 39 38 32767 yJ ?_;refine pN 15 40 38 65535 yJ ?_;refine pN 16 41 38 131071 yJ ?_;refine pN 17 42 38 262143 yJ ?_;refine pN 18 43 38 524287 yJ ?_;refine pN 19 44 38 1048575 yJ ?_;refine pN 20 45 38 2097151 yJ ?_;refine pU 21 46 38 4194303 yJ ?_;refine pU 22 47 38 8388607 yJ ?_;refine pN 23 48 38 16777215 yJ ?_;refine pN 24 49 38 33554431 yJ ?_;refine pN 25 50 38 67108863 yJ ?_;refine pN 26 51 38 134217727 yJ ?_;refine pN 27 52 38 268435455 yJ ?_;refine pN 28 53 38 536870911 yJ ?_;refine pU 29 54 38 1073741823 yJ ?_;refine pU 30 55 38 2147483647 yJ ?_;refine pN 31 56 38 4294967295 yJ ?_;refine pN 32 57 38 8589934591 yJ ?_;refine pN 33 58 38 17179869183 yJ ?_;refine pN 34 59 38 34359738367 yJ ?_;refine pN 35 60 38 68719476735 yJ ?_;refine pN 36 61 38 137438953471 yJ ?_;refine pU 37 62 38 274877906943 yJ ?_
   refine Cn (AZ yJ.out (by kernel_rfl)) ?_
   try go_wp2
   go_meet
   case rel => exact ⟨_,(true),(by rfl),H',⟨by have := Bn.out;omega⟩,⟨kk aa⟩,⟨kk af⟩,⟨bO HB⟩⟩
  subst c15;rw [if_pos rfl] at H
  by_cases c16 : ((yh l1 yP).f2.f0) < 0
  ·
   rw [if_pos c16] at H;have FC := decide_eq_true c16;clear c16
   (skip)
   have H' := yf.mk H;clear H
   try go_wp2
   have BR : yf (((((w11.setCell ⟨ae,0,none⟩ (.int .i64 ((yh l1 yP).f0))).setCell ⟨ae,1,none⟩ (.int .i64 ((yh l1 yP).f1))).setCell ⟨ae,2,none⟩ (.int .i64 ((yh l1 yP).f2.f0))).setCell ⟨ae,3,none⟩ (.int .i64 ((yh l1 yP).f2.f1))).heap[aj]? = some (.cells #[.int .i64 yj,.slice yK yg.length yE,.int .i64 ym,.int .i64 yn] 29 (0,0))) := bK aa rfl
   have BS : yf (((((w11.setCell ⟨ae,0,none⟩ (.int .i64 ((yh l1 yP).f0))).setCell ⟨ae,1,none⟩ (.int .i64 ((yh l1 yP).f1))).setCell ⟨ae,2,none⟩ (.int .i64 ((yh l1 yP).f2.f0))).setCell ⟨ae,3,none⟩ (.int .i64 ((yh l1 yP).f2.f1))).heap[ae]? = some (.cells #[.int .i64 ((yh l1 yP).f0),.int .i64 ((yh l1 yP).f1),.int .i64 ((yh l1 yP).f2.f0),.int .i64 ((yh l1 yP).f2.f1)] 60 (0,0))) := bK af rfl
   have Ce : yf (Below w.heap.size w ((((w11.setCell ⟨ae,0,none⟩ (.int .i64 ((yh l1 yP).f0))).setCell ⟨ae,1,none⟩ (.int .i64 ((yh l1 yP).f1))).setCell ⟨ae,2,none⟩ (.int .i64 ((yh l1 yP).f2.f0))).setCell ⟨ae,3,none⟩ (.int .i64 ((yh l1 yP).f2.f1)))) := ⟨bO HB⟩
   clear aa af HB;generalize ((((w11.setCell ⟨ae,0,none⟩ (.int .i64 ((yh l1 yP).f0))).setCell ⟨ae,1,none⟩ (.int .i64 ((yh l1 yP).f1))).setCell ⟨ae,2,none⟩ (.int .i64 ((yh l1 yP).f2.f0))).setCell ⟨ae,3,none⟩ (.int .i64 ((yh l1 yP).f2.f1))) = w17 at BR BS Ce ⊢;have aa := BR;have af := BS;have HB := Ce;clear BR BS Ce;replace aa := yf.mk (zl aa.out);replace af := yf.mk (zl af.out);replace HB := yf.mk (zt HB.out)
   refine Bt (n := 38) (S := fun w' => w'.cell? ⟨aj,0,none⟩ = some (.int .i64 yj) ∧ w'.cell? ⟨aj,1,none⟩ = some (.slice yK yg.length yE) ∧ w'.cell? ⟨aj,2,none⟩ = some (.int .i64 ym) ∧ w'.cell? ⟨aj,3,none⟩ = some (.int .i64 yn) ∧ w'.cell? ⟨ae,0,none⟩ = some (.int .i64 ((yh l1 yP).f0)) ∧ w'.cell? ⟨ae,1,none⟩ = some (.int .i64 ((yh l1 yP).f1)) ∧ w'.cell? ⟨ae,2,none⟩ = some (.int .i64 ((yh l1 yP).f2.f0)) ∧ w'.cell? ⟨ae,3,none⟩ = some (.int .i64 ((yh l1 yP).f2.f1))) (ds := []) (bz 38 0) (by kernel_rfl) rfl rfl (MZ aa (AO af)) (fun hHeld => ?_);refine Ab yl.PX yl.Ke (fun yJ Bv => ?_)
   generalize w17.drew = w18 at aa af HB hHeld ⊢;refine pU 1 26 38 2 yJ ?_;refine pU 3 28 38 10 yJ ?_
   refine Co 0 25 38 11 yJ Bv hHeld ?_
   refine Co 2 27 38 15 yJ Bv hHeld ?_
   refine Co 4 29 38 31 yJ Bv hHeld ?_
   refine CB (i := 5) (N := some 30) (bz 38 63) rfl rfl (Ar yJ.out (by kernel_rfl)) (by decide) (fun K hK => ?_)
   refine gO Tryz.func47 #[.agg #[.int .i64 yj,.slice yK yg.length yE,.int .i64 ym,.int .i64 yn],.int .i64 ((yh l1 yP).f0),.int .i64 ((yh l1 yP).f1)] ?_
   with_reducible refine (BD.calls yj _ _ yg ym yn ((yh l1 yP).f0) ((yh l1 yP).f1) true _ ?yB ?yC aX.out).mono ?_
   (case yB => exact CU zk)
   (case yC => exact zq.out)
   rintro e w19 ⟨rfl,hb⟩
   refine ⟨_,rfl,?_⟩
   replace aa := bB aa hb;replace af := bB af hb;replace HB := bS HB hb;clear hb
   refine hK.out _ _ (MZ aa (AO af)) (fun hHeld => ?_)
   clear hK K
   refine AU (a' := ?_) ?_ ?_
   rotate_left
   ·
    show Act.put _ (some 30) _ = _
    simp only [pz]
    rfl
   refine pU 6 31 38 127 yJ ?_;refine pU 7 32 38 255 yJ ?_;refine pU 8 33 38 511 yJ ?_;refine pU 9 34 38 1023 yJ ?_
   refine Co 10 35 38 2047 yJ Bv hHeld ?_
   refine pU 11 36 38 4095 yJ ?_;refine pU 12 37 38 8191 yJ ?_;refine pU 13 38 38 16383 yJ ?_;refine pN 14 39 38 32767 yJ ?_;refine pN 15 40 38 65535 yJ ?_;refine pN 16 41 38 131071 yJ ?_;refine pN 17 42 38 262143 yJ ?_;refine pN 18 43 38 524287 yJ ?_;refine pN 19 44 38 1048575 yJ ?_;refine pN 20 45 38 2097151 yJ ?_;refine pU 21 46 38 4194303 yJ ?_;refine pU 22 47 38 8388607 yJ ?_;refine pN 23 48 38 16777215 yJ ?_;refine pN 24 49 38 33554431 yJ ?_;refine pN 25 50 38 67108863 yJ ?_;refine pN 26 51 38 134217727 yJ ?_;refine pN 27 52 38 268435455 yJ ?_;refine pN 28 53 38 536870911 yJ ?_;refine pU 29 54 38 1073741823 yJ ?_;refine pU 30 55 38 2147483647 yJ ?_;refine pN 31 56 38 4294967295 yJ ?_;refine pN 32 57 38 8589934591 yJ ?_;refine pN 33 58 38 17179869183 yJ ?_;refine pN 34 59 38 34359738367 yJ ?_;refine pN 35 60 38 68719476735 yJ ?_;refine pN 36 61 38 137438953471 yJ ?_;refine pU 37 62 38 274877906943 yJ ?_
   refine Cn (AZ yJ.out (by kernel_rfl)) ?_
   try go_wp2
   go_meet
   case rel => exact ⟨_,(true),(by rfl),H',⟨by have := Bn.out;omega⟩,⟨kk aa⟩,⟨kk af⟩,⟨bO HB⟩⟩
  rw [if_neg c16] at H;have FC := decide_eq_false c16;clear c16
  (skip)
  by_cases c20 : ((yh l1 yP).f2.f0) ≥ yj
  ·
   rw [if_pos c20] at H;have Ki := decide_eq_true c20;clear c20;have H' := yf.mk H;clear H
   try go_wp2
   have BR : yf (((((w11.setCell ⟨ae,0,none⟩ (.int .i64 ((yh l1 yP).f0))).setCell ⟨ae,1,none⟩ (.int .i64 ((yh l1 yP).f1))).setCell ⟨ae,2,none⟩ (.int .i64 ((yh l1 yP).f2.f0))).setCell ⟨ae,3,none⟩ (.int .i64 ((yh l1 yP).f2.f1))).heap[aj]? = some (.cells #[.int .i64 yj,.slice yK yg.length yE,.int .i64 ym,.int .i64 yn] 29 (0,0))) := bK aa rfl
   have BS : yf (((((w11.setCell ⟨ae,0,none⟩ (.int .i64 ((yh l1 yP).f0))).setCell ⟨ae,1,none⟩ (.int .i64 ((yh l1 yP).f1))).setCell ⟨ae,2,none⟩ (.int .i64 ((yh l1 yP).f2.f0))).setCell ⟨ae,3,none⟩ (.int .i64 ((yh l1 yP).f2.f1))).heap[ae]? = some (.cells #[.int .i64 ((yh l1 yP).f0),.int .i64 ((yh l1 yP).f1),.int .i64 ((yh l1 yP).f2.f0),.int .i64 ((yh l1 yP).f2.f1)] 60 (0,0))) := bK af rfl
   have Ce : yf (Below w.heap.size w ((((w11.setCell ⟨ae,0,none⟩ (.int .i64 ((yh l1 yP).f0))).setCell ⟨ae,1,none⟩ (.int .i64 ((yh l1 yP).f1))).setCell ⟨ae,2,none⟩ (.int .i64 ((yh l1 yP).f2.f0))).setCell ⟨ae,3,none⟩ (.int .i64 ((yh l1 yP).f2.f1)))) := ⟨bO HB⟩
   clear aa af HB;generalize ((((w11.setCell ⟨ae,0,none⟩ (.int .i64 ((yh l1 yP).f0))).setCell ⟨ae,1,none⟩ (.int .i64 ((yh l1 yP).f1))).setCell ⟨ae,2,none⟩ (.int .i64 ((yh l1 yP).f2.f0))).setCell ⟨ae,3,none⟩ (.int .i64 ((yh l1 yP).f2.f1))) = w21 at BR BS Ce ⊢;have aa := BR;have af := BS;have HB := Ce;clear BR BS Ce;replace aa := yf.mk (zl aa.out);replace af := yf.mk (zl af.out);replace HB := yf.mk (zt HB.out)
   refine Bt (n := 38) (S := fun w' => w'.cell? ⟨aj,0,none⟩ = some (.int .i64 yj) ∧ w'.cell? ⟨aj,1,none⟩ = some (.slice yK yg.length yE) ∧ w'.cell? ⟨aj,2,none⟩ = some (.int .i64 ym) ∧ w'.cell? ⟨aj,3,none⟩ = some (.int .i64 yn) ∧ w'.cell? ⟨ae,0,none⟩ = some (.int .i64 ((yh l1 yP).f0)) ∧ w'.cell? ⟨ae,1,none⟩ = some (.int .i64 ((yh l1 yP).f1)) ∧ w'.cell? ⟨ae,2,none⟩ = some (.int .i64 ((yh l1 yP).f2.f0)) ∧ w'.cell? ⟨ae,3,none⟩ = some (.int .i64 ((yh l1 yP).f2.f1))) (ds := []) (bz 38 0) (by kernel_rfl) rfl rfl (MZ aa (AO af)) (fun hHeld => ?_);refine Ab yl.PX yl.Ke (fun yJ Bv => ?_)
   generalize w21.drew = w22 at aa af HB hHeld ⊢;refine pU 1 26 38 2 yJ ?_;refine pU 3 28 38 10 yJ ?_
   refine Co 0 25 38 11 yJ Bv hHeld ?_
   refine Co 2 27 38 15 yJ Bv hHeld ?_
   refine Co 4 29 38 31 yJ Bv hHeld ?_
   refine CB (i := 5) (N := some 30) (bz 38 63) rfl rfl (Ar yJ.out (by kernel_rfl)) (by decide) (fun K hK => ?_)
   refine gO Tryz.func47 #[.agg #[.int .i64 yj,.slice yK yg.length yE,.int .i64 ym,.int .i64 yn],.int .i64 ((yh l1 yP).f0),.int .i64 ((yh l1 yP).f1)] ?_
   with_reducible refine (BD.calls yj _ _ yg ym yn ((yh l1 yP).f0) ((yh l1 yP).f1) true _ ?yB ?yC aX.out).mono ?_
   (case yB => exact CU zk)
   (case yC => exact zq.out)
   rintro e w23 ⟨rfl,hb⟩
   refine ⟨_,rfl,?_⟩
   replace aa := bB aa hb;replace af := bB af hb;replace HB := bS HB hb;clear hb
   refine hK.out _ _ (MZ aa (AO af)) (fun hHeld => ?_)
   clear hK K
   refine AU (a' := ?_) ?_ ?_
   rotate_left
   ·
    show Act.put _ (some 30) _ = _
    simp only [pz]
    rfl
   refine pU 6 31 38 127 yJ ?_;refine pU 7 32 38 255 yJ ?_;refine pU 8 33 38 511 yJ ?_;refine pU 9 34 38 1023 yJ ?_
   refine Co 10 35 38 2047 yJ Bv hHeld ?_
   refine pU 11 36 38 4095 yJ ?_;refine pU 12 37 38 8191 yJ ?_;refine pU 13 38 38 16383 yJ ?_;refine pU 14 39 38 32767 yJ ?_;refine pU 15 40 38 65535 yJ ?_;refine pU 17 42 38 196607 yJ ?_;refine pU 18 43 38 458751 yJ ?_
   refine Co 16 41 38 524287 yJ Bv hHeld ?_
   refine Co 19 44 38 1048575 yJ Bv hHeld ?_
   refine pU 20 45 38 2097151 yJ ?_;refine pU 21 46 38 4194303 yJ ?_;refine pU 22 47 38 8388607 yJ ?_;refine pN 23 48 38 16777215 yJ ?_;refine pN 24 49 38 33554431 yJ ?_;refine pN 25 50 38 67108863 yJ ?_;refine pN 26 51 38 134217727 yJ ?_;refine pN 27 52 38 268435455 yJ ?_;refine pN 28 53 38 536870911 yJ ?_;refine pU 29 54 38 1073741823 yJ ?_;refine pU 30 55 38 2147483647 yJ ?_;refine pN 31 56 38 4294967295 yJ ?_;refine pN 32 57 38 8589934591 yJ ?_;refine pN 33 58 38 17179869183 yJ ?_;refine pN 34 59 38 34359738367 yJ ?_;refine pN 35 60 38 68719476735 yJ ?_;refine pN 36 61 38 137438953471 yJ ?_;refine pU 37 62 38 274877906943 yJ ?_
   refine Cn (AZ yJ.out (by kernel_rfl)) ?_
   try go_wp2
   go_meet
   case rel => exact ⟨_,(true),(by rfl),H',⟨by have := Bn.out;omega⟩,⟨kk aa⟩,⟨kk af⟩,⟨bO HB⟩⟩
  rw [if_neg c20] at H;have Ki := decide_eq_false c20;clear c20;obtain ⟨Y2,A24,H⟩ := bE H
  try dsimp only at H
  by_cases LF : ((yh l1 yP).f2.f1) < Y2
  ·
   rw [if_pos LF] at H;have Ou := decide_eq_true LF;clear LF;have H' := yf.mk H;clear H
   try go_wp2
   have BR : yf (((((w11.setCell ⟨ae,0,none⟩ (.int .i64 ((yh l1 yP).f0))).setCell ⟨ae,1,none⟩ (.int .i64 ((yh l1 yP).f1))).setCell ⟨ae,2,none⟩ (.int .i64 ((yh l1 yP).f2.f0))).setCell ⟨ae,3,none⟩ (.int .i64 ((yh l1 yP).f2.f1))).heap[aj]? = some (.cells #[.int .i64 yj,.slice yK yg.length yE,.int .i64 ym,.int .i64 yn] 29 (0,0))) := bK aa rfl
   have BS : yf (((((w11.setCell ⟨ae,0,none⟩ (.int .i64 ((yh l1 yP).f0))).setCell ⟨ae,1,none⟩ (.int .i64 ((yh l1 yP).f1))).setCell ⟨ae,2,none⟩ (.int .i64 ((yh l1 yP).f2.f0))).setCell ⟨ae,3,none⟩ (.int .i64 ((yh l1 yP).f2.f1))).heap[ae]? = some (.cells #[.int .i64 ((yh l1 yP).f0),.int .i64 ((yh l1 yP).f1),.int .i64 ((yh l1 yP).f2.f0),.int .i64 ((yh l1 yP).f2.f1)] 60 (0,0))) := bK af rfl
   have Ce : yf (Below w.heap.size w ((((w11.setCell ⟨ae,0,none⟩ (.int .i64 ((yh l1 yP).f0))).setCell ⟨ae,1,none⟩ (.int .i64 ((yh l1 yP).f1))).setCell ⟨ae,2,none⟩ (.int .i64 ((yh l1 yP).f2.f0))).setCell ⟨ae,3,none⟩ (.int .i64 ((yh l1 yP).f2.f1)))) := ⟨bO HB⟩
   clear aa af HB;generalize ((((w11.setCell ⟨ae,0,none⟩ (.int .i64 ((yh l1 yP).f0))).setCell ⟨ae,1,none⟩ (.int .i64 ((yh l1 yP).f1))).setCell ⟨ae,2,none⟩ (.int .i64 ((yh l1 yP).f2.f0))).setCell ⟨ae,3,none⟩ (.int .i64 ((yh l1 yP).f2.f1))) = w26 at BR BS Ce ⊢;have aa := BR;have af := BS;have HB := Ce;clear BR BS Ce;replace aa := yf.mk (zl aa.out);replace af := yf.mk (zl af.out);replace HB := yf.mk (zt HB.out)
   refine Bt (n := 38) (S := fun w' => w'.cell? ⟨aj,0,none⟩ = some (.int .i64 yj) ∧ w'.cell? ⟨aj,1,none⟩ = some (.slice yK yg.length yE) ∧ w'.cell? ⟨aj,2,none⟩ = some (.int .i64 ym) ∧ w'.cell? ⟨aj,3,none⟩ = some (.int .i64 yn) ∧ w'.cell? ⟨ae,0,none⟩ = some (.int .i64 ((yh l1 yP).f0)) ∧ w'.cell? ⟨ae,1,none⟩ = some (.int .i64 ((yh l1 yP).f1)) ∧ w'.cell? ⟨ae,2,none⟩ = some (.int .i64 ((yh l1 yP).f2.f0)) ∧ w'.cell? ⟨ae,3,none⟩ = some (.int .i64 ((yh l1 yP).f2.f1))) (ds := []) (bz 38 0) (by kernel_rfl) rfl rfl (MZ aa (AO af)) (fun hHeld => ?_);refine Ab yl.PX yl.Ke (fun yJ Bv => ?_)
   generalize w26.drew = w27 at aa af HB hHeld ⊢;refine pU 1 26 38 2 yJ ?_;refine pU 3 28 38 10 yJ ?_
   refine Co 0 25 38 11 yJ Bv hHeld ?_
   refine Co 2 27 38 15 yJ Bv hHeld ?_
   refine Co 4 29 38 31 yJ Bv hHeld ?_
   refine CB (i := 5) (N := some 30) (bz 38 63) rfl rfl (Ar yJ.out (by kernel_rfl)) (by decide) (fun K hK => ?_)
   refine gO Tryz.func47 #[.agg #[.int .i64 yj,.slice yK yg.length yE,.int .i64 ym,.int .i64 yn],.int .i64 ((yh l1 yP).f0),.int .i64 ((yh l1 yP).f1)] ?_
   with_reducible refine (BD.calls yj _ _ yg ym yn ((yh l1 yP).f0) ((yh l1 yP).f1) true _ ?yB ?yC aX.out).mono ?_
   (case yB => exact CU zk)
   (case yC => exact zq.out)
   rintro e w28 ⟨rfl,hb⟩
   refine ⟨_,rfl,?_⟩
   replace aa := bB aa hb;replace af := bB af hb;replace HB := bS HB hb;clear hb
   refine hK.out _ _ (MZ aa (AO af)) (fun hHeld => ?_)
   clear hK K
   refine AU (a' := ?_) ?_ ?_
   rotate_left
   ·
    show Act.put _ (some 30) _ = _
    simp only [pz]
    rfl
   refine pU 6 31 38 127 yJ ?_;refine pU 7 32 38 255 yJ ?_;refine pU 8 33 38 511 yJ ?_;refine pU 9 34 38 1023 yJ ?_
   refine Co 10 35 38 2047 yJ Bv hHeld ?_
   refine pU 11 36 38 4095 yJ ?_;refine pU 12 37 38 8191 yJ ?_;refine pU 13 38 38 16383 yJ ?_;refine pU 14 39 38 32767 yJ ?_;refine pU 15 40 38 65535 yJ ?_;refine pU 17 42 38 196607 yJ ?_;refine pU 18 43 38 458751 yJ ?_
   refine Co 16 41 38 524287 yJ Bv hHeld ?_
   refine Co 19 44 38 1048575 yJ Bv hHeld ?_
   refine pU 20 45 38 2097151 yJ ?_;refine pU 21 46 38 4194303 yJ ?_;refine pU 22 47 38 8388607 yJ ?_;refine pU 23 48 38 16777215 yJ ?_;refine pU 24 49 38 33554431 yJ ?_
   refine Co 25 50 38 67108863 yJ Bv hHeld ?_
   refine Co 26 51 38 134217727 yJ Bv hHeld ?_
   refine CB (i := 27) (N := some 52) (bz 38 268435455) rfl rfl (Ar yJ.out (by kernel_rfl)) (by decide) (fun K hK => ?_)
   refine gO Tryz.func31 #[.agg #[.int .i64 yj,.slice yK yg.length yE,.int .i64 ym,.int .i64 yn]] ?_
   with_reducible refine (AY.calls yj _ _ yg ym yn Y2 _ ?yB ?yC A24.out).mono ?_
   (case yB => exact CU zk)
   (case yC => exact zq.out)
   rintro e w29 ⟨rfl,hb⟩
   refine ⟨_,rfl,?_⟩
   replace aa := bB aa hb;replace af := bB af hb;replace HB := bS HB hb;clear hb
   refine hK.out _ _ (MZ aa (AO af)) (fun hHeld => ?_)
   clear hK K
   refine AU (a' := ?_) ?_ ?_
   rotate_left
   ·
    show Act.put _ (some 52) _ = _
    simp only [pz]
    rfl
   refine pU 28 53 38 536870911 yJ ?_;refine pU 29 54 38 1073741823 yJ ?_;refine pU 30 55 38 2147483647 yJ ?_;refine pN 31 56 38 4294967295 yJ ?_;refine pN 32 57 38 8589934591 yJ ?_;refine pN 33 58 38 17179869183 yJ ?_;refine pN 34 59 38 34359738367 yJ ?_;refine pN 35 60 38 68719476735 yJ ?_;refine pN 36 61 38 137438953471 yJ ?_;refine pU 37 62 38 274877906943 yJ ?_
   refine Cn (AZ yJ.out (by kernel_rfl)) ?_
   try go_wp2
   go_meet
   case rel => exact ⟨_,(true),(by rfl),H',⟨by have := Bn.out;omega⟩,⟨kk aa⟩,⟨kk af⟩,⟨bO HB⟩⟩
  rw [if_neg LF] at H;have Ou := decide_eq_false LF;clear LF;obtain ⟨Zv,ZA,H⟩ := bE H
  try dsimp only at H
  have H' := yf.mk H;clear H
  try go_wp2
  have BR : yf (((((w11.setCell ⟨ae,0,none⟩ (.int .i64 ((yh l1 yP).f0))).setCell ⟨ae,1,none⟩ (.int .i64 ((yh l1 yP).f1))).setCell ⟨ae,2,none⟩ (.int .i64 ((yh l1 yP).f2.f0))).setCell ⟨ae,3,none⟩ (.int .i64 ((yh l1 yP).f2.f1))).heap[aj]? = some (.cells #[.int .i64 yj,.slice yK yg.length yE,.int .i64 ym,.int .i64 yn] 29 (0,0))) := bK aa rfl
  have BS : yf (((((w11.setCell ⟨ae,0,none⟩ (.int .i64 ((yh l1 yP).f0))).setCell ⟨ae,1,none⟩ (.int .i64 ((yh l1 yP).f1))).setCell ⟨ae,2,none⟩ (.int .i64 ((yh l1 yP).f2.f0))).setCell ⟨ae,3,none⟩ (.int .i64 ((yh l1 yP).f2.f1))).heap[ae]? = some (.cells #[.int .i64 ((yh l1 yP).f0),.int .i64 ((yh l1 yP).f1),.int .i64 ((yh l1 yP).f2.f0),.int .i64 ((yh l1 yP).f2.f1)] 60 (0,0))) := bK af rfl
  have Ce : yf (Below w.heap.size w ((((w11.setCell ⟨ae,0,none⟩ (.int .i64 ((yh l1 yP).f0))).setCell ⟨ae,1,none⟩ (.int .i64 ((yh l1 yP).f1))).setCell ⟨ae,2,none⟩ (.int .i64 ((yh l1 yP).f2.f0))).setCell ⟨ae,3,none⟩ (.int .i64 ((yh l1 yP).f2.f1)))) := ⟨bO HB⟩
  clear aa af HB;generalize ((((w11.setCell ⟨ae,0,none⟩ (.int .i64 ((yh l1 yP).f0))).setCell ⟨ae,1,none⟩ (.int .i64 ((yh l1 yP).f1))).setCell ⟨ae,2,none⟩ (.int .i64 ((yh l1 yP).f2.f0))).setCell ⟨ae,3,none⟩ (.int .i64 ((yh l1 yP).f2.f1))) = w31 at BR BS Ce ⊢;have aa := BR;have af := BS;have HB := Ce;clear BR BS Ce;replace aa := yf.mk (zl aa.out);replace af := yf.mk (zl af.out);replace HB := yf.mk (zt HB.out)
  refine Bt (n := 38) (S := fun w' => w'.cell? ⟨aj,0,none⟩ = some (.int .i64 yj) ∧ w'.cell? ⟨aj,1,none⟩ = some (.slice yK yg.length yE) ∧ w'.cell? ⟨aj,2,none⟩ = some (.int .i64 ym) ∧ w'.cell? ⟨aj,3,none⟩ = some (.int .i64 yn) ∧ w'.cell? ⟨ae,0,none⟩ = some (.int .i64 ((yh l1 yP).f0)) ∧ w'.cell? ⟨ae,1,none⟩ = some (.int .i64 ((yh l1 yP).f1)) ∧ w'.cell? ⟨ae,2,none⟩ = some (.int .i64 ((yh l1 yP).f2.f0)) ∧ w'.cell? ⟨ae,3,none⟩ = some (.int .i64 ((yh l1 yP).f2.f1))) (ds := []) (bz 38 0) (by kernel_rfl) rfl rfl (MZ aa (AO af)) (fun hHeld => ?_);refine Ab yl.PX yl.Ke (fun yJ Bv => ?_)
  generalize w31.drew = w32 at aa af HB hHeld ⊢;refine pU 1 26 38 2 yJ ?_;refine pU 3 28 38 10 yJ ?_
  refine Co 0 25 38 11 yJ Bv hHeld ?_
  refine Co 2 27 38 15 yJ Bv hHeld ?_
  refine Co 4 29 38 31 yJ Bv hHeld ?_
  refine CB (i := 5) (N := some 30) (bz 38 63) rfl rfl (Ar yJ.out (by kernel_rfl)) (by decide) (fun K hK => ?_)
  refine gO Tryz.func47 #[.agg #[.int .i64 yj,.slice yK yg.length yE,.int .i64 ym,.int .i64 yn],.int .i64 ((yh l1 yP).f0),.int .i64 ((yh l1 yP).f1)] ?_
  with_reducible refine (BD.calls yj _ _ yg ym yn ((yh l1 yP).f0) ((yh l1 yP).f1) true _ ?yB ?yC aX.out).mono ?_
  (case yB => exact CU zk)
  (case yC => exact zq.out)
  rintro e w33 ⟨rfl,hb⟩
  refine ⟨_,rfl,?_⟩
  replace aa := bB aa hb;replace af := bB af hb;replace HB := bS HB hb;clear hb
  refine hK.out _ _ (MZ aa (AO af)) (fun hHeld => ?_)
  clear hK K
  refine AU (a' := ?_) ?_ ?_
  rotate_left
  ·
   show Act.put _ (some 30) _ = _
   simp only [pz]
   rfl
  refine pU 6 31 38 127 yJ ?_;refine pU 7 32 38 255 yJ ?_;refine pU 8 33 38 511 yJ ?_;refine pU 9 34 38 1023 yJ ?_
  refine Co 10 35 38 2047 yJ Bv hHeld ?_
  refine pU 11 36 38 4095 yJ ?_;refine pU 12 37 38 8191 yJ ?_;refine pU 13 38 38 16383 yJ ?_;refine pU 14 39 38 32767 yJ ?_;refine pU 15 40 38 65535 yJ ?_;refine pU 17 42 38 196607 yJ ?_;refine pU 18 43 38 458751 yJ ?_
  refine Co 16 41 38 524287 yJ Bv hHeld ?_
  refine Co 19 44 38 1048575 yJ Bv hHeld ?_
  refine pU 20 45 38 2097151 yJ ?_;refine pU 21 46 38 4194303 yJ ?_;refine pU 22 47 38 8388607 yJ ?_;refine pU 23 48 38 16777215 yJ ?_;refine pU 24 49 38 33554431 yJ ?_
  refine Co 25 50 38 67108863 yJ Bv hHeld ?_
  refine Co 26 51 38 134217727 yJ Bv hHeld ?_
  refine CB (i := 27) (N := some 52) (bz 38 268435455) rfl rfl (Ar yJ.out (by kernel_rfl)) (by decide) (fun K hK => ?_)
  refine gO Tryz.func31 #[.agg #[.int .i64 yj,.slice yK yg.length yE,.int .i64 ym,.int .i64 yn]] ?_
  with_reducible refine (AY.calls yj _ _ yg ym yn Y2 _ ?yB ?yC A24.out).mono ?_
  (case yB => exact CU zk)
  (case yC => exact zq.out)
  rintro e w34 ⟨rfl,hb⟩
  refine ⟨_,rfl,?_⟩
  replace aa := bB aa hb;replace af := bB af hb;replace HB := bS HB hb;clear hb
  refine hK.out _ _ (MZ aa (AO af)) (fun hHeld => ?_)
  clear hK K
  refine AU (a' := ?_) ?_ ?_
  rotate_left
  ·
   show Act.put _ (some 52) _ = _
   simp only [pz]
   rfl
  refine pU 28 53 38 536870911 yJ ?_;refine pU 29 54 38 1073741823 yJ ?_;refine pU 30 55 38 2147483647 yJ ?_;refine pU 31 56 38 4294967295 yJ ?_;refine pU 32 57 38 8589934591 yJ ?_
  refine Co 33 58 38 17179869183 yJ Bv hHeld ?_
  refine Co 34 59 38 34359738367 yJ Bv hHeld ?_
  refine CB (i := 35) (N := some 60) (bz 38 68719476735) rfl rfl (Ar yJ.out (by kernel_rfl)) (by decide) (fun K hK => ?_)
  refine gO Tryz.func32 #[.agg #[.int .i64 yj,.slice yK yg.length yE,.int .i64 ym,.int .i64 yn]] ?_
  with_reducible refine (Ca.calls yj _ _ yg ym yn Zv _ ?yB ?yC ZA.out).mono ?_
  (case yB => exact CU zk)
  (case yC => exact zq.out)
  rintro e w35 ⟨rfl,hb⟩
  refine ⟨_,rfl,?_⟩
  replace aa := bB aa hb;replace af := bB af hb;replace HB := bS HB hb;clear hb
  refine hK.out _ _ (MZ aa (AO af)) (fun hHeld => ?_)
  clear hK K
  refine AU (a' := ?_) ?_ ?_
  rotate_left
  ·
   show Act.put _ (some 60) _ = _
   simp only [pz]
   rfl
  refine pU 36 61 38 137438953471 yJ ?_;refine pU 37 62 38 274877906943 yJ ?_
  refine Cn (AZ yJ.out (by kernel_rfl)) ?_
  try go_wp2
  go_meet
  case rel => exact ⟨_,(decide (((yh l1 yP).f2.f1) ≥ Zv)),(by rfl),H',⟨by have := Bn.out;omega⟩,⟨kk aa⟩,⟨kk af⟩,⟨bO HB⟩⟩
 case rest =>
 clear RG;obtain ⟨kq,bM,rfl,HA,Yz,aa,af,HB⟩ := hcut
 cases kq with
 | zero => exact absurd HA.out (by simp [yl.j1])
 | succ Mr =>
  have H := HA.out;clear HA;simp only [yl.j1] at H
  by_cases Il : bM = true
  ·
   subst Il;rw [if_pos rfl] at H;obtain rfl := Option.some.inj H
   go_wp2
   go_ret
   exact ⟨by rfl,bO HB⟩
  ·
   replace Il := Bool.eq_false_iff.mpr Il;subst Il
   rw [if_neg (show ¬ (false = true) by decide)] at H
   have bP := yf.mk H;clear H
   go_upto_region 9 with (fail)
   go_cut [97] (fun v97 wc => ∃ (kq : Nat) (bN : Bool),v97 = .bool bN ∧ yf (yl.j2 kq l1 yP bN yj yg ym yn ((yh l1 yP).f0) ((yh l1 yP).f1) ((yh l1 yP).f2.f0) ((yh l1 yP).f2.f1) = some r) ∧ yf (kq ≤ Mr) ∧ yf (wc.heap[aj]? = some (.cells #[.int .i64 yj,(.slice yK yg.length yE),.int .i64 ym,.int .i64 yn] 29 (0,0))) ∧ yf (wc.heap[ae]? = some (.cells #[.int .i64 ((yh l1 yP).f0),.int .i64 ((yh l1 yP).f1),.int .i64 ((yh l1 yP).f2.f0),.int .i64 ((yh l1 yP).f2.f1)] 60 (0,0))) ∧ yf (Below w.heap.size w wc))
   case first =>
    have H := bP.out;clear bP
    by_cases Jy : yP > 0
    ·
     rw [if_pos Jy] at H;have TB := decide_eq_true Jy;clear Jy
     (skip)
     obtain ⟨ag,dz⟩ : ∃ j_ : Int,(wrap64 (yP - 1)) = j_ := ⟨_,rfl⟩
     replace H : (if 0 ≤ (ag) then (if (ag) < (l1.length : Int) then (if ((yh l1 (ag)).f0) > ((yh l1 yP).f0) then (yl.j2 Mr l1 yP true yj yg ym yn ((yh l1 yP).f0) ((yh l1 yP).f1) ((yh l1 yP).f2.f0) ((yh l1 yP).f2.f1)) else (if ((yh l1 (ag)).f0) = ((yh l1 yP).f0) then (yl.j2 Mr l1 yP (decide (((yh l1 (ag)).f1) ≥ ((yh l1 yP).f1))) yj yg ym yn ((yh l1 yP).f0) ((yh l1 yP).f1) ((yh l1 yP).f2.f0) ((yh l1 yP).f2.f1)) else (yl.j2 Mr l1 yP false yj yg ym yn ((yh l1 yP).f0) ((yh l1 yP).f1) ((yh l1 yP).f2.f0) ((yh l1 yP).f2.f1)))) else (none)) else (none)) = some r := by (rw [dz] at H;exact H)
     have hji42w : (IntKind.i64.wrap (yP - 1)) = ag := (i64_w _).trans dz
     by_cases Rq : 0 ≤ (ag)
     ·
      rw [if_pos Rq] at H;have VY := decide_eq_true Rq;clear Rq
      by_cases LH : (ag) < (l1.length : Int)
      ·
       rw [if_pos LH] at H;have TC := decide_eq_true LH;clear LH
       by_cases LJ : ((yh l1 (ag)).f0) > ((yh l1 yP).f0)
       ·
        rw [if_pos LJ] at H;have TD := decide_eq_true LJ;clear LJ;have H' := yf.mk H;clear H
        try go_wp2
        replace aa := yf.mk (zl aa.out);replace af := yf.mk (zl af.out);replace HB := yf.mk (zt HB.out)
        have az : 0 ≤ ((ag) : Int) := of_decide_eq_true ‹_›
        have aA : (ag) < (l1.length : Int) := of_decide_eq_true ‹_›
        obtain ⟨aY,aZ,au,av,ax,ay⟩ := Ck HR1.out (ag) az aA;have bq := ay;have bn := ax;have bi := av;have bg := au;obtain rfl : ah = aY := (by injection aZ);replace au := cB HB au;replace av := cB HB av;replace ax := cB HB ax;replace ay := cB HB ay;replace az := eq_true az;replace aA := eq_true aA
        refine Bt (n := 35) (S := fun w' => w'.cell? ⟨ae,0,none⟩ = some (.int .i64 ((yh l1 yP).f0)) ∧ w'.cell? ⟨ae,1,none⟩ = some (.int .i64 ((yh l1 yP).f1)) ∧ w'.cell? ⟨ae,2,none⟩ = some (.int .i64 ((yh l1 yP).f2.f0)) ∧ w'.cell? ⟨ae,3,none⟩ = some (.int .i64 ((yh l1 yP).f2.f1)) ∧ w'.cell? (ah.add (((ag)).toNat * 4)) = some (.int .i64 ((yh l1 (ag)).f0)) ∧ w'.cell? ⟨(ah.add (((ag)).toNat * 4)).block,(ah.add (((ag)).toNat * 4)).off + 1,none⟩ = some (.int .i64 ((yh l1 (ag)).f1)) ∧ w'.cell? ⟨(ah.add (((ag)).toNat * 4)).block,(ah.add (((ag)).toNat * 4)).off + 2,none⟩ = some (.int .i64 ((yh l1 (ag)).f2.f0)) ∧ w'.cell? ⟨(ah.add (((ag)).toNat * 4)).block,(ah.add (((ag)).toNat * 4)).off + 3,none⟩ = some (.int .i64 ((yh l1 (ag)).f2.f1))) (ds := []) (bz 35 0) (by kernel_rfl) rfl rfl ⟨(yx af.out 0).trans rfl,(yx af.out 1).trans rfl,(yx af.out 2).trans rfl,(yx af.out 3).trans rfl,(cB HB bg),(cB HB bi),(cB HB bn),(cB HB bq)⟩ (fun hHeld => ?_);refine Ab yl.Ri yl.LD (fun yJ Bv => ?_)
        generalize wc.drew = w46 at aa af HB au av ax ay hHeld ⊢;refine pU 0 63 35 1 yJ ?_;refine pU 1 64 35 3 yJ ?_;refine pU 2 65 35 7 yJ ?_;refine pU 3 66 35 15 yJ ?_;refine pU 4 67 35 31 yJ ?_;refine pU 5 68 35 63 yJ ?_;refine pU 6 69 35 127 yJ ?_;refine pU 7 70 35 255 yJ ?_;refine pU 9 72 35 767 yJ ?_
        refine Co 8 71 35 1023 yJ Bv hHeld ?_
        refine Co 10 73 35 2047 yJ Bv hHeld ?_
        refine pU 11 74 35 4095 yJ ?_;refine pU 12 75 35 8191 yJ ?_;refine pN 13 76 35 16383 yJ ?_;refine pN 14 77 35 32767 yJ ?_;refine pN 15 78 35 65535 yJ ?_;refine pN 16 79 35 131071 yJ ?_;refine pN 17 80 35 262143 yJ ?_;refine pN 18 81 35 524287 yJ ?_;refine pN 19 82 35 1048575 yJ ?_;refine pN 20 83 35 2097151 yJ ?_;refine pN 21 84 35 4194303 yJ ?_;refine pN 22 85 35 8388607 yJ ?_;refine pN 23 86 35 16777215 yJ ?_;refine pN 24 87 35 33554431 yJ ?_;refine pN 25 88 35 67108863 yJ ?_;refine pN 26 89 35 134217727 yJ ?_;refine pN 27 90 35 268435455 yJ ?_;refine pN 28 91 35 536870911 yJ ?_;refine pN 29 92 35 1073741823 yJ ?_;refine pN 30 93 35 2147483647 yJ ?_;refine pN 31 94 35 4294967295 yJ ?_;refine pN 32 95 35 8589934591 yJ ?_;refine pU 33 96 35 17179869183 yJ ?_;refine pU 34 97 35 34359738367 yJ ?_
        refine Cn (AZ yJ.out (by kernel_rfl)) ?_
        try go_wp2
        go_meet
        case rel => exact ⟨_,(true),(by rfl),H',⟨by have := Bn.out;have := Yz.out;omega⟩,⟨kk aa⟩,⟨kk af⟩,⟨bO HB⟩⟩
       ·
        rw [if_neg LJ] at H;have TD := decide_eq_false LJ;clear LJ
        by_cases IR : ((yh l1 (ag)).f0) = ((yh l1 yP).f0)
        ·
         rw [if_pos IR] at H;have Km := beq_iff_eq.mpr IR
         have dM : (((yh l1 (ag)).f0) != ((yh l1 yP).f0)) = false := bne_eq_false_iff_eq.mpr IR
         clear IR;have H' := yf.mk H;clear H
         try go_wp2
         replace aa := yf.mk (zl aa.out);replace af := yf.mk (zl af.out);replace HB := yf.mk (zt HB.out)
         have az : 0 ≤ ((ag) : Int) := of_decide_eq_true ‹_›
         have aA : (ag) < (l1.length : Int) := of_decide_eq_true ‹_›
         obtain ⟨aY,aZ,au,av,ax,ay⟩ := Ck HR1.out (ag) az aA;have bq := ay;have bn := ax;have bi := av;have bg := au;obtain rfl : ah = aY := (by injection aZ);replace au := cB HB au;replace av := cB HB av;replace ax := cB HB ax;replace ay := cB HB ay;replace az := eq_true az;replace aA := eq_true aA
         have aT : 0 ≤ ((ag) : Int) := of_decide_eq_true ‹_›
         have aV : (ag) < (l1.length : Int) := of_decide_eq_true ‹_›
         obtain ⟨bQ,bT,aD,aG,aH,aI⟩ := Ck HR1.out (ag) aT aV;have bY := aI;have bX := aH;have bW := aG;have bV := aD;obtain rfl : ah = bQ := (by injection bT);replace aD := cB HB aD;replace aG := cB HB aG;replace aH := cB HB aH;replace aI := cB HB aI;replace aT := eq_true aT;replace aV := eq_true aV
         have di : 0 ≤ ((ag) : Int) := of_decide_eq_true ‹_›
         have dn : (ag) < (l1.length : Int) := of_decide_eq_true ‹_›
         obtain ⟨dL,dR,bA,bC,bD,bF⟩ := Ck HR1.out (ag) di dn;have dX := bF;have dW := bD;have dV := bC;have dU := bA;obtain rfl : ah = dL := (by injection dR);replace bA := cB HB bA;replace bC := cB HB bC;replace bD := cB HB bD;replace bF := cB HB bF;replace di := eq_true di;replace dn := eq_true dn
         refine Bt (n := 35) (S := fun w' => w'.cell? ⟨ae,0,none⟩ = some (.int .i64 ((yh l1 yP).f0)) ∧ w'.cell? ⟨ae,1,none⟩ = some (.int .i64 ((yh l1 yP).f1)) ∧ w'.cell? ⟨ae,2,none⟩ = some (.int .i64 ((yh l1 yP).f2.f0)) ∧ w'.cell? ⟨ae,3,none⟩ = some (.int .i64 ((yh l1 yP).f2.f1)) ∧ w'.cell? (ah.add (((ag)).toNat * 4)) = some (.int .i64 ((yh l1 (ag)).f0)) ∧ w'.cell? ⟨(ah.add (((ag)).toNat * 4)).block,(ah.add (((ag)).toNat * 4)).off + 1,none⟩ = some (.int .i64 ((yh l1 (ag)).f1)) ∧ w'.cell? ⟨(ah.add (((ag)).toNat * 4)).block,(ah.add (((ag)).toNat * 4)).off + 2,none⟩ = some (.int .i64 ((yh l1 (ag)).f2.f0)) ∧ w'.cell? ⟨(ah.add (((ag)).toNat * 4)).block,(ah.add (((ag)).toNat * 4)).off + 3,none⟩ = some (.int .i64 ((yh l1 (ag)).f2.f1)) ∧ w'.cell? (ah.add (((ag)).toNat * 4)) = some (.int .i64 ((yh l1 (ag)).f0)) ∧ w'.cell? ⟨(ah.add (((ag)).toNat * 4)).block,(ah.add (((ag)).toNat * 4)).off + 1,none⟩ = some (.int .i64 ((yh l1 (ag)).f1)) ∧ w'.cell? ⟨(ah.add (((ag)).toNat * 4)).block,(ah.add (((ag)).toNat * 4)).off + 2,none⟩ = some (.int .i64 ((yh l1 (ag)).f2.f0)) ∧ w'.cell? ⟨(ah.add (((ag)).toNat * 4)).block,(ah.add (((ag)).toNat * 4)).off + 3,none⟩ = some (.int .i64 ((yh l1 (ag)).f2.f1)) ∧ w'.cell? (ah.add (((ag)).toNat * 4)) = some (.int .i64 ((yh l1 (ag)).f0)) ∧ w'.cell? ⟨(ah.add (((ag)).toNat * 4)).block,(ah.add (((ag)).toNat * 4)).off + 1,none⟩ = some (.int .i64 ((yh l1 (ag)).f1)) ∧ w'.cell? ⟨(ah.add (((ag)).toNat * 4)).block,(ah.add (((ag)).toNat * 4)).off + 2,none⟩ = some (.int .i64 ((yh l1 (ag)).f2.f0)) ∧ w'.cell? ⟨(ah.add (((ag)).toNat * 4)).block,(ah.add (((ag)).toNat * 4)).off + 3,none⟩ = some (.int .i64 ((yh l1 (ag)).f2.f1))) (ds := []) (bz 35 0) (by kernel_rfl) rfl rfl ⟨(yx af.out 0).trans rfl,(yx af.out 1).trans rfl,(yx af.out 2).trans rfl,(yx af.out 3).trans rfl,(cB HB bg),(cB HB bi),(cB HB bn),(cB HB bq),(cB HB bV),(cB HB bW),(cB HB bX),(cB HB bY),(cB HB dU),(cB HB dV),(cB HB dW),(cB HB dX)⟩ (fun hHeld => ?_);refine Ab yl.Ri yl.LD (fun yJ Bv => ?_)
         generalize wc.drew = w48 at aa af HB au av ax ay aD aG aH aI bA bC bD bF hHeld ⊢;refine pU 0 63 35 1 yJ ?_;refine pU 1 64 35 3 yJ ?_;refine pU 2 65 35 7 yJ ?_;refine pU 3 66 35 15 yJ ?_;refine pU 4 67 35 31 yJ ?_;refine pU 5 68 35 63 yJ ?_;refine pU 6 69 35 127 yJ ?_;refine pU 7 70 35 255 yJ ?_;refine pU 9 72 35 767 yJ ?_
         refine Co 8 71 35 1023 yJ Bv hHeld ?_
         refine Co 10 73 35 2047 yJ Bv hHeld ?_
         refine pU 11 74 35 4095 yJ ?_;refine pU 12 75 35 8191 yJ ?_;refine pU 13 76 35 16383 yJ ?_;refine pU 14 77 35 32767 yJ ?_;refine pU 15 78 35 65535 yJ ?_;refine pU 16 79 35 131071 yJ ?_;refine pU 17 80 35 262143 yJ ?_;refine pU 19 82 35 786431 yJ ?_
         refine Co 18 81 35 1048575 yJ Bv hHeld ?_
         refine Co 20 83 35 2097151 yJ Bv hHeld ?_
         refine pU 21 84 35 4194303 yJ ?_;refine pU 22 85 35 8388607 yJ ?_;refine pU 23 86 35 16777215 yJ ?_;refine pU 24 87 35 33554431 yJ ?_;refine pU 25 88 35 67108863 yJ ?_;refine pU 26 89 35 134217727 yJ ?_;refine pU 27 90 35 268435455 yJ ?_;refine pU 29 92 35 805306367 yJ ?_
         refine Co 28 91 35 1073741823 yJ Bv hHeld ?_
         refine Co 30 93 35 2147483647 yJ Bv hHeld ?_
         refine pU 31 94 35 4294967295 yJ ?_;refine pU 32 95 35 8589934591 yJ ?_;refine pU 33 96 35 17179869183 yJ ?_;refine pU 34 97 35 34359738367 yJ ?_
         refine Cn (AZ yJ.out (by kernel_rfl)) ?_
         try go_wp2
         go_meet
         case rel => exact ⟨_,(decide (((yh l1 (ag)).f1) ≥ ((yh l1 yP).f1))),(by rfl),H',⟨by have := Bn.out;have := Yz.out;omega⟩,⟨kk aa⟩,⟨kk af⟩,⟨bO HB⟩⟩
        ·
         rw [if_neg IR] at H;have Km := beq_eq_false_iff_ne.mpr IR;have dM := bne_iff_ne.mpr IR;have H' := yf.mk H;clear H
         try go_wp2
         replace aa := yf.mk (zl aa.out);replace af := yf.mk (zl af.out);replace HB := yf.mk (zt HB.out)
         have az : 0 ≤ ((ag) : Int) := of_decide_eq_true ‹_›
         have aA : (ag) < (l1.length : Int) := of_decide_eq_true ‹_›
         obtain ⟨aY,aZ,au,av,ax,ay⟩ := Ck HR1.out (ag) az aA;have bq := ay;have bn := ax;have bi := av;have bg := au;obtain rfl : ah = aY := (by injection aZ);replace au := cB HB au;replace av := cB HB av;replace ax := cB HB ax;replace ay := cB HB ay;replace az := eq_true az;replace aA := eq_true aA
         have aT : 0 ≤ ((ag) : Int) := of_decide_eq_true ‹_›
         have aV : (ag) < (l1.length : Int) := of_decide_eq_true ‹_›
         obtain ⟨bQ,bT,aD,aG,aH,aI⟩ := Ck HR1.out (ag) aT aV;have bY := aI;have bX := aH;have bW := aG;have bV := aD;obtain rfl : ah = bQ := (by injection bT);replace aD := cB HB aD;replace aG := cB HB aG;replace aH := cB HB aH;replace aI := cB HB aI;replace aT := eq_true aT;replace aV := eq_true aV
         refine Bt (n := 35) (S := fun w' => w'.cell? ⟨ae,0,none⟩ = some (.int .i64 ((yh l1 yP).f0)) ∧ w'.cell? ⟨ae,1,none⟩ = some (.int .i64 ((yh l1 yP).f1)) ∧ w'.cell? ⟨ae,2,none⟩ = some (.int .i64 ((yh l1 yP).f2.f0)) ∧ w'.cell? ⟨ae,3,none⟩ = some (.int .i64 ((yh l1 yP).f2.f1)) ∧ w'.cell? (ah.add (((ag)).toNat * 4)) = some (.int .i64 ((yh l1 (ag)).f0)) ∧ w'.cell? ⟨(ah.add (((ag)).toNat * 4)).block,(ah.add (((ag)).toNat * 4)).off + 1,none⟩ = some (.int .i64 ((yh l1 (ag)).f1)) ∧ w'.cell? ⟨(ah.add (((ag)).toNat * 4)).block,(ah.add (((ag)).toNat * 4)).off + 2,none⟩ = some (.int .i64 ((yh l1 (ag)).f2.f0)) ∧ w'.cell? ⟨(ah.add (((ag)).toNat * 4)).block,(ah.add (((ag)).toNat * 4)).off + 3,none⟩ = some (.int .i64 ((yh l1 (ag)).f2.f1)) ∧ w'.cell? (ah.add (((ag)).toNat * 4)) = some (.int .i64 ((yh l1 (ag)).f0)) ∧ w'.cell? ⟨(ah.add (((ag)).toNat * 4)).block,(ah.add (((ag)).toNat * 4)).off + 1,none⟩ = some (.int .i64 ((yh l1 (ag)).f1)) ∧ w'.cell? ⟨(ah.add (((ag)).toNat * 4)).block,(ah.add (((ag)).toNat * 4)).off + 2,none⟩ = some (.int .i64 ((yh l1 (ag)).f2.f0)) ∧ w'.cell? ⟨(ah.add (((ag)).toNat * 4)).block,(ah.add (((ag)).toNat * 4)).off + 3,none⟩ = some (.int .i64 ((yh l1 (ag)).f2.f1))) (ds := []) (bz 35 0) (by kernel_rfl) rfl rfl ⟨(yx af.out 0).trans rfl,(yx af.out 1).trans rfl,(yx af.out 2).trans rfl,(yx af.out 3).trans rfl,(cB HB bg),(cB HB bi),(cB HB bn),(cB HB bq),(cB HB bV),(cB HB bW),(cB HB bX),(cB HB bY)⟩ (fun hHeld => ?_);refine Ab yl.Ri yl.LD (fun yJ Bv => ?_)
         generalize wc.drew = w49 at aa af HB au av ax ay aD aG aH aI hHeld ⊢;refine pU 0 63 35 1 yJ ?_;refine pU 1 64 35 3 yJ ?_;refine pU 2 65 35 7 yJ ?_;refine pU 3 66 35 15 yJ ?_;refine pU 4 67 35 31 yJ ?_;refine pU 5 68 35 63 yJ ?_;refine pU 6 69 35 127 yJ ?_;refine pU 7 70 35 255 yJ ?_;refine pU 9 72 35 767 yJ ?_
         refine Co 8 71 35 1023 yJ Bv hHeld ?_
         refine Co 10 73 35 2047 yJ Bv hHeld ?_
         refine pU 11 74 35 4095 yJ ?_;refine pU 12 75 35 8191 yJ ?_;refine pU 13 76 35 16383 yJ ?_;refine pU 14 77 35 32767 yJ ?_;refine pU 15 78 35 65535 yJ ?_;refine pU 16 79 35 131071 yJ ?_;refine pU 17 80 35 262143 yJ ?_;refine pU 19 82 35 786431 yJ ?_
         refine Co 18 81 35 1048575 yJ Bv hHeld ?_
         refine Co 20 83 35 2097151 yJ Bv hHeld ?_
         refine pU 21 84 35 4194303 yJ ?_;refine pU 22 85 35 8388607 yJ ?_;refine pN 23 86 35 16777215 yJ ?_;refine pN 24 87 35 33554431 yJ ?_;refine pN 25 88 35 67108863 yJ ?_;refine pN 26 89 35 134217727 yJ ?_;refine pN 27 90 35 268435455 yJ ?_;refine pN 28 91 35 536870911 yJ ?_;refine pN 29 92 35 1073741823 yJ ?_;refine pN 30 93 35 2147483647 yJ ?_;refine pN 31 94 35 4294967295 yJ ?_;refine pU 32 95 35 8589934591 yJ ?_;refine pU 33 96 35 17179869183 yJ ?_;refine pU 34 97 35 34359738367 yJ ?_
         refine Cn (AZ yJ.out (by kernel_rfl)) ?_
         try go_wp2
         go_meet
         case rel => exact ⟨_,(false),(by rfl),H',⟨by have := Bn.out;have := Yz.out;omega⟩,⟨kk aa⟩,⟨kk af⟩,⟨bO HB⟩⟩
      ·
       rw [if_neg LH] at H;exact absurd H (by simp)
     ·
      rw [if_neg Rq] at H;exact absurd H (by simp)
    ·
     rw [if_neg Jy] at H;have TB := decide_eq_false Jy;clear Jy
     (skip)
     have H' := yf.mk H;clear H
     try go_wp2
     replace aa := yf.mk (zl aa.out);replace af := yf.mk (zl af.out);replace HB := yf.mk (zt HB.out)
     refine Bt (n := 35) (S := fun w' => True) (ds := []) (bz 35 0) (by kernel_rfl) rfl rfl trivial (fun hHeld => ?_);refine Ab yl.Ri yl.LD (fun yJ Bv => ?_)
     generalize wc.drew = w50 at aa af HB hHeld ⊢;refine pU 0 63 35 1 yJ ?_;refine pU 1 64 35 3 yJ ?_;refine pU 2 65 35 7 yJ ?_;refine pN 3 66 35 15 yJ ?_;refine pN 4 67 35 31 yJ ?_;refine pN 5 68 35 63 yJ ?_;refine pN 6 69 35 127 yJ ?_;refine pN 7 70 35 255 yJ ?_;refine pN 8 71 35 511 yJ ?_;refine pN 9 72 35 1023 yJ ?_;refine pN 10 73 35 2047 yJ ?_;refine pN 11 74 35 4095 yJ ?_;refine pN 12 75 35 8191 yJ ?_;refine pN 13 76 35 16383 yJ ?_;refine pN 14 77 35 32767 yJ ?_;refine pN 15 78 35 65535 yJ ?_;refine pN 16 79 35 131071 yJ ?_;refine pN 17 80 35 262143 yJ ?_;refine pN 18 81 35 524287 yJ ?_;refine pN 19 82 35 1048575 yJ ?_;refine pN 20 83 35 2097151 yJ ?_;refine pN 21 84 35 4194303 yJ ?_;refine pN 22 85 35 8388607 yJ ?_;refine pN 23 86 35 16777215 yJ ?_;refine pN 24 87 35 33554431 yJ ?_;refine pN 25 88 35 67108863 yJ ?_;refine pN 26 89 35 134217727 yJ ?_;refine pN 27 90 35 268435455 yJ ?_;refine pN 28 91 35 536870911 yJ ?_;refine pN 29 92 35 1073741823 yJ ?_;refine pN 30 93 35 2147483647 yJ ?_;refine pN 31 94 35 4294967295 yJ ?_;refine pN 32 95 35 8589934591 yJ ?_;refine pN 33 96 35 17179869183 yJ ?_;refine pU 34 97 35 34359738367 yJ ?_
     refine Cn (AZ yJ.out (by kernel_rfl)) ?_
     try go_wp2
     go_meet
     case rel => exact ⟨_,(false),(by rfl),H',⟨by have := Bn.out;have := Yz.out;omega⟩,⟨kk aa⟩,⟨kk af⟩,⟨bO HB⟩⟩
   case rest =>
    clear bP;obtain ⟨kq,bN,rfl,HA,bu,aa,af,HB⟩ := hcut
    cases kq with
    | zero => exact absurd HA.out (by simp [yl.j2])
    | succ dE =>
     have H := HA.out;clear HA;simp only [yl.j2] at H
     by_cases c51 : bN = true
     ·
      subst c51;rw [if_pos rfl] at H;obtain rfl := Option.some.inj H
      go_wp2
      go_ret
      exact ⟨by rfl,bO HB⟩
     ·
      replace c51 := Bool.eq_false_iff.mpr c51;subst c51
      rw [if_neg (show ¬ (false = true) by decide)] at H
      have H' := yf.mk H;clear H
      go_wp2
      go_loopg [7] dE (fun kq v7 w' => ∃ (ai : Int),v7 = .int .i64 ai ∧ yf (yl.l1 kq l1 yP ai yj yg ym yn ((yh l1 yP).f0) ((yh l1 yP).f1) ((yh l1 yP).f2.f0) ((yh l1 yP).f2.f1) = some r) ∧ yf (kq ≤ dE) ∧ yf (w'.heap[aj]? = some (.cells #[.int .i64 yj,(.slice yK yg.length yE),.int .i64 ym,.int .i64 yn] 29 (0,0))) ∧ yf (w'.heap[ae]? = some (.cells #[.int .i64 ((yh l1 yP).f0),.int .i64 ((yh l1 yP).f1),.int .i64 ((yh l1 yP).f2.f0),.int .i64 ((yh l1 yP).f2.f1)] 60 (0,0))) ∧ yf (Below w.heap.size w w'))
      case atStart => exact ⟨(0),(by rfl),H',⟨Nat.le_refl _⟩,⟨kk aa⟩,⟨kk af⟩,⟨bO HB⟩⟩
      case round =>
       clear H';obtain ⟨ai,rfl,HA,Lv,aa,af,HB⟩ := hrel
       cases gk with
       | zero => exact absurd HA.out (by simp [yl.l1])
       | succ k4 =>
        have H := HA.out;clear HA;simp only [yl.l1] at H
        by_cases Rs : ai < yP
        ·
         rw [if_pos Rs] at H;have TG := decide_eq_true Rs;clear Rs
         by_cases c53 : 0 ≤ ai
         ·
          rw [if_pos c53] at H;have a3A := decide_eq_true c53;clear c53
          by_cases Mi : ai < (l1.length : Int)
          ·
           rw [if_pos Mi] at H;have Qn := decide_eq_true Mi;clear Mi
           by_cases L8 : (((yh l1 ai).f2.f0) == ((yh l1 yP).f2.f0) && (((yh l1 ai).f2.f1) == ((yh l1 yP).f2.f1))) = true
           ·
            rw [if_pos L8] at H
            have VZ : (((yh l1 ai).f2.f0) == ((yh l1 yP).f2.f0) && (((yh l1 ai).f2.f1) == ((yh l1 yP).f2.f1))) = true := L8
            (try (have ZV : decide (((yh l1 ai).f2.f0) = ((yh l1 yP).f2.f0) && (((yh l1 ai).f2.f1) == ((yh l1 yP).f2.f1))) = true := by simpa using L8))
            (try (have dN : (((yh l1 ai).f2.f0) == ((yh l1 yP).f2.f0) && (((yh l1 ai).f2.f1) == ((yh l1 yP).f2.f1))) = true := by simpa using L8))
            clear L8;obtain rfl := Option.some.inj H
            try go_wp2
            replace aa := yf.mk (zl aa.out);replace af := yf.mk (zl af.out);replace HB := yf.mk (zt HB.out)
            have aU : 0 ≤ (ai : Int) := of_decide_eq_true ‹_›
            have aW : ai < (l1.length : Int) := of_decide_eq_true ‹_›
            obtain ⟨bR,bU,aJ,aK,aM,aN⟩ := Ck HR1.out ai aU aW;have cK := aN;have cz := aM;have cu := aK;have bZ := aJ;obtain rfl : ah = bR := (by injection bU);replace aJ := cB HB aJ;replace aK := cB HB aK;replace aM := cB HB aM;replace aN := cB HB aN;replace aU := eq_true aU;replace aW := eq_true aW
            refine Bt (n := 8) (S := fun w' => w'.cell? ⟨ae,0,none⟩ = some (.int .i64 ((yh l1 yP).f0)) ∧ w'.cell? ⟨ae,1,none⟩ = some (.int .i64 ((yh l1 yP).f1)) ∧ w'.cell? ⟨ae,2,none⟩ = some (.int .i64 ((yh l1 yP).f2.f0)) ∧ w'.cell? ⟨ae,3,none⟩ = some (.int .i64 ((yh l1 yP).f2.f1)) ∧ w'.cell? (ah.add ((ai).toNat * 4)) = some (.int .i64 ((yh l1 ai).f0)) ∧ w'.cell? ⟨(ah.add ((ai).toNat * 4)).block,(ah.add ((ai).toNat * 4)).off + 1,none⟩ = some (.int .i64 ((yh l1 ai).f1)) ∧ w'.cell? ⟨(ah.add ((ai).toNat * 4)).block,(ah.add ((ai).toNat * 4)).off + 2,none⟩ = some (.int .i64 ((yh l1 ai).f2.f0)) ∧ w'.cell? ⟨(ah.add ((ai).toNat * 4)).block,(ah.add ((ai).toNat * 4)).off + 3,none⟩ = some (.int .i64 ((yh l1 ai).f2.f1))) (ds := []) (bz 8 0) (by kernel_rfl) rfl rfl ⟨(yx af.out 0).trans rfl,(yx af.out 1).trans rfl,(yx af.out 2).trans rfl,(yx af.out 3).trans rfl,(cB HB bZ),(cB HB cu),(cB HB cz),(cB HB cK)⟩ (fun hHeld => ?_);refine Ab yl.P5 yl.KZ (fun yJ Bv => ?_)
            generalize wr.drew = w56 at aa af HB aJ aK aM aN hHeld ⊢;refine pU 0 103 8 1 yJ ?_;refine pU 1 104 8 3 yJ ?_;refine pU 2 105 8 7 yJ ?_;refine pU 3 106 8 15 yJ ?_;refine pU 5 108 8 47 yJ ?_
            refine Co 4 107 8 63 yJ Bv hHeld ?_
            refine Co 6 109 8 127 yJ Bv hHeld ?_
            refine pU 7 110 8 255 yJ ?_
            refine Cn (AZ yJ.out (by kernel_rfl)) ?_
            try go_wp2
            go_ret
            exact ⟨by rfl,bO HB⟩
           ·
            rw [if_neg L8] at H
            have VZ : (((yh l1 ai).f2.f0) == ((yh l1 yP).f2.f0) && (((yh l1 ai).f2.f1) == ((yh l1 yP).f2.f1))) = false := by simpa using L8
            (try (have ZV : decide (((yh l1 ai).f2.f0) = ((yh l1 yP).f2.f0) && (((yh l1 ai).f2.f1) == ((yh l1 yP).f2.f1))) = false := by simpa using L8))
            (try (have dN : (((yh l1 ai).f2.f0) == ((yh l1 yP).f2.f0) && (((yh l1 ai).f2.f1) == ((yh l1 yP).f2.f1))) = false := by simpa using L8))
            (try (have ed : ¬ (((yh l1 ai).f2.f0) = ((yh l1 yP).f2.f0) && (((yh l1 ai).f2.f1) == ((yh l1 yP).f2.f1))) := by simpa using L8))
            clear L8;have H' := yf.mk H;clear H
            try go_wp2
            replace aa := yf.mk (zl aa.out);replace af := yf.mk (zl af.out);replace HB := yf.mk (zt HB.out)
            have aU : 0 ≤ (ai : Int) := of_decide_eq_true ‹_›
            have aW : ai < (l1.length : Int) := of_decide_eq_true ‹_›
            obtain ⟨bR,bU,aJ,aK,aM,aN⟩ := Ck HR1.out ai aU aW;have cK := aN;have cz := aM;have cu := aK;have bZ := aJ;obtain rfl : ah = bR := (by injection bU);replace aJ := cB HB aJ;replace aK := cB HB aK;replace aM := cB HB aM;replace aN := cB HB aN;replace aU := eq_true aU;replace aW := eq_true aW
            refine Bt (n := 8) (S := fun w' => w'.cell? ⟨ae,0,none⟩ = some (.int .i64 ((yh l1 yP).f0)) ∧ w'.cell? ⟨ae,1,none⟩ = some (.int .i64 ((yh l1 yP).f1)) ∧ w'.cell? ⟨ae,2,none⟩ = some (.int .i64 ((yh l1 yP).f2.f0)) ∧ w'.cell? ⟨ae,3,none⟩ = some (.int .i64 ((yh l1 yP).f2.f1)) ∧ w'.cell? (ah.add ((ai).toNat * 4)) = some (.int .i64 ((yh l1 ai).f0)) ∧ w'.cell? ⟨(ah.add ((ai).toNat * 4)).block,(ah.add ((ai).toNat * 4)).off + 1,none⟩ = some (.int .i64 ((yh l1 ai).f1)) ∧ w'.cell? ⟨(ah.add ((ai).toNat * 4)).block,(ah.add ((ai).toNat * 4)).off + 2,none⟩ = some (.int .i64 ((yh l1 ai).f2.f0)) ∧ w'.cell? ⟨(ah.add ((ai).toNat * 4)).block,(ah.add ((ai).toNat * 4)).off + 3,none⟩ = some (.int .i64 ((yh l1 ai).f2.f1))) (ds := []) (bz 8 0) (by kernel_rfl) rfl rfl ⟨(yx af.out 0).trans rfl,(yx af.out 1).trans rfl,(yx af.out 2).trans rfl,(yx af.out 3).trans rfl,(cB HB bZ),(cB HB cu),(cB HB cz),(cB HB cK)⟩ (fun hHeld => ?_);refine Ab yl.P5 yl.KZ (fun yJ Bv => ?_)
            generalize wr.drew = w57 at aa af HB aJ aK aM aN hHeld ⊢;refine pU 0 103 8 1 yJ ?_;refine pU 1 104 8 3 yJ ?_;refine pU 2 105 8 7 yJ ?_;refine pU 3 106 8 15 yJ ?_;refine pU 5 108 8 47 yJ ?_
            refine Co 4 107 8 63 yJ Bv hHeld ?_
            refine Co 6 109 8 127 yJ Bv hHeld ?_
            refine pU 7 110 8 255 yJ ?_
            refine Cn (AZ yJ.out (by kernel_rfl)) ?_
            try go_wp2
            go_roundg k4
            case measure => have := Bn.out;have := Yz.out;have := bu.out;have := Lv.out;omega
            case rel => exact ⟨(wrap64 (ai + 1)),(by rfl),H',⟨by have := Bn.out;have := Yz.out;have := bu.out;have := Lv.out;omega⟩,⟨kk aa⟩,⟨kk af⟩,⟨bO HB⟩⟩
          ·
           rw [if_neg Mi] at H;exact absurd H (by simp)
         ·
          rw [if_neg c53] at H;exact absurd H (by simp)
        ·
         rw [if_neg Rs] at H;have TG := decide_eq_false Rs;clear Rs;have H' := yf.mk H;clear H
         go_wp2
         go_roundg k4
         case measure => have := Bn.out;have := Yz.out;have := bu.out;have := Lv.out;omega
         case rel => exact ⟨(wrap64 (yP + 1)),(by rfl),H',⟨by have := Bn.out;have := Yz.out;have := bu.out;have := Lv.out;omega⟩,⟨kk aa⟩,⟨bO HB⟩⟩
end Go.Proofs.YtjonnfmoocijlaaGreat.P
