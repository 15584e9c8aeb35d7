/- Texts of a claim, packed. -/
import Derived.Test.YtjonnfmoocijlaaGreatE16
set_option linter.all false
namespace Go.Proofs.YtjonnfmoocijlaaGreat.P
open Go.RowKit Go.Proofs.YtjonnfmoocijlaaGreatKW.PrintWords Go.Proofs.YtjonnfmoocijlaaGreatKW.PrintLast Go.Proofs.YtjonnfmoocijlaaGreatKW.PrintMore
attribute [local go_sem] zN zP Af Ag zz zA zO zQ
def zU.j0 : Nat → Int → Bool → Int → List (List Int) → Int → Int → Option (Bool)
 | 0,_,_,_,_,_,_ => none
 | k + 1,x3,Ry,ag,aa,ae,af => if Ry = true then (some false) else (if 0 < (aa.length : Int) then (if ((yX aa 0).length : Int) ≥ 4 then (if ((yX aa 0).length : Int) ≤ 16 then (if (wrap64 (ae * (aa.length : Int))) ≤ 4096 then (if (wrap64 ((wrap64 (ae * (aa.length : Int))) * (wrap64 (((yX aa 0).length : Int) - 3)))) ≤ 65536 then (some (decide ((wrap64 ((wrap64 (ae * x3)) + af)) ≤ 65536))) else (some false)) else (some false)) else (some false)) else (some false)) else (none))
def zU.f (k : Nat) (yj : Int) (yg : List (List Int)) (ym : Int) (yn : Int) : Option (Bool) := (BP.f yj yg).bind fun I1 => (if I1.2.2 = true then (if ym < 1 then (zU.j0 k I1.1 true yj yg ym yn) else (if ym > 256 then (zU.j0 k I1.1 true yj yg ym yn) else (if yn < 0 then (zU.j0 k I1.1 true yj yg ym yn) else (zU.j0 k I1.1 (decide (yn > 65536)) yj yg ym yn)))) else (zU.j0 k I1.1 true yj yg ym yn))
set_option maxHeartbeats 8000000 in
set_option maxRecDepth 100000 in
theorem zU.calls (k : Nat) (yj : Int) (yK : Option Addr) (yE : Nat) (yg : List (List Int)) (ym : Int) (yn : Int) (r : Bool) (w : World) (zS : Kd.C (Kd.slice 3 (Kd.int .i64)) w yK yg.length yg) (zT : yg.length ≤ yE) (h : zU.f k yj yg ym yn = some r) :
  Calls Tryz.prog 71 #[.agg #[.int .i64 yj,.slice yK yg.length yE,.int .i64 ym,.int .i64 yn]] w fun e w' => e = .returned (.bool r) ∧ Below w.heap.size w w' := by
 have ET := Tryz.underlying29;have UQ := Tryz.underlying27;have zk := yf.mk zS;have zq := yf.mk zT;clear zS zT;have HB := yf.mk (Below.refl w.heap.size w)
 have H : ((BP.f yj yg).bind fun I1 => (if I1.2.2 = true then (if ym < 1 then (zU.j0 k I1.1 true yj yg ym yn) else (if ym > 256 then (zU.j0 k I1.1 true yj yg ym yn) else (if yn < 0 then (zU.j0 k I1.1 true yj yg ym yn) else (zU.j0 k I1.1 (decide (yn > 65536)) yj yg ym yn)))) else (zU.j0 k I1.1 true yj yg ym yn))) = some r := h
 clear h;obtain ⟨⟨aC,aJ,aD⟩,A2,H⟩ := bE H
 try dsimp only at H
 have HC3 := yf.mk H;clear H
 go_enter Tryz.func71,Tryz.ntmps71
 go_upto_region 2 with (first | ((with_reducible refine yG (N := 1) rfl ?_);refine yD rfl (N := 1) rfl (cs := #[.int .i64 yj,.slice yK yg.length yE,.int .i64 ym,.int .i64 yn]) (t := 29) (by go_simp) ?_;intro aI hg w4 yI hb;have aa := yf.mk (yI);have aM := bG (w := w) hg;have aK := bG (w := w) hg;replace HB := bS HB hb;clear hb yI hg;have Z0 := AO aa;have Z6 := bf aa) | ((with_reducible refine yz (f := 59) rfl ?_);refine gL (some 11) Tryz.func59 #[.agg #[.int .i64 yj,.slice yK yg.length yE]] ?_;(with_reducible refine (BP.calls yj _ _ yg aC aJ aD _ ?yB ?yC A2.out).mono ?_);(case yB => exact CU zk);(case yC => exact zq.out);rintro e w6 ⟨rfl,hb⟩;refine ⟨_,rfl,?_⟩;replace aa := bB aa hb;replace HB := bS HB hb;clear hb))
 (try simp only [pz])
 go_cut [36] (fun v36 wc => ∃ (kq : Nat) (aA : Bool),v36 = .bool aA ∧ yf (zU.j0 kq aC aA yj yg ym yn = some r) ∧ yf (kq ≤ k) ∧ yf (wc.heap[aI]? = some (.cells #[.int .i64 yj,(.slice yK yg.length yE),.int .i64 ym,.int .i64 yn] 29 (0,0))) ∧ yf (Below w.heap.size w wc))
 case first =>
  have H := HC3.out;clear HC3
  by_cases c7 : aD = true
  rotate_left
  ·
   replace c7 := Bool.eq_false_iff.mpr c7;subst c7
   rw [if_neg (show ¬ (false = true) by decide)] at H
   have H' := yf.mk H;clear H
   go_wp2
   go_meet
   case rel => exact ⟨_,(true),(by rfl),H',⟨by omega⟩,⟨kk aa⟩,⟨bO HB⟩⟩
  subst c7;rw [if_pos rfl] at H
  by_cases c8 : ym < 1
  ·
   rw [if_pos c8] at H;have GN := decide_eq_true c8;clear c8
   (skip)
   have H' := yf.mk H;clear H;have PD := AO aa;have PE := bf aa
   go_wp2
   go_meet
   case rel => exact ⟨_,(true),(by rfl),H',⟨by omega⟩,⟨kk aa⟩,⟨bO HB⟩⟩
  rw [if_neg c8] at H;have GN := decide_eq_false c8;clear c8
  (skip)
  by_cases c10 : ym > 256
  ·
   rw [if_pos c10] at H;have Fu := decide_eq_true c10;clear c10;have H' := yf.mk H;clear H;have Kt := AO aa;have KA := bf aa
   go_wp2
   go_meet
   case rel => exact ⟨_,(true),(by rfl),H',⟨by omega⟩,⟨kk aa⟩,⟨bO HB⟩⟩
  rw [if_neg c10] at H;have Fu := decide_eq_false c10;clear c10
  by_cases c12 : yn < 0
  ·
   rw [if_pos c12] at H;have Gj := decide_eq_true c12;clear c12;have H' := yf.mk H;clear H;have Nw := AO aa;have ND := bf aa
   go_wp2
   go_meet
   case rel => exact ⟨_,(true),(by rfl),H',⟨by omega⟩,⟨kk aa⟩,⟨bO HB⟩⟩
  rw [if_neg c12] at H;have Gj := decide_eq_false c12;clear c12;have H' := yf.mk H;clear H;have I6 := AO aa;have I7 := bf aa
  go_wp2
  go_meet
  case rel => exact ⟨_,(decide (yn > 65536)),(by rfl),H',⟨by omega⟩,⟨kk aa⟩,⟨bO HB⟩⟩
 case rest =>
 clear HC3 Z0 Z6;obtain ⟨kq,aA,rfl,HA,HJ2,aa,HB⟩ := hcut
 cases kq with
 | zero => exact absurd HA.out (by simp [zU.j0])
 | succ aN =>
  have H := HA.out;clear HA;simp only [zU.j0] at H
  by_cases c15 : aA = true
  ·
   subst c15;rw [if_pos rfl] at H;obtain rfl := Option.some.inj H
   go_wp2
   go_ret
   exact ⟨by rfl,bO HB⟩
  ·
   replace c15 := Bool.eq_false_iff.mpr c15;subst c15
   rw [if_neg (show ¬ (false = true) by decide)] at H
   by_cases c16 : 0 < (yg.length : Int)
   ·
    rw [if_pos c16] at H;have FC := decide_eq_true c16
    have Ty : decide (0 < yg.length) = true := decide_eq_true (by omega)
    clear c16
    by_cases c17 : ((yX yg 0).length : Int) ≥ 4
    ·
     rw [if_pos c17] at H;have Nc := decide_eq_true c17
     have aG : decide (4 ≤ (yX yg 0).length) = true := decide_eq_true (by omega)
     clear c17
     by_cases c18 : ((yX yg 0).length : Int) ≤ 16
     ·
      rw [if_pos c18] at H;have Qh := decide_eq_true c18
      have aH : decide ((yX yg 0).length ≤ 16) = true := decide_eq_true (by omega)
      clear c18
      by_cases c19 : (wrap64 (ym * (yg.length : Int))) ≤ 4096
      ·
       rw [if_pos c19] at H;have Qi := decide_eq_true c19;clear c19
       by_cases c20 : (wrap64 ((wrap64 (ym * (yg.length : Int))) * (wrap64 (((yX yg 0).length : Int) - 3)))) ≤ 65536
       ·
        rw [if_pos c20] at H;have Ki := decide_eq_true c20;clear c20;obtain rfl := Option.some.inj H;have JH := AO aa;have JJ := bf aa
        have af : 0 ≤ (0 : Int) := (by omega)
        have ag : 0 < (yg.length : Int) := of_decide_eq_true ‹_›
        obtain ⟨ax,ak,ay,aj,ae,ai,ah⟩ := Ec zk.out 0 af ag;cases aj
        have az : (0 < yg.length) = True := eq_true (by omega)
        (try rw [show ((0 : Int)).toNat = 0 from rfl] at ae)
        (try rw [Addr.add_zero'] at ae)
        replace ae := cB HB ae;have av := yf.mk ah;have au := yf.mk ai;clear ah ai;replace af := eq_true af;replace ag := eq_true ag
        go_wp2
        go_ret
        exact ⟨by rfl,bO HB⟩
       ·
        rw [if_neg c20] at H;have Ki := decide_eq_false c20;clear c20;obtain rfl := Option.some.inj H;have LQ := AO aa;have LW := bf aa
        have af : 0 ≤ (0 : Int) := (by omega)
        have ag : 0 < (yg.length : Int) := of_decide_eq_true ‹_›
        obtain ⟨ax,ak,ay,aj,ae,ai,ah⟩ := Ec zk.out 0 af ag;cases aj
        have az : (0 < yg.length) = True := eq_true (by omega)
        (try rw [show ((0 : Int)).toNat = 0 from rfl] at ae)
        (try rw [Addr.add_zero'] at ae)
        replace ae := cB HB ae;have av := yf.mk ah;have au := yf.mk ai;clear ah ai;replace af := eq_true af;replace ag := eq_true ag
        go_wp2
        go_ret
        exact ⟨by rfl,bO HB⟩
      ·
       rw [if_neg c19] at H;have Qi := decide_eq_false c19;clear c19;obtain rfl := Option.some.inj H;have a04 := AO aa;have a0h := bf aa
       have af : 0 ≤ (0 : Int) := (by omega)
       have ag : 0 < (yg.length : Int) := of_decide_eq_true ‹_›
       obtain ⟨ax,ak,ay,aj,ae,ai,ah⟩ := Ec zk.out 0 af ag;cases aj
       have az : (0 < yg.length) = True := eq_true (by omega)
       (try rw [show ((0 : Int)).toNat = 0 from rfl] at ae)
       (try rw [Addr.add_zero'] at ae)
       replace ae := cB HB ae;have av := yf.mk ah;have au := yf.mk ai;clear ah ai;replace af := eq_true af;replace ag := eq_true ag
       go_wp2
       go_ret
       exact ⟨by rfl,bO HB⟩
     ·
      rw [if_neg c18] at H;have Qh := decide_eq_false c18
      have aH : decide ((yX yg 0).length ≤ 16) = false := decide_eq_false (by omega)
      clear c18;obtain rfl := Option.some.inj H;have Ny := AO aa;have NE := bf aa
      have af : 0 ≤ (0 : Int) := (by omega)
      have ag : 0 < (yg.length : Int) := of_decide_eq_true ‹_›
      obtain ⟨ax,ak,ay,aj,ae,ai,ah⟩ := Ec zk.out 0 af ag;cases aj
      have az : (0 < yg.length) = True := eq_true (by omega)
      (try rw [show ((0 : Int)).toNat = 0 from rfl] at ae)
      (try rw [Addr.add_zero'] at ae)
      replace ae := cB HB ae;have av := yf.mk ah;have au := yf.mk ai;clear ah ai;replace af := eq_true af;replace ag := eq_true ag
      go_wp2
      go_ret
      exact ⟨by rfl,bO HB⟩
    ·
     rw [if_neg c17] at H;have Nc := decide_eq_false c17
     have aG : decide (4 ≤ (yX yg 0).length) = false := decide_eq_false (by omega)
     clear c17;obtain rfl := Option.some.inj H;have LU := AO aa;have LX := bf aa
     have af : 0 ≤ (0 : Int) := (by omega)
     have ag : 0 < (yg.length : Int) := of_decide_eq_true ‹_›
     obtain ⟨ax,ak,ay,aj,ae,ai,ah⟩ := Ec zk.out 0 af ag;cases aj
     have az : (0 < yg.length) = True := eq_true (by omega)
     (try rw [show ((0 : Int)).toNat = 0 from rfl] at ae)
     (try rw [Addr.add_zero'] at ae)
     replace ae := cB HB ae;have av := yf.mk ah;have au := yf.mk ai;clear ah ai;replace af := eq_true af;replace ag := eq_true ag
     go_wp2
     go_ret
     exact ⟨by rfl,bO HB⟩
   ·
    rw [if_neg c16] at H;exact absurd H (by simp)
def Ao.f (yj : Int) (yg : List (List Int)) (ym : Int) (yn : Int) : Option (Int) := some (wrap64 (ym * (yg.length : Int)))
set_option maxHeartbeats 8000000 in
set_option maxRecDepth 100000 in
theorem Ao.calls (yj : Int) (yK : Option Addr) (yE : Nat) (yg : List (List Int)) (ym : Int) (yn : Int) (r : Int) (w : World) (zS : Kd.C (Kd.slice 3 (Kd.int .i64)) w yK yg.length yg) (zT : yg.length ≤ yE) (h : Ao.f yj yg ym yn = some r) :
  Calls Tryz.prog 13 #[.agg #[.int .i64 yj,.slice yK yg.length yE,.int .i64 ym,.int .i64 yn]] w fun e w' => e = .returned (.int .i64 r) ∧ Below w.heap.size w w' := by
 have ET := Tryz.underlying29;have zk := yf.mk zS;have zq := yf.mk zT;clear zS zT;have HB := yf.mk (Below.refl w.heap.size w)
 have H : (some (wrap64 (ym * (yg.length : Int)))) = some r := h
 clear h;obtain rfl := Option.some.inj H
 go_enter Tryz.func13,Tryz.ntmps13
 go_wp2_with (((with_reducible refine yG (N := 1) rfl ?_);refine yD rfl (N := 1) rfl (cs := #[.int .i64 yj,.slice yK yg.length yE,.int .i64 ym,.int .i64 yn]) (t := 29) (by go_simp) ?_;intro ag hg w2 yI hb;have aa := yf.mk (yI);have af := bG (w := w) hg;have ae := bG (w := w) hg;replace HB := bS HB hb;clear hb yI hg;have a3I := AO aa;have a3W := bf aa))
 go_ret
 exact ⟨by rfl,bO HB⟩
def BD.f (yj : Int) (yg : List (List Int)) (ym : Int) (yn : Int) (a1 : Int) (a2 : Int) : Option (Bool) := if a1 ≥ 0 then ((Ao.f yj yg ym yn).bind fun Rf => (if a1 < Rf then (if a2 ≥ 0 then ((zn.f yj yg ym yn).bind fun Y0 => (some (decide (a2 < Y0)))) else (some false)) else (some false))) else (some false)
set_option maxHeartbeats 8000000 in
set_option maxRecDepth 100000 in
theorem BD.calls (yj : Int) (yK : Option Addr) (yE : Nat) (yg : List (List Int)) (ym : Int) (yn : Int) (a1 : Int) (a2 : Int) (r : Bool) (w : World) (zS : Kd.C (Kd.slice 3 (Kd.int .i64)) w yK yg.length yg) (zT : yg.length ≤ yE) (h : BD.f yj yg ym yn a1 a2 = some r) :
  Calls Tryz.prog 47 #[.agg #[.int .i64 yj,.slice yK yg.length yE,.int .i64 ym,.int .i64 yn],.int .i64 a1,.int .i64 a2] w fun e w' => e = .returned (.bool r) ∧ Below w.heap.size w w' := by
 have ET := Tryz.underlying29;have zk := yf.mk zS;have zq := yf.mk zT;clear zS zT;have HB := yf.mk (Below.refl w.heap.size w)
 have H : (if a1 ≥ 0 then ((Ao.f yj yg ym yn).bind fun Rf => (if a1 < Rf then (if a2 ≥ 0 then ((zn.f yj yg ym yn).bind fun Y0 => (some (decide (a2 < Y0)))) else (some false)) else (some false))) else (some false)) = some r := h
 clear h
 by_cases c4 : a1 ≥ 0
 rotate_left
 ·
  rw [if_neg c4] at H;have ER := decide_eq_false c4;clear c4;obtain rfl := Option.some.inj H
  go_enter Tryz.func47,Tryz.ntmps47
  go_wp2_with (((with_reducible refine yG (N := 3) rfl ?_);refine yD rfl (N := 3) rfl (cs := #[.int .i64 yj,.slice yK yg.length yE,.int .i64 ym,.int .i64 yn]) (t := 29) (by go_simp) ?_;intro ag hg w20 yI hb;have aa := yf.mk (yI);have af := bG (w := w) hg;have ae := bG (w := w) hg;replace HB := bS HB hb;clear hb yI hg))
  go_ret
  exact ⟨by rfl,bO HB⟩
 rw [if_pos c4] at H;have ER := decide_eq_true c4;clear c4;obtain ⟨Rf,A5,H⟩ := bE H
 try dsimp only at H
 by_cases c6 : a1 < Rf
 rotate_left
 ·
  rw [if_neg c6] at H;have Eu := decide_eq_false c6;clear c6;obtain rfl := Option.some.inj H
  go_enter Tryz.func47,Tryz.ntmps47
  go_wp2_with (first | ((with_reducible refine yG (N := 3) rfl ?_);refine yD rfl (N := 3) rfl (cs := #[.int .i64 yj,.slice yK yg.length yE,.int .i64 ym,.int .i64 yn]) (t := 29) (by go_simp) ?_;intro ag hg w17 yI hb;have aa := yf.mk (yI);have af := bG (w := w) hg;have ae := bG (w := w) hg;replace HB := bS HB hb;clear hb yI hg;have TI := AO aa;have TP := bf aa) | (go_at_call 13;(with_reducible refine (Ao.calls yj _ _ yg ym yn Rf _ ?yB ?yC A5.out).mono ?_);(case yB => exact CU zk);(case yC => exact zq.out);rintro e w19 ⟨rfl,hb⟩;replace aa := bB aa hb;replace HB := bS HB hb;clear hb))
  go_ret
  exact ⟨by rfl,bO HB⟩
 rw [if_pos c6] at H;have Eu := decide_eq_true c6;clear c6
 by_cases c7 : a2 ≥ 0
 ·
  rw [if_pos c7] at H;have GL := decide_eq_true c7;clear c7;obtain ⟨Y0,A8,H⟩ := bE H
  try dsimp only at H
  obtain rfl := Option.some.inj H
  go_enter Tryz.func47,Tryz.ntmps47
  go_wp2_with (first | ((with_reducible refine yG (N := 3) rfl ?_);refine yD rfl (N := 3) rfl (cs := #[.int .i64 yj,.slice yK yg.length yE,.int .i64 ym,.int .i64 yn]) (t := 29) (by go_simp) ?_;intro ag hg w9 yI hb;have aa := yf.mk (yI);have af := bG (w := w) hg;have ae := bG (w := w) hg;replace HB := bS HB hb;clear hb yI hg;have Kr := AO aa;have Kz := bf aa) | (go_at_call 13;(with_reducible refine (Ao.calls yj _ _ yg ym yn Rf _ ?yB ?yC A5.out).mono ?_);(case yB => exact CU zk);(case yC => exact zq.out);rintro e w11 ⟨rfl,hb⟩;replace aa := bB aa hb;replace HB := bS HB hb;clear hb;have LP := AO aa;have LV := bf aa) | (go_at_call 14;(with_reducible refine (zn.calls yj _ _ yg ym yn Y0 _ ?yB ?yC A8.out).mono ?_);(case yB => exact CU zk);(case yC => exact zq.out);rintro e w13 ⟨rfl,hb⟩;replace aa := bB aa hb;replace HB := bS HB hb;clear hb))
  go_ret
  exact ⟨by rfl,bO HB⟩
 rw [if_neg c7] at H;have GL := decide_eq_false c7;clear c7;obtain rfl := Option.some.inj H
 go_enter Tryz.func47,Tryz.ntmps47
 go_wp2_with (first | ((with_reducible refine yG (N := 3) rfl ?_);refine yD rfl (N := 3) rfl (cs := #[.int .i64 yj,.slice yK yg.length yE,.int .i64 ym,.int .i64 yn]) (t := 29) (by go_simp) ?_;intro ag hg w14 yI hb;have aa := yf.mk (yI);have af := bG (w := w) hg;have ae := bG (w := w) hg;replace HB := bS HB hb;clear hb yI hg;have Qz := AO aa;have QF := bf aa) | (go_at_call 13;(with_reducible refine (Ao.calls yj _ _ yg ym yn Rf _ ?yB ?yC A5.out).mono ?_);(case yB => exact CU zk);(case yC => exact zq.out);rintro e w16 ⟨rfl,hb⟩;replace aa := bB aa hb;replace HB := bS HB hb;clear hb))
 go_ret
 exact ⟨by rfl,bO HB⟩
def AY.f (yj : Int) (yg : List (List Int)) (ym : Int) (yn : Int) : Option (Int) := (BP.f yj yg).bind fun VQ => (some (wrap64 (ym * VQ.1)))
set_option maxHeartbeats 8000000 in
set_option maxRecDepth 100000 in
theorem AY.calls (yj : Int) (yK : Option Addr) (yE : Nat) (yg : List (List Int)) (ym : Int) (yn : Int) (r : Int) (w : World) (zS : Kd.C (Kd.slice 3 (Kd.int .i64)) w yK yg.length yg) (zT : yg.length ≤ yE) (h : AY.f yj yg ym yn = some r) :
  Calls Tryz.prog 31 #[.agg #[.int .i64 yj,.slice yK yg.length yE,.int .i64 ym,.int .i64 yn]] w fun e w' => e = .returned (.int .i64 r) ∧ Below w.heap.size w w' := by
 have ET := Tryz.underlying29;have UQ := Tryz.underlying27;have zk := yf.mk zS;have zq := yf.mk zT;clear zS zT;have HB := yf.mk (Below.refl w.heap.size w)
 have H : ((BP.f yj yg).bind fun VQ => (some (wrap64 (ym * VQ.1)))) = some r := h
 clear h;obtain ⟨⟨ae,af,ag⟩,A2,H⟩ := bE H
 try dsimp only at H
 obtain rfl := Option.some.inj H
 go_enter Tryz.func31,Tryz.ntmps31
 go_wp2_with (first | ((with_reducible refine yG (N := 1) rfl ?_);refine yD rfl (N := 1) rfl (cs := #[.int .i64 yj,.slice yK yg.length yE,.int .i64 ym,.int .i64 yn]) (t := 29) (by go_simp) ?_;intro aj hg w3 yI hb;have aa := yf.mk (yI);have ai := bG (w := w) hg;have ah := bG (w := w) hg;replace HB := bS HB hb;clear hb yI hg;have SG := AO aa;have SH := bf aa) | ((with_reducible refine yz (f := 59) rfl ?_);refine gL (some 9) Tryz.func59 #[.agg #[.int .i64 yj,.slice yK yg.length yE]] ?_;(with_reducible refine (BP.calls yj _ _ yg ae af ag _ ?yB ?yC A2.out).mono ?_);(case yB => exact CU zk);(case yC => exact zq.out);rintro e w5 ⟨rfl,hb⟩;refine ⟨_,rfl,?_⟩;replace aa := bB aa hb;replace HB := bS HB hb;clear hb;have Z4 := AO aa;have Z7 := bf aa))
 go_ret
 exact ⟨by rfl,bO HB⟩
def Ca.f (yj : Int) (yg : List (List Int)) (ym : Int) (yn : Int) : Option (Int) := (AY.f yj yg ym yn).bind fun XY => (some (wrap64 (XY + yn)))
set_option maxHeartbeats 8000000 in
set_option maxRecDepth 100000 in
theorem Ca.calls (yj : Int) (yK : Option Addr) (yE : Nat) (yg : List (List Int)) (ym : Int) (yn : Int) (r : Int) (w : World) (zS : Kd.C (Kd.slice 3 (Kd.int .i64)) w yK yg.length yg) (zT : yg.length ≤ yE) (h : Ca.f yj yg ym yn = some r) :
  Calls Tryz.prog 32 #[.agg #[.int .i64 yj,.slice yK yg.length yE,.int .i64 ym,.int .i64 yn]] w fun e w' => e = .returned (.int .i64 r) ∧ Below w.heap.size w w' := by
 have ET := Tryz.underlying29;have zk := yf.mk zS;have zq := yf.mk zT;clear zS zT;have HB := yf.mk (Below.refl w.heap.size w)
 have H : ((AY.f yj yg ym yn).bind fun XY => (some (wrap64 (XY + yn)))) = some r := h
 clear h;obtain ⟨XY,A2,H⟩ := bE H
 try dsimp only at H
 obtain rfl := Option.some.inj H
 go_enter Tryz.func32,Tryz.ntmps32
 try go_wp2_with (((with_reducible refine yG (N := 1) rfl ?_);refine yD rfl (N := 1) rfl (cs := #[.int .i64 yj,.slice yK yg.length yE,.int .i64 ym,.int .i64 yn]) (t := 29) (by go_simp) ?_;intro ae hg w3 yI hb;have aa := yf.mk (yI);have ag := bG (w := w) hg;have af := bG (w := w) hg;replace HB := bS HB hb;clear hb yI hg))
 replace aa := yf.mk (zl aa.out);replace HB := yf.mk (zt HB.out)
 refine Bt (n := 6) (S := fun w' => w'.cell? ⟨ae,0,none⟩ = some (.int .i64 yj) ∧ w'.cell? ⟨ae,1,none⟩ = some (.slice yK yg.length yE) ∧ w'.cell? ⟨ae,2,none⟩ = some (.int .i64 ym) ∧ w'.cell? ⟨ae,3,none⟩ = some (.int .i64 yn)) (ds := []) (bz 6 0) (by kernel_rfl) rfl rfl (AO aa) (fun hHeld => ?_)
 generalize w3.drew = w4 at aa HB hHeld ⊢
 refine KM (i := 2) (N := some 5) (v := ?_) (a' := ?_) (bz 6 4) rfl rfl (by kernel_rfl) (fun _ _ _ h => h) (Or.inl ⟨by rfl,?_⟩) ?_ ?_
 rotate_left
 ·
  intro w'
  go_simp
  with_reducible rfl
 rotate_left
 ·
  simp only [pz]
  rfl
 refine Rj (i := 0) (N := some 3) (v := ?_) (a' := ?_) (bz 6 5) rfl rfl (by kernel_rfl) (fun _ _ _ h => h) (Or.inl ⟨by rfl,?_⟩) hHeld ?_ ?_
 rotate_left
 ·
  rintro w' ⟨s0,s1,s2,s3⟩
  go_simp
  with_reducible rfl
 rotate_left
 ·
  simp only [pz]
  rfl
 refine Rj (i := 3) (N := some 6) (v := ?_) (a' := ?_) (bz 6 13) rfl rfl (by kernel_rfl) (fun _ _ _ h => h) (Or.inl ⟨by rfl,?_⟩) hHeld ?_ ?_
 rotate_left
 ·
  rintro w' ⟨s0,s1,s2,s3⟩
  go_simp
  with_reducible rfl
 rotate_left
 ·
  simp only [pz]
  rfl
 refine CB (i := 1) (N := some 4) (bz 6 15) rfl rfl (by kernel_rfl) (by decide) (fun K hK => ?_)
 refine gO Tryz.func31 #[.agg #[.int .i64 yj,.slice yK yg.length yE,.int .i64 ym,.int .i64 yn]] ?_
 with_reducible refine (AY.calls yj _ _ yg ym yn XY _ ?yB ?yC A2.out).mono ?_
 (case yB => exact CU zk)
 (case yC => exact zq.out)
 rintro e w5 ⟨rfl,hb⟩
 refine ⟨_,rfl,?_⟩
 replace aa := bB aa hb;replace HB := bS HB hb;clear hb
 refine hK.out _ _ (AO aa) (fun hHeld => ?_)
 clear hK K
 refine AU (a' := ?_) ?_ ?_
 rotate_left
 ·
  show Act.put _ (some 4) _ = _
  simp only [pz]
  rfl
 refine KM (i := 4) (N := some 7) (v := ?_) (a' := ?_) (bz 6 31) rfl rfl (by kernel_rfl) (fun _ _ _ h => h) (Or.inl ⟨by rfl,?_⟩) ?_ ?_
 rotate_left
 ·
  intro w'
  go_simp
  with_reducible rfl
 rotate_left
 ·
  simp only [pz]
  rfl
 refine KM (i := 5) (N := some 2) (v := ?_) (a' := ?_) (bz 6 63) rfl rfl (by kernel_rfl) (fun _ _ _ h => h) (Or.inl ⟨by rfl,?_⟩) ?_ ?_
 rotate_left
 ·
  intro w'
  go_simp
  with_reducible rfl
 rotate_left
 ·
  simp only [pz]
  rfl
 refine Cn (by kernel_rfl) ?_
 try go_wp2
 go_ret
 exact ⟨by rfl,bO HB⟩
def AQ.f (yj : Int) (yg : List (List Int)) (ym : Int) (yn : Int) (Cf : Int) (Au : Int) (Ah : Int) (Cs : List (List Int)) (BL : List (List Int)) (Ex : Int) (De : Int) : Option (Int) := some (wrap64 (ym * Ah))
set_option maxHeartbeats 8000000 in
set_option maxRecDepth 100000 in
theorem AQ.calls (yj : Int) (yK : Option Addr) (yE : Nat) (yg : List (List Int)) (ym : Int) (yn : Int) (Cf : Int) (Au : Int) (Ah : Int) (FR : Option Addr) (FL : Nat) (Cs : List (List Int)) (Gl : Option Addr) (FM : Nat) (BL : List (List Int)) (Ex : Int) (De : Int) (r : Int) (w : World) (zS : Kd.C (Kd.slice 3 (Kd.int .i64)) w yK yg.length yg) (zT : yg.length ≤ yE) (H7 : Kd.C (Kd.slice 3 (Kd.int .i64)) w FR Cs.length Cs) (H5 : Cs.length ≤ FL) (H8 : Kd.C (Kd.slice 3 (Kd.int .i64)) w Gl BL.length BL) (H6 : BL.length ≤ FM) (h : AQ.f yj yg ym yn Cf Au Ah Cs BL Ex De = some r) :
  Calls Tryz.prog 62 #[.agg #[.int .i64 yj,.slice yK yg.length yE,.int .i64 ym,.int .i64 yn,.int .i64 Cf,.int .i64 Au,.int .i64 Ah,.slice FR Cs.length FL,.slice Gl BL.length FM,.int .i64 Ex,.int .i64 De]] w fun e w' => e = .returned (.int .i64 r) ∧ Below w.heap.size w w' := by
 have PI := Tryz.underlying94;have zk := yf.mk zS;have zq := yf.mk zT;clear zS zT;have Lx := yf.mk H7;have MP := yf.mk H5;clear H7 H5;have LA := yf.mk H8;have MQ := yf.mk H6;clear H8 H6;have HB := yf.mk (Below.refl w.heap.size w)
 have H : (some (wrap64 (ym * Ah))) = some r := h
 clear h;obtain rfl := Option.some.inj H
 go_enter Tryz.func62,Tryz.ntmps62
 go_wp2_with (((with_reducible refine yG (N := 1) rfl ?_);refine yD rfl (N := 1) rfl (cs := #[.int .i64 yj,.slice yK yg.length yE,.int .i64 ym,.int .i64 yn,.int .i64 Cf,.int .i64 Au,.int .i64 Ah,.slice FR Cs.length FL,.slice Gl BL.length FM,.int .i64 Ex,.int .i64 De]) (t := 94) (by go_simp) ?_;intro Da hg w2 yI hb;have zY := yf.mk (yI);have ZI := bG (w := w) hg;have ZF := bG (w := w) hg;replace HB := bS HB hb;clear hb yI hg;have a3I := E9 zY;have a3W := bf zY))
 go_ret
 exact ⟨by rfl,bO HB⟩
end Go.Proofs.YtjonnfmoocijlaaGreat.P
