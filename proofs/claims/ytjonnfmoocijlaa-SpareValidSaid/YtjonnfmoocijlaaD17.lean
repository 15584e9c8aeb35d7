/- Texts of a claim, packed. -/
import Derived.Test.YtjonnfmoocijlaaD16
set_option linter.all false
namespace Go.Proofs.Ytjonnfmoocijlaa.P
open Go.RowKit Go.Proofs.YtjonnfmoocijlaaKW.PrintWords Go.Proofs.YtjonnfmoocijlaaKW.PrintLast Go.Proofs.YtjonnfmoocijlaaKW.PrintMore
attribute [local go_sem] zz zA zS zT zn zo zB zC
def zK.j0 : Nat → Int → Bool → Int → List (List Int) → Int → Int → Option (Bool)
 | 0, _, _, _, _, _, _ => none
 | k + 1, x3, PR, ag, aa, ae, af => if PR = true then (some false) else (if 0 < (aa.length : Int) then (if ((yT aa 0).length : Int) ≥ 4 then (if ((yT aa 0).length : Int) ≤ 16 then (if (wrap64 (ae * (aa.length : Int))) ≤ 4096 then (if (wrap64 ((wrap64 (ae * (aa.length : Int))) * (wrap64 (((yT aa 0).length : Int) - 3)))) ≤ 65536 then (some (decide ((wrap64 ((wrap64 (ae * x3)) + af)) ≤ 65536))) else (some false)) else (some false)) else (some false)) else (some false)) else (none))
def zK.f (k : Nat) (yn : Int) (yg : List (List Int)) (yo : Int) (yt : Int) : Option (Bool) := (Bp.f yn yg).bind fun Gz => (if Gz.2.2 = true then (if yo < 1 then (zK.j0 k Gz.1 true yn yg yo yt) else (if yo > 256 then (zK.j0 k Gz.1 true yn yg yo yt) else (if yt < 0 then (zK.j0 k Gz.1 true yn yg yo yt) else (zK.j0 k Gz.1 (decide (yt > 65536)) yn yg yo yt)))) else (zK.j0 k Gz.1 true yn yg yo yt))
set_option maxHeartbeats 8000000 in
set_option maxRecDepth 100000 in
theorem zK.calls (k : Nat) (yn : Int) (yP : Option Addr) (yI : Nat) (yg : List (List Int)) (yo : Int) (yt : Int) (r : Bool) (w : World) (zR : Kd.C (Kd.slice 3 (Kd.int .i64)) w yP yg.length yg) (zU : yg.length ≤ yI) (h : zK.f k yn yg yo yt = some r) :
  Calls Try.prog 51 #[.agg #[.int .i64 yn, .slice yP yg.length yI, .int .i64 yo, .int .i64 yt]] w fun e w' => e = .returned (.bool r) ∧ Below w.heap.size w w' := by
 have FB := Try.underlying31;have NN := Try.underlying29;have zq := yf.mk zR;have zG := yf.mk zU;clear zR zU;have HB := yf.mk (Below.refl w.heap.size w)
 have H : ((Bp.f yn yg).bind fun Gz => (if Gz.2.2 = true then (if yo < 1 then (zK.j0 k Gz.1 true yn yg yo yt) else (if yo > 256 then (zK.j0 k Gz.1 true yn yg yo yt) else (if yt < 0 then (zK.j0 k Gz.1 true yn yg yo yt) else (zK.j0 k Gz.1 (decide (yt > 65536)) yn yg yo yt)))) else (zK.j0 k Gz.1 true yn yg yo yt))) = some r := h
 clear h;obtain ⟨⟨aC, aI, aD⟩, A2, H⟩ := bE H
 try dsimp only at H
 have HC3 := yf.mk H;clear H
 go_enter Try.func51, Try.ntmps51
 go_upto_region 2 with (first | ((with_reducible refine yK (N := 1) rfl ?_); refine yE rfl (N := 1) rfl (cs := #[.int .i64 yn, .slice yP yg.length yI, .int .i64 yo, .int .i64 yt]) (t := 31) (by go_simp) ?_; intro aH hg w4 yG hb; have aa := yf.mk (yG); have aQ := bG (w := w) hg; have aM := bG (w := w) hg; replace HB := bS HB hb; clear hb yG hg; have WV := AR aa; have WW := bf aa) | ((with_reducible refine yB (f := 49) rfl ?_); refine gL (some 11) Try.func49 #[.agg #[.int .i64 yn, .slice yP yg.length yI]] ?_; (with_reducible refine (Bp.calls yn _ _ yg aC aI aD _ ?yF ?yM A2.out).mono ?_); (case yF => exact Da zq); (case yM => exact zG.out); rintro e w6 ⟨rfl, hb⟩; refine ⟨_, rfl, ?_⟩; replace aa := bB aa hb; replace HB := bS HB hb; clear hb))
 (try simp only [pz])
 go_cut [36] (fun v36 wc => ∃ (kq : Nat) (av : Bool), v36 = .bool av ∧ yf (zK.j0 kq aC av yn yg yo yt = some r) ∧ yf (kq ≤ k) ∧ yf (wc.heap[aH]? = some (.cells #[.int .i64 yn, (.slice yP yg.length yI), .int .i64 yo, .int .i64 yt] 31 (0, 0))) ∧ yf (Below w.heap.size w wc))
 case first =>
  have H := HC3.out;clear HC3
  by_cases c7 : aD = true
  rotate_left
  ·
   replace c7 := Bool.eq_false_iff.mpr c7;subst c7
   rw [if_neg (show ¬ (false = true) by decide)] at H
   have H' := yf.mk H;clear H
   go_wp2
   go_meet
   case rel => exact ⟨_, (true), (by rfl), H', ⟨by omega⟩, ⟨kk aa⟩, ⟨bO HB⟩⟩
  subst c7;rw [if_pos rfl] at H
  by_cases c8 : yo < 1
  ·
   rw [if_pos c8] at H;have Gl := decide_eq_true c8;clear c8
   (skip)
   have H' := yf.mk H;clear H;have NW := AR aa;have NY := bf aa
   go_wp2
   go_meet
   case rel => exact ⟨_, (true), (by rfl), H', ⟨by omega⟩, ⟨kk aa⟩, ⟨bO HB⟩⟩
  rw [if_neg c8] at H;have Gl := decide_eq_false c8;clear c8
  (skip)
  by_cases c10 : yo > 256
  ·
   rw [if_pos c10] at H;have Fv := decide_eq_true c10;clear c10;have H' := yf.mk H;clear H;have Lt := AR aa;have Lu := bf aa
   go_wp2
   go_meet
   case rel => exact ⟨_, (true), (by rfl), H', ⟨by omega⟩, ⟨kk aa⟩, ⟨bO HB⟩⟩
  rw [if_neg c10] at H;have Fv := decide_eq_false c10;clear c10
  by_cases c12 : yt < 0
  ·
   rw [if_pos c12] at H;have Jg := decide_eq_true c12;clear c12;have H' := yf.mk H;clear H;have MV := AR aa;have MW := bf aa
   go_wp2
   go_meet
   case rel => exact ⟨_, (true), (by rfl), H', ⟨by omega⟩, ⟨kk aa⟩, ⟨bO HB⟩⟩
  rw [if_neg c12] at H;have Jg := decide_eq_false c12;clear c12;have H' := yf.mk H;clear H;have LQ := AR aa;have LU := bf aa
  go_wp2
  go_meet
  case rel => exact ⟨_, (decide (yt > 65536)), (by rfl), H', ⟨by omega⟩, ⟨kk aa⟩, ⟨bO HB⟩⟩
 case rest =>
 clear HC3 WV WW;obtain ⟨kq, av, rfl, HA, HJ2, aa, HB⟩ := hcut
 cases kq with
 | zero => exact absurd HA.out (by simp [zK.j0])
 | succ aN =>
  have H := HA.out;clear HA;simp only [zK.j0] at H
  by_cases c15 : av = true
  ·
   subst c15;rw [if_pos rfl] at H;obtain rfl := Option.some.inj H
   go_wp2
   go_ret
   exact ⟨by rfl, bO HB⟩
  ·
   replace c15 := Bool.eq_false_iff.mpr c15;subst c15
   rw [if_neg (show ¬ (false = true) by decide)] at H
   by_cases c16 : 0 < (yg.length : Int)
   ·
    rw [if_pos c16] at H;have G8 := decide_eq_true c16
    have Vb : decide (0 < yg.length) = true := decide_eq_true (by omega)
    clear c16
    by_cases c17 : ((yT yg 0).length : Int) ≥ 4
    ·
     rw [if_pos c17] at H;have MS := decide_eq_true c17
     have aG : decide (4 ≤ (yT yg 0).length) = true := decide_eq_true (by omega)
     clear c17
     by_cases c18 : ((yT yg 0).length : Int) ≤ 16
     ·
      rw [if_pos c18] at H;have Ru := decide_eq_true c18
      have aJ : decide ((yT yg 0).length ≤ 16) = true := decide_eq_true (by omega)
      clear c18
      by_cases c19 : (wrap64 (yo * (yg.length : Int))) ≤ 4096
      ·
       rw [if_pos c19] at H;have OE := decide_eq_true c19;clear c19
       by_cases c20 : (wrap64 ((wrap64 (yo * (yg.length : Int))) * (wrap64 (((yT yg 0).length : Int) - 3)))) ≤ 65536
       ·
        rw [if_pos c20] at H;have IA := decide_eq_true c20;clear c20;obtain rfl := Option.some.inj H;have K8 := AR aa;have K9 := bf aa
        have ag : 0 ≤ (0 : Int) := (by omega)
        have af : 0 < (yg.length : Int) := of_decide_eq_true ‹_›
        obtain ⟨ak, az, ay, aj, ae, ah, ai⟩ := Dw zq.out 0 ag af;cases aj
        have au : (0 < yg.length) = True := eq_true (by omega)
        (try rw [show ((0 : Int)).toNat = 0 from rfl] at ae)
        (try rw [Addr.add_zero'] at ae)
        replace ae := cB HB ae;have ax := yf.mk ai;have aA := yf.mk ah;clear ai ah;replace ag := eq_true ag;replace af := eq_true af
        go_wp2
        go_ret
        exact ⟨by rfl, bO HB⟩
       ·
        rw [if_neg c20] at H;have IA := decide_eq_false c20;clear c20;obtain rfl := Option.some.inj H;have RH := AR aa;have RI := bf aa
        have ag : 0 ≤ (0 : Int) := (by omega)
        have af : 0 < (yg.length : Int) := of_decide_eq_true ‹_›
        obtain ⟨ak, az, ay, aj, ae, ah, ai⟩ := Dw zq.out 0 ag af;cases aj
        have au : (0 < yg.length) = True := eq_true (by omega)
        (try rw [show ((0 : Int)).toNat = 0 from rfl] at ae)
        (try rw [Addr.add_zero'] at ae)
        replace ae := cB HB ae;have ax := yf.mk ai;have aA := yf.mk ah;clear ai ah;replace ag := eq_true ag;replace af := eq_true af
        go_wp2
        go_ret
        exact ⟨by rfl, bO HB⟩
      ·
       rw [if_neg c19] at H;have OE := decide_eq_false c19;clear c19;obtain rfl := Option.some.inj H;have aK := AR aa;have aT := bf aa
       have ag : 0 ≤ (0 : Int) := (by omega)
       have af : 0 < (yg.length : Int) := of_decide_eq_true ‹_›
       obtain ⟨ak, az, ay, aj, ae, ah, ai⟩ := Dw zq.out 0 ag af;cases aj
       have au : (0 < yg.length) = True := eq_true (by omega)
       (try rw [show ((0 : Int)).toNat = 0 from rfl] at ae)
       (try rw [Addr.add_zero'] at ae)
       replace ae := cB HB ae;have ax := yf.mk ai;have aA := yf.mk ah;clear ai ah;replace ag := eq_true ag;replace af := eq_true af
       go_wp2
       go_ret
       exact ⟨by rfl, bO HB⟩
     ·
      rw [if_neg c18] at H;have Ru := decide_eq_false c18
      have aJ : decide ((yT yg 0).length ≤ 16) = false := decide_eq_false (by omega)
      clear c18;obtain rfl := Option.some.inj H;have Na := AR aa;have Nb := bf aa
      have ag : 0 ≤ (0 : Int) := (by omega)
      have af : 0 < (yg.length : Int) := of_decide_eq_true ‹_›
      obtain ⟨ak, az, ay, aj, ae, ah, ai⟩ := Dw zq.out 0 ag af;cases aj
      have au : (0 < yg.length) = True := eq_true (by omega)
      (try rw [show ((0 : Int)).toNat = 0 from rfl] at ae)
      (try rw [Addr.add_zero'] at ae)
      replace ae := cB HB ae;have ax := yf.mk ai;have aA := yf.mk ah;clear ai ah;replace ag := eq_true ag;replace af := eq_true af
      go_wp2
      go_ret
      exact ⟨by rfl, bO HB⟩
    ·
     rw [if_neg c17] at H;have MS := decide_eq_false c17
     have aG : decide (4 ≤ (yT yg 0).length) = false := decide_eq_false (by omega)
     clear c17;obtain rfl := Option.some.inj H;have OI := AR aa;have OJ := bf aa
     have ag : 0 ≤ (0 : Int) := (by omega)
     have af : 0 < (yg.length : Int) := of_decide_eq_true ‹_›
     obtain ⟨ak, az, ay, aj, ae, ah, ai⟩ := Dw zq.out 0 ag af;cases aj
     have au : (0 < yg.length) = True := eq_true (by omega)
     (try rw [show ((0 : Int)).toNat = 0 from rfl] at ae)
     (try rw [Addr.add_zero'] at ae)
     replace ae := cB HB ae;have ax := yf.mk ai;have aA := yf.mk ah;clear ai ah;replace ag := eq_true ag;replace af := eq_true af
     go_wp2
     go_ret
     exact ⟨by rfl, bO HB⟩
   ·
    rw [if_neg c16] at H;exact absurd H (by simp)
def BB.f (yn : Int) (yg : List (List Int)) (yo : Int) (yt : Int) : Option (Int) := some (wrap64 (yo * (yg.length : Int)))
set_option maxHeartbeats 8000000 in
set_option maxRecDepth 100000 in
theorem BB.calls (yn : Int) (yP : Option Addr) (yI : Nat) (yg : List (List Int)) (yo : Int) (yt : Int) (r : Int) (w : World) (zR : Kd.C (Kd.slice 3 (Kd.int .i64)) w yP yg.length yg) (zU : yg.length ≤ yI) (h : BB.f yn yg yo yt = some r) :
  Calls Try.prog 14 #[.agg #[.int .i64 yn, .slice yP yg.length yI, .int .i64 yo, .int .i64 yt]] w fun e w' => e = .returned (.int .i64 r) ∧ Below w.heap.size w w' := by
 have FB := Try.underlying31;have zq := yf.mk zR;have zG := yf.mk zU;clear zR zU;have HB := yf.mk (Below.refl w.heap.size w)
 have H : (some (wrap64 (yo * (yg.length : Int)))) = some r := h
 clear h;obtain rfl := Option.some.inj H
 go_enter Try.func14, Try.ntmps14
 go_wp2_with (((with_reducible refine yK (N := 1) rfl ?_); refine yE rfl (N := 1) rfl (cs := #[.int .i64 yn, .slice yP yg.length yI, .int .i64 yo, .int .i64 yt]) (t := 31) (by go_simp) ?_; intro ae hg w2 yG hb; have aa := yf.mk (yG); have ag := bG (w := w) hg; have af := bG (w := w) hg; replace HB := bS HB hb; clear hb yG hg; have a13 := AR aa; have a14 := bf aa))
 go_ret
 exact ⟨by rfl, bO HB⟩
def Cg.f (yn : Int) (yg : List (List Int)) (yo : Int) (yt : Int) (a1 : Int) (a2 : Int) : Option (Bool) := if a1 ≥ 0 then ((BB.f yn yg yo yt).bind fun P8 => (if a1 < P8 then (if a2 ≥ 0 then ((AC.f yn yg yo yt).bind fun Vd => (some (decide (a2 < Vd)))) else (some false)) else (some false))) else (some false)
set_option maxHeartbeats 8000000 in
set_option maxRecDepth 100000 in
theorem Cg.calls (yn : Int) (yP : Option Addr) (yI : Nat) (yg : List (List Int)) (yo : Int) (yt : Int) (a1 : Int) (a2 : Int) (r : Bool) (w : World) (zR : Kd.C (Kd.slice 3 (Kd.int .i64)) w yP yg.length yg) (zU : yg.length ≤ yI) (h : Cg.f yn yg yo yt a1 a2 = some r) :
  Calls Try.prog 21 #[.agg #[.int .i64 yn, .slice yP yg.length yI, .int .i64 yo, .int .i64 yt], .int .i64 a1, .int .i64 a2] w fun e w' => e = .returned (.bool r) ∧ Below w.heap.size w w' := by
 have FB := Try.underlying31;have zq := yf.mk zR;have zG := yf.mk zU;clear zR zU;have HB := yf.mk (Below.refl w.heap.size w)
 have H : (if a1 ≥ 0 then ((BB.f yn yg yo yt).bind fun P8 => (if a1 < P8 then (if a2 ≥ 0 then ((AC.f yn yg yo yt).bind fun Vd => (some (decide (a2 < Vd)))) else (some false)) else (some false))) else (some false)) = some r := h
 clear h
 by_cases c4 : a1 ≥ 0
 rotate_left
 ·
  rw [if_neg c4] at H;have Ex := decide_eq_false c4;clear c4;obtain rfl := Option.some.inj H
  go_enter Try.func21, Try.ntmps21
  go_wp2_with (((with_reducible refine yK (N := 3) rfl ?_); refine yE rfl (N := 3) rfl (cs := #[.int .i64 yn, .slice yP yg.length yI, .int .i64 yo, .int .i64 yt]) (t := 31) (by go_simp) ?_; intro ae hg w20 yG hb; have aa := yf.mk (yG); have af := bG (w := w) hg; have ag := bG (w := w) hg; replace HB := bS HB hb; clear hb yG hg))
  go_ret
  exact ⟨by rfl, bO HB⟩
 rw [if_pos c4] at H;have Ex := decide_eq_true c4;clear c4;obtain ⟨P8, A5, H⟩ := bE H
 try dsimp only at H
 by_cases c6 : a1 < P8
 rotate_left
 ·
  rw [if_neg c6] at H;have EU := decide_eq_false c6;clear c6;obtain rfl := Option.some.inj H
  go_enter Try.func21, Try.ntmps21
  go_wp2_with (first | ((with_reducible refine yK (N := 3) rfl ?_); refine yE rfl (N := 3) rfl (cs := #[.int .i64 yn, .slice yP yg.length yI, .int .i64 yo, .int .i64 yt]) (t := 31) (by go_simp) ?_; intro ae hg w17 yG hb; have aa := yf.mk (yG); have af := bG (w := w) hg; have ag := bG (w := w) hg; replace HB := bS HB hb; clear hb yG hg; have Uz := AR aa; have UA := bf aa) | (go_at_call 14; (with_reducible refine (BB.calls yn _ _ yg yo yt P8 _ ?yF ?yM A5.out).mono ?_); (case yF => exact Da zq); (case yM => exact zG.out); rintro e w19 ⟨rfl, hb⟩; replace aa := bB aa hb; replace HB := bS HB hb; clear hb))
  go_ret
  exact ⟨by rfl, bO HB⟩
 rw [if_pos c6] at H;have EU := decide_eq_true c6;clear c6
 by_cases c7 : a2 ≥ 0
 ·
  rw [if_pos c7] at H;have FR := decide_eq_true c7;clear c7;obtain ⟨Vd, A8, H⟩ := bE H
  try dsimp only at H
  obtain rfl := Option.some.inj H
  go_enter Try.func21, Try.ntmps21
  go_wp2_with (first | ((with_reducible refine yK (N := 3) rfl ?_); refine yE rfl (N := 3) rfl (cs := #[.int .i64 yn, .slice yP yg.length yI, .int .i64 yo, .int .i64 yt]) (t := 31) (by go_simp) ?_; intro ae hg w9 yG hb; have aa := yf.mk (yG); have af := bG (w := w) hg; have ag := bG (w := w) hg; replace HB := bS HB hb; clear hb yG hg; have Ve := AR aa; have Vf := bf aa) | (go_at_call 14; (with_reducible refine (BB.calls yn _ _ yg yo yt P8 _ ?yF ?yM A5.out).mono ?_); (case yF => exact Da zq); (case yM => exact zG.out); rintro e w11 ⟨rfl, hb⟩; replace aa := bB aa hb; replace HB := bS HB hb; clear hb; have Nc := AR aa; have Nf := bf aa) | (go_at_call 24; (with_reducible refine (AC.calls yn _ _ yg yo yt Vd _ ?yF ?yM A8.out).mono ?_); (case yF => exact Da zq); (case yM => exact zG.out); rintro e w13 ⟨rfl, hb⟩; replace aa := bB aa hb; replace HB := bS HB hb; clear hb))
  go_ret
  exact ⟨by rfl, bO HB⟩
 rw [if_neg c7] at H;have FR := decide_eq_false c7;clear c7;obtain rfl := Option.some.inj H
 go_enter Try.func21, Try.ntmps21
 go_wp2_with (first | ((with_reducible refine yK (N := 3) rfl ?_); refine yE rfl (N := 3) rfl (cs := #[.int .i64 yn, .slice yP yg.length yI, .int .i64 yo, .int .i64 yt]) (t := 31) (by go_simp) ?_; intro ae hg w14 yG hb; have aa := yf.mk (yG); have af := bG (w := w) hg; have ag := bG (w := w) hg; replace HB := bS HB hb; clear hb yG hg; have OW := AR aa; have OX := bf aa) | (go_at_call 14; (with_reducible refine (BB.calls yn _ _ yg yo yt P8 _ ?yF ?yM A5.out).mono ?_); (case yF => exact Da zq); (case yM => exact zG.out); rintro e w16 ⟨rfl, hb⟩; replace aa := bB aa hb; replace HB := bS HB hb; clear hb))
 go_ret
 exact ⟨by rfl, bO HB⟩
def Bq.f (yn : Int) (yg : List (List Int)) (yo : Int) (yt : Int) : Option (Int) := (Bp.f yn yg).bind fun Vg => (some (wrap64 (yo * Vg.1)))
set_option maxHeartbeats 8000000 in
set_option maxRecDepth 100000 in
theorem Bq.calls (yn : Int) (yP : Option Addr) (yI : Nat) (yg : List (List Int)) (yo : Int) (yt : Int) (r : Int) (w : World) (zR : Kd.C (Kd.slice 3 (Kd.int .i64)) w yP yg.length yg) (zU : yg.length ≤ yI) (h : Bq.f yn yg yo yt = some r) :
  Calls Try.prog 23 #[.agg #[.int .i64 yn, .slice yP yg.length yI, .int .i64 yo, .int .i64 yt]] w fun e w' => e = .returned (.int .i64 r) ∧ Below w.heap.size w w' := by
 have FB := Try.underlying31;have NN := Try.underlying29;have zq := yf.mk zR;have zG := yf.mk zU;clear zR zU;have HB := yf.mk (Below.refl w.heap.size w)
 have H : ((Bp.f yn yg).bind fun Vg => (some (wrap64 (yo * Vg.1)))) = some r := h
 clear h;obtain ⟨⟨ae, ag, af⟩, A2, H⟩ := bE H
 try dsimp only at H
 obtain rfl := Option.some.inj H
 go_enter Try.func23, Try.ntmps23
 go_wp2_with (first | ((with_reducible refine yK (N := 1) rfl ?_); refine yE rfl (N := 1) rfl (cs := #[.int .i64 yn, .slice yP yg.length yI, .int .i64 yo, .int .i64 yt]) (t := 31) (by go_simp) ?_; intro aj hg w3 yG hb; have aa := yf.mk (yG); have ah := bG (w := w) hg; have ai := bG (w := w) hg; replace HB := bS HB hb; clear hb yG hg; have UL := AR aa; have UM := bf aa) | ((with_reducible refine yB (f := 49) rfl ?_); refine gL (some 9) Try.func49 #[.agg #[.int .i64 yn, .slice yP yg.length yI]] ?_; (with_reducible refine (Bp.calls yn _ _ yg ae ag af _ ?yF ?yM A2.out).mono ?_); (case yF => exact Da zq); (case yM => exact zG.out); rintro e w5 ⟨rfl, hb⟩; refine ⟨_, rfl, ?_⟩; replace aa := bB aa hb; replace HB := bS HB hb; clear hb; have a1y := AR aa; have a1z := bf aa))
 go_ret
 exact ⟨by rfl, bO HB⟩
def CR.f (yn : Int) (yg : List (List Int)) (yo : Int) (yt : Int) : Option (Int) := (Bq.f yn yg yo yt).bind fun Vh => (some (wrap64 (Vh + yt)))
set_option maxHeartbeats 8000000 in
set_option maxRecDepth 100000 in
theorem CR.calls (yn : Int) (yP : Option Addr) (yI : Nat) (yg : List (List Int)) (yo : Int) (yt : Int) (r : Int) (w : World) (zR : Kd.C (Kd.slice 3 (Kd.int .i64)) w yP yg.length yg) (zU : yg.length ≤ yI) (h : CR.f yn yg yo yt = some r) :
  Calls Try.prog 52 #[.agg #[.int .i64 yn, .slice yP yg.length yI, .int .i64 yo, .int .i64 yt]] w fun e w' => e = .returned (.int .i64 r) ∧ Below w.heap.size w w' := by
 have FB := Try.underlying31;have zq := yf.mk zR;have zG := yf.mk zU;clear zR zU;have HB := yf.mk (Below.refl w.heap.size w)
 have H : ((Bq.f yn yg yo yt).bind fun Vh => (some (wrap64 (Vh + yt)))) = some r := h
 clear h;obtain ⟨Vh, A2, H⟩ := bE H
 try dsimp only at H
 obtain rfl := Option.some.inj H
 go_enter Try.func52, Try.ntmps52
 try go_wp2_with (((with_reducible refine yK (N := 1) rfl ?_); refine yE rfl (N := 1) rfl (cs := #[.int .i64 yn, .slice yP yg.length yI, .int .i64 yo, .int .i64 yt]) (t := 31) (by go_simp) ?_; intro ae hg w3 yG hb; have aa := yf.mk (yG); have af := bG (w := w) hg; have ag := bG (w := w) hg; replace HB := bS HB hb; clear hb yG hg))
 replace aa := yf.mk (yZ aa.out);replace HB := yf.mk (ze HB.out)
 refine AV (n := 6) (S := fun w' => w'.cell? ⟨ae, 0, none⟩ = some (.int .i64 yn) ∧ w'.cell? ⟨ae, 1, none⟩ = some (.slice yP yg.length yI) ∧ w'.cell? ⟨ae, 2, none⟩ = some (.int .i64 yo) ∧ w'.cell? ⟨ae, 3, none⟩ = some (.int .i64 yt)) (ds := []) (bz 6 0) (by kernel_rfl) rfl rfl (AR aa) (fun hHeld => ?_)
 generalize w3.drew = w4 at aa HB hHeld ⊢
 refine Hl (i := 2) (N := some 5) (v := ?_) (a' := ?_) (bz 6 4) rfl rfl (by kernel_rfl) (fun _ _ _ h => h) (Or.inl ⟨by rfl, ?_⟩) ?_ ?_
 rotate_left
 ·
  intro w'
  go_simp
  with_reducible rfl
 rotate_left
 ·
  simp only [pz]
  rfl
 refine MK (i := 0) (N := some 3) (v := ?_) (a' := ?_) (bz 6 5) rfl rfl (by kernel_rfl) (fun _ _ _ h => h) (Or.inl ⟨by rfl, ?_⟩) hHeld ?_ ?_
 rotate_left
 ·
  rintro w' ⟨s0, s1, s2, s3⟩
  go_simp
  with_reducible rfl
 rotate_left
 ·
  simp only [pz]
  rfl
 refine MK (i := 3) (N := some 6) (v := ?_) (a' := ?_) (bz 6 13) rfl rfl (by kernel_rfl) (fun _ _ _ h => h) (Or.inl ⟨by rfl, ?_⟩) hHeld ?_ ?_
 rotate_left
 ·
  rintro w' ⟨s0, s1, s2, s3⟩
  go_simp
  with_reducible rfl
 rotate_left
 ·
  simp only [pz]
  rfl
 refine BP (i := 1) (N := some 4) (bz 6 15) rfl rfl (by kernel_rfl) (by decide) (fun K hK => ?_)
 refine gO Try.func23 #[.agg #[.int .i64 yn, .slice yP yg.length yI, .int .i64 yo, .int .i64 yt]] ?_
 with_reducible refine (Bq.calls yn _ _ yg yo yt Vh _ ?yF ?yM A2.out).mono ?_
 (case yF => exact Da zq)
 (case yM => exact zG.out)
 rintro e w5 ⟨rfl, hb⟩
 refine ⟨_, rfl, ?_⟩
 replace aa := bB aa hb;replace HB := bS HB hb;clear hb
 refine hK.out _ _ (AR aa) (fun hHeld => ?_)
 clear hK K
 refine Aj (a' := ?_) ?_ ?_
 rotate_left
 ·
  show Act.put _ (some 4) _ = _
  simp only [pz]
  rfl
 refine Hl (i := 4) (N := some 7) (v := ?_) (a' := ?_) (bz 6 31) rfl rfl (by kernel_rfl) (fun _ _ _ h => h) (Or.inl ⟨by rfl, ?_⟩) ?_ ?_
 rotate_left
 ·
  intro w'
  go_simp
  with_reducible rfl
 rotate_left
 ·
  simp only [pz]
  rfl
 refine Hl (i := 5) (N := some 2) (v := ?_) (a' := ?_) (bz 6 63) rfl rfl (by kernel_rfl) (fun _ _ _ h => h) (Or.inl ⟨by rfl, ?_⟩) ?_ ?_
 rotate_left
 ·
  intro w'
  go_simp
  with_reducible rfl
 rotate_left
 ·
  simp only [pz]
  rfl
 refine BI (by kernel_rfl) ?_
 try go_wp2
 go_ret
 exact ⟨by rfl, bO HB⟩
def Au.f (yn : Int) (yg : List (List Int)) (yo : Int) (yt : Int) (BF : Int) (Al : Int) (zY : Int) (BS : List (List Int)) (Bn : List (List Int)) (DZ : Int) (CK : Int) : Option (Int) := some (wrap64 (yo * zY))
set_option maxHeartbeats 8000000 in
set_option maxRecDepth 100000 in
theorem Au.calls (yn : Int) (yP : Option Addr) (yI : Nat) (yg : List (List Int)) (yo : Int) (yt : Int) (BF : Int) (Al : Int) (zY : Int) (F8 : Option Addr) (EX : Nat) (BS : List (List Int)) (FC : Option Addr) (EY : Nat) (Bn : List (List Int)) (DZ : Int) (CK : Int) (r : Int) (w : World) (zR : Kd.C (Kd.slice 3 (Kd.int .i64)) w yP yg.length yg) (zU : yg.length ≤ yI) (G9 : Kd.C (Kd.slice 3 (Kd.int .i64)) w F8 BS.length BS) (Ga : BS.length ≤ EX) (Gb : Kd.C (Kd.slice 3 (Kd.int .i64)) w FC Bn.length Bn) (Gc : Bn.length ≤ EY) (h : Au.f yn yg yo yt BF Al zY BS Bn DZ CK = some r) :
  Calls Try.prog 62 #[.agg #[.int .i64 yn, .slice yP yg.length yI, .int .i64 yo, .int .i64 yt, .int .i64 BF, .int .i64 Al, .int .i64 zY, .slice F8 BS.length EX, .slice FC Bn.length EY, .int .i64 DZ, .int .i64 CK]] w fun e w' => e = .returned (.int .i64 r) ∧ Below w.heap.size w w' := by
 have Jm := Try.underlying102;have zq := yf.mk zR;have zG := yf.mk zU;clear zR zU;have K4 := yf.mk G9;have LB := yf.mk Ga;clear G9 Ga;have K5 := yf.mk Gb;have LC := yf.mk Gc;clear Gb Gc;have HB := yf.mk (Below.refl w.heap.size w)
 have H : (some (wrap64 (yo * zY))) = some r := h
 clear h;obtain rfl := Option.some.inj H
 go_enter Try.func62, Try.ntmps62
 go_wp2_with (((with_reducible refine yK (N := 1) rfl ?_); refine yE rfl (N := 1) rfl (cs := #[.int .i64 yn, .slice yP yg.length yI, .int .i64 yo, .int .i64 yt, .int .i64 BF, .int .i64 Al, .int .i64 zY, .slice F8 BS.length EX, .slice FC Bn.length EY, .int .i64 DZ, .int .i64 CK]) (t := 102) (by go_simp) ?_; intro Cz hg w2 yG hb; have zM := yf.mk (yG); have XY := bG (w := w) hg; have XZ := bG (w := w) hg; replace HB := bS HB hb; clear hb yG hg; have a13 := Dt zM; have a14 := bf zM))
 go_ret
 exact ⟨by rfl, bO HB⟩
end Go.Proofs.Ytjonnfmoocijlaa.P
