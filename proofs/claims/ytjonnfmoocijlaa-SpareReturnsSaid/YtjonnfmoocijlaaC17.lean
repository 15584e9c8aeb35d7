/- Texts of a claim, packed. -/
import Derived.Test.YtjonnfmoocijlaaC16
set_option linter.all false
namespace Go.Proofs.Ytjonnfmoocijlaa.P
open Go.RowKit Go.Proofs.YtjonnfmoocijlaaKW.PrintWords Go.Proofs.YtjonnfmoocijlaaKW.PrintLast Go.Proofs.YtjonnfmoocijlaaKW.PrintMore
attribute [local go_sem] zO zP Aj Ak zC zD zQ zR
def zX.j0 : Nat → Int → Bool → Int → List (List Int) → Int → Int → Option (Bool)
 | 0, _, _, _, _, _, _ => none
 | k + 1, x3, Sw, ag, aa, ae, af => if Sw = true then (some false) else (if 0 < (aa.length : Int) then (if ((zt aa 0).length : Int) ≥ 4 then (if ((zt aa 0).length : Int) ≤ 16 then (if (wrap64 (ae * (aa.length : Int))) ≤ 4096 then (if (wrap64 ((wrap64 (ae * (aa.length : Int))) * (wrap64 (((zt aa 0).length : Int) - 3)))) ≤ 65536 then (some (decide ((wrap64 ((wrap64 (ae * x3)) + af)) ≤ 65536))) else (some false)) else (some false)) else (some false)) else (some false)) else (none))
def zX.f (k : Nat) (yn : Int) (yh : List (List Int)) (yo : Int) (yu : Int) : Option (Bool) := (Ch.f yn yh).bind fun Im => (if Im.2.2 = true then (if yo < 1 then (zX.j0 k Im.1 true yn yh yo yu) else (if yo > 256 then (zX.j0 k Im.1 true yn yh yo yu) else (if yu < 0 then (zX.j0 k Im.1 true yn yh yo yu) else (zX.j0 k Im.1 (decide (yu > 65536)) yn yh yo yu)))) else (zX.j0 k Im.1 true yn yh yo yu))
set_option maxHeartbeats 8000000 in
set_option maxRecDepth 100000 in
theorem zX.calls (k : Nat) (yn : Int) (yQ : Option Addr) (yM : Nat) (yh : List (List Int)) (yo : Int) (yu : Int) (r : Bool) (w : World) (Ah : Kd.C (Kd.slice 3 (Kd.int .i64)) w yQ yh.length yh) (Ai : yh.length ≤ yM) (h : zX.f k yn yh yo yu = some r) :
  Calls Try.prog 51 #[.agg #[.int .i64 yn, .slice yQ yh.length yM, .int .i64 yo, .int .i64 yu]] w fun e w' => e = .returned (.bool r) ∧ Below w.heap.size w w' := by
 have FH := Try.underlying31;have PY := Try.underlying29;have zA := yf.mk Ah;have zK := yf.mk Ai;clear Ah Ai;have HB := yf.mk (Below.refl w.heap.size w)
 have H : ((Ch.f yn yh).bind fun Im => (if Im.2.2 = true then (if yo < 1 then (zX.j0 k Im.1 true yn yh yo yu) else (if yo > 256 then (zX.j0 k Im.1 true yn yh yo yu) else (if yu < 0 then (zX.j0 k Im.1 true yn yh yo yu) else (zX.j0 k Im.1 (decide (yu > 65536)) yn yh yo yu)))) else (zX.j0 k Im.1 true yn yh yo yu))) = some r := h
 clear h;obtain ⟨⟨aC, aI, aD⟩, A2, H⟩ := bE H
 try dsimp only at H
 have HC3 := yf.mk H;clear H
 go_enter Try.func51, Try.ntmps51
 go_upto_region 2 with (first | ((with_reducible refine yI (N := 1) rfl ?_); refine yG rfl (N := 1) rfl (cs := #[.int .i64 yn, .slice yQ yh.length yM, .int .i64 yo, .int .i64 yu]) (t := 31) (by go_simp) ?_; intro aH hg w4 yJ hb; have aa := yf.mk (yJ); have aJ := bG (w := w) hg; have aM := bG (w := w) hg; replace HB := bS HB hb; clear hb yJ hg; have Zp := AP aa; have Zq := bf aa) | ((with_reducible refine yw (f := 49) rfl ?_); refine gL (some 11) Try.func49 #[.agg #[.int .i64 yn, .slice yQ yh.length yM]] ?_; (with_reducible refine (Ch.calls yn _ _ yh aC aI aD _ ?yD ?yF A2.out).mono ?_); (case yD => exact Di zA); (case yF => exact zK.out); rintro e w6 ⟨rfl, hb⟩; refine ⟨_, rfl, ?_⟩; replace aa := bB aa hb; replace HB := bS HB hb; clear hb))
 (try simp only [pz])
 go_cut [36] (fun v36 wc => ∃ (kq : Nat) (ax : Bool), v36 = .bool ax ∧ yf (zX.j0 kq aC ax yn yh yo yu = some r) ∧ yf (kq ≤ k) ∧ yf (wc.heap[aH]? = some (.cells #[.int .i64 yn, (.slice yQ yh.length yM), .int .i64 yo, .int .i64 yu] 31 (0, 0))) ∧ yf (Below w.heap.size w wc))
 case first =>
  have H := HC3.out;clear HC3
  by_cases c7 : aD = true
  rotate_left
  ·
   replace c7 := Bool.eq_false_iff.mpr c7;subst c7
   rw [if_neg (show ¬ (false = true) by decide)] at H
   have H' := yf.mk H;clear H
   go_wp2
   go_meet
   case rel => exact ⟨_, (true), (by rfl), H', ⟨by omega⟩, ⟨kk aa⟩, ⟨bO HB⟩⟩
  subst c7;rw [if_pos rfl] at H
  by_cases c8 : yo < 1
  ·
   rw [if_pos c8] at H;have GZ := decide_eq_true c8;clear c8
   (skip)
   have H' := yf.mk H;clear H;have Qb := AP aa;have Qc := bf aa
   go_wp2
   go_meet
   case rel => exact ⟨_, (true), (by rfl), H', ⟨by omega⟩, ⟨kk aa⟩, ⟨bO HB⟩⟩
  rw [if_neg c8] at H;have GZ := decide_eq_false c8;clear c8
  (skip)
  by_cases c10 : yo > 256
  ·
   rw [if_pos c10] at H;have Gi := decide_eq_true c10;clear c10;have H' := yf.mk H;clear H;have Ma := AP aa;have Mc := bf aa
   go_wp2
   go_meet
   case rel => exact ⟨_, (true), (by rfl), H', ⟨by omega⟩, ⟨kk aa⟩, ⟨bO HB⟩⟩
  rw [if_neg c10] at H;have Gi := decide_eq_false c10;clear c10
  by_cases c12 : yu < 0
  ·
   rw [if_pos c12] at H;have Gh := decide_eq_true c12;clear c12;have H' := yf.mk H;clear H;have Np := AP aa;have Nq := bf aa
   go_wp2
   go_meet
   case rel => exact ⟨_, (true), (by rfl), H', ⟨by omega⟩, ⟨kk aa⟩, ⟨bO HB⟩⟩
  rw [if_neg c12] at H;have Gh := decide_eq_false c12;clear c12;have H' := yf.mk H;clear H;have IV := AP aa;have IW := bf aa
  go_wp2
  go_meet
  case rel => exact ⟨_, (decide (yu > 65536)), (by rfl), H', ⟨by omega⟩, ⟨kk aa⟩, ⟨bO HB⟩⟩
 case rest =>
 clear HC3 Zp Zq;obtain ⟨kq, ax, rfl, HA, HJ2, aa, HB⟩ := hcut
 cases kq with
 | zero => exact absurd HA.out (by simp [zX.j0])
 | succ aK =>
  have H := HA.out;clear HA;simp only [zX.j0] at H
  by_cases c15 : ax = true
  ·
   subst c15;rw [if_pos rfl] at H;obtain rfl := Option.some.inj H
   go_wp2
   go_ret
   exact ⟨by rfl, bO HB⟩
  ·
   replace c15 := Bool.eq_false_iff.mpr c15;subst c15
   rw [if_neg (show ¬ (false = true) by decide)] at H
   by_cases c16 : 0 < (yh.length : Int)
   ·
    rw [if_pos c16] at H;have Fy := decide_eq_true c16
    have Pn : decide (0 < yh.length) = true := decide_eq_true (by omega)
    clear c16
    by_cases c17 : ((zt yh 0).length : Int) ≥ 4
    ·
     rw [if_pos c17] at H;have Nk := decide_eq_true c17
     have aG : decide (4 ≤ (zt yh 0).length) = true := decide_eq_true (by omega)
     clear c17
     by_cases c18 : ((zt yh 0).length : Int) ≤ 16
     ·
      rw [if_pos c18] at H;have NC := decide_eq_true c18
      have Xd : decide ((zt yh 0).length ≤ 16) = true := decide_eq_true (by omega)
      clear c18
      by_cases c19 : (wrap64 (yo * (yh.length : Int))) ≤ 4096
      ·
       rw [if_pos c19] at H;have QK := decide_eq_true c19;clear c19
       by_cases c20 : (wrap64 ((wrap64 (yo * (yh.length : Int))) * (wrap64 (((zt yh 0).length : Int) - 3)))) ≤ 65536
       ·
        rw [if_pos c20] at H;have KJ := decide_eq_true c20;clear c20;obtain rfl := Option.some.inj H;have ND := AP aa;have NE := bf aa
        have af : 0 ≤ (0 : Int) := (by omega)
        have ag : 0 < (yh.length : Int) := of_decide_eq_true ‹_›
        obtain ⟨au, av, ak, aj, ae, ah, ai⟩ := EC zA.out 0 af ag;cases aj
        have aA : (0 < yh.length) = True := eq_true (by omega)
        (try rw [show ((0 : Int)).toNat = 0 from rfl] at ae)
        (try rw [Addr.add_zero'] at ae)
        replace ae := cB HB ae;have ay := yf.mk ai;have az := yf.mk ah;clear ai ah;replace af := eq_true af;replace ag := eq_true ag
        go_wp2
        go_ret
        exact ⟨by rfl, bO HB⟩
       ·
        rw [if_neg c20] at H;have KJ := decide_eq_false c20;clear c20;obtain rfl := Option.some.inj H;have KU := AP aa;have KV := bf aa
        have af : 0 ≤ (0 : Int) := (by omega)
        have ag : 0 < (yh.length : Int) := of_decide_eq_true ‹_›
        obtain ⟨au, av, ak, aj, ae, ah, ai⟩ := EC zA.out 0 af ag;cases aj
        have aA : (0 < yh.length) = True := eq_true (by omega)
        (try rw [show ((0 : Int)).toNat = 0 from rfl] at ae)
        (try rw [Addr.add_zero'] at ae)
        replace ae := cB HB ae;have ay := yf.mk ai;have az := yf.mk ah;clear ai ah;replace af := eq_true af;replace ag := eq_true ag
        go_wp2
        go_ret
        exact ⟨by rfl, bO HB⟩
      ·
       rw [if_neg c19] at H;have QK := decide_eq_false c19;clear c19;obtain rfl := Option.some.inj H;have Ro := AP aa;have Rp := bf aa
       have af : 0 ≤ (0 : Int) := (by omega)
       have ag : 0 < (yh.length : Int) := of_decide_eq_true ‹_›
       obtain ⟨au, av, ak, aj, ae, ah, ai⟩ := EC zA.out 0 af ag;cases aj
       have aA : (0 < yh.length) = True := eq_true (by omega)
       (try rw [show ((0 : Int)).toNat = 0 from rfl] at ae)
       (try rw [Addr.add_zero'] at ae)
       replace ae := cB HB ae;have ay := yf.mk ai;have az := yf.mk ah;clear ai ah;replace af := eq_true af;replace ag := eq_true ag
       go_wp2
       go_ret
       exact ⟨by rfl, bO HB⟩
     ·
      rw [if_neg c18] at H;have NC := decide_eq_false c18
      have Xd : decide ((zt yh 0).length ≤ 16) = false := decide_eq_false (by omega)
      clear c18;obtain rfl := Option.some.inj H;have NK := AP aa;have NL := bf aa
      have af : 0 ≤ (0 : Int) := (by omega)
      have ag : 0 < (yh.length : Int) := of_decide_eq_true ‹_›
      obtain ⟨au, av, ak, aj, ae, ah, ai⟩ := EC zA.out 0 af ag;cases aj
      have aA : (0 < yh.length) = True := eq_true (by omega)
      (try rw [show ((0 : Int)).toNat = 0 from rfl] at ae)
      (try rw [Addr.add_zero'] at ae)
      replace ae := cB HB ae;have ay := yf.mk ai;have az := yf.mk ah;clear ai ah;replace af := eq_true af;replace ag := eq_true ag
      go_wp2
      go_ret
      exact ⟨by rfl, bO HB⟩
    ·
     rw [if_neg c17] at H;have Nk := decide_eq_false c17
     have aG : decide (4 ≤ (zt yh 0).length) = false := decide_eq_false (by omega)
     clear c17;obtain rfl := Option.some.inj H;have KM := AP aa;have KN := bf aa
     have af : 0 ≤ (0 : Int) := (by omega)
     have ag : 0 < (yh.length : Int) := of_decide_eq_true ‹_›
     obtain ⟨au, av, ak, aj, ae, ah, ai⟩ := EC zA.out 0 af ag;cases aj
     have aA : (0 < yh.length) = True := eq_true (by omega)
     (try rw [show ((0 : Int)).toNat = 0 from rfl] at ae)
     (try rw [Addr.add_zero'] at ae)
     replace ae := cB HB ae;have ay := yf.mk ai;have az := yf.mk ah;clear ai ah;replace af := eq_true af;replace ag := eq_true ag
     go_wp2
     go_ret
     exact ⟨by rfl, bO HB⟩
   ·
    rw [if_neg c16] at H;exact absurd H (by simp)
def zI.f (yn : Int) (yh : List (List Int)) (yo : Int) (yu : Int) : Option (Int) := some (wrap64 (yo * (yh.length : Int)))
set_option maxHeartbeats 8000000 in
set_option maxRecDepth 100000 in
theorem zI.calls (yn : Int) (yQ : Option Addr) (yM : Nat) (yh : List (List Int)) (yo : Int) (yu : Int) (r : Int) (w : World) (Ah : Kd.C (Kd.slice 3 (Kd.int .i64)) w yQ yh.length yh) (Ai : yh.length ≤ yM) (h : zI.f yn yh yo yu = some r) :
  Calls Try.prog 14 #[.agg #[.int .i64 yn, .slice yQ yh.length yM, .int .i64 yo, .int .i64 yu]] w fun e w' => e = .returned (.int .i64 r) ∧ Below w.heap.size w w' := by
 have FH := Try.underlying31;have zA := yf.mk Ah;have zK := yf.mk Ai;clear Ah Ai;have HB := yf.mk (Below.refl w.heap.size w)
 have H : (some (wrap64 (yo * (yh.length : Int)))) = some r := h
 clear h;obtain rfl := Option.some.inj H
 go_enter Try.func14, Try.ntmps14
 go_wp2_with (((with_reducible refine yI (N := 1) rfl ?_); refine yG rfl (N := 1) rfl (cs := #[.int .i64 yn, .slice yQ yh.length yM, .int .i64 yo, .int .i64 yu]) (t := 31) (by go_simp) ?_; intro af hg w2 yJ hb; have aa := yf.mk (yJ); have ag := bG (w := w) hg; have ae := bG (w := w) hg; replace HB := bS HB hb; clear hb yJ hg; have a4E := AP aa; have a4F := bf aa))
 go_ret
 exact ⟨by rfl, bO HB⟩
def Bz.f (yn : Int) (yh : List (List Int)) (yo : Int) (yu : Int) (a1 : Int) (a2 : Int) : Option (Bool) := if a1 ≥ 0 then ((zI.f yn yh yo yu).bind fun Rq => (if a1 < Rq then (if a2 ≥ 0 then ((zi.f yn yh yo yu).bind fun Xe => (some (decide (a2 < Xe)))) else (some false)) else (some false))) else (some false)
set_option maxHeartbeats 8000000 in
set_option maxRecDepth 100000 in
theorem Bz.calls (yn : Int) (yQ : Option Addr) (yM : Nat) (yh : List (List Int)) (yo : Int) (yu : Int) (a1 : Int) (a2 : Int) (r : Bool) (w : World) (Ah : Kd.C (Kd.slice 3 (Kd.int .i64)) w yQ yh.length yh) (Ai : yh.length ≤ yM) (h : Bz.f yn yh yo yu a1 a2 = some r) :
  Calls Try.prog 21 #[.agg #[.int .i64 yn, .slice yQ yh.length yM, .int .i64 yo, .int .i64 yu], .int .i64 a1, .int .i64 a2] w fun e w' => e = .returned (.bool r) ∧ Below w.heap.size w w' := by
 have FH := Try.underlying31;have zA := yf.mk Ah;have zK := yf.mk Ai;clear Ah Ai;have HB := yf.mk (Below.refl w.heap.size w)
 have H : (if a1 ≥ 0 then ((zI.f yn yh yo yu).bind fun Rq => (if a1 < Rq then (if a2 ≥ 0 then ((zi.f yn yh yo yu).bind fun Xe => (some (decide (a2 < Xe)))) else (some false)) else (some false))) else (some false)) = some r := h
 clear h
 by_cases c4 : a1 ≥ 0
 rotate_left
 ·
  rw [if_neg c4] at H;have ES := decide_eq_false c4;clear c4;obtain rfl := Option.some.inj H
  go_enter Try.func21, Try.ntmps21
  go_wp2_with (((with_reducible refine yI (N := 3) rfl ?_); refine yG rfl (N := 3) rfl (cs := #[.int .i64 yn, .slice yQ yh.length yM, .int .i64 yo, .int .i64 yu]) (t := 31) (by go_simp) ?_; intro af hg w20 yJ hb; have aa := yf.mk (yJ); have ag := bG (w := w) hg; have ae := bG (w := w) hg; replace HB := bS HB hb; clear hb yJ hg))
  go_ret
  exact ⟨by rfl, bO HB⟩
 rw [if_pos c4] at H;have ES := decide_eq_true c4;clear c4;obtain ⟨Rq, A5, H⟩ := bE H
 try dsimp only at H
 by_cases c6 : a1 < Rq
 rotate_left
 ·
  rw [if_neg c6] at H;have EJ := decide_eq_false c6;clear c6;obtain rfl := Option.some.inj H
  go_enter Try.func21, Try.ntmps21
  go_wp2_with (first | ((with_reducible refine yI (N := 3) rfl ?_); refine yG rfl (N := 3) rfl (cs := #[.int .i64 yn, .slice yQ yh.length yM, .int .i64 yo, .int .i64 yu]) (t := 31) (by go_simp) ?_; intro af hg w17 yJ hb; have aa := yf.mk (yJ); have ag := bG (w := w) hg; have ae := bG (w := w) hg; replace HB := bS HB hb; clear hb yJ hg; have Ue := AP aa; have Uf := bf aa) | (go_at_call 14; (with_reducible refine (zI.calls yn _ _ yh yo yu Rq _ ?yD ?yF A5.out).mono ?_); (case yD => exact Di zA); (case yF => exact zK.out); rintro e w19 ⟨rfl, hb⟩; replace aa := bB aa hb; replace HB := bS HB hb; clear hb))
  go_ret
  exact ⟨by rfl, bO HB⟩
 rw [if_pos c6] at H;have EJ := decide_eq_true c6;clear c6
 by_cases c7 : a2 ≥ 0
 ·
  rw [if_pos c7] at H;have GN := decide_eq_true c7;clear c7;obtain ⟨Xe, A8, H⟩ := bE H
  try dsimp only at H
  obtain rfl := Option.some.inj H
  go_enter Try.func21, Try.ntmps21
  go_wp2_with (first | ((with_reducible refine yI (N := 3) rfl ?_); refine yG rfl (N := 3) rfl (cs := #[.int .i64 yn, .slice yQ yh.length yM, .int .i64 yo, .int .i64 yu]) (t := 31) (by go_simp) ?_; intro af hg w9 yJ hb; have aa := yf.mk (yJ); have ag := bG (w := w) hg; have ae := bG (w := w) hg; replace HB := bS HB hb; clear hb yJ hg; have KW := AP aa; have KX := bf aa) | (go_at_call 14; (with_reducible refine (zI.calls yn _ _ yh yo yu Rq _ ?yD ?yF A5.out).mono ?_); (case yD => exact Di zA); (case yF => exact zK.out); rintro e w11 ⟨rfl, hb⟩; replace aa := bB aa hb; replace HB := bS HB hb; clear hb; have NM := AP aa; have NN := bf aa) | (go_at_call 24; (with_reducible refine (zi.calls yn _ _ yh yo yu Xe _ ?yD ?yF A8.out).mono ?_); (case yD => exact Di zA); (case yF => exact zK.out); rintro e w13 ⟨rfl, hb⟩; replace aa := bB aa hb; replace HB := bS HB hb; clear hb))
  go_ret
  exact ⟨by rfl, bO HB⟩
 rw [if_neg c7] at H;have GN := decide_eq_false c7;clear c7;obtain rfl := Option.some.inj H
 go_enter Try.func21, Try.ntmps21
 go_wp2_with (first | ((with_reducible refine yI (N := 3) rfl ?_); refine yG rfl (N := 3) rfl (cs := #[.int .i64 yn, .slice yQ yh.length yM, .int .i64 yo, .int .i64 yu]) (t := 31) (by go_simp) ?_; intro af hg w14 yJ hb; have aa := yf.mk (yJ); have ag := bG (w := w) hg; have ae := bG (w := w) hg; replace HB := bS HB hb; clear hb yJ hg; have R8 := AP aa; have R9 := bf aa) | (go_at_call 14; (with_reducible refine (zI.calls yn _ _ yh yo yu Rq _ ?yD ?yF A5.out).mono ?_); (case yD => exact Di zA); (case yF => exact zK.out); rintro e w16 ⟨rfl, hb⟩; replace aa := bB aa hb; replace HB := bS HB hb; clear hb))
 go_ret
 exact ⟨by rfl, bO HB⟩
def AA.f (yn : Int) (yh : List (List Int)) (yo : Int) (yu : Int) : Option (Int) := (Ch.f yn yh).bind fun Xf => (some (wrap64 (yo * Xf.1)))
set_option maxHeartbeats 8000000 in
set_option maxRecDepth 100000 in
theorem AA.calls (yn : Int) (yQ : Option Addr) (yM : Nat) (yh : List (List Int)) (yo : Int) (yu : Int) (r : Int) (w : World) (Ah : Kd.C (Kd.slice 3 (Kd.int .i64)) w yQ yh.length yh) (Ai : yh.length ≤ yM) (h : AA.f yn yh yo yu = some r) :
  Calls Try.prog 23 #[.agg #[.int .i64 yn, .slice yQ yh.length yM, .int .i64 yo, .int .i64 yu]] w fun e w' => e = .returned (.int .i64 r) ∧ Below w.heap.size w w' := by
 have FH := Try.underlying31;have PY := Try.underlying29;have zA := yf.mk Ah;have zK := yf.mk Ai;clear Ah Ai;have HB := yf.mk (Below.refl w.heap.size w)
 have H : ((Ch.f yn yh).bind fun Xf => (some (wrap64 (yo * Xf.1)))) = some r := h
 clear h;obtain ⟨⟨af, ag, ae⟩, A2, H⟩ := bE H
 try dsimp only at H
 obtain rfl := Option.some.inj H
 go_enter Try.func23, Try.ntmps23
 go_wp2_with (first | ((with_reducible refine yI (N := 1) rfl ?_); refine yG rfl (N := 1) rfl (cs := #[.int .i64 yn, .slice yQ yh.length yM, .int .i64 yo, .int .i64 yu]) (t := 31) (by go_simp) ?_; intro ah hg w3 yJ hb; have aa := yf.mk (yJ); have aj := bG (w := w) hg; have ai := bG (w := w) hg; replace HB := bS HB hb; clear hb yJ hg; have Tj := AP aa; have Tk := bf aa) | ((with_reducible refine yw (f := 49) rfl ?_); refine gL (some 9) Try.func49 #[.agg #[.int .i64 yn, .slice yQ yh.length yM]] ?_; (with_reducible refine (Ch.calls yn _ _ yh af ag ae _ ?yD ?yF A2.out).mono ?_); (case yD => exact Di zA); (case yF => exact zK.out); rintro e w5 ⟨rfl, hb⟩; refine ⟨_, rfl, ?_⟩; replace aa := bB aa hb; replace HB := bS HB hb; clear hb; have Zr := AP aa; have Zt := bf aa))
 go_ret
 exact ⟨by rfl, bO HB⟩
def Cn.f (yn : Int) (yh : List (List Int)) (yo : Int) (yu : Int) : Option (Int) := (AA.f yn yh yo yu).bind fun Xg => (some (wrap64 (Xg + yu)))
set_option maxHeartbeats 8000000 in
set_option maxRecDepth 100000 in
theorem Cn.calls (yn : Int) (yQ : Option Addr) (yM : Nat) (yh : List (List Int)) (yo : Int) (yu : Int) (r : Int) (w : World) (Ah : Kd.C (Kd.slice 3 (Kd.int .i64)) w yQ yh.length yh) (Ai : yh.length ≤ yM) (h : Cn.f yn yh yo yu = some r) :
  Calls Try.prog 52 #[.agg #[.int .i64 yn, .slice yQ yh.length yM, .int .i64 yo, .int .i64 yu]] w fun e w' => e = .returned (.int .i64 r) ∧ Below w.heap.size w w' := by
 have FH := Try.underlying31;have zA := yf.mk Ah;have zK := yf.mk Ai;clear Ah Ai;have HB := yf.mk (Below.refl w.heap.size w)
 have H : ((AA.f yn yh yo yu).bind fun Xg => (some (wrap64 (Xg + yu)))) = some r := h
 clear h;obtain ⟨Xg, A2, H⟩ := bE H
 try dsimp only at H
 obtain rfl := Option.some.inj H
 go_enter Try.func52, Try.ntmps52
 try go_wp2_with (((with_reducible refine yI (N := 1) rfl ?_); refine yG rfl (N := 1) rfl (cs := #[.int .i64 yn, .slice yQ yh.length yM, .int .i64 yo, .int .i64 yu]) (t := 31) (by go_simp) ?_; intro ae hg w3 yJ hb; have aa := yf.mk (yJ); have af := bG (w := w) hg; have ag := bG (w := w) hg; replace HB := bS HB hb; clear hb yJ hg))
 replace aa := yf.mk (yO aa.out);replace HB := yf.mk (za HB.out)
 refine Bc (n := 6) (S := fun w' => w'.cell? ⟨ae, 0, none⟩ = some (.int .i64 yn) ∧ w'.cell? ⟨ae, 1, none⟩ = some (.slice yQ yh.length yM) ∧ w'.cell? ⟨ae, 2, none⟩ = some (.int .i64 yo) ∧ w'.cell? ⟨ae, 3, none⟩ = some (.int .i64 yu)) (ds := []) (bz 6 0) (by kernel_rfl) rfl rfl (AP aa) (fun hHeld => ?_)
 generalize w3.drew = w4 at aa HB hHeld ⊢
 refine KA (i := 2) (N := some 5) (v := ?_) (a' := ?_) (bz 6 4) rfl rfl (by kernel_rfl) (fun _ _ _ h => h) (Or.inl ⟨by rfl, ?_⟩) ?_ ?_
 rotate_left
 ·
  intro w'
  go_simp
  with_reducible rfl
 rotate_left
 ·
  simp only [pz]
  rfl
 refine Qx (i := 0) (N := some 3) (v := ?_) (a' := ?_) (bz 6 5) rfl rfl (by kernel_rfl) (fun _ _ _ h => h) (Or.inl ⟨by rfl, ?_⟩) hHeld ?_ ?_
 rotate_left
 ·
  rintro w' ⟨s0, s1, s2, s3⟩
  go_simp
  with_reducible rfl
 rotate_left
 ·
  simp only [pz]
  rfl
 refine Qx (i := 3) (N := some 6) (v := ?_) (a' := ?_) (bz 6 13) rfl rfl (by kernel_rfl) (fun _ _ _ h => h) (Or.inl ⟨by rfl, ?_⟩) hHeld ?_ ?_
 rotate_left
 ·
  rintro w' ⟨s0, s1, s2, s3⟩
  go_simp
  with_reducible rfl
 rotate_left
 ·
  simp only [pz]
  rfl
 refine Ck (i := 1) (N := some 4) (bz 6 15) rfl rfl (by kernel_rfl) (by decide) (fun K hK => ?_)
 refine gO Try.func23 #[.agg #[.int .i64 yn, .slice yQ yh.length yM, .int .i64 yo, .int .i64 yu]] ?_
 with_reducible refine (AA.calls yn _ _ yh yo yu Xg _ ?yD ?yF A2.out).mono ?_
 (case yD => exact Di zA)
 (case yF => exact zK.out)
 rintro e w5 ⟨rfl, hb⟩
 refine ⟨_, rfl, ?_⟩
 replace aa := bB aa hb;replace HB := bS HB hb;clear hb
 refine hK.out _ _ (AP aa) (fun hHeld => ?_)
 clear hK K
 refine AR (a' := ?_) ?_ ?_
 rotate_left
 ·
  show Act.put _ (some 4) _ = _
  simp only [pz]
  rfl
 refine KA (i := 4) (N := some 7) (v := ?_) (a' := ?_) (bz 6 31) rfl rfl (by kernel_rfl) (fun _ _ _ h => h) (Or.inl ⟨by rfl, ?_⟩) ?_ ?_
 rotate_left
 ·
  intro w'
  go_simp
  with_reducible rfl
 rotate_left
 ·
  simp only [pz]
  rfl
 refine KA (i := 5) (N := some 2) (v := ?_) (a' := ?_) (bz 6 63) rfl rfl (by kernel_rfl) (fun _ _ _ h => h) (Or.inl ⟨by rfl, ?_⟩) ?_ ?_
 rotate_left
 ·
  intro w'
  go_simp
  with_reducible rfl
 rotate_left
 ·
  simp only [pz]
  rfl
 refine BG (by kernel_rfl) ?_
 try go_wp2
 go_ret
 exact ⟨by rfl, bO HB⟩
def Br.f (yn : Int) (yh : List (List Int)) (yo : Int) (yu : Int) (DK : Int) (BB : Int) (AY : Int) (CX : List (List Int)) (Ez : List (List Int)) (FO : Int) (Em : Int) : Option (Int) := some (wrap64 (yo * AY))
set_option maxHeartbeats 8000000 in
set_option maxRecDepth 100000 in
theorem Br.calls (yn : Int) (yQ : Option Addr) (yM : Nat) (yh : List (List Int)) (yo : Int) (yu : Int) (DK : Int) (BB : Int) (AY : Int) (II : Option Addr) (Ii : Nat) (CX : List (List Int)) (Ij : Option Addr) (Ik : Nat) (Ez : List (List Int)) (FO : Int) (Em : Int) (r : Int) (w : World) (Ah : Kd.C (Kd.slice 3 (Kd.int .i64)) w yQ yh.length yh) (Ai : yh.length ≤ yM) (Jg : Kd.C (Kd.slice 3 (Kd.int .i64)) w II CX.length CX) (Jh : CX.length ≤ Ii) (Ji : Kd.C (Kd.slice 3 (Kd.int .i64)) w Ij Ez.length Ez) (Jj : Ez.length ≤ Ik) (h : Br.f yn yh yo yu DK BB AY CX Ez FO Em = some r) :
  Calls Try.prog 62 #[.agg #[.int .i64 yn, .slice yQ yh.length yM, .int .i64 yo, .int .i64 yu, .int .i64 DK, .int .i64 BB, .int .i64 AY, .slice II CX.length Ii, .slice Ij Ez.length Ik, .int .i64 FO, .int .i64 Em]] w fun e w' => e = .returned (.int .i64 r) ∧ Below w.heap.size w w' := by
 have Nu := Try.underlying102;have zA := yf.mk Ah;have zK := yf.mk Ai;clear Ah Ai;have Nv := yf.mk Jg;have Pe := yf.mk Jh;clear Jg Jh;have Pf := yf.mk Ji;have Pg := yf.mk Jj;clear Ji Jj;have HB := yf.mk (Below.refl w.heap.size w)
 have H : (some (wrap64 (yo * AY))) = some r := h
 clear h;obtain rfl := Option.some.inj H
 go_enter Try.func62, Try.ntmps62
 go_wp2_with (((with_reducible refine yI (N := 1) rfl ?_); refine yG rfl (N := 1) rfl (cs := #[.int .i64 yn, .slice yQ yh.length yM, .int .i64 yo, .int .i64 yu, .int .i64 DK, .int .i64 BB, .int .i64 AY, .slice II CX.length Ii, .slice Ij Ez.length Ik, .int .i64 FO, .int .i64 Em]) (t := 102) (by go_simp) ?_; intro De hg w2 yJ hb; have Ac := yf.mk (yJ); have a0q := bG (w := w) hg; have a0r := bG (w := w) hg; replace HB := bS HB hb; clear hb yJ hg; have a4E := EW Ac; have a4F := bf Ac))
 go_ret
 exact ⟨by rfl, bO HB⟩
end Go.Proofs.Ytjonnfmoocijlaa.P
