/- Texts of a claim, packed. -/
import Derived.Test.YtjonnfmoocijlaaC19
set_option linter.all false
namespace Go.Proofs.Ytjonnfmoocijlaa.P
open Go.RowKit Go.Proofs.YtjonnfmoocijlaaKW.PrintWords
theorem Jo (x : Int) (h0 : 0 ≤ x) (h1 : x < 65536) : ∃ (d : Int) (L : List (List Int)) (w n r : Nat) (T S : Int), Ev (fun k => zh.f k x) (d, L, T, S) ∧ Lo d L w n r T S := by
  have e0 : wrap64 x = x := ww (by omega) (by omega)
  have e1 : Int.tmod x 8 = x % 8 := Int.tmod_eq_emod_of_nonneg h0
  have e2 : wrap64 (Int.tdiv x 16) = x / 16 := by rw [Int.tdiv_eq_ediv_of_nonneg h0]; exact ww (by omega) (by omega)
  have e3 : wrap64 (Int.tdiv x 80) = x / 80 := by rw [Int.tdiv_eq_ediv_of_nonneg h0]; exact ww (by omega) (by omega)
  have e4 : Int.tmod (x / 16) 5 = x / 16 % 5 := Int.tmod_eq_emod_of_nonneg (by omega)
  have e5 : Int.tmod (x / 80) 8 = x / 80 % 8 := Int.tmod_eq_emod_of_nonneg (by omega)
  have e6 : wrap64 (1 + x / 16 % 5) = 1 + x / 16 % 5 := ww (by omega) (by omega)
  have e7 : wrap64 (Int.tdiv x 8) = x / 8 := by rw [Int.tdiv_eq_ediv_of_nonneg h0]; exact ww (by omega) (by omega)
  have e8 : Int.tmod (x / 8) 2 = x / 8 % 2 := Int.tmod_eq_emod_of_nonneg (by omega)
  have e9 : wrap64 (4 + x / 8 % 2) = 4 + x / 8 % 2 := ww (by omega) (by omega)
  have hT : 1 ≤ 1 + x / 16 % 5 ∧ 1 + x / 16 % 5 ≤ 5 := by omega
  have hS : 0 ≤ x / 80 % 8 ∧ x / 80 % 8 ≤ 7 := by omega
  have hc : ∀ {a b : Int} {d : Int} {L : List (List Int)}, ym.f 1500 a b = some (d, L) → Ev (fun k => ym.f k a b) (d, L) := fun h => U2 (fun k => ym.mono _ _ k) h
  have hj : ∀ bb : Bool, bb = decide (x % 8 = 0 ∨ x % 8 = 1 ∨ x % 8 = 2) → ∃ (d : Int) (L : List (List Int)) (w n r : Nat) (T S : Int), Ev (fun k => zh.j0 k x (x % 8) bb 0) (d, L, T, S) ∧ Lo d L w n r T S := by
    intro bb hbb
    cases bb with
    | true =>
      refine ⟨_, _, _, _, _, _, _, evs (fun k => by rw [zh.j0]) (AJ rfl ?_), ⟨a4X, hT, hS⟩⟩
      exact DN (hc cmp0) (I8 (by rw [e2, e4, e6, e3, e5]))
    | false =>
      have hn := of_decide_eq_false hbb.symm
      by_cases c3 : x % 8 = 3
      · refine ⟨_, _, _, _, _, _, _, evs (fun k => by rw [zh.j0]) (BQ (by decide) (AJ c3 ?_)), ⟨a6M, hT, hS⟩⟩
        exact DN (hc a6S) (I8 (by rw [e2, e4, e6, e3, e5]))
      by_cases c4 : x % 8 = 4
      · refine ⟨_, _, _, _, _, _, _, evs (fun k => by rw [zh.j0]) (BQ (by decide) (BQ c3 (AJ c4 ?_))), ⟨a6N, hT, hS⟩⟩
        exact DN (hc a6T) (I8 (by rw [e2, e4, e6, e3, e5]))
      by_cases c5 : x % 8 = 5
      · rcases (show x / 8 % 2 = 0 ∨ x / 8 % 2 = 1 by omega) with c8 | c8
        · refine ⟨_, _, _, _, _, _, _, evs (fun k => by rw [zh.j0]) (BQ (by decide) (BQ c3 (BQ c4 (AJ c5 ?_)))), ⟨a6O, hT, hS⟩⟩
          rw [e7, e8, e9, c8]
          exact DN (hc a6U) (I8 (by rw [e2, e4, e6, e3, e5]))
        · refine ⟨_, _, _, _, _, _, _, evs (fun k => by rw [zh.j0]) (BQ (by decide) (BQ c3 (BQ c4 (AJ c5 ?_)))), ⟨a6P, hT, hS⟩⟩
          rw [e7, e8, e9, c8]
          exact DN (hc a6V) (I8 (by rw [e2, e4, e6, e3, e5]))
      by_cases c6 : x % 8 = 6
      · refine ⟨_, _, _, _, _, _, _, evs (fun k => by rw [zh.j0]) (BQ (by decide) (BQ c3 (BQ c4 (BQ c5 (AJ c6 ?_))))), ⟨a6Q, hT, hS⟩⟩
        exact DN (U2 (fun k => yE.mono _ k) a6W) (I8 (by rw [e2, e4, e6, e3, e5]))
      have c7 : x % 8 = 7 := by omega
      refine ⟨_, _, _, _, _, _, _, evs (fun k => by rw [zh.j0]) (BQ (by decide) (BQ c3 (BQ c4 (BQ c5 (BQ c6 (AJ c7 ?_)))))), ⟨a6R, hT, hS⟩⟩
      exact DN (hc a6X) (I8 (by rw [e2, e4, e6, e3, e5]))
  unfold zh.f
  rw [e0, e1]
  by_cases c0 : x % 8 = 0
  · obtain ⟨d, L, w, n, r, T, S, h1, h2⟩ := hj (x % 8 == 0) (by simp [c0])
    exact ⟨d, L, w, n, r, T, S, AJ c0 h1, h2⟩
  by_cases c1 : x % 8 = 1
  · obtain ⟨d, L, w, n, r, T, S, h1, h2⟩ := hj (x % 8 == 1) (by simp [c1])
    exact ⟨d, L, w, n, r, T, S, BQ c0 (AJ c1 h1), h2⟩
  · obtain ⟨d, L, w, n, r, T, S, h1, h2⟩ := hj (x % 8 == 2) (by simp [c0, c1]; rfl)
    exact ⟨d, L, w, n, r, T, S, BQ c0 (BQ c1 h1), h2⟩
theorem Ru (d y : Int) (hd : 0 ≤ d ∧ d ≤ 13) : ∃ dead : List Bool, Ev (fun k => zk.f k d y) dead ∧ (dead.length : Int) = d := by
  have h0 : ∀ t j : Nat, d.toNat - j = t → j ≤ d.toNat → ∀ (out : List Bool) (c : Nat), out.length = d.toNat → c ≤ j → ∃ dead : List Bool, Ev (fun k => zk.l0 k d y out (c : Int) (j : Int)) dead ∧ (dead.length : Int) = d := by
    intro t
    induction t with
    | zero =>
      intro j ht hj out c ho hc
      exact ⟨out, evs (fun k => by rw [zk.l0]) (BQ (by omega) (evs (fun k => by rw [zk.j1]) (BQ (by decide) (Ev.now _)))), by omega⟩
    | succ t ih =>
      intro j ht hj out c ho hc
      have hww : wrap64 ((j : Int) + 1) = ((j + 1 : Nat) : Int) := by rw [ww (by omega) (by omega)]; omega
      have hwc : wrap64 ((c : Int) + 1) = ((c + 1 : Nat) : Int) := by rw [ww (by omega) (by omega)]; omega
      have hjd : (j : Int) < d := by omega
      have hjo : (j : Int) < (out.length : Int) := by omega
      have hlt : decide ((j : Int) < 16) = true := decide_eq_true (by omega)
      have hj0 : (0 : Int) ≤ (j : Int) := Int.natCast_nonneg j
      have ht' : d.toNat - (j + 1) = t := by omega
      have hj' : j + 1 ≤ d.toNat := by omega
      have hstay := ih (j + 1) ht' hj' out c ho (Nat.le_succ_of_le hc)
      have hput := ih (j + 1) ht' hj' (out.set j true) (c + 1) (by rw [List.length_set]; exact ho) (Nat.succ_le_succ hc)
      have hgo : ∀ dead, Ev (fun k => zk.j1 k d y out (c : Int) (j : Int) true) dead → Ev (fun k => zk.l0 k d y out (c : Int) (j : Int)) dead := fun dead h =>
        evs (fun k => by rw [zk.l0]) (AJ hjd (by rw [hlt]; exact h))
      by_cases c1 : (Go.bits .and .u16 (shr .u16 y (j : Int)) 1) = 1
      · by_cases c2 : (c : Int) < 3
        · obtain ⟨dead, h1, h2⟩ := hput
          refine ⟨dead, hgo dead (evs (fun k => by rw [zk.j1]) (AJ rfl (AJ hj0 (AJ c1 (AJ c2 (AJ hjo ?_)))))), h2⟩
          rw [hww, hwc, Int.toNat_natCast]
          exact h1
        · obtain ⟨dead, h1, h2⟩ := hstay
          refine ⟨dead, hgo dead (evs (fun k => by rw [zk.j1]) (AJ rfl (AJ hj0 (AJ c1 (BQ c2 ?_))))), h2⟩
          rw [hww]
          exact h1
      · obtain ⟨dead, h1, h2⟩ := hstay
        refine ⟨dead, hgo dead (evs (fun k => by rw [zk.j1]) (AJ rfl (AJ hj0 (BQ c1 ?_)))), h2⟩
        rw [hww]
        exact h1
  obtain ⟨dead, h1, h2⟩ := h0 _ 0 rfl (Nat.zero_le _) (List.replicate d.toNat false) 0 (by simp) (Nat.le_refl _)
  unfold zk.f
  exact ⟨dead, AJ hd.1 (AJ (by omega) h1), h2⟩
end Go.Proofs.Ytjonnfmoocijlaa.P
namespace Go.Proofs.Ytjonnfmoocijlaa.P
open Go.RowKit Go.Proofs.YtjonnfmoocijlaaKW.PrintWords Go.Proofs.YtjonnfmoocijlaaKW.PrintLast Go.Proofs.YtjonnfmoocijlaaKW.PrintMore
attribute [local go_sem] zO zP Aj Ak zC zD zQ zR
def cmp_isNaN_int.f (a0 : Int) : Option (Bool) := some (a0 != a0)
set_option maxHeartbeats 8000000 in
set_option maxRecDepth 100000 in
theorem cmp_isNaN_int.calls (a0 : Int) (r : Bool) (w : World) (h : cmp_isNaN_int.f a0 = some r) :
  Calls Try.prog 75 #[.int .i64 a0] w fun e w' => e = .returned (.bool r) ∧ zV w w' := by
 have H : (some (a0 != a0)) = some r := h
 clear h;obtain rfl := Option.some.inj H
 go_enter Try.func75, Try.ntmps75
 go_wp2
 go_ret
 exact ⟨by rfl, by repeat (exact zV.refl _)⟩
def cmp_Compare_int.f (a0 : Int) (a1 : Int) : Option (Int) := (cmp_isNaN_int.f a0).bind fun t154 => ((cmp_isNaN_int.f a1).bind fun Rv => (if t154 = true then (if Rv = true then (some 0) else (some (-1))) else (if Rv = true then (some 1) else (if a0 < a1 then (some (-1)) else (if a0 > a1 then (some 1) else (some 0))))))
set_option maxHeartbeats 8000000 in
set_option maxRecDepth 100000 in
theorem cmp_Compare_int.calls (a0 : Int) (a1 : Int) (r : Int) (w : World) (h : cmp_Compare_int.f a0 a1 = some r) :
  Calls Try.prog 56 #[.int .i64 a0, .int .i64 a1] w fun e w' => e = .returned (.int .i64 r) ∧ zV w w' := by
 have H : ((cmp_isNaN_int.f a0).bind fun t154 => ((cmp_isNaN_int.f a1).bind fun Rv => (if t154 = true then (if Rv = true then (some 0) else (some (-1))) else (if Rv = true then (some 1) else (if a0 < a1 then (some (-1)) else (if a0 > a1 then (some 1) else (some 0))))))) = some r := h
 clear h;obtain ⟨t154, A3, H⟩ := bE H
 try dsimp only at H
 obtain ⟨Rv, A4, H⟩ := bE H
 try dsimp only at H
 by_cases c5 : t154 = true
 ·
  subst c5;rw [if_pos rfl] at H
  by_cases c6 : Rv = true
  ·
   subst c6;rw [if_pos rfl] at H;obtain rfl := Option.some.inj H
   go_enter Try.func56, Try.ntmps56
   go_wp2_with (first | ((with_reducible refine yw (f := 75) rfl ?_); refine gL (some 8) Try.func75 #[.int .i64 a0] ?_; (with_reducible refine (cmp_isNaN_int.calls a0 true _ A3.out).mono ?_); rintro e w' ⟨rfl, ⟨nd, rfl⟩⟩; refine ⟨_, rfl, ?_⟩) | ((with_reducible refine yw (f := 75) rfl ?_); refine gL (some 10) Try.func75 #[.int .i64 a1] ?_; (with_reducible refine (cmp_isNaN_int.calls a1 true _ A4.out).mono ?_); rintro e w' ⟨rfl, ⟨nd, rfl⟩⟩; refine ⟨_, rfl, ?_⟩))
   go_ret
   exact ⟨by rfl, by repeat (first | exact zV.refl _ | apply zV.step)⟩
  replace c6 := Bool.eq_false_iff.mpr c6;subst c6
  rw [if_neg (show ¬ (false = true) by decide)] at H
  obtain rfl := Option.some.inj H
  go_enter Try.func56, Try.ntmps56
  go_wp2_with (first | ((with_reducible refine yw (f := 75) rfl ?_); refine gL (some 8) Try.func75 #[.int .i64 a0] ?_; (with_reducible refine (cmp_isNaN_int.calls a0 true _ A3.out).mono ?_); rintro e w' ⟨rfl, ⟨nd, rfl⟩⟩; refine ⟨_, rfl, ?_⟩) | ((with_reducible refine yw (f := 75) rfl ?_); refine gL (some 10) Try.func75 #[.int .i64 a1] ?_; (with_reducible refine (cmp_isNaN_int.calls a1 false _ A4.out).mono ?_); rintro e w' ⟨rfl, ⟨nd, rfl⟩⟩; refine ⟨_, rfl, ?_⟩))
  go_ret
  exact ⟨by rfl, by repeat (first | exact zV.refl _ | apply zV.step)⟩
 replace c5 := Bool.eq_false_iff.mpr c5;subst c5
 rw [if_neg (show ¬ (false = true) by decide)] at H
 by_cases c7 : Rv = true
 ·
  subst c7;rw [if_pos rfl] at H;obtain rfl := Option.some.inj H
  go_enter Try.func56, Try.ntmps56
  go_wp2_with (first | ((with_reducible refine yw (f := 75) rfl ?_); refine gL (some 8) Try.func75 #[.int .i64 a0] ?_; (with_reducible refine (cmp_isNaN_int.calls a0 false _ A3.out).mono ?_); rintro e w' ⟨rfl, ⟨nd, rfl⟩⟩; refine ⟨_, rfl, ?_⟩) | ((with_reducible refine yw (f := 75) rfl ?_); refine gL (some 10) Try.func75 #[.int .i64 a1] ?_; (with_reducible refine (cmp_isNaN_int.calls a1 true _ A4.out).mono ?_); rintro e w' ⟨rfl, ⟨nd, rfl⟩⟩; refine ⟨_, rfl, ?_⟩))
  go_ret
  exact ⟨by rfl, by repeat (first | exact zV.refl _ | apply zV.step)⟩
 replace c7 := Bool.eq_false_iff.mpr c7;subst c7
 rw [if_neg (show ¬ (false = true) by decide)] at H
 by_cases c8 : a0 < a1
 ·
  rw [if_pos c8] at H;have GZ := decide_eq_true c8;clear c8;obtain rfl := Option.some.inj H
  go_enter Try.func56, Try.ntmps56
  go_wp2_with (first | ((with_reducible refine yw (f := 75) rfl ?_); refine gL (some 8) Try.func75 #[.int .i64 a0] ?_; (with_reducible refine (cmp_isNaN_int.calls a0 false _ A3.out).mono ?_); rintro e w' ⟨rfl, ⟨nd, rfl⟩⟩; refine ⟨_, rfl, ?_⟩) | ((with_reducible refine yw (f := 75) rfl ?_); refine gL (some 10) Try.func75 #[.int .i64 a1] ?_; (with_reducible refine (cmp_isNaN_int.calls a1 false _ A4.out).mono ?_); rintro e w' ⟨rfl, ⟨nd, rfl⟩⟩; refine ⟨_, rfl, ?_⟩))
  go_ret
  exact ⟨by rfl, by repeat (first | exact zV.refl _ | apply zV.step)⟩
 rw [if_neg c8] at H;have GZ := decide_eq_false c8;clear c8
 by_cases c9 : a0 > a1
 ·
  rw [if_pos c9] at H;have IE := decide_eq_true c9;clear c9;obtain rfl := Option.some.inj H
  go_enter Try.func56, Try.ntmps56
  go_wp2_with (first | ((with_reducible refine yw (f := 75) rfl ?_); refine gL (some 8) Try.func75 #[.int .i64 a0] ?_; (with_reducible refine (cmp_isNaN_int.calls a0 false _ A3.out).mono ?_); rintro e w' ⟨rfl, ⟨nd, rfl⟩⟩; refine ⟨_, rfl, ?_⟩) | ((with_reducible refine yw (f := 75) rfl ?_); refine gL (some 10) Try.func75 #[.int .i64 a1] ?_; (with_reducible refine (cmp_isNaN_int.calls a1 false _ A4.out).mono ?_); rintro e w' ⟨rfl, ⟨nd, rfl⟩⟩; refine ⟨_, rfl, ?_⟩))
  go_ret
  exact ⟨by rfl, by repeat (first | exact zV.refl _ | apply zV.step)⟩
 rw [if_neg c9] at H;have IE := decide_eq_false c9;clear c9;obtain rfl := Option.some.inj H
 go_enter Try.func56, Try.ntmps56
 go_wp2_with (first | ((with_reducible refine yw (f := 75) rfl ?_); refine gL (some 8) Try.func75 #[.int .i64 a0] ?_; (with_reducible refine (cmp_isNaN_int.calls a0 false _ A3.out).mono ?_); rintro e w' ⟨rfl, ⟨nd, rfl⟩⟩; refine ⟨_, rfl, ?_⟩) | ((with_reducible refine yw (f := 75) rfl ?_); refine gL (some 10) Try.func75 #[.int .i64 a1] ?_; (with_reducible refine (cmp_isNaN_int.calls a1 false _ A4.out).mono ?_); rintro e w' ⟨rfl, ⟨nd, rfl⟩⟩; refine ⟨_, rfl, ?_⟩))
 go_ret
 exact ⟨by rfl, by repeat (first | exact zV.refl _ | apply zV.step)⟩
def Ct.l0 : Nat → Int → List Int → Int → Int → Option (Int)
 | 0, _, _, _, _ => none
 | k + 1, x3, x6, x7, x8 => if x8 < x7 then (if 0 ≤ x8 then (if x8 < (x6.length : Int) then (if (rd x6 x8) = x3 then (Ct.l0 k x3 x6 x7 (wrap64 (x8 + 1))) else (some (rd x6 x8))) else (none)) else (none)) else (some x3)
def Ct.f (k : Nat) (l0 : List Int) : Option (Int) := Ct.l0 k 0 l0 (l0.length : Int) 0
set_option maxHeartbeats 8000000 in
set_option maxRecDepth 100000 in
theorem Ct.calls (k : Nat) (A0 : Option Addr) (c0 : Nat) (l0 : List Int) (r : Int) (w : World) (hr0 : Kd.C (Kd.int .i64) w A0 l0.length l0) (hc0 : l0.length ≤ c0) (h : Ct.f k l0 = some r) :
  Calls Try.prog 68 #[.slice A0 l0.length c0] w fun e w' => e = .returned (.int .i64 r) ∧ zV w w' := by
 have Li := yf.mk hr0;have Ws := yf.mk hc0;clear hr0 hc0
 have H : (Ct.l0 k 0 l0 (l0.length : Int) 0) = some r := h
 clear h;have H' := yf.mk H;clear H
 go_enter Try.func68, Try.ntmps68
 go_wp2
 go_loopg [8] k (fun kq v8 w' => ∃ (Dh : Int), v8 = .int .i64 Dh ∧ yf (Ct.l0 kq 0 l0 (l0.length : Int) Dh = some r) ∧ yf (kq ≤ k) ∧ zV w w')
 case atStart => exact ⟨(0), (by rfl), H', ⟨Nat.le_refl _⟩, by repeat (exact zV.refl _)⟩
 case round =>
 clear H';obtain ⟨Dh, rfl, HA, BJ, ⟨m1, rfl⟩⟩ := hrel
 cases gk with
 | zero => exact absurd HA.out (by simp [Ct.l0])
 | succ k1 =>
 have H := HA.out;clear HA;simp only [Ct.l0] at H
 by_cases c2 : Dh < (l0.length : Int)
 rotate_left
 ·
  rw [if_neg c2] at H;have V5 := decide_eq_false c2;clear c2;obtain rfl := Option.some.inj H
  go_wp2
  go_ret
  exact ⟨by rfl, by repeat (first | exact zV.refl _ | apply zV.step)⟩
 rw [if_pos c2] at H;have V5 := decide_eq_true c2;clear c2
 by_cases c3 : 0 ≤ Dh
 rotate_left
 ·
  rw [if_neg c3] at H;exact absurd H (by simp)
 rw [if_pos c3] at H;have G5 := decide_eq_true c3;clear c3
 by_cases c4 : Dh < (l0.length : Int)
 rotate_left
 ·
  rw [if_neg c4] at H;exact absurd H (by simp)
 rw [if_pos c4] at H;have ES := decide_eq_true c4;clear c4
 by_cases c5 : (rd l0 Dh) = 0
 ·
  rw [if_pos c5] at H;have FE := beq_iff_eq.mpr c5
  have MF : ((rd l0 Dh) != 0) = false := bne_eq_false_iff_eq.mpr c5
  clear c5;have H' := yf.mk H;clear H
  have aa : 0 ≤ (Dh : Int) := of_decide_eq_true ‹_›
  have ae : Dh < (l0.length : Int) := of_decide_eq_true ‹_›
  obtain ⟨ag, af, ah⟩ := Kd.C9 Li.out Dh aa ae;cases af;replace aa := eq_true aa;replace ae := eq_true ae
  go_wp2
  go_roundg k1
  case measure => have := BJ.out; omega
  case rel => exact ⟨(wrap64 (Dh + 1)), (by rfl), H', ⟨by have := BJ.out; omega⟩, by repeat (first | exact zV.refl _ | apply zV.step)⟩
 rw [if_neg c5] at H;have FE := beq_eq_false_iff_ne.mpr c5;have MF := bne_iff_ne.mpr c5;obtain rfl := Option.some.inj H
 have aa : 0 ≤ (Dh : Int) := of_decide_eq_true ‹_›
 have ae : Dh < (l0.length : Int) := of_decide_eq_true ‹_›
 obtain ⟨ag, af, ah⟩ := Kd.C9 Li.out Dh aa ae;cases af;replace aa := eq_true aa;replace ae := eq_true ae
 go_wp2
 go_ret
 exact ⟨by rfl, by repeat (first | exact zV.refl _ | apply zV.step)⟩
def BC.f (k : Nat) (yn : Int) (Qg : Int) (yo : Int) (yu : Int) (CK : Int) (CQ : Int) : Option (Int) := (cmp_Compare_int.f yn CK).bind fun t159 => ((cmp_Compare_int.f Qg CQ).bind fun t160 => ((Ct.f k (([t159, t160] : List Int))).bind fun t164 => (some t164)))
def BC.T1 : Bool × List (List Nat × List Nat) := (true, [([], []), ([0], [0]), ([], []), ([2], [2]), ([1, 3], [1, 3]), ([], []), ([5], [5]), ([], []), ([7], [7]), ([6, 8, 4], [6, 8]), ([4, 9], [4, 9]), ([10, 9], [10]), ([11, 11, 0, 1, 2, 3, 4, 5, 6, 7, 8, 9, 10, 11], [11])])
def BC.B1 : List Nat := [0, 1, 0, 4, 15, 0, 32, 0, 128, 511, 1023, 2047, 4095]
theorem BC.a2w : CZ .any (opsOf Try.f42 1) = BC.T1 := by kernel_rfl
theorem BC.WV : BD BC.T1.2 BC.B1 = true := by kernel_rfl
set_option maxHeartbeats 8000000 in
set_option maxRecDepth 100000 in
theorem BC.calls (k : Nat) (yn : Int) (Qg : Int) (yo : Int) (yu : Int) (CK : Int) (CQ : Int) (r : Int) (w : World) (h : BC.f k yn Qg yo yu CK CQ = some r) :
  Calls Try.prog 42 #[.agg #[.int .i64 yn, .int .i64 Qg, .int .i64 yo, .int .i64 yu], .agg #[.int .i64 CK, .int .i64 CQ]] w fun e w' => e = .returned (.int .i64 r) ∧ Below w.heap.size w w' := by
 have LC := Try.underlying47;have Xq := Try.underlying81;have HB := yf.mk (Below.refl w.heap.size w)
 have H : ((cmp_Compare_int.f yn CK).bind fun t159 => ((cmp_Compare_int.f Qg CQ).bind fun t160 => ((Ct.f k (([t159, t160] : List Int))).bind fun t164 => (some t164)))) = some r := h
 clear h;obtain ⟨t159, A3, H⟩ := bE H
 try dsimp only at H
 obtain ⟨t160, A4, H⟩ := bE H
 try dsimp only at H
 obtain ⟨ag, ai⟩ : ∃ y_ : List Int, y_ = (([t159, t160] : List Int)) := ⟨_, rfl⟩
 replace H : ((Ct.f k ag).bind fun t164 => (some t164)) = some r := by (rw [ai]; with_reducible exact H)
 have ak := yf.mk ai;clear ai;obtain ⟨t164, A5, H⟩ := bE H
 try dsimp only at H
 obtain rfl := Option.some.inj H
 go_enter Try.func42, Try.ntmps42
 try go_wp2_with (first | ((with_reducible refine yI (N := 2) rfl ?_); refine yG rfl (N := 2) rfl (cs := #[.int .i64 yn, .int .i64 Qg, .int .i64 yo, .int .i64 yu]) (t := 47) (by go_simp) ?_; intro af hg w6 yJ hb; have aa := yf.mk (yJ); have az := bG (w := w) hg; have aA := bG (w := w) hg; replace HB := bS HB hb; clear hb yJ hg) | ((with_reducible refine yI (N := 3) rfl ?_); refine yG rfl (N := 3) rfl (cs := #[.int .i64 CK, .int .i64 CQ]) (t := 81) (by go_simp) ?_; intro aj hg w7 yJ hb; have ae := yf.mk (yJ); have ax := bG (w := w) hg; have av := bG (w := w) hg; have au := Co aa hg; have ay := Ar aa hg; replace aa := bB aa hb; replace HB := bS HB hb; clear hb yJ hg))
 replace aa := yf.mk (yO aa.out);replace ae := yf.mk (yO ae.out);replace HB := yf.mk (za HB.out)
 refine Bc (n := 13) (S := fun w' => w'.cell? ⟨af, 0, none⟩ = some (.int .i64 yn) ∧ w'.cell? ⟨af, 1, none⟩ = some (.int .i64 Qg) ∧ w'.cell? ⟨af, 2, none⟩ = some (.int .i64 yo) ∧ w'.cell? ⟨af, 3, none⟩ = some (.int .i64 yu) ∧ w'.cell? ⟨aj, 0, none⟩ = some (.int .i64 CK) ∧ w'.cell? ⟨aj, 1, none⟩ = some (.int .i64 CQ)) (ds := []) (bz 13 0) (by kernel_rfl) rfl rfl (K6 aa (bc2 ae)) (fun hHeld => ?_); refine zF BC.a2w BC.WV (fun yz Bi => ?_)
 generalize w7.drew = w8 at aa ae HB hHeld ⊢;refine pU 0 5 13 1 yz ?_;refine pU 2 7 13 5 yz ?_;refine pU 5 10 13 37 yz ?_;refine pU 7 12 13 165 yz ?_
 refine BO 1 6 13 167 yz Bi hHeld ?_
 refine BO 3 8 13 175 yz Bi hHeld ?_
 refine BO 6 11 13 239 yz Bi hHeld ?_
 refine BO 8 13 13 495 yz Bi hHeld ?_
 refine Ck (i := 4) (N := some 9) (bz 13 511) rfl rfl (Af yz.out (by kernel_rfl)) (by decide) (fun K hK => ?_)
 refine gO Try.func56 #[.int .i64 yn, .int .i64 CK] ?_
 with_reducible refine (cmp_Compare_int.calls yn CK t159 _ A3.out).mono ?_
 rintro e w' ⟨rfl, ⟨nd, rfl⟩⟩
 refine ⟨_, rfl, ?_⟩
 refine hK.out _ _ (K6 aa (bc2 ae)) (fun hHeld => ?_)
 clear hK K
 refine AR (a' := ?_) ?_ ?_
 rotate_left
 ·
  show Act.put _ (some 9) _ = _
  simp only [pz]
  rfl
 refine Ck (i := 9) (N := some 14) (bz 13 1023) rfl rfl (Af yz.out (by kernel_rfl)) (by decide) (fun K hK => ?_)
 refine gO Try.func56 #[.int .i64 Qg, .int .i64 CQ] ?_
 with_reducible refine (cmp_Compare_int.calls Qg CQ t160 _ A4.out).mono ?_
 rintro e w' ⟨rfl, ⟨nd, rfl⟩⟩
 refine ⟨_, rfl, ?_⟩
 refine hK.out _ _ (K6 aa (bc2 ae)) (fun hHeld => ?_)
 clear hK K
 refine AR (a' := ?_) ?_ ?_
 rotate_left
 ·
  show Act.put _ (some 14) _ = _
  simp only [pz]
  rfl
 refine Ck (i := 10) (N := some 15) (bz 13 2047) rfl rfl (Af yz.out (by kernel_rfl)) (by decide) (fun K hK => ?_)
 refine Kd.MW (Kd.int .i64) _ 3 ?hg (N := 15) ?hd (xs := ([t159, t160] : List Int)) (inner := [.int .i64 t159, .int .i64 t160]) (ok := fun _ => True) (okp := fun _ => True) ?hr ?hp (fun _ hk => hk) trivial (Below.refl _ _) (Nat.le_refl _) (by simp) ?_; (case hd => rfl); (case hg => rfl); (case hr => go_simp); (case hp => exact (Cj.one (show Kd.M (Kd.int .i64) _ _ _ t159 [.int .i64 t159] from rfl) (Cj.one (show Kd.M (Kd.int .i64) _ _ _ t160 [.int .i64 t160] from rfl) (Cj.none _ _))))
 intro v162 w9 SQ hb JN DW
 clear JN DW
 (rw [← ak.out] at SQ)
 have ah := yf.mk (Kd.Ay SQ (yL (bO HB)));replace aa := bB aa hb;replace ae := bB ae hb;replace HB := bS HB hb;clear hb SQ;obtain ⟨Vj, Ty, Tz⟩ := Kd.zJ ah.out
 (subst Tz)
 refine hK.out _ _ (K6 aa (bc2 ae)) (fun hHeld => ?_)
 clear hK K
 refine AR (a' := ?_) ?_ ?_
 rotate_left
 ·
  show Act.put _ (some 15) _ = _
  simp only [pz]
  rfl
 refine Ck (i := 11) (N := some 16) (bz 13 4095) rfl rfl (Af yz.out (by kernel_rfl)) (by decide) (fun K hK => ?_)
 refine gO Try.func68 #[.slice Vj ag.length Ty] ?_
 with_reducible refine (Ct.calls k _ _ ag t164 _ ?yD ?yF A5.out).mono ?_
 (case yD => exact G7 ah)
 (case yF => exact (Kd.yT ah.out).2.1)
 rintro e w' ⟨rfl, ⟨nd, rfl⟩⟩
 refine ⟨_, rfl, ?_⟩
 refine hK.out _ _ (K6 aa (bc2 ae)) (fun hHeld => ?_)
 clear hK K
 refine AR (a' := ?_) ?_ ?_
 rotate_left
 ·
  show Act.put _ (some 16) _ = _
  simp only [pz]
  rfl
 refine pU 12 4 13 8191 yz ?_
 refine BG (Al yz.out (by kernel_rfl)) ?_
 try go_wp2
 go_ret
 exact ⟨by rfl, bO HB⟩
end Go.Proofs.Ytjonnfmoocijlaa.P
