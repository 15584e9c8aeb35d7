/- Texts of a claim, packed. -/
import Derived.Test.YtjonnfmoocijlaaD5
import Derived.Test.YtjonnfmoocijlaaD9
set_option linter.all false
namespace Go.Proofs.Ytjonnfmoocijlaa.P
open Go.RowKit Go.Proofs.YtjonnfmoocijlaaKW.PrintWords Go.Proofs.YtjonnfmoocijlaaKW.PrintLast Go.Proofs.YtjonnfmoocijlaaKW.PrintMore
attribute [local go_sem] zz zA zS zT zn zo zB zC
def zD.j0 : Nat → Int → Int → Bool → Int → Option (Int × (List (List Int)) × Int × Int)
 | 0, _, _, _, _ => none
 | k + 1, x4, x8, x9, aj => if x9 = true then ((ym.f k 5 4).bind fun ah => (some (ah.1, ah.2, wrap64 (1 + (Int.tmod (wrap64 (Int.tdiv x4 16)) 5)), Int.tmod (wrap64 (Int.tdiv x4 80)) 8))) else (if x8 = 3 then ((ym.f k 6 4).bind fun aa => (some (aa.1, aa.2, wrap64 (1 + (Int.tmod (wrap64 (Int.tdiv x4 16)) 5)), Int.tmod (wrap64 (Int.tdiv x4 80)) 8))) else (if x8 = 4 then ((ym.f k 6 5).bind fun af => (some (af.1, af.2, wrap64 (1 + (Int.tmod (wrap64 (Int.tdiv x4 16)) 5)), Int.tmod (wrap64 (Int.tdiv x4 80)) 8))) else (if x8 = 5 then ((ym.f k (wrap64 (4 + (Int.tmod (wrap64 (Int.tdiv x4 8)) 2))) (wrap64 (4 + (Int.tmod (wrap64 (Int.tdiv x4 8)) 2)))).bind fun ai => (some (ai.1, ai.2, wrap64 (1 + (Int.tmod (wrap64 (Int.tdiv x4 16)) 5)), Int.tmod (wrap64 (Int.tdiv x4 80)) 8))) else (if x8 = 6 then ((yx.f k 3).bind fun ag => (some (ag.1, ag.2, wrap64 (1 + (Int.tmod (wrap64 (Int.tdiv x4 16)) 5)), Int.tmod (wrap64 (Int.tdiv x4 80)) 8))) else (if x8 = 7 then ((ym.f k 7 5).bind fun ae => (some (ae.1, ae.2, wrap64 (1 + (Int.tmod (wrap64 (Int.tdiv x4 16)) 5)), Int.tmod (wrap64 (Int.tdiv x4 80)) 8))) else (some (aj, ([] : List (List Int)), wrap64 (1 + (Int.tmod (wrap64 (Int.tdiv x4 16)) 5)), Int.tmod (wrap64 (Int.tdiv x4 80)) 8)))))))
def zD.f (k : Nat) (a0 : Int) : Option (Int × (List (List Int)) × Int × Int) := if (Int.tmod (wrap64 (a0)) 8) = 0 then (zD.j0 k (wrap64 (a0)) (Int.tmod (wrap64 (a0)) 8) ((Int.tmod (wrap64 (a0)) 8) == 0) 0) else (if (Int.tmod (wrap64 (a0)) 8) = 1 then (zD.j0 k (wrap64 (a0)) (Int.tmod (wrap64 (a0)) 8) ((Int.tmod (wrap64 (a0)) 8) == 1) 0) else (zD.j0 k (wrap64 (a0)) (Int.tmod (wrap64 (a0)) 8) ((Int.tmod (wrap64 (a0)) 8) == 2) 0))
set_option maxHeartbeats 8000000 in
set_option maxRecDepth 100000 in
theorem zD.calls (k : Nat) (a0 : Int) (r1 : Int) (r2 : List (List Int)) (r3 : Int) (r4 : Int) (w : World) (h : zD.f k a0 = some (r1, r2, r3, r4)) :
  Calls Try.prog 10 #[.int .u16 a0] w fun e w' => ∃ Rc : Value, e = .returned (.agg #[.int .i64 r1, Rc, .int .i64 r3, .int .i64 r4]) ∧ Kd.S (Kd.slice 3 (Kd.int .i64)) 63 w' w.heap.size (fun _ => True) Rc r2 ∧ Below w.heap.size w w' := by
 have FB := Try.underlying31;have NN := Try.underlying29;have HB := yf.mk (Below.refl w.heap.size w)
 have H : (if (Int.tmod (wrap64 (a0)) 8) = 0 then (zD.j0 k (wrap64 (a0)) (Int.tmod (wrap64 (a0)) 8) ((Int.tmod (wrap64 (a0)) 8) == 0) 0) else (if (Int.tmod (wrap64 (a0)) 8) = 1 then (zD.j0 k (wrap64 (a0)) (Int.tmod (wrap64 (a0)) 8) ((Int.tmod (wrap64 (a0)) 8) == 1) 0) else (zD.j0 k (wrap64 (a0)) (Int.tmod (wrap64 (a0)) 8) ((Int.tmod (wrap64 (a0)) 8) == 2) 0))) = some (r1, r2, r3, r4) := h
 clear h;have Uh := yf.mk H;clear H
 go_enter Try.func10, Try.ntmps10
 go_upto_if 9 with (first | ((with_reducible refine yK (N := 2) rfl ?_); refine yE rfl (N := 2) rfl (cs := #[.int .i64 0, .slice none 0 0, .int .i64 0, .int .i64 0]) (t := 31) (by go_simp) ?_; intro af hg w3 yG hb; have aa := yf.mk (yG); have aZ := bG (w := w) hg; have bq := bG (w := w) hg; replace HB := bS HB hb; clear hb yG hg) | ((with_reducible refine yK (N := 3) rfl ?_); refine yE rfl (N := 3) rfl (cs := #[.int .i64 0, .slice none 0 0]) (t := 29) (by go_simp) ?_; intro ag hg w4 yG hb; have ae := yf.mk (yG); have bn := bG (w := w) hg; have bg := bG (w := w) hg; have ai := BL aa hg; have ah := Ag aa hg; replace aa := bB aa hb; replace HB := bS HB hb; clear hb yG hg))
 (try simp only [pz])
 go_cut [9] (fun v9 wc => ∃ (kq : Nat) (Bj : Bool), v9 = .bool Bj ∧ yf (zD.j0 kq (wrap64 (a0)) (Int.tmod (wrap64 (a0)) 8) Bj 0 = some (r1, r2, r3, r4)) ∧ yf (kq ≤ k) ∧ yf (wc.heap[af]? = some (.cells #[.int .i64 0, (.slice none 0 0), .int .i64 0, .int .i64 0] 31 (0, 0))) ∧ yf (wc.heap[ag]? = some (.cells #[.int .i64 0, (.slice none 0 0)] 29 (0, 0))) ∧ yf (Below w.heap.size w wc))
 case first =>
  have H := Uh.out;clear Uh
  by_cases c5 : (Int.tmod (wrap64 (a0)) 8) = 0
  ·
   rw [if_pos c5] at H;have Ez := beq_iff_eq.mpr c5
   have Jj : ((Int.tmod (wrap64 (a0)) 8) != 0) = false := bne_eq_false_iff_eq.mpr c5
   clear c5
   (rw [Ez])
   have H' := yf.mk H;clear H
   go_wp2
   go_meet
   case rel => exact ⟨_, (((Int.tmod (wrap64 (a0)) 8) == 0)), (by simp [*]), H', ⟨by omega⟩, ⟨kk aa⟩, ⟨kk ae⟩, ⟨bO HB⟩⟩
  rw [if_neg c5] at H;have Ez := beq_eq_false_iff_ne.mpr c5;have Jj := bne_iff_ne.mpr c5
  (rw [Ez])
  by_cases c6 : (Int.tmod (wrap64 (a0)) 8) = 1
  ·
   rw [if_pos c6] at H;have EU := beq_iff_eq.mpr c6
   have SN : ((Int.tmod (wrap64 (a0)) 8) != 1) = false := bne_eq_false_iff_eq.mpr c6
   clear c6;have H' := yf.mk H;clear H
   go_wp2
   go_meet
   case rel => exact ⟨_, (((Int.tmod (wrap64 (a0)) 8) == 1)), (by simp [*]), H', ⟨by omega⟩, ⟨kk aa⟩, ⟨kk ae⟩, ⟨bO HB⟩⟩
  rw [if_neg c6] at H;have EU := beq_eq_false_iff_ne.mpr c6;have SN := bne_iff_ne.mpr c6;have H' := yf.mk H;clear H
  go_wp2
  go_meet
  case rel => exact ⟨_, (((Int.tmod (wrap64 (a0)) 8) == 2)), (by rfl), H', ⟨by omega⟩, ⟨kk aa⟩, ⟨kk ae⟩, ⟨bO HB⟩⟩
 case rest =>
 clear Uh;obtain ⟨kq, Bj, rfl, HA, Wm, aa, ae, HB⟩ := hcut
 cases kq with
 | zero => exact absurd HA.out (by simp [zD.j0])
 | succ Wn =>
  have H := HA.out;clear HA;simp only [zD.j0] at H
  by_cases c7 : Bj = true
  ·
   subst c7;rw [if_pos rfl] at H;obtain ⟨⟨aj, aA⟩, A8, H⟩ := bE H
   try dsimp only at H
   simp only [Option.some.injEq, Prod.mk.injEq] at H;obtain ⟨rfl, rfl, rfl, rfl⟩ := H
   go_wp2_with (((with_reducible refine yB (f := 30) rfl ?_); refine gL (some 13) Try.func30 #[.int .i64 5, .int .i64 4] ?_; (with_reducible refine (ym.calls Wn 5 4 aj aA _ A8.out).mono ?_); rintro e w9 ⟨v458, rfl, ho0, hb⟩; refine ⟨_, rfl, ?_⟩; have aT := yf.mk (Kd.Fy ho0 (yJ (bO HB))); replace aa := bB aa hb; replace ae := bB ae hb; replace HB := bS HB hb; clear hb; clear ho0; have XC := ah.out; have XD := ai.out; have Lt := bc2 ae; have Lu := bf ae; obtain ⟨SS, Qi, Uy⟩ := Kd.Es aT.out; subst Uy; have MV := AR aa; have MW := bf aa))
   refine bodyPost_ret (results_cell_row rfl _ _ af 31 #[.int .i64 aj, .slice SS aA.length Qi, .int .i64 (wrap64 (1 + (Int.tmod (wrap64 (Int.tdiv (wrap64 (a0)) 16)) 5))), .int .i64 (Int.tmod (wrap64 (Int.tdiv (wrap64 (a0)) 80)) 8)] (0, 0) _ rfl (CF aa rfl) Try.underlying31 rfl (by kernel_rfl)) rfl ?_
   exact ⟨_, by rfl, by (with_reducible repeat (apply Kd.Bb)); exact Kd.Bw (Lc (g := af) (Kd.Gt (p := ⟨ag, 1, none⟩) (Kd.Gt (p := ⟨ag, 0, none⟩) (Kd.BD (Kd.BD aT.out ae.out (by decide)) aa.out (by decide)) (fun _ hk => hk.1.2) (.int .i64 aj)) (fun _ hk => hk.1.2) (.slice SS aA.length Qi)) (fun _ hk => hk.2)) (fun _ hk => trivial), bO HB⟩
  ·
   replace c7 := Bool.eq_false_iff.mpr c7;subst c7
   rw [if_neg (show ¬ (false = true) by decide)] at H
   by_cases c14 : (Int.tmod (wrap64 (a0)) 8) = 3
   ·
    rw [if_pos c14] at H;have Rn := beq_iff_eq.mpr c14
    have Ro : ((Int.tmod (wrap64 (a0)) 8) != 3) = false := bne_eq_false_iff_eq.mpr c14
    clear c14;obtain ⟨⟨az, av⟩, A15, H⟩ := bE H
    try dsimp only at H
    simp only [Option.some.injEq, Prod.mk.injEq] at H;obtain ⟨rfl, rfl, rfl, rfl⟩ := H
    go_wp2_with (((with_reducible refine yB (f := 30) rfl ?_); refine gL (some 16) Try.func30 #[.int .i64 6, .int .i64 4] ?_; (with_reducible refine (ym.calls Wn 6 4 az av _ A15.out).mono ?_); rintro e w16 ⟨v462, rfl, ho0, hb⟩; refine ⟨_, rfl, ?_⟩; have aI := yf.mk (Kd.Fy ho0 (yJ (bO HB))); replace aa := bB aa hb; replace ae := bB ae hb; replace HB := bS HB hb; clear hb; clear ho0; have XE := ah.out; have XF := ai.out; have Uz := bc2 ae; have UA := bf ae; obtain ⟨Ms, KD, UB⟩ := Kd.Es aI.out; subst UB; have UC := AR aa; have UD := bf aa))
    refine bodyPost_ret (results_cell_row rfl _ _ af 31 #[.int .i64 az, .slice Ms av.length KD, .int .i64 (wrap64 (1 + (Int.tmod (wrap64 (Int.tdiv (wrap64 (a0)) 16)) 5))), .int .i64 (Int.tmod (wrap64 (Int.tdiv (wrap64 (a0)) 80)) 8)] (0, 0) _ rfl (CF aa rfl) Try.underlying31 rfl (by kernel_rfl)) rfl ?_
    exact ⟨_, by rfl, by (with_reducible repeat (apply Kd.Bb)); exact Kd.Bw (Lc (g := af) (Kd.Gt (p := ⟨ag, 1, none⟩) (Kd.Gt (p := ⟨ag, 0, none⟩) (Kd.BD (Kd.BD aI.out ae.out (by decide)) aa.out (by decide)) (fun _ hk => hk.1.2) (.int .i64 az)) (fun _ hk => hk.1.2) (.slice Ms av.length KD)) (fun _ hk => hk.2)) (fun _ hk => trivial), bO HB⟩
   ·
    rw [if_neg c14] at H;have Rn := beq_eq_false_iff_ne.mpr c14;have Ro := bne_iff_ne.mpr c14
    by_cases c21 : (Int.tmod (wrap64 (a0)) 8) = 4
    ·
     rw [if_pos c21] at H;have Rl := beq_iff_eq.mpr c21
     have XG : ((Int.tmod (wrap64 (a0)) 8) != 4) = false := bne_eq_false_iff_eq.mpr c21
     clear c21;obtain ⟨⟨ay, aH⟩, A22, H⟩ := bE H
     try dsimp only at H
     simp only [Option.some.injEq, Prod.mk.injEq] at H;obtain ⟨rfl, rfl, rfl, rfl⟩ := H
     go_wp2_with (((with_reducible refine yB (f := 30) rfl ?_); refine gL (some 19) Try.func30 #[.int .i64 6, .int .i64 5] ?_; (with_reducible refine (ym.calls Wn 6 5 ay aH _ A22.out).mono ?_); rintro e w23 ⟨v466, rfl, ho0, hb⟩; refine ⟨_, rfl, ?_⟩; have aN := yf.mk (Kd.Fy ho0 (yJ (bO HB))); replace aa := bB aa hb; replace ae := bB ae hb; replace HB := bS HB hb; clear hb; clear ho0; have UE := ah.out; have UF := ai.out; have OI := bc2 ae; have OJ := bf ae; obtain ⟨Ua, SK, Ub⟩ := Kd.Es aN.out; subst Ub; have Hu := AR aa; have Hw := bf aa))
     refine bodyPost_ret (results_cell_row rfl _ _ af 31 #[.int .i64 ay, .slice Ua aH.length SK, .int .i64 (wrap64 (1 + (Int.tmod (wrap64 (Int.tdiv (wrap64 (a0)) 16)) 5))), .int .i64 (Int.tmod (wrap64 (Int.tdiv (wrap64 (a0)) 80)) 8)] (0, 0) _ rfl (CF aa rfl) Try.underlying31 rfl (by kernel_rfl)) rfl ?_
     exact ⟨_, by rfl, by (with_reducible repeat (apply Kd.Bb)); exact Kd.Bw (Lc (g := af) (Kd.Gt (p := ⟨ag, 1, none⟩) (Kd.Gt (p := ⟨ag, 0, none⟩) (Kd.BD (Kd.BD aN.out ae.out (by decide)) aa.out (by decide)) (fun _ hk => hk.1.2) (.int .i64 ay)) (fun _ hk => hk.1.2) (.slice Ua aH.length SK)) (fun _ hk => hk.2)) (fun _ hk => trivial), bO HB⟩
    ·
     rw [if_neg c21] at H;have Rl := beq_eq_false_iff_ne.mpr c21;have XG := bne_iff_ne.mpr c21
     by_cases c28 : (Int.tmod (wrap64 (a0)) 8) = 5
     ·
      rw [if_pos c28] at H;have MX := beq_iff_eq.mpr c28
      have OL : ((Int.tmod (wrap64 (a0)) 8) != 5) = false := bne_eq_false_iff_eq.mpr c28
      clear c28;obtain ⟨⟨ax, au⟩, aY, H⟩ := bE H
      try dsimp only at H
      simp only [Option.some.injEq, Prod.mk.injEq] at H;obtain ⟨rfl, rfl, rfl, rfl⟩ := H
      go_wp2_with (((with_reducible refine yB (f := 30) rfl ?_); refine gL (some 30) Try.func30 #[.int .i64 (wrap64 (4 + (Int.tmod (wrap64 (Int.tdiv (wrap64 (a0)) 8)) 2))), .int .i64 (wrap64 (4 + (Int.tmod (wrap64 (Int.tdiv (wrap64 (a0)) 8)) 2)))] ?_; (with_reducible refine (ym.calls Wn (wrap64 (4 + (Int.tmod (wrap64 (Int.tdiv (wrap64 (a0)) 8)) 2))) (wrap64 (4 + (Int.tmod (wrap64 (Int.tdiv (wrap64 (a0)) 8)) 2))) ax au _ aY.out).mono ?_); rintro e w30 ⟨v470, rfl, ho0, hb⟩; refine ⟨_, rfl, ?_⟩; have aK := yf.mk (Kd.Fy ho0 (yJ (bO HB))); replace aa := bB aa hb; replace ae := bB ae hb; replace HB := bS HB hb; clear hb; clear ho0; have XH := ah.out; have XI := ai.out; have bu := bc2 ae; have bi := bf ae; obtain ⟨FV, Fp, Qj⟩ := Kd.Es aK.out; subst Qj; have JX := AR aa; have JY := bf aa))
      refine bodyPost_ret (results_cell_row rfl _ _ af 31 #[.int .i64 ax, .slice FV au.length Fp, .int .i64 (wrap64 (1 + (Int.tmod (wrap64 (Int.tdiv (wrap64 (a0)) 16)) 5))), .int .i64 (Int.tmod (wrap64 (Int.tdiv (wrap64 (a0)) 80)) 8)] (0, 0) _ rfl (CF aa rfl) Try.underlying31 rfl (by kernel_rfl)) rfl ?_
      exact ⟨_, by rfl, by (with_reducible repeat (apply Kd.Bb)); exact Kd.Bw (Lc (g := af) (Kd.Gt (p := ⟨ag, 1, none⟩) (Kd.Gt (p := ⟨ag, 0, none⟩) (Kd.BD (Kd.BD aK.out ae.out (by decide)) aa.out (by decide)) (fun _ hk => hk.1.2) (.int .i64 ax)) (fun _ hk => hk.1.2) (.slice FV au.length Fp)) (fun _ hk => hk.2)) (fun _ hk => trivial), bO HB⟩
     ·
      rw [if_neg c28] at H;have MX := beq_eq_false_iff_ne.mpr c28;have OL := bne_iff_ne.mpr c28
      by_cases KC : (Int.tmod (wrap64 (a0)) 8) = 6
      ·
       rw [if_pos KC] at H;have OH := beq_iff_eq.mpr KC
       have Ul : ((Int.tmod (wrap64 (a0)) 8) != 6) = false := bne_eq_false_iff_eq.mpr KC
       clear KC;obtain ⟨⟨aG, aC⟩, aV, H⟩ := bE H
       try dsimp only at H
       simp only [Option.some.injEq, Prod.mk.injEq] at H;obtain ⟨rfl, rfl, rfl, rfl⟩ := H
       go_wp2_with (((with_reducible refine yB (f := 32) rfl ?_); refine gL (some 33) Try.func32 #[.int .i64 3] ?_; (with_reducible refine (yx.calls Wn 3 aG aC _ aV.out).mono ?_); rintro e w37 ⟨v474, rfl, ho0, hb⟩; refine ⟨_, rfl, ?_⟩; have aQ := yf.mk (Kd.Fy ho0 (yJ (bO HB))); replace aa := bB aa hb; replace ae := bB ae hb; replace HB := bS HB hb; clear hb; clear ho0; have XJ := ah.out; have XK := ai.out; have XL := bc2 ae; have XM := bf ae; obtain ⟨Qk, Ql, UG⟩ := Kd.Es aQ.out; subst UG; have OM := AR aa; have OO := bf aa))
       refine bodyPost_ret (results_cell_row rfl _ _ af 31 #[.int .i64 aG, .slice Qk aC.length Ql, .int .i64 (wrap64 (1 + (Int.tmod (wrap64 (Int.tdiv (wrap64 (a0)) 16)) 5))), .int .i64 (Int.tmod (wrap64 (Int.tdiv (wrap64 (a0)) 80)) 8)] (0, 0) _ rfl (CF aa rfl) Try.underlying31 rfl (by kernel_rfl)) rfl ?_
       exact ⟨_, by rfl, by (with_reducible repeat (apply Kd.Bb)); exact Kd.Bw (Lc (g := af) (Kd.Gt (p := ⟨ag, 1, none⟩) (Kd.Gt (p := ⟨ag, 0, none⟩) (Kd.BD (Kd.BD aQ.out ae.out (by decide)) aa.out (by decide)) (fun _ hk => hk.1.2) (.int .i64 aG)) (fun _ hk => hk.1.2) (.slice Qk aC.length Ql)) (fun _ hk => hk.2)) (fun _ hk => trivial), bO HB⟩
      ·
       rw [if_neg KC] at H;have OH := beq_eq_false_iff_ne.mpr KC;have Ul := bne_iff_ne.mpr KC
       by_cases IQ : (Int.tmod (wrap64 (a0)) 8) = 7
       ·
        rw [if_pos IQ] at H;have Lj := beq_iff_eq.mpr IQ
        have aW : ((Int.tmod (wrap64 (a0)) 8) != 7) = false := bne_eq_false_iff_eq.mpr IQ
        clear IQ;obtain ⟨⟨ak, aD⟩, A43, H⟩ := bE H
        try dsimp only at H
        simp only [Option.some.injEq, Prod.mk.injEq] at H;obtain ⟨rfl, rfl, rfl, rfl⟩ := H
        go_wp2_with (((with_reducible refine yB (f := 30) rfl ?_); refine gL (some 36) Try.func30 #[.int .i64 7, .int .i64 5] ?_; (with_reducible refine (ym.calls Wn 7 5 ak aD _ A43.out).mono ?_); rintro e w44 ⟨v478, rfl, ho0, hb⟩; refine ⟨_, rfl, ?_⟩; have aM := yf.mk (Kd.Fy ho0 (yJ (bO HB))); replace aa := bB aa hb; replace ae := bB ae hb; replace HB := bS HB hb; clear hb; clear ho0; have UH := ah.out; have UI := ai.out; have XN := bc2 ae; have XO := bf ae; obtain ⟨aU, aJ, aX⟩ := Kd.Es aM.out; subst aX; have UJ := AR aa; have UK := bf aa))
        refine bodyPost_ret (results_cell_row rfl _ _ af 31 #[.int .i64 ak, .slice aU aD.length aJ, .int .i64 (wrap64 (1 + (Int.tmod (wrap64 (Int.tdiv (wrap64 (a0)) 16)) 5))), .int .i64 (Int.tmod (wrap64 (Int.tdiv (wrap64 (a0)) 80)) 8)] (0, 0) _ rfl (CF aa rfl) Try.underlying31 rfl (by kernel_rfl)) rfl ?_
        exact ⟨_, by rfl, by (with_reducible repeat (apply Kd.Bb)); exact Kd.Bw (Lc (g := af) (Kd.Gt (p := ⟨ag, 1, none⟩) (Kd.Gt (p := ⟨ag, 0, none⟩) (Kd.BD (Kd.BD aM.out ae.out (by decide)) aa.out (by decide)) (fun _ hk => hk.1.2) (.int .i64 ak)) (fun _ hk => hk.1.2) (.slice aU aD.length aJ)) (fun _ hk => hk.2)) (fun _ hk => trivial), bO HB⟩
       ·
        rw [if_neg IQ] at H;have Lj := beq_eq_false_iff_ne.mpr IQ;have aW := bne_iff_ne.mpr IQ;simp only [Option.some.injEq, Prod.mk.injEq] at H;obtain ⟨rfl, rfl, rfl, rfl⟩ := H;have XP := ah.out;have XQ := ai.out;have a0L := bc2 ae;have a0M := bf ae;have XR := AR aa;have XT := bf aa
        go_wp2
        refine bodyPost_ret (results_cell_row rfl _ _ af 31 #[.int .i64 0, .slice none 0 0, .int .i64 (wrap64 (1 + (Int.tmod (wrap64 (Int.tdiv (wrap64 (a0)) 16)) 5))), .int .i64 (Int.tmod (wrap64 (Int.tdiv (wrap64 (a0)) 80)) 8)] (0, 0) _ rfl (CF aa rfl) Try.underlying31 rfl (by kernel_rfl)) rfl ?_
        exact ⟨_, by rfl, by exact Kd.TV _ _ _ _ _, bO HB⟩
def AC.f (yn : Int) (yg : List (List Int)) (yo : Int) (yt : Int) : Option (Int) := if 0 < (yg.length : Int) then (some ((yT yg 0).length : Int)) else (none)
set_option maxHeartbeats 8000000 in
set_option maxRecDepth 100000 in
theorem AC.calls (yn : Int) (yP : Option Addr) (yI : Nat) (yg : List (List Int)) (yo : Int) (yt : Int) (r : Int) (w : World) (zR : Kd.C (Kd.slice 3 (Kd.int .i64)) w yP yg.length yg) (zU : yg.length ≤ yI) (h : AC.f yn yg yo yt = some r) :
  Calls Try.prog 24 #[.agg #[.int .i64 yn, .slice yP yg.length yI, .int .i64 yo, .int .i64 yt]] w fun e w' => e = .returned (.int .i64 r) ∧ Below w.heap.size w w' := by
 have FB := Try.underlying31;have zq := yf.mk zR;have zG := yf.mk zU;clear zR zU;have HB := yf.mk (Below.refl w.heap.size w)
 have H : (if 0 < (yg.length : Int) then (some ((yT yg 0).length : Int)) else (none)) = some r := h
 clear h
 by_cases c2 : 0 < (yg.length : Int)
 rotate_left
 ·
  rw [if_neg c2] at H;exact absurd H (by simp)
 rw [if_pos c2] at H;have SL := decide_eq_true c2
 have a2W : decide (0 < yg.length) = true := decide_eq_true (by omega)
 clear c2;obtain rfl := Option.some.inj H
 go_enter Try.func24, Try.ntmps24
 go_wp2_with (((with_reducible refine yK (N := 1) rfl ?_); refine yE rfl (N := 1) rfl (cs := #[.int .i64 yn, .slice yP yg.length yI, .int .i64 yo, .int .i64 yt]) (t := 31) (by go_simp) ?_; intro au hg w3 yG hb; have ag := yf.mk (yG); have ay := bG (w := w) hg; have aD := bG (w := w) hg; replace HB := bS HB hb; clear hb yG hg; have UL := AR ag; have UM := bf ag; have af : 0 ≤ (0 : Int) := (by omega); have ae : 0 < (yg.length : Int) := of_decide_eq_true ‹_›; obtain ⟨aA, aC, av, aj, aa, ah, ai⟩ := Dw zq.out 0 af ae; cases aj; have ax : (0 < yg.length) = True := eq_true (by omega); (try rw [show ((0 : Int)).toNat = 0 from rfl] at aa); (try rw [Addr.add_zero'] at aa); replace aa := cB HB aa; have ak := yf.mk ai; have az := yf.mk ah; clear ai ah; replace af := eq_true af; replace ae := eq_true ae))
 go_ret
 exact ⟨by rfl, bO HB⟩
def zL.l0 : Nat → List Int → Int → Int → Option (Bool)
 | 0, _, _, _ => none
 | k + 1, x0, x1, x5 => if x5 < (x0.length : Int) then (if 0 ≤ x5 then (if (rd x0 x5) = x1 then (some true) else (zL.l0 k x0 x1 (wrap64 (x5 + 1)))) else (none)) else (some false)
def zL.f (k : Nat) (l0 : List Int) (a1 : Int) : Option (Bool) := zL.l0 k l0 a1 0
theorem zL.mono_l : ∀ k, (∀ y0 y1 y2, zZ (zL.l0 k y0 y1 y2) (zL.l0 (k + 1) y0 y1 y2))
 | 0 => fun _ _ _ r h => by simp [zL.l0] at h
 | k + 1 => by
  have DN := zL.mono_l k
  ·
   intro y0 y1 y2
   unfold zL.l0
   repeat' first
   | exact DN _ _ _
   | exact zZ.refl _
   | exact zZ.none _
   | refine zZ.ite ?_ ?_
   | refine zZ.bind ?_ (fun _ => ?_)
theorem zL.mono : ∀ a0 a1 k, zZ (zL.f k a0 a1) (zL.f (k + 1) a0 a1) := by
 intro a0 a1 k
 have DN := zL.mono_l k
 unfold zL.f
 repeat' first
  | exact DN _ _ _
  | exact zZ.refl _
  | exact zZ.none _
  | refine zZ.ite ?_ ?_
  | refine zZ.bind ?_ (fun _ => ?_)
set_option maxHeartbeats 8000000 in
set_option maxRecDepth 100000 in
theorem zL.calls (k : Nat) (A0 : Option Addr) (c0 : Nat) (l0 : List Int) (a1 : Int) (r : Bool) (w : World) (hr0 : Kd.C (Kd.int .i64) w A0 l0.length l0) (hc0 : l0.length ≤ c0) (h : zL.f k l0 a1 = some r) :
  Calls Try.prog 50 #[.slice A0 l0.length c0, .int .i64 a1] w fun e w' => e = .returned (.bool r) ∧ zN w w' := by
 have Lm := yf.mk hr0;have WM := yf.mk hc0;clear hr0 hc0
 have H : (zL.l0 k l0 a1 0) = some r := h
 clear h;have H' := yf.mk H;clear H
 go_enter Try.func50, Try.ntmps50
 go_wp2
 go_loopg [5] k (fun kq v5 w' => ∃ (yQ : Int), v5 = .int .i64 yQ ∧ yf (zL.l0 kq l0 a1 yQ = some r) ∧ yf (kq ≤ k) ∧ zN w w')
 case atStart => exact ⟨(0), (by rfl), H', ⟨Nat.le_refl _⟩, by repeat (exact zN.refl _)⟩
 case round =>
 clear H';obtain ⟨yQ, rfl, HA, BZ, ⟨m1, rfl⟩⟩ := hrel
 cases gk with
 | zero => exact absurd HA.out (by simp [zL.l0])
 | succ k1 =>
 have H := HA.out;clear HA;simp only [zL.l0] at H
 by_cases c3 : yQ < (l0.length : Int)
 rotate_left
 ·
  rw [if_neg c3] at H;have FM := decide_eq_false c3;clear c3;obtain rfl := Option.some.inj H
  go_wp2
  go_ret
  exact ⟨by rfl, by repeat (first | exact zN.refl _ | apply zN.step)⟩
 rw [if_pos c3] at H;have FM := decide_eq_true c3;clear c3
 by_cases c4 : 0 ≤ yQ
 rotate_left
 ·
  rw [if_neg c4] at H;exact absurd H (by simp)
 rw [if_pos c4] at H;have Ex := decide_eq_true c4;clear c4
 by_cases c5 : (rd l0 yQ) = a1
 ·
  rw [if_pos c5] at H;have Ez := beq_iff_eq.mpr c5
  have Jj : ((rd l0 yQ) != a1) = false := bne_eq_false_iff_eq.mpr c5
  clear c5;obtain rfl := Option.some.inj H
  have ae : 0 ≤ (yQ : Int) := of_decide_eq_true ‹_›
  have aa : yQ < (l0.length : Int) := of_decide_eq_true ‹_›
  obtain ⟨ah, af, ag⟩ := Kd.Bv Lm.out yQ ae aa;cases af;replace ae := eq_true ae;replace aa := eq_true aa
  go_wp2
  go_ret
  exact ⟨by rfl, by repeat (first | exact zN.refl _ | apply zN.step)⟩
 rw [if_neg c5] at H;have Ez := beq_eq_false_iff_ne.mpr c5;have Jj := bne_iff_ne.mpr c5;have H' := yf.mk H;clear H
 have ae : 0 ≤ (yQ : Int) := of_decide_eq_true ‹_›
 have aa : yQ < (l0.length : Int) := of_decide_eq_true ‹_›
 obtain ⟨ah, af, ag⟩ := Kd.Bv Lm.out yQ ae aa;cases af;replace ae := eq_true ae;replace aa := eq_true aa
 go_wp2
 go_roundg k1
 case measure => have := BZ.out; omega
 case rel => exact ⟨(wrap64 (yQ + 1)), (by rfl), H', ⟨by have := BZ.out; omega⟩, by repeat (first | exact zN.refl _ | apply zN.step)⟩
end Go.Proofs.Ytjonnfmoocijlaa.P
