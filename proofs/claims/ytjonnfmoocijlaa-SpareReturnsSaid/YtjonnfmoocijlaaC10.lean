/- Texts of a claim, packed. -/
import Derived.Test.YtjonnfmoocijlaaC5
import Derived.Test.YtjonnfmoocijlaaC9
set_option linter.all false
namespace Go.Proofs.Ytjonnfmoocijlaa.P
open Go.RowKit Go.Proofs.YtjonnfmoocijlaaKW.PrintWords Go.Proofs.YtjonnfmoocijlaaKW.PrintLast Go.Proofs.YtjonnfmoocijlaaKW.PrintMore
attribute [local go_sem] zO zP Aj Ak zC zD zQ zR
def zh.j0 : Nat → Int → Int → Bool → Int → Option (Int × (List (List Int)) × Int × Int)
 | 0, _, _, _, _ => none
 | k + 1, x4, x8, x9, aj => if x9 = true then ((ym.f k 5 4).bind fun af => (some (af.1, af.2, wrap64 (1 + (Int.tmod (wrap64 (Int.tdiv x4 16)) 5)), Int.tmod (wrap64 (Int.tdiv x4 80)) 8))) else (if x8 = 3 then ((ym.f k 6 4).bind fun aa => (some (aa.1, aa.2, wrap64 (1 + (Int.tmod (wrap64 (Int.tdiv x4 16)) 5)), Int.tmod (wrap64 (Int.tdiv x4 80)) 8))) else (if x8 = 4 then ((ym.f k 6 5).bind fun ae => (some (ae.1, ae.2, wrap64 (1 + (Int.tmod (wrap64 (Int.tdiv x4 16)) 5)), Int.tmod (wrap64 (Int.tdiv x4 80)) 8))) else (if x8 = 5 then ((ym.f k (wrap64 (4 + (Int.tmod (wrap64 (Int.tdiv x4 8)) 2))) (wrap64 (4 + (Int.tmod (wrap64 (Int.tdiv x4 8)) 2)))).bind fun ah => (some (ah.1, ah.2, wrap64 (1 + (Int.tmod (wrap64 (Int.tdiv x4 16)) 5)), Int.tmod (wrap64 (Int.tdiv x4 80)) 8))) else (if x8 = 6 then ((yE.f k 3).bind fun ai => (some (ai.1, ai.2, wrap64 (1 + (Int.tmod (wrap64 (Int.tdiv x4 16)) 5)), Int.tmod (wrap64 (Int.tdiv x4 80)) 8))) else (if x8 = 7 then ((ym.f k 7 5).bind fun ag => (some (ag.1, ag.2, wrap64 (1 + (Int.tmod (wrap64 (Int.tdiv x4 16)) 5)), Int.tmod (wrap64 (Int.tdiv x4 80)) 8))) else (some (aj, ([] : List (List Int)), wrap64 (1 + (Int.tmod (wrap64 (Int.tdiv x4 16)) 5)), Int.tmod (wrap64 (Int.tdiv x4 80)) 8)))))))
def zh.f (k : Nat) (a0 : Int) : Option (Int × (List (List Int)) × Int × Int) := if (Int.tmod (wrap64 (a0)) 8) = 0 then (zh.j0 k (wrap64 (a0)) (Int.tmod (wrap64 (a0)) 8) ((Int.tmod (wrap64 (a0)) 8) == 0) 0) else (if (Int.tmod (wrap64 (a0)) 8) = 1 then (zh.j0 k (wrap64 (a0)) (Int.tmod (wrap64 (a0)) 8) ((Int.tmod (wrap64 (a0)) 8) == 1) 0) else (zh.j0 k (wrap64 (a0)) (Int.tmod (wrap64 (a0)) 8) ((Int.tmod (wrap64 (a0)) 8) == 2) 0))
set_option maxHeartbeats 8000000 in
set_option maxRecDepth 100000 in
theorem zh.calls (k : Nat) (a0 : Int) (r1 : Int) (r2 : List (List Int)) (r3 : Int) (r4 : Int) (w : World) (h : zh.f k a0 = some (r1, r2, r3, r4)) :
  Calls Try.prog 10 #[.int .u16 a0] w fun e w' => ∃ U8 : Value, e = .returned (.agg #[.int .i64 r1, U8, .int .i64 r3, .int .i64 r4]) ∧ Kd.S (Kd.slice 3 (Kd.int .i64)) 63 w' w.heap.size (fun _ => True) U8 r2 ∧ Below w.heap.size w w' := by
 have FH := Try.underlying31;have PY := Try.underlying29;have HB := yf.mk (Below.refl w.heap.size w)
 have H : (if (Int.tmod (wrap64 (a0)) 8) = 0 then (zh.j0 k (wrap64 (a0)) (Int.tmod (wrap64 (a0)) 8) ((Int.tmod (wrap64 (a0)) 8) == 0) 0) else (if (Int.tmod (wrap64 (a0)) 8) = 1 then (zh.j0 k (wrap64 (a0)) (Int.tmod (wrap64 (a0)) 8) ((Int.tmod (wrap64 (a0)) 8) == 1) 0) else (zh.j0 k (wrap64 (a0)) (Int.tmod (wrap64 (a0)) 8) ((Int.tmod (wrap64 (a0)) 8) == 2) 0))) = some (r1, r2, r3, r4) := h
 clear h;have Wq := yf.mk H;clear H
 go_enter Try.func10, Try.ntmps10
 go_upto_if 9 with (first | ((with_reducible refine yI (N := 2) rfl ?_); refine yG rfl (N := 2) rfl (cs := #[.int .i64 0, .slice none 0 0, .int .i64 0, .int .i64 0]) (t := 31) (by go_simp) ?_; intro af hg w3 yJ hb; have aa := yf.mk (yJ); have bi := bG (w := w) hg; have aZ := bG (w := w) hg; replace HB := bS HB hb; clear hb yJ hg) | ((with_reducible refine yI (N := 3) rfl ?_); refine yG rfl (N := 3) rfl (cs := #[.int .i64 0, .slice none 0 0]) (t := 29) (by go_simp) ?_; intro ag hg w4 yJ hb; have ae := yf.mk (yJ); have aY := bG (w := w) hg; have bg := bG (w := w) hg; have ai := Co aa hg; have ah := Ar aa hg; replace aa := bB aa hb; replace HB := bS HB hb; clear hb yJ hg))
 (try simp only [pz])
 go_cut [9] (fun v9 wc => ∃ (kq : Nat) (Ce : Bool), v9 = .bool Ce ∧ yf (zh.j0 kq (wrap64 (a0)) (Int.tmod (wrap64 (a0)) 8) Ce 0 = some (r1, r2, r3, r4)) ∧ yf (kq ≤ k) ∧ yf (wc.heap[af]? = some (.cells #[.int .i64 0, (.slice none 0 0), .int .i64 0, .int .i64 0] 31 (0, 0))) ∧ yf (wc.heap[ag]? = some (.cells #[.int .i64 0, (.slice none 0 0)] 29 (0, 0))) ∧ yf (Below w.heap.size w wc))
 case first =>
  have H := Wq.out;clear Wq
  by_cases c5 : (Int.tmod (wrap64 (a0)) 8) = 0
  ·
   rw [if_pos c5] at H;have FE := beq_iff_eq.mpr c5
   have MF : ((Int.tmod (wrap64 (a0)) 8) != 0) = false := bne_eq_false_iff_eq.mpr c5
   clear c5
   (rw [FE])
   have H' := yf.mk H;clear H
   go_wp2
   go_meet
   case rel => exact ⟨_, (((Int.tmod (wrap64 (a0)) 8) == 0)), (by simp [*]), H', ⟨by omega⟩, ⟨kk aa⟩, ⟨kk ae⟩, ⟨bO HB⟩⟩
  rw [if_neg c5] at H;have FE := beq_eq_false_iff_ne.mpr c5;have MF := bne_iff_ne.mpr c5
  (rw [FE])
  by_cases c6 : (Int.tmod (wrap64 (a0)) 8) = 1
  ·
   rw [if_pos c6] at H;have EJ := beq_iff_eq.mpr c6
   have IX : ((Int.tmod (wrap64 (a0)) 8) != 1) = false := bne_eq_false_iff_eq.mpr c6
   clear c6;have H' := yf.mk H;clear H
   go_wp2
   go_meet
   case rel => exact ⟨_, (((Int.tmod (wrap64 (a0)) 8) == 1)), (by simp [*]), H', ⟨by omega⟩, ⟨kk aa⟩, ⟨kk ae⟩, ⟨bO HB⟩⟩
  rw [if_neg c6] at H;have EJ := beq_eq_false_iff_ne.mpr c6;have IX := bne_iff_ne.mpr c6;have H' := yf.mk H;clear H
  go_wp2
  go_meet
  case rel => exact ⟨_, (((Int.tmod (wrap64 (a0)) 8) == 2)), (by rfl), H', ⟨by omega⟩, ⟨kk aa⟩, ⟨kk ae⟩, ⟨bO HB⟩⟩
 case rest =>
 clear Wq;obtain ⟨kq, Ce, rfl, HA, YN, aa, ae, HB⟩ := hcut
 cases kq with
 | zero => exact absurd HA.out (by simp [zh.j0])
 | succ YO =>
  have H := HA.out;clear HA;simp only [zh.j0] at H
  by_cases c7 : Ce = true
  ·
   subst c7;rw [if_pos rfl] at H;obtain ⟨⟨aH, az⟩, A8, H⟩ := bE H
   try dsimp only at H
   simp only [Option.some.injEq, Prod.mk.injEq] at H;obtain ⟨rfl, rfl, rfl, rfl⟩ := H
   go_wp2_with (((with_reducible refine yw (f := 30) rfl ?_); refine gL (some 13) Try.func30 #[.int .i64 5, .int .i64 4] ?_; (with_reducible refine (ym.calls YO 5 4 aH az _ A8.out).mono ?_); rintro e w9 ⟨v458, rfl, ho0, hb⟩; refine ⟨_, rfl, ?_⟩; have aM := yf.mk (Kd.Eu ho0 (yL (bO HB))); replace aa := bB aa hb; replace ae := bB ae hb; replace HB := bS HB hb; clear hb; clear ho0; have a0g := ah.out; have a0h := ai.out; have Ma := bc2 ae; have Mc := bf ae; obtain ⟨WK, V7, a2r⟩ := Kd.Eb aM.out; subst a2r; have Np := AP aa; have Nq := bf aa))
   refine bodyPost_ret (results_cell_row rfl _ _ af 31 #[.int .i64 aH, .slice WK az.length V7, .int .i64 (wrap64 (1 + (Int.tmod (wrap64 (Int.tdiv (wrap64 (a0)) 16)) 5))), .int .i64 (Int.tmod (wrap64 (Int.tdiv (wrap64 (a0)) 80)) 8)] (0, 0) _ rfl (CJ aa rfl) Try.underlying31 rfl (by kernel_rfl)) rfl ?_
   exact ⟨_, by rfl, by (with_reducible repeat (apply Kd.Az)); exact Kd.Bo (GA (g := af) (Kd.Ic (p := ⟨ag, 1, none⟩) (Kd.Ic (p := ⟨ag, 0, none⟩) (Kd.AO (Kd.AO aM.out ae.out (by decide)) aa.out (by decide)) (fun _ hk => hk.1.2) (.int .i64 aH)) (fun _ hk => hk.1.2) (.slice WK az.length V7)) (fun _ hk => hk.2)) (fun _ hk => trivial), bO HB⟩
  ·
   replace c7 := Bool.eq_false_iff.mpr c7;subst c7
   rw [if_neg (show ¬ (false = true) by decide)] at H
   by_cases c14 : (Int.tmod (wrap64 (a0)) 8) = 3
   ·
    rw [if_pos c14] at H;have Jc := beq_iff_eq.mpr c14
    have JW : ((Int.tmod (wrap64 (a0)) 8) != 3) = false := bne_eq_false_iff_eq.mpr c14
    clear c14;obtain ⟨⟨aA, ak⟩, QP, H⟩ := bE H
    try dsimp only at H
    simp only [Option.some.injEq, Prod.mk.injEq] at H;obtain ⟨rfl, rfl, rfl, rfl⟩ := H
    go_wp2_with (((with_reducible refine yw (f := 30) rfl ?_); refine gL (some 16) Try.func30 #[.int .i64 6, .int .i64 4] ?_; (with_reducible refine (ym.calls YO 6 4 aA ak _ QP.out).mono ?_); rintro e w16 ⟨v462, rfl, ho0, hb⟩; refine ⟨_, rfl, ?_⟩; have aQ := yf.mk (Kd.Eu ho0 (yL (bO HB))); replace aa := bB aa hb; replace ae := bB ae hb; replace HB := bS HB hb; clear hb; clear ho0; have WL := ah.out; have WM := ai.out; have Ue := bc2 ae; have Uf := bf ae; obtain ⟨Nr, KL, Qa⟩ := Kd.Eb aQ.out; subst Qa; have Ug := AP aa; have Uh := bf aa))
    refine bodyPost_ret (results_cell_row rfl _ _ af 31 #[.int .i64 aA, .slice Nr ak.length KL, .int .i64 (wrap64 (1 + (Int.tmod (wrap64 (Int.tdiv (wrap64 (a0)) 16)) 5))), .int .i64 (Int.tmod (wrap64 (Int.tdiv (wrap64 (a0)) 80)) 8)] (0, 0) _ rfl (CJ aa rfl) Try.underlying31 rfl (by kernel_rfl)) rfl ?_
    exact ⟨_, by rfl, by (with_reducible repeat (apply Kd.Az)); exact Kd.Bo (GA (g := af) (Kd.Ic (p := ⟨ag, 1, none⟩) (Kd.Ic (p := ⟨ag, 0, none⟩) (Kd.AO (Kd.AO aQ.out ae.out (by decide)) aa.out (by decide)) (fun _ hk => hk.1.2) (.int .i64 aA)) (fun _ hk => hk.1.2) (.slice Nr ak.length KL)) (fun _ hk => hk.2)) (fun _ hk => trivial), bO HB⟩
   ·
    rw [if_neg c14] at H;have Jc := beq_eq_false_iff_ne.mpr c14;have JW := bne_iff_ne.mpr c14
    by_cases c21 : (Int.tmod (wrap64 (a0)) 8) = 4
    ·
     rw [if_pos c21] at H;have QL := beq_iff_eq.mpr c21
     have aV : ((Int.tmod (wrap64 (a0)) 8) != 4) = false := bne_eq_false_iff_eq.mpr c21
     clear c21;obtain ⟨⟨av, aC⟩, A22, H⟩ := bE H
     try dsimp only at H
     simp only [Option.some.injEq, Prod.mk.injEq] at H;obtain ⟨rfl, rfl, rfl, rfl⟩ := H
     go_wp2_with (((with_reducible refine yw (f := 30) rfl ?_); refine gL (some 19) Try.func30 #[.int .i64 6, .int .i64 5] ?_; (with_reducible refine (ym.calls YO 6 5 av aC _ A22.out).mono ?_); rintro e w23 ⟨v466, rfl, ho0, hb⟩; refine ⟨_, rfl, ?_⟩; have aU := yf.mk (Kd.Eu ho0 (yL (bO HB))); replace aa := bB aa hb; replace ae := bB ae hb; replace HB := bS HB hb; clear hb; clear ho0; have QQ := ah.out; have QR := ai.out; have KM := bc2 ae; have KN := bf ae; obtain ⟨DJ, Dt, SX⟩ := Kd.Eb aU.out; subst SX; have Md := AP aa; have Me := bf aa))
     refine bodyPost_ret (results_cell_row rfl _ _ af 31 #[.int .i64 av, .slice DJ aC.length Dt, .int .i64 (wrap64 (1 + (Int.tmod (wrap64 (Int.tdiv (wrap64 (a0)) 16)) 5))), .int .i64 (Int.tmod (wrap64 (Int.tdiv (wrap64 (a0)) 80)) 8)] (0, 0) _ rfl (CJ aa rfl) Try.underlying31 rfl (by kernel_rfl)) rfl ?_
     exact ⟨_, by rfl, by (with_reducible repeat (apply Kd.Az)); exact Kd.Bo (GA (g := af) (Kd.Ic (p := ⟨ag, 1, none⟩) (Kd.Ic (p := ⟨ag, 0, none⟩) (Kd.AO (Kd.AO aU.out ae.out (by decide)) aa.out (by decide)) (fun _ hk => hk.1.2) (.int .i64 av)) (fun _ hk => hk.1.2) (.slice DJ aC.length Dt)) (fun _ hk => hk.2)) (fun _ hk => trivial), bO HB⟩
    ·
     rw [if_neg c21] at H;have QL := beq_eq_false_iff_ne.mpr c21;have aV := bne_iff_ne.mpr c21
     by_cases c28 : (Int.tmod (wrap64 (a0)) 8) = 5
     ·
      rw [if_pos c28] at H;have P5 := beq_iff_eq.mpr c28
      have QS : ((Int.tmod (wrap64 (a0)) 8) != 5) = false := bne_eq_false_iff_eq.mpr c28
      clear c28;obtain ⟨⟨aG, ay⟩, A29, H⟩ := bE H
      try dsimp only at H
      simp only [Option.some.injEq, Prod.mk.injEq] at H;obtain ⟨rfl, rfl, rfl, rfl⟩ := H
      go_wp2_with (((with_reducible refine yw (f := 30) rfl ?_); refine gL (some 30) Try.func30 #[.int .i64 (wrap64 (4 + (Int.tmod (wrap64 (Int.tdiv (wrap64 (a0)) 8)) 2))), .int .i64 (wrap64 (4 + (Int.tmod (wrap64 (Int.tdiv (wrap64 (a0)) 8)) 2)))] ?_; (with_reducible refine (ym.calls YO (wrap64 (4 + (Int.tmod (wrap64 (Int.tdiv (wrap64 (a0)) 8)) 2))) (wrap64 (4 + (Int.tmod (wrap64 (Int.tdiv (wrap64 (a0)) 8)) 2))) aG ay _ A29.out).mono ?_); rintro e w30 ⟨v470, rfl, ho0, hb⟩; refine ⟨_, rfl, ?_⟩; have aI := yf.mk (Kd.Eu ho0 (yL (bO HB))); replace aa := bB aa hb; replace ae := bB ae hb; replace HB := bS HB hb; clear hb; clear ho0; have QT := ah.out; have QU := ai.out; have a4y := bc2 ae; have a4z := bf ae; obtain ⟨WN, V8, a2s⟩ := Kd.Eb aI.out; subst a2s; have Ns := AP aa; have Nt := bf aa))
      refine bodyPost_ret (results_cell_row rfl _ _ af 31 #[.int .i64 aG, .slice WN ay.length V8, .int .i64 (wrap64 (1 + (Int.tmod (wrap64 (Int.tdiv (wrap64 (a0)) 16)) 5))), .int .i64 (Int.tmod (wrap64 (Int.tdiv (wrap64 (a0)) 80)) 8)] (0, 0) _ rfl (CJ aa rfl) Try.underlying31 rfl (by kernel_rfl)) rfl ?_
      exact ⟨_, by rfl, by (with_reducible repeat (apply Kd.Az)); exact Kd.Bo (GA (g := af) (Kd.Ic (p := ⟨ag, 1, none⟩) (Kd.Ic (p := ⟨ag, 0, none⟩) (Kd.AO (Kd.AO aI.out ae.out (by decide)) aa.out (by decide)) (fun _ hk => hk.1.2) (.int .i64 aG)) (fun _ hk => hk.1.2) (.slice WN ay.length V8)) (fun _ hk => hk.2)) (fun _ hk => trivial), bO HB⟩
     ·
      rw [if_neg c28] at H;have P5 := beq_eq_false_iff_ne.mpr c28;have QS := bne_iff_ne.mpr c28
      by_cases Ko : (Int.tmod (wrap64 (a0)) 8) = 6
      ·
       rw [if_pos Ko] at H;have QN := beq_iff_eq.mpr Ko
       have Wv : ((Int.tmod (wrap64 (a0)) 8) != 6) = false := bne_eq_false_iff_eq.mpr Ko
       clear Ko;obtain ⟨⟨ax, aD⟩, aW, H⟩ := bE H
       try dsimp only at H
       simp only [Option.some.injEq, Prod.mk.injEq] at H;obtain ⟨rfl, rfl, rfl, rfl⟩ := H
       go_wp2_with (((with_reducible refine yw (f := 32) rfl ?_); refine gL (some 33) Try.func32 #[.int .i64 3] ?_; (with_reducible refine (yE.calls YO 3 ax aD _ aW.out).mono ?_); rintro e w37 ⟨v474, rfl, ho0, hb⟩; refine ⟨_, rfl, ?_⟩; have aK := yf.mk (Kd.Eu ho0 (yL (bO HB))); replace aa := bB aa hb; replace ae := bB ae hb; replace HB := bS HB hb; clear hb; clear ho0; have a0i := ah.out; have a0j := ai.out; have a0k := bc2 ae; have a0l := bf ae; obtain ⟨Tg, Ti, WO⟩ := Kd.Eb aK.out; subst WO; have P6 := AP aa; have P7 := bf aa))
       refine bodyPost_ret (results_cell_row rfl _ _ af 31 #[.int .i64 ax, .slice Tg aD.length Ti, .int .i64 (wrap64 (1 + (Int.tmod (wrap64 (Int.tdiv (wrap64 (a0)) 16)) 5))), .int .i64 (Int.tmod (wrap64 (Int.tdiv (wrap64 (a0)) 80)) 8)] (0, 0) _ rfl (CJ aa rfl) Try.underlying31 rfl (by kernel_rfl)) rfl ?_
       exact ⟨_, by rfl, by (with_reducible repeat (apply Kd.Az)); exact Kd.Bo (GA (g := af) (Kd.Ic (p := ⟨ag, 1, none⟩) (Kd.Ic (p := ⟨ag, 0, none⟩) (Kd.AO (Kd.AO aK.out ae.out (by decide)) aa.out (by decide)) (fun _ hk => hk.1.2) (.int .i64 ax)) (fun _ hk => hk.1.2) (.slice Tg aD.length Ti)) (fun _ hk => hk.2)) (fun _ hk => trivial), bO HB⟩
      ·
       rw [if_neg Ko] at H;have QN := beq_eq_false_iff_ne.mpr Ko;have Wv := bne_iff_ne.mpr Ko
       by_cases Hu : (Int.tmod (wrap64 (a0)) 8) = 7
       ·
        rw [if_pos Hu] at H;have JU := beq_iff_eq.mpr Hu
        have a0m : ((Int.tmod (wrap64 (a0)) 8) != 7) = false := bne_eq_false_iff_eq.mpr Hu
        clear Hu;obtain ⟨⟨au, aj⟩, A43, H⟩ := bE H
        try dsimp only at H
        simp only [Option.some.injEq, Prod.mk.injEq] at H;obtain ⟨rfl, rfl, rfl, rfl⟩ := H
        go_wp2_with (((with_reducible refine yw (f := 30) rfl ?_); refine gL (some 36) Try.func30 #[.int .i64 7, .int .i64 5] ?_; (with_reducible refine (ym.calls YO 7 5 au aj _ A43.out).mono ?_); rintro e w44 ⟨v478, rfl, ho0, hb⟩; refine ⟨_, rfl, ?_⟩; have aJ := yf.mk (Kd.Eu ho0 (yL (bO HB))); replace aa := bB aa hb; replace ae := bB ae hb; replace HB := bS HB hb; clear hb; clear ho0; have QV := ah.out; have QW := ai.out; have QX := bc2 ae; have QY := bf ae; obtain ⟨aT, aN, aX⟩ := Kd.Eb aJ.out; subst aX; have QZ := AP aa; have R3 := bf aa))
        refine bodyPost_ret (results_cell_row rfl _ _ af 31 #[.int .i64 au, .slice aT aj.length aN, .int .i64 (wrap64 (1 + (Int.tmod (wrap64 (Int.tdiv (wrap64 (a0)) 16)) 5))), .int .i64 (Int.tmod (wrap64 (Int.tdiv (wrap64 (a0)) 80)) 8)] (0, 0) _ rfl (CJ aa rfl) Try.underlying31 rfl (by kernel_rfl)) rfl ?_
        exact ⟨_, by rfl, by (with_reducible repeat (apply Kd.Az)); exact Kd.Bo (GA (g := af) (Kd.Ic (p := ⟨ag, 1, none⟩) (Kd.Ic (p := ⟨ag, 0, none⟩) (Kd.AO (Kd.AO aJ.out ae.out (by decide)) aa.out (by decide)) (fun _ hk => hk.1.2) (.int .i64 au)) (fun _ hk => hk.1.2) (.slice aT aj.length aN)) (fun _ hk => hk.2)) (fun _ hk => trivial), bO HB⟩
       ·
        rw [if_neg Hu] at H;have JU := beq_eq_false_iff_ne.mpr Hu;have a0m := bne_iff_ne.mpr Hu;simp only [Option.some.injEq, Prod.mk.injEq] at H;obtain ⟨rfl, rfl, rfl, rfl⟩ := H;have Ui := ah.out;have Uj := ai.out;have a4u := bc2 ae;have a4v := bf ae;have Uk := AP aa;have Ul := bf aa
        go_wp2
        refine bodyPost_ret (results_cell_row rfl _ _ af 31 #[.int .i64 0, .slice none 0 0, .int .i64 (wrap64 (1 + (Int.tmod (wrap64 (Int.tdiv (wrap64 (a0)) 16)) 5))), .int .i64 (Int.tmod (wrap64 (Int.tdiv (wrap64 (a0)) 80)) 8)] (0, 0) _ rfl (CJ aa rfl) Try.underlying31 rfl (by kernel_rfl)) rfl ?_
        exact ⟨_, by rfl, by exact Kd.VU _ _ _ _ _, bO HB⟩
def zi.f (yn : Int) (yh : List (List Int)) (yo : Int) (yu : Int) : Option (Int) := if 0 < (yh.length : Int) then (some ((zt yh 0).length : Int)) else (none)
set_option maxHeartbeats 8000000 in
set_option maxRecDepth 100000 in
theorem zi.calls (yn : Int) (yQ : Option Addr) (yM : Nat) (yh : List (List Int)) (yo : Int) (yu : Int) (r : Int) (w : World) (Ah : Kd.C (Kd.slice 3 (Kd.int .i64)) w yQ yh.length yh) (Ai : yh.length ≤ yM) (h : zi.f yn yh yo yu = some r) :
  Calls Try.prog 24 #[.agg #[.int .i64 yn, .slice yQ yh.length yM, .int .i64 yo, .int .i64 yu]] w fun e w' => e = .returned (.int .i64 r) ∧ Below w.heap.size w w' := by
 have FH := Try.underlying31;have zA := yf.mk Ah;have zK := yf.mk Ai;clear Ah Ai;have HB := yf.mk (Below.refl w.heap.size w)
 have H : (if 0 < (yh.length : Int) then (some ((zt yh 0).length : Int)) else (none)) = some r := h
 clear h
 by_cases c2 : 0 < (yh.length : Int)
 rotate_left
 ·
  rw [if_neg c2] at H;exact absurd H (by simp)
 rw [if_pos c2] at H;have V5 := decide_eq_true c2
 have a6E : decide (0 < yh.length) = true := decide_eq_true (by omega)
 clear c2;obtain rfl := Option.some.inj H
 go_enter Try.func24, Try.ntmps24
 go_wp2_with (((with_reducible refine yI (N := 1) rfl ?_); refine yG rfl (N := 1) rfl (cs := #[.int .i64 yn, .slice yQ yh.length yM, .int .i64 yo, .int .i64 yu]) (t := 31) (by go_simp) ?_; intro au hg w3 yJ hb; have ai := yf.mk (yJ); have aD := bG (w := w) hg; have az := bG (w := w) hg; replace HB := bS HB hb; clear hb yJ hg; have Tj := AP ai; have Tk := bf ai; have af : 0 ≤ (0 : Int) := (by omega); have ae : 0 < (yh.length : Int) := of_decide_eq_true ‹_›; obtain ⟨aA, ax, ak, aj, aa, ag, ah⟩ := EC zA.out 0 af ae; cases aj; have aC : (0 < yh.length) = True := eq_true (by omega); (try rw [show ((0 : Int)).toNat = 0 from rfl] at aa); (try rw [Addr.add_zero'] at aa); replace aa := cB HB aa; have ay := yf.mk ah; have av := yf.mk ag; clear ah ag; replace af := eq_true af; replace ae := eq_true ae))
 go_ret
 exact ⟨by rfl, bO HB⟩
def zZ.l0 : Nat → List Int → Int → Int → Option (Bool)
 | 0, _, _, _ => none
 | k + 1, x0, x1, x5 => if x5 < (x0.length : Int) then (if 0 ≤ x5 then (if (rd x0 x5) = x1 then (some true) else (zZ.l0 k x0 x1 (wrap64 (x5 + 1)))) else (none)) else (some false)
def zZ.f (k : Nat) (l0 : List Int) (a1 : Int) : Option (Bool) := zZ.l0 k l0 a1 0
theorem zZ.mono_l : ∀ k, (∀ y0 y1 y2, BP (zZ.l0 k y0 y1 y2) (zZ.l0 (k + 1) y0 y1 y2))
 | 0 => fun _ _ _ r h => by simp [zZ.l0] at h
 | k + 1 => by
  have Gg := zZ.mono_l k
  ·
   intro y0 y1 y2
   unfold zZ.l0
   repeat' first
   | exact Gg _ _ _
   | exact BP.refl _
   | exact BP.none _
   | refine BP.ite ?_ ?_
   | refine BP.bind ?_ (fun _ => ?_)
theorem zZ.mono : ∀ a0 a1 k, BP (zZ.f k a0 a1) (zZ.f (k + 1) a0 a1) := by
 intro a0 a1 k
 have Gg := zZ.mono_l k
 unfold zZ.f
 repeat' first
  | exact Gg _ _ _
  | exact BP.refl _
  | exact BP.none _
  | refine BP.ite ?_ ?_
  | refine BP.bind ?_ (fun _ => ?_)
set_option maxHeartbeats 8000000 in
set_option maxRecDepth 100000 in
theorem zZ.calls (k : Nat) (A0 : Option Addr) (c0 : Nat) (l0 : List Int) (a1 : Int) (r : Bool) (w : World) (hr0 : Kd.C (Kd.int .i64) w A0 l0.length l0) (hc0 : l0.length ≤ c0) (h : zZ.f k l0 a1 = some r) :
  Calls Try.prog 50 #[.slice A0 l0.length c0, .int .i64 a1] w fun e w' => e = .returned (.bool r) ∧ zV w w' := by
 have Li := yf.mk hr0;have Ws := yf.mk hc0;clear hr0 hc0
 have H : (zZ.l0 k l0 a1 0) = some r := h
 clear h;have H' := yf.mk H;clear H
 go_enter Try.func50, Try.ntmps50
 go_wp2
 go_loopg [5] k (fun kq v5 w' => ∃ (yN : Int), v5 = .int .i64 yN ∧ yf (zZ.l0 kq l0 a1 yN = some r) ∧ yf (kq ≤ k) ∧ zV w w')
 case atStart => exact ⟨(0), (by rfl), H', ⟨Nat.le_refl _⟩, by repeat (exact zV.refl _)⟩
 case round =>
 clear H';obtain ⟨yN, rfl, HA, BJ, ⟨m1, rfl⟩⟩ := hrel
 cases gk with
 | zero => exact absurd HA.out (by simp [zZ.l0])
 | succ k1 =>
 have H := HA.out;clear HA;simp only [zZ.l0] at H
 by_cases c3 : yN < (l0.length : Int)
 rotate_left
 ·
  rw [if_neg c3] at H;have G5 := decide_eq_false c3;clear c3;obtain rfl := Option.some.inj H
  go_wp2
  go_ret
  exact ⟨by rfl, by repeat (first | exact zV.refl _ | apply zV.step)⟩
 rw [if_pos c3] at H;have G5 := decide_eq_true c3;clear c3
 by_cases c4 : 0 ≤ yN
 rotate_left
 ·
  rw [if_neg c4] at H;exact absurd H (by simp)
 rw [if_pos c4] at H;have ES := decide_eq_true c4;clear c4
 by_cases c5 : (rd l0 yN) = a1
 ·
  rw [if_pos c5] at H;have FE := beq_iff_eq.mpr c5
  have MF : ((rd l0 yN) != a1) = false := bne_eq_false_iff_eq.mpr c5
  clear c5;obtain rfl := Option.some.inj H
  have ae : 0 ≤ (yN : Int) := of_decide_eq_true ‹_›
  have aa : yN < (l0.length : Int) := of_decide_eq_true ‹_›
  obtain ⟨ah, af, ag⟩ := Kd.C9 Li.out yN ae aa;cases af;replace ae := eq_true ae;replace aa := eq_true aa
  go_wp2
  go_ret
  exact ⟨by rfl, by repeat (first | exact zV.refl _ | apply zV.step)⟩
 rw [if_neg c5] at H;have FE := beq_eq_false_iff_ne.mpr c5;have MF := bne_iff_ne.mpr c5;have H' := yf.mk H;clear H
 have ae : 0 ≤ (yN : Int) := of_decide_eq_true ‹_›
 have aa : yN < (l0.length : Int) := of_decide_eq_true ‹_›
 obtain ⟨ah, af, ag⟩ := Kd.C9 Li.out yN ae aa;cases af;replace ae := eq_true ae;replace aa := eq_true aa
 go_wp2
 go_roundg k1
 case measure => have := BJ.out; omega
 case rel => exact ⟨(wrap64 (yN + 1)), (by rfl), H', ⟨by have := BJ.out; omega⟩, by repeat (first | exact zV.refl _ | apply zV.step)⟩
end Go.Proofs.Ytjonnfmoocijlaa.P
