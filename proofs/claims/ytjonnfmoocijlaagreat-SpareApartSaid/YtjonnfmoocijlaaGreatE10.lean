/- Texts of a claim, packed. -/
import Derived.Test.YtjonnfmoocijlaaGreatE5
import Derived.Test.YtjonnfmoocijlaaGreatE9
set_option linter.all false
namespace Go.Proofs.YtjonnfmoocijlaaGreat.P
open Go.RowKit Go.Proofs.YtjonnfmoocijlaaGreatKW.PrintWords Go.Proofs.YtjonnfmoocijlaaGreatKW.PrintLast Go.Proofs.YtjonnfmoocijlaaGreatKW.PrintMore
attribute [local go_sem] zN zP Af Ag zz zA zO zQ
def zC.j0 : Nat → Int → Int → Bool → Int → Option (Int × (List (List Int)) × Int × Int)
 | 0,_,_,_,_ => none
 | k + 1,x4,x8,x9,aj => if x9 = true then ((yo.f k 5 4).bind fun aa => (some (aa.1,aa.2,wrap64 (1 + (Int.tmod (wrap64 (Int.tdiv x4 16)) 5)),Int.tmod (wrap64 (Int.tdiv x4 80)) 8))) else (if x8 = 3 then ((yo.f k 6 4).bind fun ae => (some (ae.1,ae.2,wrap64 (1 + (Int.tmod (wrap64 (Int.tdiv x4 16)) 5)),Int.tmod (wrap64 (Int.tdiv x4 80)) 8))) else (if x8 = 4 then ((yo.f k 6 5).bind fun af => (some (af.1,af.2,wrap64 (1 + (Int.tmod (wrap64 (Int.tdiv x4 16)) 5)),Int.tmod (wrap64 (Int.tdiv x4 80)) 8))) else (if x8 = 5 then ((yo.f k (wrap64 (4 + (Int.tmod (wrap64 (Int.tdiv x4 8)) 2))) (wrap64 (4 + (Int.tmod (wrap64 (Int.tdiv x4 8)) 2)))).bind fun ag => (some (ag.1,ag.2,wrap64 (1 + (Int.tmod (wrap64 (Int.tdiv x4 16)) 5)),Int.tmod (wrap64 (Int.tdiv x4 80)) 8))) else (if x8 = 6 then ((yA.f k 3).bind fun ah => (some (ah.1,ah.2,wrap64 (1 + (Int.tmod (wrap64 (Int.tdiv x4 16)) 5)),Int.tmod (wrap64 (Int.tdiv x4 80)) 8))) else (if x8 = 7 then ((yo.f k 7 5).bind fun ai => (some (ai.1,ai.2,wrap64 (1 + (Int.tmod (wrap64 (Int.tdiv x4 16)) 5)),Int.tmod (wrap64 (Int.tdiv x4 80)) 8))) else (some (aj,([] : List (List Int)),wrap64 (1 + (Int.tmod (wrap64 (Int.tdiv x4 16)) 5)),Int.tmod (wrap64 (Int.tdiv x4 80)) 8)))))))
def zC.f (k : Nat) (a0 : Int) : Option (Int × (List (List Int)) × Int × Int) := if (Int.tmod (wrap64 (a0)) 8) = 0 then (zC.j0 k (wrap64 (a0)) (Int.tmod (wrap64 (a0)) 8) ((Int.tmod (wrap64 (a0)) 8) == 0) 0) else (if (Int.tmod (wrap64 (a0)) 8) = 1 then (zC.j0 k (wrap64 (a0)) (Int.tmod (wrap64 (a0)) 8) ((Int.tmod (wrap64 (a0)) 8) == 1) 0) else (zC.j0 k (wrap64 (a0)) (Int.tmod (wrap64 (a0)) 8) ((Int.tmod (wrap64 (a0)) 8) == 2) 0))
set_option maxHeartbeats 8000000 in
set_option maxRecDepth 100000 in
theorem zC.calls (k : Nat) (a0 : Int) (r1 : Int) (r2 : List (List Int)) (r3 : Int) (r4 : Int) (w : World) (h : zC.f k a0 = some (r1,r2,r3,r4)) :
  Calls Tryz.prog 6 #[.int .u16 a0] w fun e w' => ∃ Us : Value,e = .returned (.agg #[.int .i64 r1,Us,.int .i64 r3,.int .i64 r4]) ∧ Kd.S (Kd.slice 3 (Kd.int .i64)) 37 w' w.heap.size (fun _ => True) Us r2 ∧ Below w.heap.size w w' := by
 have ET := Tryz.underlying29;have UQ := Tryz.underlying27;have HB := yf.mk (Below.refl w.heap.size w)
 have H : (if (Int.tmod (wrap64 (a0)) 8) = 0 then (zC.j0 k (wrap64 (a0)) (Int.tmod (wrap64 (a0)) 8) ((Int.tmod (wrap64 (a0)) 8) == 0) 0) else (if (Int.tmod (wrap64 (a0)) 8) = 1 then (zC.j0 k (wrap64 (a0)) (Int.tmod (wrap64 (a0)) 8) ((Int.tmod (wrap64 (a0)) 8) == 1) 0) else (zC.j0 k (wrap64 (a0)) (Int.tmod (wrap64 (a0)) 8) ((Int.tmod (wrap64 (a0)) 8) == 2) 0))) = some (r1,r2,r3,r4) := h
 clear h;have Vz := yf.mk H;clear H
 go_enter Tryz.func6,Tryz.ntmps6
 go_upto_if 9 with (first | ((with_reducible refine yG (N := 2) rfl ?_);refine yD rfl (N := 2) rfl (cs := #[.int .i64 0,.slice none 0 0,.int .i64 0,.int .i64 0]) (t := 29) (by go_simp) ?_;intro af hg w3 yI hb;have aa := yf.mk (yI);have aY := bG (w := w) hg;have aW := bG (w := w) hg;replace HB := bS HB hb;clear hb yI hg) | ((with_reducible refine yG (N := 3) rfl ?_);refine yD rfl (N := 3) rfl (cs := #[.int .i64 0,.slice none 0 0]) (t := 27) (by go_simp) ?_;intro ag hg w4 yI hb;have ae := yf.mk (yI);have aZ := bG (w := w) hg;have aX := bG (w := w) hg;have ah := Cq aa hg;have ai := Aq aa hg;replace aa := bB aa hb;replace HB := bS HB hb;clear hb yI hg))
 (try simp only [pz])
 go_cut [9] (fun v9 wc => ∃ (kq : Nat) (BJ : Bool),v9 = .bool BJ ∧ yf (zC.j0 kq (wrap64 (a0)) (Int.tmod (wrap64 (a0)) 8) BJ 0 = some (r1,r2,r3,r4)) ∧ yf (kq ≤ k) ∧ yf (wc.heap[af]? = some (.cells #[.int .i64 0,(.slice none 0 0),.int .i64 0,.int .i64 0] 29 (0,0))) ∧ yf (wc.heap[ag]? = some (.cells #[.int .i64 0,(.slice none 0 0)] 27 (0,0))) ∧ yf (Below w.heap.size w wc))
 case first =>
  have H := Vz.out;clear Vz
  by_cases c5 : (Int.tmod (wrap64 (a0)) 8) = 0
  ·
   rw [if_pos c5] at H;have ES := beq_iff_eq.mpr c5
   have Mj : ((Int.tmod (wrap64 (a0)) 8) != 0) = false := bne_eq_false_iff_eq.mpr c5
   clear c5
   (rw [ES])
   have H' := yf.mk H;clear H
   go_wp2
   go_meet
   case rel => exact ⟨_,(((Int.tmod (wrap64 (a0)) 8) == 0)),(by simp [*]),H',⟨by omega⟩,⟨kk aa⟩,⟨kk ae⟩,⟨bO HB⟩⟩
  rw [if_neg c5] at H;have ES := beq_eq_false_iff_ne.mpr c5;have Mj := bne_iff_ne.mpr c5
  (rw [ES])
  by_cases c6 : (Int.tmod (wrap64 (a0)) 8) = 1
  ·
   rw [if_pos c6] at H;have Eu := beq_iff_eq.mpr c6
   have Ml : ((Int.tmod (wrap64 (a0)) 8) != 1) = false := bne_eq_false_iff_eq.mpr c6
   clear c6;have H' := yf.mk H;clear H
   go_wp2
   go_meet
   case rel => exact ⟨_,(((Int.tmod (wrap64 (a0)) 8) == 1)),(by simp [*]),H',⟨by omega⟩,⟨kk aa⟩,⟨kk ae⟩,⟨bO HB⟩⟩
  rw [if_neg c6] at H;have Eu := beq_eq_false_iff_ne.mpr c6;have Ml := bne_iff_ne.mpr c6;have H' := yf.mk H;clear H
  go_wp2
  go_meet
  case rel => exact ⟨_,(((Int.tmod (wrap64 (a0)) 8) == 2)),(by rfl),H',⟨by omega⟩,⟨kk aa⟩,⟨kk ae⟩,⟨bO HB⟩⟩
 case rest =>
 clear Vz;obtain ⟨kq,BJ,rfl,HA,Yl,aa,ae,HB⟩ := hcut
 cases kq with
 | zero => exact absurd HA.out (by simp [zC.j0])
 | succ Yo =>
  have H := HA.out;clear HA;simp only [zC.j0] at H
  by_cases c7 : BJ = true
  ·
   subst c7;rw [if_pos rfl] at H;obtain ⟨⟨aj,ak⟩,A8,H⟩ := bE H
   try dsimp only at H
   simp only [Option.some.injEq,Prod.mk.injEq] at H;obtain ⟨rfl,rfl,rfl,rfl⟩ := H
   go_wp2_with (((with_reducible refine yz (f := 16) rfl ?_);refine gL (some 13) Tryz.func16 #[.int .i64 5,.int .i64 4] ?_;(with_reducible refine (yo.calls Yo 5 4 aj ak _ A8.out).mono ?_);rintro e w9 ⟨v458,rfl,ho0,hb⟩;refine ⟨_,rfl,?_⟩;have aI := yf.mk (Kd.FO ho0 (yF (bO HB)));replace aa := bB aa hb;replace ae := bB ae hb;replace HB := bS HB hb;clear hb;clear ho0;have WX := ai.out;have Xc := ah.out;have Kt := bc2 ae;have KA := bf ae;obtain ⟨Uv,Sb,Wt⟩ := Kd.EM aI.out;subst Wt;have Nw := AO aa;have ND := bf aa))
   refine bodyPost_ret (results_cell_row rfl _ _ af 29 #[.int .i64 aj,.slice Uv ak.length Sb,.int .i64 (wrap64 (1 + (Int.tmod (wrap64 (Int.tdiv (wrap64 (a0)) 16)) 5))),.int .i64 (Int.tmod (wrap64 (Int.tdiv (wrap64 (a0)) 80)) 8)] (0,0) _ rfl (CY aa rfl) Tryz.underlying29 rfl (by kernel_rfl)) rfl ?_
   exact ⟨_,by rfl,by (with_reducible repeat (apply Kd.Be));exact Kd.BI (MG (g := af) (Kd.Hz (p := ⟨ag,1,none⟩) (Kd.Hz (p := ⟨ag,0,none⟩) (Kd.C8 (Kd.C8 aI.out ae.out (by decide)) aa.out (by decide)) (fun _ hk => hk.1.2) (.int .i64 aj)) (fun _ hk => hk.1.2) (.slice Uv ak.length Sb)) (fun _ hk => hk.2)) (fun _ hk => trivial),bO HB⟩
  ·
   replace c7 := Bool.eq_false_iff.mpr c7;subst c7
   rw [if_neg (show ¬ (false = true) by decide)] at H
   by_cases c14 : (Int.tmod (wrap64 (a0)) 8) = 3
   ·
    rw [if_pos c14] at H;have Na := beq_iff_eq.mpr c14
    have Nb : ((Int.tmod (wrap64 (a0)) 8) != 3) = false := bne_eq_false_iff_eq.mpr c14
    clear c14;obtain ⟨⟨au,av⟩,Yj,H⟩ := bE H
    try dsimp only at H
    simp only [Option.some.injEq,Prod.mk.injEq] at H;obtain ⟨rfl,rfl,rfl,rfl⟩ := H
    go_wp2_with (((with_reducible refine yz (f := 16) rfl ?_);refine gL (some 16) Tryz.func16 #[.int .i64 6,.int .i64 4] ?_;(with_reducible refine (yo.calls Yo 6 4 au av _ Yj.out).mono ?_);rintro e w16 ⟨v462,rfl,ho0,hb⟩;refine ⟨_,rfl,?_⟩;have aJ := yf.mk (Kd.FO ho0 (yF (bO HB)));replace aa := bB aa hb;replace ae := bB ae hb;replace HB := bS HB hb;clear hb;clear ho0;have X3 := ai.out;have Xg := ah.out;have TI := bc2 ae;have TP := bf ae;obtain ⟨ML,Ko,Pz⟩ := Kd.EM aJ.out;subst Pz;have OB := AO aa;have OE := bf aa))
    refine bodyPost_ret (results_cell_row rfl _ _ af 29 #[.int .i64 au,.slice ML av.length Ko,.int .i64 (wrap64 (1 + (Int.tmod (wrap64 (Int.tdiv (wrap64 (a0)) 16)) 5))),.int .i64 (Int.tmod (wrap64 (Int.tdiv (wrap64 (a0)) 80)) 8)] (0,0) _ rfl (CY aa rfl) Tryz.underlying29 rfl (by kernel_rfl)) rfl ?_
    exact ⟨_,by rfl,by (with_reducible repeat (apply Kd.Be));exact Kd.BI (MG (g := af) (Kd.Hz (p := ⟨ag,1,none⟩) (Kd.Hz (p := ⟨ag,0,none⟩) (Kd.C8 (Kd.C8 aJ.out ae.out (by decide)) aa.out (by decide)) (fun _ hk => hk.1.2) (.int .i64 au)) (fun _ hk => hk.1.2) (.slice ML av.length Ko)) (fun _ hk => hk.2)) (fun _ hk => trivial),bO HB⟩
   ·
    rw [if_neg c14] at H;have Na := beq_eq_false_iff_ne.mpr c14;have Nb := bne_iff_ne.mpr c14
    by_cases c21 : (Int.tmod (wrap64 (a0)) 8) = 4
    ·
     rw [if_pos c21] at H;have Qj := beq_iff_eq.mpr c21
     have aU : ((Int.tmod (wrap64 (a0)) 8) != 4) = false := bne_eq_false_iff_eq.mpr c21
     clear c21;obtain ⟨⟨ax,ay⟩,A22,H⟩ := bE H
     try dsimp only at H
     simp only [Option.some.injEq,Prod.mk.injEq] at H;obtain ⟨rfl,rfl,rfl,rfl⟩ := H
     go_wp2_with (((with_reducible refine yz (f := 16) rfl ?_);refine gL (some 19) Tryz.func16 #[.int .i64 6,.int .i64 5] ?_;(with_reducible refine (yo.calls Yo 6 5 ax ay _ A22.out).mono ?_);rintro e w23 ⟨v466,rfl,ho0,hb⟩;refine ⟨_,rfl,?_⟩;have aK := yf.mk (Kd.FO ho0 (yF (bO HB)));replace aa := bB aa hb;replace ae := bB ae hb;replace HB := bS HB hb;clear hb;clear ho0;have TW := ai.out;have U8 := ah.out;have LU := bc2 ae;have LX := bf ae;obtain ⟨Vu,UD,Wx⟩ := Kd.EM aK.out;subst Wx;have IC := AO aa;have II := bf aa))
     refine bodyPost_ret (results_cell_row rfl _ _ af 29 #[.int .i64 ax,.slice Vu ay.length UD,.int .i64 (wrap64 (1 + (Int.tmod (wrap64 (Int.tdiv (wrap64 (a0)) 16)) 5))),.int .i64 (Int.tmod (wrap64 (Int.tdiv (wrap64 (a0)) 80)) 8)] (0,0) _ rfl (CY aa rfl) Tryz.underlying29 rfl (by kernel_rfl)) rfl ?_
     exact ⟨_,by rfl,by (with_reducible repeat (apply Kd.Be));exact Kd.BI (MG (g := af) (Kd.Hz (p := ⟨ag,1,none⟩) (Kd.Hz (p := ⟨ag,0,none⟩) (Kd.C8 (Kd.C8 aK.out ae.out (by decide)) aa.out (by decide)) (fun _ hk => hk.1.2) (.int .i64 ax)) (fun _ hk => hk.1.2) (.slice Vu ay.length UD)) (fun _ hk => hk.2)) (fun _ hk => trivial),bO HB⟩
    ·
     rw [if_neg c21] at H;have Qj := beq_eq_false_iff_ne.mpr c21;have aU := bne_iff_ne.mpr c21
     by_cases c28 : (Int.tmod (wrap64 (a0)) 8) = 5
     ·
      rw [if_pos c28] at H;have Ng := beq_iff_eq.mpr c28
      have Ov : ((Int.tmod (wrap64 (a0)) 8) != 5) = false := bne_eq_false_iff_eq.mpr c28
      clear c28;obtain ⟨⟨az,aA⟩,A29,H⟩ := bE H
      try dsimp only at H
      simp only [Option.some.injEq,Prod.mk.injEq] at H;obtain ⟨rfl,rfl,rfl,rfl⟩ := H
      go_wp2_with (((with_reducible refine yz (f := 16) rfl ?_);refine gL (some 30) Tryz.func16 #[.int .i64 (wrap64 (4 + (Int.tmod (wrap64 (Int.tdiv (wrap64 (a0)) 8)) 2))),.int .i64 (wrap64 (4 + (Int.tmod (wrap64 (Int.tdiv (wrap64 (a0)) 8)) 2)))] ?_;(with_reducible refine (yo.calls Yo (wrap64 (4 + (Int.tmod (wrap64 (Int.tdiv (wrap64 (a0)) 8)) 2))) (wrap64 (4 + (Int.tmod (wrap64 (Int.tdiv (wrap64 (a0)) 8)) 2))) az aA _ A29.out).mono ?_);rintro e w30 ⟨v470,rfl,ho0,hb⟩;refine ⟨_,rfl,?_⟩;have aM := yf.mk (Kd.FO ho0 (yF (bO HB)));replace aa := bB aa hb;replace ae := bB ae hb;replace HB := bS HB hb;clear hb;clear ho0;have X5 := ai.out;have Xi := ah.out;have bg := bc2 ae;have bi := bf ae;obtain ⟨GJ,Ga,Sv⟩ := Kd.EM aM.out;subst Sv;have NA := AO aa;have NG := bf aa))
      refine bodyPost_ret (results_cell_row rfl _ _ af 29 #[.int .i64 az,.slice GJ aA.length Ga,.int .i64 (wrap64 (1 + (Int.tmod (wrap64 (Int.tdiv (wrap64 (a0)) 16)) 5))),.int .i64 (Int.tmod (wrap64 (Int.tdiv (wrap64 (a0)) 80)) 8)] (0,0) _ rfl (CY aa rfl) Tryz.underlying29 rfl (by kernel_rfl)) rfl ?_
      exact ⟨_,by rfl,by (with_reducible repeat (apply Kd.Be));exact Kd.BI (MG (g := af) (Kd.Hz (p := ⟨ag,1,none⟩) (Kd.Hz (p := ⟨ag,0,none⟩) (Kd.C8 (Kd.C8 aM.out ae.out (by decide)) aa.out (by decide)) (fun _ hk => hk.1.2) (.int .i64 az)) (fun _ hk => hk.1.2) (.slice GJ aA.length Ga)) (fun _ hk => hk.2)) (fun _ hk => trivial),bO HB⟩
     ·
      rw [if_neg c28] at H;have Ng := beq_eq_false_iff_ne.mpr c28;have Ov := bne_iff_ne.mpr c28
      by_cases Mg : (Int.tmod (wrap64 (a0)) 8) = 6
      ·
       rw [if_pos Mg] at H;have Qm := beq_iff_eq.mpr Mg
       have VT : ((Int.tmod (wrap64 (a0)) 8) != 6) = false := bne_eq_false_iff_eq.mpr Mg
       clear Mg;obtain ⟨⟨aC,aD⟩,aT,H⟩ := bE H
       try dsimp only at H
       simp only [Option.some.injEq,Prod.mk.injEq] at H;obtain ⟨rfl,rfl,rfl,rfl⟩ := H
       go_wp2_with (((with_reducible refine yz (f := 19) rfl ?_);refine gL (some 33) Tryz.func19 #[.int .i64 3] ?_;(with_reducible refine (yA.calls Yo 3 aC aD _ aT.out).mono ?_);rintro e w37 ⟨v474,rfl,ho0,hb⟩;refine ⟨_,rfl,?_⟩;have aN := yf.mk (Kd.FO ho0 (yF (bO HB)));replace aa := bB aa hb;replace ae := bB ae hb;replace HB := bS HB hb;clear hb;clear ho0;have a0v := ai.out;have a0M := ah.out;have a06 := bc2 ae;have a0j := bf ae;obtain ⟨RB,Sc,Wz⟩ := Kd.EM aN.out;subst Wz;have OC := AO aa;have OG := bf aa))
       refine bodyPost_ret (results_cell_row rfl _ _ af 29 #[.int .i64 aC,.slice RB aD.length Sc,.int .i64 (wrap64 (1 + (Int.tmod (wrap64 (Int.tdiv (wrap64 (a0)) 16)) 5))),.int .i64 (Int.tmod (wrap64 (Int.tdiv (wrap64 (a0)) 80)) 8)] (0,0) _ rfl (CY aa rfl) Tryz.underlying29 rfl (by kernel_rfl)) rfl ?_
       exact ⟨_,by rfl,by (with_reducible repeat (apply Kd.Be));exact Kd.BI (MG (g := af) (Kd.Hz (p := ⟨ag,1,none⟩) (Kd.Hz (p := ⟨ag,0,none⟩) (Kd.C8 (Kd.C8 aN.out ae.out (by decide)) aa.out (by decide)) (fun _ hk => hk.1.2) (.int .i64 aC)) (fun _ hk => hk.1.2) (.slice RB aD.length Sc)) (fun _ hk => hk.2)) (fun _ hk => trivial),bO HB⟩
      ·
       rw [if_neg Mg] at H;have Qm := beq_eq_false_iff_ne.mpr Mg;have VT := bne_iff_ne.mpr Mg
       by_cases Iz : (Int.tmod (wrap64 (a0)) 8) = 7
       ·
        rw [if_pos Iz] at H;have Kl := beq_iff_eq.mpr Iz
        have aV : ((Int.tmod (wrap64 (a0)) 8) != 7) = false := bne_eq_false_iff_eq.mpr Iz
        clear Iz;obtain ⟨⟨aG,aH⟩,A43,H⟩ := bE H
        try dsimp only at H
        simp only [Option.some.injEq,Prod.mk.injEq] at H;obtain ⟨rfl,rfl,rfl,rfl⟩ := H
        go_wp2_with (((with_reducible refine yz (f := 16) rfl ?_);refine gL (some 36) Tryz.func16 #[.int .i64 7,.int .i64 5] ?_;(with_reducible refine (yo.calls Yo 7 5 aG aH _ A43.out).mono ?_);rintro e w44 ⟨v478,rfl,ho0,hb⟩;refine ⟨_,rfl,?_⟩;have aQ := yf.mk (Kd.FO ho0 (yF (bO HB)));replace aa := bB aa hb;replace ae := bB ae hb;replace HB := bS HB hb;clear hb;clear ho0;have U4 := ai.out;have Uf := ah.out;have TL := bc2 ae;have TS := bf ae;obtain ⟨Vv,Wn,Sz⟩ := Kd.EM aQ.out;subst Sz;have OD := AO aa;have OH := bf aa))
        refine bodyPost_ret (results_cell_row rfl _ _ af 29 #[.int .i64 aG,.slice Vv aH.length Wn,.int .i64 (wrap64 (1 + (Int.tmod (wrap64 (Int.tdiv (wrap64 (a0)) 16)) 5))),.int .i64 (Int.tmod (wrap64 (Int.tdiv (wrap64 (a0)) 80)) 8)] (0,0) _ rfl (CY aa rfl) Tryz.underlying29 rfl (by kernel_rfl)) rfl ?_
        exact ⟨_,by rfl,by (with_reducible repeat (apply Kd.Be));exact Kd.BI (MG (g := af) (Kd.Hz (p := ⟨ag,1,none⟩) (Kd.Hz (p := ⟨ag,0,none⟩) (Kd.C8 (Kd.C8 aQ.out ae.out (by decide)) aa.out (by decide)) (fun _ hk => hk.1.2) (.int .i64 aG)) (fun _ hk => hk.1.2) (.slice Vv aH.length Wn)) (fun _ hk => hk.2)) (fun _ hk => trivial),bO HB⟩
       ·
        rw [if_neg Iz] at H;have Kl := beq_eq_false_iff_ne.mpr Iz;have aV := bne_iff_ne.mpr Iz;simp only [Option.some.injEq,Prod.mk.injEq] at H;obtain ⟨rfl,rfl,rfl,rfl⟩ := H;have X9 := ai.out;have Xm := ah.out;have a3K := bc2 ae;have a3Y := bf ae;have WQ := AO aa;have WV := bf aa
        go_wp2
        refine bodyPost_ret (results_cell_row rfl _ _ af 29 #[.int .i64 0,.slice none 0 0,.int .i64 (wrap64 (1 + (Int.tmod (wrap64 (Int.tdiv (wrap64 (a0)) 16)) 5))),.int .i64 (Int.tmod (wrap64 (Int.tdiv (wrap64 (a0)) 80)) 8)] (0,0) _ rfl (CY aa rfl) Tryz.underlying29 rfl (by kernel_rfl)) rfl ?_
        exact ⟨_,by rfl,by exact Kd.VE _ _ _ _ _,bO HB⟩
def zn.f (yj : Int) (yg : List (List Int)) (ym : Int) (yn : Int) : Option (Int) := if 0 < (yg.length : Int) then (some ((yX yg 0).length : Int)) else (none)
set_option maxHeartbeats 8000000 in
set_option maxRecDepth 100000 in
theorem zn.calls (yj : Int) (yK : Option Addr) (yE : Nat) (yg : List (List Int)) (ym : Int) (yn : Int) (r : Int) (w : World) (zS : Kd.C (Kd.slice 3 (Kd.int .i64)) w yK yg.length yg) (zT : yg.length ≤ yE) (h : zn.f yj yg ym yn = some r) :
  Calls Tryz.prog 14 #[.agg #[.int .i64 yj,.slice yK yg.length yE,.int .i64 ym,.int .i64 yn]] w fun e w' => e = .returned (.int .i64 r) ∧ Below w.heap.size w w' := by
 have ET := Tryz.underlying29;have zk := yf.mk zS;have zq := yf.mk zT;clear zS zT;have HB := yf.mk (Below.refl w.heap.size w)
 have H : (if 0 < (yg.length : Int) then (some ((yX yg 0).length : Int)) else (none)) = some r := h
 clear h
 by_cases c2 : 0 < (yg.length : Int)
 rotate_left
 ·
  rw [if_neg c2] at H;exact absurd H (by simp)
 rw [if_pos c2] at H;have Uz := decide_eq_true c2
 have a5K : decide (0 < yg.length) = true := decide_eq_true (by omega)
 clear c2;obtain rfl := Option.some.inj H
 go_enter Tryz.func14,Tryz.ntmps14
 go_wp2_with (((with_reducible refine yG (N := 1) rfl ?_);refine yD rfl (N := 1) rfl (cs := #[.int .i64 yj,.slice yK yg.length yE,.int .i64 ym,.int .i64 yn]) (t := 29) (by go_simp) ?_;intro aC hg w3 yI hb;have ag := yf.mk (yI);have av := bG (w := w) hg;have au := bG (w := w) hg;replace HB := bS HB hb;clear hb yI hg;have SG := AO ag;have SH := bf ag;have ae : 0 ≤ (0 : Int) := (by omega);have af : 0 < (yg.length : Int) := of_decide_eq_true ‹_›;obtain ⟨az,ak,aA,aj,aa,ai,ah⟩ := Ec zk.out 0 ae af;cases aj;have aD : (0 < yg.length) = True := eq_true (by omega);(try rw [show ((0 : Int)).toNat = 0 from rfl] at aa);(try rw [Addr.add_zero'] at aa);replace aa := cB HB aa;have ay := yf.mk ah;have ax := yf.mk ai;clear ah ai;replace ae := eq_true ae;replace af := eq_true af))
 go_ret
 exact ⟨by rfl,bO HB⟩
def zV.l0 : Nat → List Int → Int → Int → Option (Bool)
 | 0,_,_,_ => none
 | k + 1,x0,x1,x5 => if x5 < (x0.length : Int) then (if 0 ≤ x5 then (if (rd x0 x5) = x1 then (some true) else (zV.l0 k x0 x1 (wrap64 (x5 + 1)))) else (none)) else (some false)
def zV.f (k : Nat) (l0 : List Int) (a1 : Int) : Option (Bool) := zV.l0 k l0 a1 0
theorem zV.mono_l : ∀ k,(∀ y0 y1 y2,Bh (zV.l0 k y0 y1 y2) (zV.l0 (k + 1) y0 y1 y2))
 | 0 => fun _ _ _ r h => by simp [zV.l0] at h
 | k + 1 => by
  have Fz := zV.mono_l k
  ·
   intro y0 y1 y2
   unfold zV.l0
   repeat' first
   | exact Fz _ _ _
   | exact Bh.refl _
   | exact Bh.none _
   | refine Bh.ite ?_ ?_
   | refine Bh.bind ?_ (fun _ => ?_)
theorem zV.mono : ∀ a0 a1 k,Bh (zV.f k a0 a1) (zV.f (k + 1) a0 a1) := by
 intro a0 a1 k
 have Fz := zV.mono_l k
 unfold zV.f
 repeat' first
  | exact Fz _ _ _
  | exact Bh.refl _
  | exact Bh.none _
  | refine Bh.ite ?_ ?_
  | refine Bh.bind ?_ (fun _ => ?_)
set_option maxHeartbeats 8000000 in
set_option maxRecDepth 100000 in
theorem zV.calls (k : Nat) (A0 : Option Addr) (c0 : Nat) (l0 : List Int) (a1 : Int) (r : Bool) (w : World) (hr0 : Kd.C (Kd.int .i64) w A0 l0.length l0) (hc0 : l0.length ≤ c0) (h : zV.f k l0 a1 = some r) :
  Calls Tryz.prog 85 #[.slice A0 l0.length c0,.int .i64 a1] w fun e w' => e = .returned (.bool r) ∧ zZ w w' := by
 have MS := yf.mk hr0;have Yy := yf.mk hc0;clear hr0 hc0
 have H : (zV.l0 k l0 a1 0) = some r := h
 clear h;have H' := yf.mk H;clear H
 go_enter Tryz.func85,Tryz.ntmps85
 go_wp2
 go_loopg [5] k (fun kq v5 w' => ∃ (yP : Int),v5 = .int .i64 yP ∧ yf (zV.l0 kq l0 a1 yP = some r) ∧ yf (kq ≤ k) ∧ zZ w w')
 case atStart => exact ⟨(0),(by rfl),H',⟨Nat.le_refl _⟩,by repeat (exact zZ.refl _)⟩
 case round =>
 clear H';obtain ⟨yP,rfl,HA,Bn,⟨m1,rfl⟩⟩ := hrel
 cases gk with
 | zero => exact absurd HA.out (by simp [zV.l0])
 | succ k1 =>
 have H := HA.out;clear HA;simp only [zV.l0] at H
 by_cases c3 : yP < (l0.length : Int)
 rotate_left
 ·
  rw [if_neg c3] at H;have Gz := decide_eq_false c3;clear c3;obtain rfl := Option.some.inj H
  go_wp2
  go_ret
  exact ⟨by rfl,by repeat (first | exact zZ.refl _ | apply zZ.step)⟩
 rw [if_pos c3] at H;have Gz := decide_eq_true c3;clear c3
 by_cases c4 : 0 ≤ yP
 rotate_left
 ·
  rw [if_neg c4] at H;exact absurd H (by simp)
 rw [if_pos c4] at H;have ER := decide_eq_true c4;clear c4
 by_cases c5 : (rd l0 yP) = a1
 ·
  rw [if_pos c5] at H;have ES := beq_iff_eq.mpr c5
  have Mj : ((rd l0 yP) != a1) = false := bne_eq_false_iff_eq.mpr c5
  clear c5;obtain rfl := Option.some.inj H
  have aa : 0 ≤ (yP : Int) := of_decide_eq_true ‹_›
  have ae : yP < (l0.length : Int) := of_decide_eq_true ‹_›
  obtain ⟨ag,af,ah⟩ := Kd.BG MS.out yP aa ae;cases af;replace aa := eq_true aa;replace ae := eq_true ae
  go_wp2
  go_ret
  exact ⟨by rfl,by repeat (first | exact zZ.refl _ | apply zZ.step)⟩
 rw [if_neg c5] at H;have ES := beq_eq_false_iff_ne.mpr c5;have Mj := bne_iff_ne.mpr c5;have H' := yf.mk H;clear H
 have aa : 0 ≤ (yP : Int) := of_decide_eq_true ‹_›
 have ae : yP < (l0.length : Int) := of_decide_eq_true ‹_›
 obtain ⟨ag,af,ah⟩ := Kd.BG MS.out yP aa ae;cases af;replace aa := eq_true aa;replace ae := eq_true ae
 go_wp2
 go_roundg k1
 case measure => have := Bn.out;omega
 case rel => exact ⟨(wrap64 (yP + 1)),(by rfl),H',⟨by have := Bn.out;omega⟩,by repeat (first | exact zZ.refl _ | apply zZ.step)⟩
end Go.Proofs.YtjonnfmoocijlaaGreat.P
