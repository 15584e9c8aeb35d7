/- Texts of a claim, packed. -/
import Derived.Test.YtjonnfmoocijlaaGreatE18
set_option linter.all false
namespace Go.Proofs.YtjonnfmoocijlaaGreat.P
open Go.RowKit Go.Proofs.YtjonnfmoocijlaaGreatKW.PrintWords Go.Proofs.YtjonnfmoocijlaaGreatKW.PrintLast Go.Proofs.YtjonnfmoocijlaaGreatKW.PrintMore
attribute [local go_sem] zN zP Af Ag zz zA zO zQ
def Ap.f (k : Nat) (yj : Int) (yg : List (List Int)) (ym : Int) (yn : Int) : Option (Int) := (yO.f k yj yg ym yn).bind fun VP => (some VP.2.2.2.2.2.2.2.2.2.2.1)
set_option maxHeartbeats 8000000 in
set_option maxRecDepth 100000 in
theorem Ap.calls (k : Nat) (yj : Int) (yK : Option Addr) (yE : Nat) (yg : List (List Int)) (ym : Int) (yn : Int) (r : Int) (w : World) (zS : Kd.C (Kd.slice 3 (Kd.int .i64)) w yK yg.length yg) (zT : yg.length ≤ yE) (h : Ap.f k yj yg ym yn = some r) :
  Calls Tryz.prog 42 #[.agg #[.int .i64 yj,.slice yK yg.length yE,.int .i64 ym,.int .i64 yn]] w fun e w' => e = .returned (.int .i64 r) ∧ Below w.heap.size w w' := by
 have ET := Tryz.underlying29;have PI := Tryz.underlying94;have zk := yf.mk zS;have zq := yf.mk zT;clear zS zT;have HB := yf.mk (Below.refl w.heap.size w)
 have H : ((yO.f k yj yg ym yn).bind fun VP => (some VP.2.2.2.2.2.2.2.2.2.2.1)) = some r := h
 clear h;obtain ⟨⟨ay,az,aA,aC,aD,aG,aH,aI,aJ,aK,aM,aN⟩,A2,H⟩ := bE H
 try dsimp only at H
 obtain rfl := Option.some.inj H
 go_enter Tryz.func42,Tryz.ntmps42
 go_wp2_with (first | ((with_reducible refine yG (N := 1) rfl ?_);refine yD rfl (N := 1) rfl (cs := #[.int .i64 yj,.slice yK yg.length yE,.int .i64 ym,.int .i64 yn]) (t := 29) (by go_simp) ?_;intro ae hg w3 yI hb;have aa := yf.mk (yI);have af := bG (w := w) hg;have aT := bG (w := w) hg;replace HB := bS HB hb;clear hb yI hg;have SG := AO aa;have SH := bf aa) | ((with_reducible refine yz (f := 51) rfl ?_);refine gL (some 7) Tryz.func51 #[.agg #[.int .i64 yj,.slice yK yg.length yE,.int .i64 ym,.int .i64 yn]] ?_;(with_reducible refine (yO.calls k yj (fun k_ => k_ < w.heap.size) _ _ yg ym yn ay az aA aC aD aG aH aI aJ aK aM aN _ ?yB A2.out).mono ?_);(case yB => exact Kd.EA zq.out (Kd.Bq (Kd.IV (Kd.BA 3 (Kd.BV .i64)) zk.out) (bO HB)));rintro e w5 ⟨v351,v359,v362,rfl,ho0,ho1,ho2,hb⟩;refine ⟨_,rfl,?_⟩;have ag := yf.mk (Kd.Aw (Kd.yL (ok' := fun k_ => k_ ≠ ae) ho0 (fun k_ Cg => Or.elim Cg (fun hs_ => fun e_ => Nat.not_le.2 hs_ (by rw [e_];exact af.out)) (fun Cm => (Kd.Ac (g := ae) (o := .cells #[.int .i64 yj,.slice yK yg.length yE,.int .i64 ym,.int .i64 yn] 29 (0,0)) (kk aa) k_ Cm)))) (yF (bO HB)));have ah := yf.mk (Kd.Aw (Kd.yL (ok' := fun k_ => k_ ≠ ae) ho1 (fun k_ Cg => Or.elim Cg (fun hs_ => fun e_ => Nat.not_le.2 hs_ (by rw [e_];exact af.out)) (fun Cm => (Kd.Ac (g := ae) (o := .cells #[.int .i64 yj,.slice yK yg.length yE,.int .i64 ym,.int .i64 yn] 29 (0,0)) (kk aa) k_ Cm)))) (yF (bO HB)));have ai := yf.mk (Kd.Aw (Kd.yL (ok' := fun k_ => k_ ≠ ae) ho2 (fun k_ Cg => Or.elim Cg (fun hs_ => fun e_ => Nat.not_le.2 hs_ (by rw [e_];exact af.out)) (fun Cm => (Kd.Ac (g := ae) (o := .cells #[.int .i64 yj,.slice yK yg.length yE,.int .i64 ym,.int .i64 yn] 29 (0,0)) (kk aa) k_ Cm)))) (yF (bO HB)));replace aa := bB aa hb;replace HB := bS HB hb;clear hb;clear ho0;clear ho1;clear ho2) | ((with_reducible refine yG (N := 3) rfl ?_);refine yD rfl (N := 3) rfl (cs := #[.int .i64 0,.slice none 0 0,.int .i64 0,.int .i64 0,.int .i64 0,.int .i64 0,.int .i64 0,.slice none 0 0,.slice none 0 0,.int .i64 0,.int .i64 0]) (t := 94) (by go_simp) ?_;intro aj hg w6 yI hb;have ak := yf.mk (yI);have aV := bG (w := w) hg;have aU := bG (w := w) hg;have au := Cq aa hg;have av := Aq aa hg;replace ag := yf.mk (Kd.zw (Kd.zD (kV ag) aj (Nat.le_of_eq hg.symm)) hb);replace ah := yf.mk (Kd.zw (Kd.zD (kV ah) aj (Nat.le_of_eq hg.symm)) hb);replace ai := yf.mk (Kd.zw (Kd.zD (kV ai) aj (Nat.le_of_eq hg.symm)) hb);replace aa := bB aa hb;replace HB := bS HB hb;clear hb yI hg;have a2r := av.out;have a2A := au.out;have QD := E9 ak;have QJ := bf ak;obtain ⟨aQ,aW,ax⟩ := Kd.Ay ag.out;subst ax;obtain ⟨MK,Mm,Sm⟩ := Kd.Ay ah.out;subst Sm;obtain ⟨Uu,S9,Sn⟩ := Kd.Ay ai.out;subst Sn))
 go_ret
 exact ⟨by rfl,bO HB⟩
def CG.f (k : Nat) (yj : Int) (yg : List (List Int)) (ym : Int) (yn : Int) : Option (Int) := (yO.f k yj yg ym yn).bind fun Cc => ((AQ.f Cc.1 Cc.2.1 Cc.2.2.1 Cc.2.2.2.1 Cc.2.2.2.2.1 Cc.2.2.2.2.2.1 Cc.2.2.2.2.2.2.1 Cc.2.2.2.2.2.2.2.1 Cc.2.2.2.2.2.2.2.2.1 Cc.2.2.2.2.2.2.2.2.2.1 Cc.2.2.2.2.2.2.2.2.2.2.1).bind fun XP => (some XP))
set_option maxHeartbeats 8000000 in
set_option maxRecDepth 100000 in
theorem CG.calls (k : Nat) (yj : Int) (yK : Option Addr) (yE : Nat) (yg : List (List Int)) (ym : Int) (yn : Int) (r : Int) (w : World) (zS : Kd.C (Kd.slice 3 (Kd.int .i64)) w yK yg.length yg) (zT : yg.length ≤ yE) (h : CG.f k yj yg ym yn = some r) :
  Calls Tryz.prog 35 #[.agg #[.int .i64 yj,.slice yK yg.length yE,.int .i64 ym,.int .i64 yn]] w fun e w' => e = .returned (.int .i64 r) ∧ Below w.heap.size w w' := by
 have ET := Tryz.underlying29;have PI := Tryz.underlying94;have zk := yf.mk zS;have zq := yf.mk zT;clear zS zT;have HB := yf.mk (Below.refl w.heap.size w)
 have H : ((yO.f k yj yg ym yn).bind fun Cc => ((AQ.f Cc.1 Cc.2.1 Cc.2.2.1 Cc.2.2.2.1 Cc.2.2.2.2.1 Cc.2.2.2.2.2.1 Cc.2.2.2.2.2.2.1 Cc.2.2.2.2.2.2.2.1 Cc.2.2.2.2.2.2.2.2.1 Cc.2.2.2.2.2.2.2.2.2.1 Cc.2.2.2.2.2.2.2.2.2.2.1).bind fun XP => (some XP))) = some r := h
 clear h;obtain ⟨⟨Bp,Rc,ak,Ol,au,av,ax,ah,ai,ay,az,aD⟩,A2,H⟩ := bE H
 try dsimp only at H
 obtain ⟨XP,A3,H⟩ := bE H
 try dsimp only at H
 obtain rfl := Option.some.inj H
 go_enter Tryz.func35,Tryz.ntmps35
 go_wp2_with (first | ((with_reducible refine yG (N := 1) rfl ?_);refine yD rfl (N := 1) rfl (cs := #[.int .i64 yj,.slice yK yg.length yE,.int .i64 ym,.int .i64 yn]) (t := 29) (by go_simp) ?_;intro Db hg w4 yI hb;have Al := yf.mk (yI);have Q6 := bG (w := w) hg;have ZG := bG (w := w) hg;replace HB := bS HB hb;clear hb yI hg;have Z0 := AO Al;have Z6 := bf Al) | ((with_reducible refine yz (f := 51) rfl ?_);refine gL (some 7) Tryz.func51 #[.agg #[.int .i64 yj,.slice yK yg.length yE,.int .i64 ym,.int .i64 yn]] ?_;(with_reducible refine (yO.calls k yj (fun k_ => k_ < w.heap.size) _ _ yg ym yn Bp Rc ak Ol au av ax ah ai ay az aD _ ?yB A2.out).mono ?_);(case yB => exact Kd.EA zq.out (Kd.Bq (Kd.IV (Kd.BA 3 (Kd.BV .i64)) zk.out) (bO HB)));rintro e w6 ⟨v254,v262,v265,rfl,ho0,ho1,ho2,hb⟩;refine ⟨_,rfl,?_⟩;have ae := yf.mk (Kd.Aw (Kd.yL (ok' := fun k_ => k_ ≠ Db) ho0 (fun k_ Cg => Or.elim Cg (fun hs_ => fun e_ => Nat.not_le.2 hs_ (by rw [e_];exact Q6.out)) (fun Cm => (Kd.Ac (g := Db) (o := .cells #[.int .i64 yj,.slice yK yg.length yE,.int .i64 ym,.int .i64 yn] 29 (0,0)) (kk Al) k_ Cm)))) (yF (bO HB)));have af := yf.mk (Kd.Aw (Kd.yL (ok' := fun k_ => k_ ≠ Db) ho1 (fun k_ Cg => Or.elim Cg (fun hs_ => fun e_ => Nat.not_le.2 hs_ (by rw [e_];exact Q6.out)) (fun Cm => (Kd.Ac (g := Db) (o := .cells #[.int .i64 yj,.slice yK yg.length yE,.int .i64 ym,.int .i64 yn] 29 (0,0)) (kk Al) k_ Cm)))) (yF (bO HB)));have ag := yf.mk (Kd.Aw (Kd.yL (ok' := fun k_ => k_ ≠ Db) ho2 (fun k_ Cg => Or.elim Cg (fun hs_ => fun e_ => Nat.not_le.2 hs_ (by rw [e_];exact Q6.out)) (fun Cm => (Kd.Ac (g := Db) (o := .cells #[.int .i64 yj,.slice yK yg.length yE,.int .i64 ym,.int .i64 yn] 29 (0,0)) (kk Al) k_ Cm)))) (yF (bO HB)));replace Al := bB Al hb;replace HB := bS HB hb;clear hb;clear ho0;clear ho1;clear ho2) | ((with_reducible refine yG (N := 3) rfl ?_);refine yD rfl (N := 3) rfl (cs := #[.int .i64 0,.slice none 0 0,.int .i64 0,.int .i64 0,.int .i64 0,.int .i64 0,.int .i64 0,.slice none 0 0,.slice none 0 0,.int .i64 0,.int .i64 0]) (t := 94) (by go_simp) ?_;intro aa hg w7 yI hb;have aj := yf.mk (yI);have aH := bG (w := w) hg;have aG := bG (w := w) hg;have aA := Cq Al hg;have aC := Aq Al hg;replace ae := yf.mk (Kd.zw (Kd.zD (kV ae) aa (Nat.le_of_eq hg.symm)) hb);replace af := yf.mk (Kd.zw (Kd.zD (kV af) aa (Nat.le_of_eq hg.symm)) hb);replace ag := yf.mk (Kd.zw (Kd.zD (kV ag) aa (Nat.le_of_eq hg.symm)) hb);replace Al := bB Al hb;replace HB := bS HB hb;clear hb yI hg;have a2s := aC.out;have a2B := aA.out;have PD := E9 aj;have PE := bf aj;obtain ⟨MK,Mm,Sm⟩ := Kd.Ay ae.out;subst Sm;obtain ⟨Uu,S9,Sn⟩ := Kd.Ay af.out;subst Sn;obtain ⟨Uv,Sb,Wt⟩ := Kd.Ay ag.out;subst Wt) | ((with_reducible refine yz (f := 62) rfl ?_);refine gL (some 11) Tryz.func62 #[.agg #[.int .i64 Bp,.slice MK Rc.length Mm,.int .i64 ak,.int .i64 Ol,.int .i64 au,.int .i64 av,.int .i64 ax,.slice Uu ah.length S9,.slice Uv ai.length Sb,.int .i64 ay,.int .i64 az]] ?_;(with_reducible refine (AQ.calls Bp _ _ Rc ak Ol au av ax _ _ ah _ _ ai ay az XP _ ?yB ?yC ?zI ?zJ ?En ?Eo A3.out).mono ?_);(case yB => refine (Kd.zH (e := 37) (base := w.heap.size) (ok := fun k_ => (k_ ≠ Db ∧ k_ ≠ aa)) (n := Rc.length) (c := Mm) ?_).2.2;exact (by (with_reducible repeat (apply Kd.zu));exact (Kd.yL (EB (g := aa) (Kd.yL ae.out (fun k_ hk => (⟨hk,hk.2⟩ : _ ∧ k_ ≠ aa))) (fun _ hk => hk.2)) (fun _ h_ => h_.1))));(case yC => exact (Kd.zH ae.out).2.1);(case zI => refine (Kd.zH (e := 37) (base := w.heap.size) (ok := fun k_ => (k_ ≠ Db ∧ k_ ≠ aa)) (n := ah.length) (c := S9) ?_).2.2;exact (by (with_reducible repeat (apply Kd.zu));exact (Kd.yL (EB (g := aa) (Kd.yL af.out (fun k_ hk => (⟨hk,hk.2⟩ : _ ∧ k_ ≠ aa))) (fun _ hk => hk.2)) (fun _ h_ => h_.1))));(case zJ => exact (Kd.zH af.out).2.1);(case En => refine (Kd.zH (e := 37) (base := w.heap.size) (ok := fun k_ => (k_ ≠ Db ∧ k_ ≠ aa)) (n := ai.length) (c := Sb) ?_).2.2;exact (by (with_reducible repeat (apply Kd.zu));exact (Kd.yL (EB (g := aa) (Kd.yL ag.out (fun k_ hk => (⟨hk,hk.2⟩ : _ ∧ k_ ≠ aa))) (fun _ hk => hk.2)) (fun _ h_ => h_.1))));(case Eo => exact (Kd.zH ag.out).2.1);rintro e w13 ⟨rfl,hb⟩;refine ⟨_,rfl,?_⟩;replace ae := yf.mk (Kd.zw (by (with_reducible repeat (apply Kd.zu));exact (Kd.yL (EB (g := aa) (Kd.yL ae.out (fun k_ hk => (⟨hk,hk.2⟩ : _ ∧ k_ ≠ aa))) (fun _ hk => hk.2)) (fun _ h_ => h_.1))) hb);replace af := yf.mk (Kd.zw (by (with_reducible repeat (apply Kd.zu));exact (Kd.yL (EB (g := aa) (Kd.yL af.out (fun k_ hk => (⟨hk,hk.2⟩ : _ ∧ k_ ≠ aa))) (fun _ hk => hk.2)) (fun _ h_ => h_.1))) hb);replace ag := yf.mk (Kd.zw (by (with_reducible repeat (apply Kd.zu));exact (Kd.yL (EB (g := aa) (Kd.yL ag.out (fun k_ hk => (⟨hk,hk.2⟩ : _ ∧ k_ ≠ aa))) (fun _ hk => hk.2)) (fun _ h_ => h_.1))) hb);replace Al := yf.mk (yZ (g := Db) (o := .cells #[.int .i64 yj,.slice yK yg.length yE,.int .i64 ym,.int .i64 yn] 29 (0,0)) (CY Al rfl) hb);replace aj := yf.mk (yZ (g := aa) (o := .cells #[.int .i64 Bp,.slice MK Rc.length Mm,.int .i64 ak,.int .i64 Ol,.int .i64 au,.int .i64 av,.int .i64 ax,.slice Uu ah.length S9,.slice Uv ai.length Sb,.int .i64 ay,.int .i64 az] 94 (0,0)) (CY aj rfl) hb);replace HB := bS HB hb;clear hb))
 go_ret
 exact ⟨by rfl,bO HB⟩
end Go.Proofs.YtjonnfmoocijlaaGreat.P
namespace Go.Proofs.YtjonnfmoocijlaaGreat.P
open Go.RowKit Go.Proofs.YtjonnfmoocijlaaGreatKW.PrintWords
structure Lo (d : Int) (L : List (List Int)) (w n r : Nat) (T S : Int) : Prop where
 ok : LB d L w n r
 t1 : 1 ≤ T ∧ T ≤ 5
 s1 : 0 ≤ S ∧ S ≤ 7
section
variable {d : Int} {L : List (List Int)} {w n r : Nat} {T S : Int} (H : Lo d L w n r T S)
include H
theorem Lo.tn : 0 ≤ T * n ∧ T * n ≤ 105 := by
 have h1 := H.ok.n1
 have h2 := H.t1
 refine ⟨Int.mul_nonneg (by omega) (by omega),?_⟩
 calc T * n ≤ 5 * n := Int.mul_le_mul_of_nonneg_right h2.2 (by omega)
  _ ≤ 105 := by omega
theorem Lo.tr : 1 ≤ T * r ∧ T * r ≤ 75 := by
 have h1 := H.ok.r1
 have h2 := H.t1
 refine ⟨?_,?_⟩
 · calc (1 : Int) ≤ 1 * r := by omega
  _ ≤ T * r := Int.mul_le_mul_of_nonneg_right h2.1 (by omega)
 · calc T * r ≤ 5 * r := Int.mul_le_mul_of_nonneg_right h2.2 (by omega)
  _ ≤ 75 := by omega
theorem Lo.row0 : (yX L 0).length = w ∧ 0 < L.length := by
 have h1 := H.ok.n1
 have h3 : 0 < L.length := by have := H.ok.len;omega
 refine ⟨?_,h3⟩
 show (L.getD 0 []).length = w
 rw [getD_at _ _ _ h3]
 exact H.ok.width _ (List.getElem_mem h3)
theorem Lo.groups : Ao.f d L T S = some (T * n) := by
 have := H.tn
 unfold Ao.f
 rw [H.ok.len,ww (by omega) (by omega)]
theorem Lo.Gg : zn.f d L T S = some (w : Int) := by
 unfold zn.f
 rw [if_pos (by have := H.row0.2;omega),H.row0.1]
theorem Lo.homes : AY.f d L T S = some (T * r) := by
 have := H.tr
 obtain ⟨lam,h⟩ := H.ok.checkR
 unfold AY.f
 rw [h]
 simp only [Option.bind_some]
 rw [ww (by omega) (by omega)]
theorem Lo.blocks : Ca.f d L T S = some (T * r + S) := by
 have := H.tr
 have := H.s1
 unfold Ca.f
 rw [H.homes]
 simp only [Option.bind_some]
 rw [ww (by omega) (by omega)]
theorem Lo.is (g i : Int) : BD.f d L T S g i = some (decide (0 ≤ g ∧ g < T * n ∧ 0 ≤ i ∧ i < (w : Int))) := by
  unfold BD.f
  rw [H.groups,H.Gg]
  simp only [Option.bind_some]
  by_cases h1 : g ≥ 0
  · rw [if_pos h1]
    by_cases h2 : g < T * n
    · rw [if_pos h2]
      by_cases h3 : i ≥ 0
      · rw [if_pos h3]
        congr 1
        rw [decide_eq_decide]
        omega
      · rw [if_neg h3,decide_eq_false (by omega)]
    · rw [if_neg h2,decide_eq_false (by omega)]
  · rw [if_neg h1,decide_eq_false (by omega)]
theorem Lo.valid : Ev (fun k => zU.f k d L T S) true := by
 have h1 := H.tr
 have h2 := H.tn
 have h3 := H.s1
 have h4 := H.t1
 have h5 := H.ok.w1
 obtain ⟨lam,h⟩ := H.ok.checkR
 unfold zU.f
 refine GZ h (AA rfl (BF (by omega) (BF (by omega) (BF (by omega) ?_))))
 rw [decide_eq_false (show ¬ S > 65536 by omega)]
 refine evs (fun k => by rw [zU.j0]) (BF (by decide) (AA (by have := H.row0.2;omega) ?_))
 rw [H.row0.1,H.ok.len]
 have e1 : wrap64 (T * (n : Int)) = T * n := ww (by omega) (by omega)
 have e2 : wrap64 ((w : Int) - 3) = (w : Int) - 3 := ww (by omega) (by omega)
 have e5 : 0 ≤ (T * n) * ((w : Int) - 3) ∧ (T * n) * ((w : Int) - 3) ≤ 210 := by
  refine ⟨Int.mul_nonneg h2.1 (by omega),?_⟩
  calc (T * n) * ((w : Int) - 3) ≤ (T * n) * 2 := Int.mul_le_mul_of_nonneg_left (by omega) h2.1
   _ ≤ 210 := by omega
 have e3 : wrap64 ((T * (n : Int)) * ((w : Int) - 3)) = (T * n) * ((w : Int) - 3) := ww (by omega) (by omega)
 have e4 : wrap64 (wrap64 (T * (r : Int)) + S) = T * r + S := by rw [ww (x := T * (r : Int)) (by omega) (by omega),ww (by omega) (by omega)]
 rw [e1,e2,e3]
 refine AA (by omega) (AA (by omega) (AA (by omega) (AA (by omega) (Hw ?_))))
 rw [e4,decide_eq_true (by omega)]
theorem Lo.inG {g : Int} (h0 : 0 ≤ g) (h1 : g < T * n) : g.toNat < 5 * n := by
 have h2 := H.t1
 have h3 : T * (n : Int) ≤ 5 * n := Int.mul_le_mul_of_nonneg_right h2.2 (by omega)
 omega
theorem Lo.a4V (g i : Int) (h0 : 0 ≤ g) (h1 : g < T * n) (h2 : 0 ≤ i) (h3 : i < (w : Int)) : Ev (fun k => yU.f k d L T S g i) (Ed L w n r g.toNat i.toNat) := by
 have h4 := List.all_eq_true.1 (List.all_eq_true.1 (H.ok.home T S) g.toNat (List.mem_range.2 (H.inG h0 h1))) i.toNat (List.mem_range.2 (by omega))
 have h5 := of_decide_eq_true h4
 rw [Int.toNat_of_nonneg h0,Int.toNat_of_nonneg h2] at h5
 exact Qt (fun k => yU.mono _ _ _ _ _ _ k) h5
theorem Lo.measure : Ev (fun k => yO.f k d L T S) (d,L,T,S,(w : Int),(r : Int),(n : Int),(GH d.toNat L).2,(GH d.toNat L).1,T * r,T * r + S,true) := by
 have h1 := H.tr
 have h2 := H.tn
 have h3 := H.s1
 have h4 := H.t1
 have h5 := H.ok.w1
 have h6 := H.ok.d1
 obtain ⟨lam,h⟩ := H.ok.check
 have hm : MOk d L := ⟨by have := H.ok.len;have := H.ok.n1;omega,fun g hg => ⟨by have := H.ok.width g hg;omega,H.ok.rng g hg⟩⟩
 have e1 : wrap64 (T * (n : Int)) = T * n := ww (by omega) (by omega)
 have e2 : wrap64 ((w : Int) - 3) = (w : Int) - 3 := ww (by omega) (by omega)
 have e5 : 0 ≤ (T * n) * ((w : Int) - 3) ∧ (T * n) * ((w : Int) - 3) ≤ 210 := by
  refine ⟨Int.mul_nonneg h2.1 (by omega),?_⟩
  calc (T * n) * ((w : Int) - 3) ≤ (T * n) * 2 := Int.mul_le_mul_of_nonneg_left (by omega) h2.1
   _ ≤ 210 := by omega
 have e3 : wrap64 ((T * (n : Int)) * ((w : Int) - 3)) = (T * n) * ((w : Int) - 3) := ww (by omega) (by omega)
 have e4 : wrap64 (T * (r : Int)) = T * r := ww (by omega) (by omega)
 have e6 : wrap64 (T * r + S) = T * r + S := ww (by omega) (by omega)
 unfold yO.f
 refine GZ h (AA rfl (AA (by have := H.row0.2;omega) ?_))
 rw [H.row0.1,H.ok.len]
 refine BF (by omega) (BF (by omega) (BF (by omega) (BF (by omega) (BF (by omega) ?_))))
 rw [decide_eq_false (show ¬ S > 65536 by omega)]
 refine evs (fun k => by rw [yO.j0]) (BF (by decide) ?_)
 simp only [e1,e4,e6]
 refine BF (by omega) (GZ (a := (w : Int) - 3) (by simp only [D9.f,e2]) ?_)
 rw [e3]
 refine BF (by omega) ?_
 rw [decide_eq_false (show ¬ T * r + S > 65536 by omega)]
 refine evs (fun k => by rw [yO.j1]) (BF (by decide) (AA (by omega) (AA (by omega) (a6b ?_))))
 unfold layout_measure_fin
 rw [if_pos hm]
theorem Lo.Zj : Ev (fun k => CG.f k d L T S) (T * n) := by
 have h2 := H.tn
 unfold CG.f
 refine Ep H.measure (GZ (a := T * n) ?_ (Ev.now _))
 simp only [AQ.f]
 rw [ww (by omega) (by omega)]
theorem Lo.PN : Ev (fun k => Ap.f k d L T S) (T * r + S) := by
 unfold Ap.f
 exact Ep H.measure (Ev.now _)
theorem Lo.Un (g i : Int) : Ev (fun k => Ct.f k d L T S g i) (if 0 ≤ g ∧ g < T * n ∧ 0 ≤ i ∧ i < (w : Int) then ((Ed L w n r g.toNat i.toNat).1,(Ed L w n r g.toNat i.toNat).2,0) else (0,0,2)) := by
  have h2 := H.tn
  unfold Ct.f
  refine Ep H.measure (AA rfl ?_)
  have e1 : wrap64 (T * (n : Int)) = T * n := ww (by omega) (by omega)
  have hh : Cu.f d L T S (w : Int) (r : Int) (n : Int) (GH d.toNat L).2 (GH d.toNat L).1 (T * r) (T * r + S) g i = some (decide (0 ≤ g ∧ g < T * n ∧ 0 ≤ i ∧ i < (w : Int))) := by
    unfold Cu.f AQ.f
    rw [e1]
    simp only [Option.bind_some]
    by_cases h1 : g ≥ 0
    · rw [if_pos h1]
      by_cases h2 : g < T * n
      · rw [if_pos h2]
        by_cases h3 : i ≥ 0
        · rw [if_pos h3]
          congr 1
          rw [decide_eq_decide]
          omega
        · rw [if_neg h3,decide_eq_false (by omega)]
      · rw [if_neg h2,decide_eq_false (by omega)]
    · rw [if_neg h1,decide_eq_false (by omega)]
  refine GZ hh ?_
  by_cases hc : 0 ≤ g ∧ g < T * n ∧ 0 ≤ i ∧ i < (w : Int)
  · rw [decide_eq_true hc,if_pos hc]
    refine AA rfl ?_
    have h4 := List.all_eq_true.1 (List.all_eq_true.1 (H.ok.homeN T S (T * r) (T * r + S)) g.toNat (List.mem_range.2 (H.inG hc.1 hc.2.1))) i.toNat (List.mem_range.2 (by omega))
    have h5 := of_decide_eq_true h4
    rw [Int.toNat_of_nonneg hc.1,Int.toNat_of_nonneg hc.2.2.1] at h5
    exact GZ h5 (Ev.now _)
  · rw [decide_eq_false hc,if_neg hc]
    exact BF (by decide) (Ev.now _)
end
end Go.Proofs.YtjonnfmoocijlaaGreat.P
namespace Go.Proofs.YtjonnfmoocijlaaGreat.P
open Go.RowKit Go.Proofs.YtjonnfmoocijlaaGreatKW.PrintWords Go.Proofs.YtjonnfmoocijlaaGreatKW.PrintLast Go.Proofs.YtjonnfmoocijlaaGreatKW.PrintMore
attribute [local go_sem] zN zP Af Ag zz zA zO zQ
def cmp_isNaN_int.f (a0 : Int) : Option (Bool) := some (a0 != a0)
set_option maxHeartbeats 8000000 in
set_option maxRecDepth 100000 in
theorem cmp_isNaN_int.calls (a0 : Int) (r : Bool) (w : World) (h : cmp_isNaN_int.f a0 = some r) :
  Calls Tryz.prog 56 #[.int .i64 a0] w fun e w' => e = .returned (.bool r) ∧ zZ w w' := by
 have H : (some (a0 != a0)) = some r := h
 clear h;obtain rfl := Option.some.inj H
 go_enter Tryz.func56,Tryz.ntmps56
 go_wp2
 go_ret
 exact ⟨by rfl,by repeat (exact zZ.refl _)⟩
def cmp_Compare_int.f (a0 : Int) (a1 : Int) : Option (Int) := (cmp_isNaN_int.f a0).bind fun t154 => ((cmp_isNaN_int.f a1).bind fun Rb => (if t154 = true then (if Rb = true then (some 0) else (some (-1))) else (if Rb = true then (some 1) else (if a0 < a1 then (some (-1)) else (if a0 > a1 then (some 1) else (some 0))))))
set_option maxHeartbeats 8000000 in
set_option maxRecDepth 100000 in
theorem cmp_Compare_int.calls (a0 : Int) (a1 : Int) (r : Int) (w : World) (h : cmp_Compare_int.f a0 a1 = some r) :
  Calls Tryz.prog 28 #[.int .i64 a0,.int .i64 a1] w fun e w' => e = .returned (.int .i64 r) ∧ zZ w w' := by
 have H : ((cmp_isNaN_int.f a0).bind fun t154 => ((cmp_isNaN_int.f a1).bind fun Rb => (if t154 = true then (if Rb = true then (some 0) else (some (-1))) else (if Rb = true then (some 1) else (if a0 < a1 then (some (-1)) else (if a0 > a1 then (some 1) else (some 0))))))) = some r := h
 clear h;obtain ⟨t154,A3,H⟩ := bE H
 try dsimp only at H
 obtain ⟨Rb,A4,H⟩ := bE H
 try dsimp only at H
 by_cases c5 : t154 = true
 ·
  subst c5;rw [if_pos rfl] at H
  by_cases c6 : Rb = true
  ·
   subst c6;rw [if_pos rfl] at H;obtain rfl := Option.some.inj H
   go_enter Tryz.func28,Tryz.ntmps28
   go_wp2_with (first | ((with_reducible refine yz (f := 56) rfl ?_);refine gL (some 8) Tryz.func56 #[.int .i64 a0] ?_;(with_reducible refine (cmp_isNaN_int.calls a0 true _ A3.out).mono ?_);rintro e w' ⟨rfl,⟨nd,rfl⟩⟩;refine ⟨_,rfl,?_⟩) | ((with_reducible refine yz (f := 56) rfl ?_);refine gL (some 10) Tryz.func56 #[.int .i64 a1] ?_;(with_reducible refine (cmp_isNaN_int.calls a1 true _ A4.out).mono ?_);rintro e w' ⟨rfl,⟨nd,rfl⟩⟩;refine ⟨_,rfl,?_⟩))
   go_ret
   exact ⟨by rfl,by repeat (first | exact zZ.refl _ | apply zZ.step)⟩
  replace c6 := Bool.eq_false_iff.mpr c6;subst c6
  rw [if_neg (show ¬ (false = true) by decide)] at H
  obtain rfl := Option.some.inj H
  go_enter Tryz.func28,Tryz.ntmps28
  go_wp2_with (first | ((with_reducible refine yz (f := 56) rfl ?_);refine gL (some 8) Tryz.func56 #[.int .i64 a0] ?_;(with_reducible refine (cmp_isNaN_int.calls a0 true _ A3.out).mono ?_);rintro e w' ⟨rfl,⟨nd,rfl⟩⟩;refine ⟨_,rfl,?_⟩) | ((with_reducible refine yz (f := 56) rfl ?_);refine gL (some 10) Tryz.func56 #[.int .i64 a1] ?_;(with_reducible refine (cmp_isNaN_int.calls a1 false _ A4.out).mono ?_);rintro e w' ⟨rfl,⟨nd,rfl⟩⟩;refine ⟨_,rfl,?_⟩))
  go_ret
  exact ⟨by rfl,by repeat (first | exact zZ.refl _ | apply zZ.step)⟩
 replace c5 := Bool.eq_false_iff.mpr c5;subst c5
 rw [if_neg (show ¬ (false = true) by decide)] at H
 by_cases c7 : Rb = true
 ·
  subst c7;rw [if_pos rfl] at H;obtain rfl := Option.some.inj H
  go_enter Tryz.func28,Tryz.ntmps28
  go_wp2_with (first | ((with_reducible refine yz (f := 56) rfl ?_);refine gL (some 8) Tryz.func56 #[.int .i64 a0] ?_;(with_reducible refine (cmp_isNaN_int.calls a0 false _ A3.out).mono ?_);rintro e w' ⟨rfl,⟨nd,rfl⟩⟩;refine ⟨_,rfl,?_⟩) | ((with_reducible refine yz (f := 56) rfl ?_);refine gL (some 10) Tryz.func56 #[.int .i64 a1] ?_;(with_reducible refine (cmp_isNaN_int.calls a1 true _ A4.out).mono ?_);rintro e w' ⟨rfl,⟨nd,rfl⟩⟩;refine ⟨_,rfl,?_⟩))
  go_ret
  exact ⟨by rfl,by repeat (first | exact zZ.refl _ | apply zZ.step)⟩
 replace c7 := Bool.eq_false_iff.mpr c7;subst c7
 rw [if_neg (show ¬ (false = true) by decide)] at H
 by_cases c8 : a0 < a1
 ·
  rw [if_pos c8] at H;have GN := decide_eq_true c8;clear c8;obtain rfl := Option.some.inj H
  go_enter Tryz.func28,Tryz.ntmps28
  go_wp2_with (first | ((with_reducible refine yz (f := 56) rfl ?_);refine gL (some 8) Tryz.func56 #[.int .i64 a0] ?_;(with_reducible refine (cmp_isNaN_int.calls a0 false _ A3.out).mono ?_);rintro e w' ⟨rfl,⟨nd,rfl⟩⟩;refine ⟨_,rfl,?_⟩) | ((with_reducible refine yz (f := 56) rfl ?_);refine gL (some 10) Tryz.func56 #[.int .i64 a1] ?_;(with_reducible refine (cmp_isNaN_int.calls a1 false _ A4.out).mono ?_);rintro e w' ⟨rfl,⟨nd,rfl⟩⟩;refine ⟨_,rfl,?_⟩))
  go_ret
  exact ⟨by rfl,by repeat (first | exact zZ.refl _ | apply zZ.step)⟩
 rw [if_neg c8] at H;have GN := decide_eq_false c8;clear c8
 by_cases c9 : a0 > a1
 ·
  rw [if_pos c9] at H;have I5 := decide_eq_true c9;clear c9;obtain rfl := Option.some.inj H
  go_enter Tryz.func28,Tryz.ntmps28
  go_wp2_with (first | ((with_reducible refine yz (f := 56) rfl ?_);refine gL (some 8) Tryz.func56 #[.int .i64 a0] ?_;(with_reducible refine (cmp_isNaN_int.calls a0 false _ A3.out).mono ?_);rintro e w' ⟨rfl,⟨nd,rfl⟩⟩;refine ⟨_,rfl,?_⟩) | ((with_reducible refine yz (f := 56) rfl ?_);refine gL (some 10) Tryz.func56 #[.int .i64 a1] ?_;(with_reducible refine (cmp_isNaN_int.calls a1 false _ A4.out).mono ?_);rintro e w' ⟨rfl,⟨nd,rfl⟩⟩;refine ⟨_,rfl,?_⟩))
  go_ret
  exact ⟨by rfl,by repeat (first | exact zZ.refl _ | apply zZ.step)⟩
 rw [if_neg c9] at H;have I5 := decide_eq_false c9;clear c9;obtain rfl := Option.some.inj H
 go_enter Tryz.func28,Tryz.ntmps28
 go_wp2_with (first | ((with_reducible refine yz (f := 56) rfl ?_);refine gL (some 8) Tryz.func56 #[.int .i64 a0] ?_;(with_reducible refine (cmp_isNaN_int.calls a0 false _ A3.out).mono ?_);rintro e w' ⟨rfl,⟨nd,rfl⟩⟩;refine ⟨_,rfl,?_⟩) | ((with_reducible refine yz (f := 56) rfl ?_);refine gL (some 10) Tryz.func56 #[.int .i64 a1] ?_;(with_reducible refine (cmp_isNaN_int.calls a1 false _ A4.out).mono ?_);rintro e w' ⟨rfl,⟨nd,rfl⟩⟩;refine ⟨_,rfl,?_⟩))
 go_ret
 exact ⟨by rfl,by repeat (first | exact zZ.refl _ | apply zZ.step)⟩
def Ch.l0 : Nat → Int → List Int → Int → Int → Option (Int)
 | 0,_,_,_,_ => none
 | k + 1,x3,x6,x7,x8 => if x8 < x7 then (if 0 ≤ x8 then (if x8 < (x6.length : Int) then (if (rd x6 x8) = x3 then (Ch.l0 k x3 x6 x7 (wrap64 (x8 + 1))) else (some (rd x6 x8))) else (none)) else (none)) else (some x3)
def Ch.f (k : Nat) (l0 : List Int) : Option (Int) := Ch.l0 k 0 l0 (l0.length : Int) 0
set_option maxHeartbeats 8000000 in
set_option maxRecDepth 100000 in
theorem Ch.calls (k : Nat) (A0 : Option Addr) (c0 : Nat) (l0 : List Int) (r : Int) (w : World) (hr0 : Kd.C (Kd.int .i64) w A0 l0.length l0) (hc0 : l0.length ≤ c0) (h : Ch.f k l0 = some r) :
  Calls Tryz.prog 53 #[.slice A0 l0.length c0] w fun e w' => e = .returned (.int .i64 r) ∧ zZ w w' := by
 have MS := yf.mk hr0;have Yy := yf.mk hc0;clear hr0 hc0
 have H : (Ch.l0 k 0 l0 (l0.length : Int) 0) = some r := h
 clear h;have H' := yf.mk H;clear H
 go_enter Tryz.func53,Tryz.ntmps53
 go_wp2
 go_loopg [8] k (fun kq v8 w' => ∃ (BX : Int),v8 = .int .i64 BX ∧ yf (Ch.l0 kq 0 l0 (l0.length : Int) BX = some r) ∧ yf (kq ≤ k) ∧ zZ w w')
 case atStart => exact ⟨(0),(by rfl),H',⟨Nat.le_refl _⟩,by repeat (exact zZ.refl _)⟩
 case round =>
 clear H';obtain ⟨BX,rfl,HA,Bn,⟨m1,rfl⟩⟩ := hrel
 cases gk with
 | zero => exact absurd HA.out (by simp [Ch.l0])
 | succ k1 =>
 have H := HA.out;clear HA;simp only [Ch.l0] at H
 by_cases c2 : BX < (l0.length : Int)
 rotate_left
 ·
  rw [if_neg c2] at H;have Uz := decide_eq_false c2;clear c2;obtain rfl := Option.some.inj H
  go_wp2
  go_ret
  exact ⟨by rfl,by repeat (first | exact zZ.refl _ | apply zZ.step)⟩
 rw [if_pos c2] at H;have Uz := decide_eq_true c2;clear c2
 by_cases c3 : 0 ≤ BX
 rotate_left
 ·
  rw [if_neg c3] at H;exact absurd H (by simp)
 rw [if_pos c3] at H;have Gz := decide_eq_true c3;clear c3
 by_cases c4 : BX < (l0.length : Int)
 rotate_left
 ·
  rw [if_neg c4] at H;exact absurd H (by simp)
 rw [if_pos c4] at H;have ER := decide_eq_true c4;clear c4
 by_cases c5 : (rd l0 BX) = 0
 ·
  rw [if_pos c5] at H;have ES := beq_iff_eq.mpr c5
  have Mj : ((rd l0 BX) != 0) = false := bne_eq_false_iff_eq.mpr c5
  clear c5;have H' := yf.mk H;clear H
  have aa : 0 ≤ (BX : Int) := of_decide_eq_true ‹_›
  have ae : BX < (l0.length : Int) := of_decide_eq_true ‹_›
  obtain ⟨ag,af,ah⟩ := Kd.BG MS.out BX aa ae;cases af;replace aa := eq_true aa;replace ae := eq_true ae
  go_wp2
  go_roundg k1
  case measure => have := Bn.out;omega
  case rel => exact ⟨(wrap64 (BX + 1)),(by rfl),H',⟨by have := Bn.out;omega⟩,by repeat (first | exact zZ.refl _ | apply zZ.step)⟩
 rw [if_neg c5] at H;have ES := beq_eq_false_iff_ne.mpr c5;have Mj := bne_iff_ne.mpr c5;obtain rfl := Option.some.inj H
 have aa : 0 ≤ (BX : Int) := of_decide_eq_true ‹_›
 have ae : BX < (l0.length : Int) := of_decide_eq_true ‹_›
 obtain ⟨ag,af,ah⟩ := Kd.BG MS.out BX aa ae;cases af;replace aa := eq_true aa;replace ae := eq_true ae
 go_wp2
 go_ret
 exact ⟨by rfl,by repeat (first | exact zZ.refl _ | apply zZ.step)⟩
end Go.Proofs.YtjonnfmoocijlaaGreat.P
